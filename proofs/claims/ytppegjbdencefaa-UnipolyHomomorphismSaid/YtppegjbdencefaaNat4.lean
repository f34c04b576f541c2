/-
  Walks of package natural: the product.
-/
import Derived.Test.YtppegjbdencefaaNat3
import Derived.Test.YtppegjbdencefaaNatMath2
namespace Go.Proofs.Ytppegjbdencefaa
open Go.RowKit Go.Gx
theorem natural_addInto {w : World} {pz oz nz cz : Nat} {Uz Zz : List Nat} {Ax : Option Addr} {nx cx : Nat} {dx : List Nat} (Bz : Blk w pz 62 ((Uz ++ Zz).map u32)) (luz : Uz.length = oz) (lzz : Zz.length = nz) (ltz : ∀ d ∈ Uz ++ Zz, d < BS) (lcz : cz ≤ 9223372036854775807) (lkz : nz ≤ cz) (hx : NatR w (fun b => b ≠ pz) Ax nx cx dx) (hxz : nx ≤ nz) : Calls Try.prog 125 #[(.slice (some ⟨pz, oz, none⟩) nz cz), (.slice Ax nx cx)] w (Ret fun v w' => ∃ (Zr : List Nat) (cr : Nat), v = (.tuple #[]) ∧ Frm (fun b => b = pz) w w' ∧ (Blk w' pz 62 ((Uz ++ Zr).map u32)) ∧ (Zr.length = nz) ∧ (∀ d ∈ Uz ++ Zr, d < BS) ∧ (val Zr + BS ^ nz * cr = val Zz + val dx)) := by
  have lx := hx.len; have kx := hx.cap; have mx := hx.max
  refine enter Try.func125 rfl Try.ntmps125 rfl ?_
  refine wp_seq_k fun K1 hK1 => ?_
  refine wp_region_lit ?_
  refine sEv (v := (.int .u32 (0))) (rfl) rfl rfl ?_
  refine sDone ?_
  refine xN (hK1 _ _ ?_)
  refine wp_seq_k fun K2 hK2 => ?_
  refine wp_seq_k fun K3 hK3 => ?_
  refine wp_region_lit ?_
  refine sEv (v := (.slice Ax nx cx)) (rfl) rfl rfl ?_
  refine sEv (v := (.int .i64 ((nx : Int)))) (evLen Try.underlying44 rfl) rfl rfl ?_
  refine sEv (v := (.int .i64 (0))) (rfl) rfl rfl ?_
  refine sDone ?_
  refine xN (hK3 _ _ ?_)
  refine wp_block ?_
  refine lLoop (fun m e w_ => ∃ (k : Nat) (P : List Nat) (cy : Nat), m = nx - k ∧ e 0 = (.slice (some ⟨pz, oz, none⟩) nz cz) ∧ e 1 = (.slice Ax nx cx) ∧ e 4 = (.int .u32 ((cy : Int))) ∧ e 8 = (.slice Ax nx cx) ∧ e 9 = (.int .i64 ((nx : Int))) ∧ e 10 = (.int .i64 ((k : Int))) ∧ Frm (fun b => b = pz) w w_ ∧ Blk w_ pz 62 ((Uz ++ (P ++ Zz.drop k)).map u32) ∧ (k ≤ nx) ∧ (0 ≤ k) ∧ (P.length = k) ∧ (∀ d ∈ P, d < BS) ∧ (cy ≤ 1) ∧ (val P + BS ^ k * cy = val (Zz.take k) + val (dx.take k))) (nx - (0)) ?_ ?_
  · refine ⟨(0), ([]), (0), rfl, rfl, rfl, (congrArg (Value.int .u32) (by omega)), rfl, rfl, (congrArg (Value.int .i64) (by omega)), (Frm.refl _ _), ?_, ?_, ?_, ?_, ?_, ?_, ?_⟩
    · simpa using Bz
    · omega
    · omega
    · rfl
    · simp
    · omega
    · simp [val]
  · rintro m4 e15 w5 ⟨k, P, cy, hm14, hs6, hs7, hs8, hs9, hs10, hs11, hF12, hB13, hk, hl, hP, hlt, hcy, hv⟩
    obtain ⟨r16, rfl⟩ := sq (e := e15) (t := 0) hs6
    obtain ⟨r17, rfl⟩ := sq (e := r16) (t := 1) hs7
    obtain ⟨r18, rfl⟩ := sq (e := r17) (t := 4) hs8
    obtain ⟨r19, rfl⟩ := sq (e := r18) (t := 8) hs9
    obtain ⟨r20, rfl⟩ := sq (e := r19) (t := 9) hs10
    obtain ⟨r21, rfl⟩ := sq (e := r20) (t := 10) hs11
    have hz22 := hF12.size
    refine wp_seq_k fun K23 hK23 => ?_
    refine wp_region_lit ?_
    by_cases hc24 : ((k : Int)) < ((nx : Int))
    · refine sEv (v := (.bool true)) (evLss true rfl rfl (dT hc24)) rfl rfl ?_
      refine sDone ?_
      refine xN (hK23 _ _ ?_)
      refine wp_seq_k fun K25 hK25 => ?_
      refine cT rfl ?_
      refine wp_skip ?_
      refine xN (hK25 _ _ ?_)
      refine wp_seq_k fun K26 hK26 => ?_
      refine wp_block ?_
      refine wp_seq_k fun K27 hK27 => ?_
      refine wp_region_lit ?_
      refine sEv (v := (.int .i64 ((k : Int)))) (rfl) rfl rfl ?_
      have h28 := (hx.frmB hF12 q3)
      obtain ⟨b29, o30, rfl⟩ := h28.base (by omega)
      refine sEv (v := (.pointer (some ⟨b29, o30 + k, none⟩))) (evIndex k Try.underlying44 sz62 rfl rfl (by omega) (by omega) (o30 + k) (by omega)) rfl rfl ?_
      have hd31 := h28.lt k
      refine sEv (v := (.int .u32 (((dx.getD k 0 : Nat) : Int)))) (evLoad one62 rfl (h28.cell (by omega))) rfl rfl ?_
      refine sEv (v := (.int .i64 ((k : Int)))) (rfl) rfl rfl ?_
      refine sEv (v := (.int .u32 (((dx.getD k 0 : Nat) : Int)))) (rfl) rfl rfl ?_
      refine sDone ?_
      refine xN (hK27 _ _ ?_)
      refine wp_region_lit ?_
      refine sEv (v := (.slice (some ⟨pz, oz, none⟩) nz cz)) (rfl) rfl rfl ?_
      refine sEv (v := (.int .i64 ((k : Int)))) (rfl) rfl rfl ?_
      refine sEv (v := (.slice (some ⟨pz, oz, none⟩) nz cz)) (rfl) rfl rfl ?_
      refine sEv (v := (.int .i64 ((k : Int)))) (rfl) rfl rfl ?_
      refine sEv (v := (.pointer (some ⟨pz, oz + k, none⟩))) (evIndex k Try.underlying44 sz62 rfl rfl (by omega) (by omega) (oz + k) (by omega)) rfl rfl ?_
      have hd32 := getD_lt (ds := Uz ++ (P ++ Zz.drop k)) (i := oz + k) (lt_seg ltz hlt)
      refine sEv (v := (.int .u32 ((((Uz ++ (P ++ Zz.drop k)).getD (oz + k) 0 : Nat) : Int)))) (evLoad one62 rfl (hB13.dig (by exact lq))) rfl rfl ?_
      have hq := seg_get luz hP (show k < Zz.length by omega) (t := oz + k) rfl
      refine sEv (v := (.int .u32 (((dx.getD k 0 : Nat) : Int)))) (rfl) rfl rfl ?_
      refine sEv (v := (.int .u32 ((cy : Int)))) (rfl) rfl rfl ?_
      refine sOp rfl (oCall rfl call111 (bits_Add32 (x1 := (Uz ++ (P ++ Zz.drop k)).getD (oz + k) 0) (by omega) (x2 := dx.getD k 0) (by omega) (x3 := cy) (by omega) (by omega)) rfl ?_)
      rintro _ w34 ⟨xs_33, xc_33, rfl, hE35, bs_33, bc_33, e_33, z_33⟩
      have hz36 := hE35.size
      refine sEv (v := (.tuple #[(.int .u32 ((xs_33 : Int))), (.int .u32 ((xc_33 : Int)))])) (rfl) rfl rfl ?_
      refine sEv (v := (.int .u32 ((xs_33 : Int)))) (rfl) rfl rfl ?_
      refine sEv (v := (.int .u32 ((xc_33 : Int)))) (rfl) rfl rfl ?_
      refine sEv (v := (.pointer (some ⟨pz, oz + k, none⟩))) (evIndex k Try.underlying44 sz62 rfl rfl (by omega) (by omega) (oz + k) (by omega)) rfl rfl ?_
      have hB37 := (hB13.ext hE35)
      refine sOp rfl (oStore1 rfl rfl rfl sz62 hB37 (by exact lq) ?_)
      intro w38 hU39 hz40 hB41
      replace hB41 : Blk w38 pz 62 ((Uz ++ ((P ++ [xs_33]) ++ Zz.drop (k + 1))).map u32) := by rw [← (seg_set luz hP (by omega) (by omega) : (Uz ++ (P ++ Zz.drop k)).set (oz + k) xs_33 = Uz ++ ((P ++ [xs_33]) ++ Zz.drop (k + 1))), List.map_set]; exact hB41
      refine sEv (v := (.int .u32 ((xc_33 : Int)))) (rfl) rfl rfl ?_
      refine sDone ?_
      refine bN ?_
      refine xN (hK26 _ _ ?_)
      refine wp_region_lit ?_
      refine sEv (v := (.int .i64 (((k : Int)) + 1))) (evAdd (((k : Int)) + 1) rfl rfl (wI64 (by omega))) rfl rfl ?_
      refine sEv (v := (.int .i64 (((k : Int)) + 1))) (rfl) rfl rfl ?_
      refine sDone ?_
      refine again (nx - (k + 1)) (by omega) ⟨(k + 1), (P ++ [xs_33]), (xc_33), rfl, rfl, rfl, (congrArg (Value.int .u32) (by omega)), rfl, rfl, (congrArg (Value.int .i64) (by omega)), ((hF12.trans (Frm.of_ext (G := fun b => (b = pz)) hE35)).trans hU39), ?_, ?_, ?_, ?_, ?_, ?_, ?_⟩
      · exact hB41
      · omega
      · omega
      · simp [hP]
      · exact lt_snoc hlt (by omega)
      · omega
      · exact add_step hv hP (by omega)
    · refine sEv (v := (.bool false)) (evLss false rfl rfl (dF hc24)) rfl rfl ?_
      refine sDone ?_
      refine xN (hK23 _ _ ?_)
      refine wp_seq_k fun K42 hK42 => ?_
      refine cF rfl ?_
      refine wp_exit (xE (xE (bE ?_)))
      refine xN (hK2 _ _ ?_)
      refine wp_seq_k fun K43 hK43 => ?_
      refine wp_region_lit ?_
      refine sEv (v := (.slice Ax nx cx)) (rfl) rfl rfl ?_
      refine sEv (v := (.int .i64 ((nx : Int)))) (evLen Try.underlying44 rfl) rfl rfl ?_
      refine sEv (v := (.int .i64 ((nx : Int)))) (rfl) rfl rfl ?_
      refine sDone ?_
      refine xN (hK43 _ _ ?_)
      refine wp_block ?_
      refine lLoop (fun m e w_ => ∃ (k2 : Nat) (P2 : List Nat) (cy2 : Nat), m = nz - k2 ∧ e 0 = (.slice (some ⟨pz, oz, none⟩) nz cz) ∧ e 4 = (.int .u32 ((cy2 : Int))) ∧ e 7 = (.int .i64 ((k2 : Int))) ∧ Frm (fun b => b = pz) w5 w_ ∧ Blk w_ pz 62 ((Uz ++ (P2 ++ Zz.drop k2)).map u32) ∧ (k2 ≤ nz) ∧ (nx ≤ k2) ∧ (P2.length = k2) ∧ (∀ d ∈ P2, d < BS) ∧ (cy2 ≤ 1) ∧ (val P2 + BS ^ k2 * cy2 = val (Zz.take k2) + val (dx.take k2))) (nz - (k)) ?_ ?_
      · refine ⟨(k), (P), (cy), rfl, rfl, (congrArg (Value.int .u32) (by omega)), (congrArg (Value.int .i64) (by omega)), (Frm.refl _ _), ?_, ?_, ?_, ?_, ?_, ?_, ?_⟩
        · exact hB13
        · omega
        · omega
        · exact hP
        · exact hlt
        · omega
        · exact hv
      · rintro m44 e52 w45 ⟨k2, P2, cy2, hm51, hs46, hs47, hs48, hF49, hB50, hk2, hl2, hP2, hlt2, hcy2, hv2⟩
        obtain ⟨r53, rfl⟩ := sq (e := e52) (t := 0) hs46
        obtain ⟨r54, rfl⟩ := sq (e := r53) (t := 4) hs47
        obtain ⟨r55, rfl⟩ := sq (e := r54) (t := 7) hs48
        have hz56 := hF49.size
        refine wp_seq_k fun K57 hK57 => ?_
        refine wp_seq_k fun K58 hK58 => ?_
        refine wp_region_lit ?_
        refine sEv (v := (.int .u32 ((cy2 : Int)))) (rfl) rfl rfl ?_
        by_cases hc59 : ((cy2 : Int)) ≠ 0
        · refine sEv (v := (.bool true)) (evNeq true rfl rfl (dT hc59)) rfl rfl ?_
          refine sEv (v := (.bool true)) (rfl) rfl rfl ?_
          refine sEv (v := (.int .i64 ((k2 : Int)))) (rfl) rfl rfl ?_
          refine sEv (v := (.slice (some ⟨pz, oz, none⟩) nz cz)) (rfl) rfl rfl ?_
          refine sEv (v := (.int .i64 ((nz : Int)))) (evLen Try.underlying44 rfl) rfl rfl ?_
          by_cases hc60 : ((k2 : Int)) < ((nz : Int))
          · refine sEv (v := (.bool true)) (evLss true rfl rfl (dT hc60)) rfl rfl ?_
            refine sEv (v := (.bool true)) (rfl) rfl rfl ?_
            refine sDone ?_
            refine xN (hK58 _ _ ?_)
            refine cT rfl ?_
            refine wp_skip ?_
            refine xN (hK57 _ _ ?_)
            refine wp_seq_k fun K61 hK61 => ?_
            refine wp_block ?_
            refine wp_region_lit ?_
            refine sEv (v := (.slice (some ⟨pz, oz, none⟩) nz cz)) (rfl) rfl rfl ?_
            refine sEv (v := (.int .i64 ((k2 : Int)))) (rfl) rfl rfl ?_
            refine sEv (v := (.slice (some ⟨pz, oz, none⟩) nz cz)) (rfl) rfl rfl ?_
            refine sEv (v := (.int .i64 ((k2 : Int)))) (rfl) rfl rfl ?_
            refine sEv (v := (.pointer (some ⟨pz, oz + k2, none⟩))) (evIndex k2 Try.underlying44 sz62 rfl rfl (by omega) (by omega) (oz + k2) (by omega)) rfl rfl ?_
            have hd62 := getD_lt (ds := Uz ++ (P2 ++ Zz.drop k2)) (i := oz + k2) (lt_seg ltz hlt2)
            refine sEv (v := (.int .u32 ((((Uz ++ (P2 ++ Zz.drop k2)).getD (oz + k2) 0 : Nat) : Int)))) (evLoad one62 rfl (hB50.dig (by exact lq))) rfl rfl ?_
            have hq := seg_get luz hP2 (show k2 < Zz.length by omega) (t := oz + k2) rfl
            refine sEv (v := (.int .u32 ((cy2 : Int)))) (rfl) rfl rfl ?_
            refine sOp rfl (oCall rfl call111 (bits_Add32 (x1 := (Uz ++ (P2 ++ Zz.drop k2)).getD (oz + k2) 0) (by omega) (x2 := 0) (by omega) (x3 := cy2) (by omega) (by omega)) rfl ?_)
            rintro _ w64 ⟨xs_63, xc_63, rfl, hE65, bs_63, bc_63, e_63, z_63⟩
            have hz66 := hE65.size
            refine sEv (v := (.tuple #[(.int .u32 ((xs_63 : Int))), (.int .u32 ((xc_63 : Int)))])) (rfl) rfl rfl ?_
            refine sEv (v := (.int .u32 ((xs_63 : Int)))) (rfl) rfl rfl ?_
            refine sEv (v := (.int .u32 ((xc_63 : Int)))) (rfl) rfl rfl ?_
            refine sEv (v := (.pointer (some ⟨pz, oz + k2, none⟩))) (evIndex k2 Try.underlying44 sz62 rfl rfl (by omega) (by omega) (oz + k2) (by omega)) rfl rfl ?_
            have hB67 := (hB50.ext hE65)
            refine sOp rfl (oStore1 rfl rfl rfl sz62 hB67 (by exact lq) ?_)
            intro w68 hU69 hz70 hB71
            replace hB71 : Blk w68 pz 62 ((Uz ++ ((P2 ++ [xs_63]) ++ Zz.drop (k2 + 1))).map u32) := by rw [← (seg_set luz hP2 (by omega) (by omega) : (Uz ++ (P2 ++ Zz.drop k2)).set (oz + k2) xs_63 = Uz ++ ((P2 ++ [xs_63]) ++ Zz.drop (k2 + 1))), List.map_set]; exact hB71
            refine sEv (v := (.int .u32 ((xc_63 : Int)))) (rfl) rfl rfl ?_
            refine sDone ?_
            refine bN ?_
            refine xN (hK61 _ _ ?_)
            refine wp_region_lit ?_
            refine sEv (v := (.int .i64 ((k2 : Int)))) (rfl) rfl rfl ?_
            refine sEv (v := (.int .i64 (((k2 : Int)) + 1))) (evAdd (((k2 : Int)) + 1) rfl rfl (wI64 (by omega))) rfl rfl ?_
            refine sEv (v := (.int .i64 (((k2 : Int)) + 1))) (rfl) rfl rfl ?_
            refine sDone ?_
            refine again (nz - (k2 + 1)) (by omega) ⟨(k2 + 1), (P2 ++ [xs_63]), (xc_63), rfl, rfl, (congrArg (Value.int .u32) (by omega)), (congrArg (Value.int .i64) (by omega)), ((hF49.trans (Frm.of_ext (G := fun b => (b = pz)) hE65)).trans hU69), ?_, ?_, ?_, ?_, ?_, ?_, ?_⟩
            · exact hB71
            · omega
            · omega
            · simp [hP2]
            · exact lt_snoc hlt2 (by omega)
            · omega
            · exact add_step hv2 hP2 (by rw [getD_ge (ds := dx) (n := nx) (by omega) k2 (by omega)]; omega)
          · refine sEv (v := (.bool false)) (evLss false rfl rfl (dF hc60)) rfl rfl ?_
            refine sEv (v := (.bool false)) (rfl) rfl rfl ?_
            refine sDone ?_
            refine xN (hK58 _ _ ?_)
            refine cF rfl ?_
            refine wp_exit (xE (xE (bE ?_)))
            refine end0 Try.results125 ?_
            exact ⟨(P2 ++ Zz.drop k2), cy2, rfl, (hF12.trans hF49), hB50, (by exact lq), (lt_seg ltz hlt2), (addin_full hv2 hP2 (by omega) (by omega) (by omega))⟩
        · refine sEv (v := (.bool false)) (evNeq false rfl rfl (dF hc59)) rfl rfl ?_
          refine sEv (v := (.bool false)) (rfl) rfl rfl ?_
          refine sSkip rfl rfl ?_
          refine sSkip rfl rfl ?_
          refine sSkip rfl rfl ?_
          refine sSkip rfl rfl ?_
          refine sEv (v := (.bool false)) (rfl) rfl rfl ?_
          refine sDone ?_
          refine xN (hK58 _ _ ?_)
          refine cF rfl ?_
          refine wp_exit (xE (xE (bE ?_)))
          refine end0 Try.results125 ?_
          obtain rfl : cy2 = 0 := by omega
          exact ⟨(P2 ++ Zz.drop k2), 0, rfl, (hF12.trans hF49), hB50, (by exact lq), (lt_seg ltz hlt2), (addin_zero hv2 hP2 (by omega) (by omega) (by omega))⟩

set_option maxHeartbeats 1000000 in
theorem natural_product_step (N : Nat) (ih : ∀ {w : World} {Sa : Nat → Prop} {Aa : Option Addr} {na ca : Nat} {da : List Nat} {Sb : Nat → Prop} {Ab : Option Addr} {nb cb : Nat} {db : List Nat} (ha : NatR w Sa Aa na ca da) (hb : NatR w Sb Ab nb cb db) (hna : na + nb ≤ 1099511627776) (hN : na + nb + 1 ≤ N), Calls Try.prog 116 #[(.slice Aa na ca), (.slice Ab nb cb)] w (Ret fun v w' => ∃ (Ar : Option Addr) (nr : Nat) (cr : Nat) (dr : List Nat), v = (.slice Ar nr cr) ∧ Ext w w' ∧ NatR w' (fun b => w.heap.size ≤ b) Ar nr cr dr ∧ (val dr = val da * val db) ∧ (nr = na + nb))) {w : World} {Sa : Nat → Prop} {Aa : Option Addr} {na ca : Nat} {da : List Nat} {Sb : Nat → Prop} {Ab : Option Addr} {nb cb : Nat} {db : List Nat} (ha : NatR w Sa Aa na ca da) (hb : NatR w Sb Ab nb cb db) (hna : na + nb ≤ 1099511627776) (hN : na + nb ≤ N) : Calls Try.prog 116 #[(.slice Aa na ca), (.slice Ab nb cb)] w (Ret fun v w' => ∃ (Ar : Option Addr) (nr : Nat) (cr : Nat) (dr : List Nat), v = (.slice Ar nr cr) ∧ Ext w w' ∧ NatR w' (fun b => w.heap.size ≤ b) Ar nr cr dr ∧ (val dr = val da * val db) ∧ (nr = na + nb)) := by
  have la := ha.len; have ka := ha.cap; have ma := ha.max
  replace ha := ha.low
  have lb := hb.len; have kb := hb.cap; have mb := hb.max
  replace hb := hb.low
  refine enter Try.func116 rfl Try.ntmps116 rfl ?_
  refine wp_seq_k fun K1 hK1 => ?_
  refine wp_region_lit ?_
  refine sEv (v := (.slice none 0 0)) (rfl) rfl rfl ?_
  refine sDone ?_
  refine xN (hK1 _ _ ?_)
  refine wp_seq_k fun K2 hK2 => ?_
  refine wp_seq_k fun K3 hK3 => ?_
  refine wp_region_lit ?_
  refine sEv (v := (.slice Aa na ca)) (rfl) rfl rfl ?_
  refine sEv (v := (.int .i64 ((na : Int)))) (evLen Try.underlying44 rfl) rfl rfl ?_
  refine sEv (v := (.slice Ab nb cb)) (rfl) rfl rfl ?_
  refine sEv (v := (.int .i64 ((nb : Int)))) (evLen Try.underlying44 rfl) rfl rfl ?_
  by_cases hc4 : ((na : Int)) < ((nb : Int))
  · refine sEv (v := (.bool true)) (evLss true rfl rfl (dT hc4)) rfl rfl ?_
    refine sDone ?_
    refine xN (hK3 _ _ ?_)
    refine cT rfl ?_
    refine wp_region_lit ?_
    refine sEv (v := (.slice Ab nb cb)) (rfl) rfl rfl ?_
    refine sEv (v := (.slice Aa na ca)) (rfl) rfl rfl ?_
    refine sEv (v := (.slice Ab nb cb)) (rfl) rfl rfl ?_
    refine sEv (v := (.slice Aa na ca)) (rfl) rfl rfl ?_
    refine sDone ?_
    refine xN (hK2 _ _ ?_)
    refine wp_seq_k fun K5 hK5 => ?_
    refine wp_seq_k fun K6 hK6 => ?_
    refine wp_region_lit ?_
    refine sEv (v := (.slice Aa na ca)) (rfl) rfl rfl ?_
    refine sEv (v := (.int .i64 ((na : Int)))) (evLen Try.underlying44 rfl) rfl rfl ?_
    by_cases hc7 : ((na : Int)) < 48
    · refine sEv (v := (.bool true)) (evLss true rfl rfl (dT hc7)) rfl rfl ?_
      refine sDone ?_
      refine xN (hK6 _ _ ?_)
      refine cT rfl ?_
      refine wp_seq_k fun K8 hK8 => ?_
      refine wp_region_lit ?_
      refine sEv (v := (.slice Aa na ca)) (rfl) rfl rfl ?_
      refine sEv (v := (.slice Ab nb cb)) (rfl) rfl rfl ?_
      refine sOp rfl (oCall rfl call124 (natural_schoolbook ha hb (by omega) (by omega)) rfl ?_)
      rintro _ w10 ⟨Ar_9, nr_9, cr_9, dr_9, rfl, hE11, hr_9, v_9, ln_9⟩
      have hz12 := hE11.size
      have lr_9 := hr_9.len; have kr_9 := hr_9.cap; have mr_9 := hr_9.max
      refine sEv (v := (.slice Ar_9 nr_9 cr_9)) (rfl) rfl rfl ?_
      refine sDone ?_
      refine xN (hK8 _ _ ?_)
      refine wp_ret (xR ?_)
      refine ret1 (.slice Ar_9 nr_9 cr_9) Try.results116 (resT rfl) ?_
      exact ⟨Ar_9, nr_9, cr_9, dr_9, rfl, hE11, (NatR.sub hr_9 q5), v_9, (by omega)⟩
    · refine sEv (v := (.bool false)) (evLss false rfl rfl (dF hc7)) rfl rfl ?_
      refine sDone ?_
      refine xN (hK6 _ _ ?_)
      refine cF rfl ?_
      refine wp_skip ?_
      refine xN (hK5 _ _ ?_)
      refine wp_seq_k fun K14 hK14 => ?_
      refine wp_region_lit ?_
      refine sEv (v := (.slice Ab nb cb)) (rfl) rfl rfl ?_
      refine sEv (v := (.int .i64 ((nb : Int)))) (evLen Try.underlying44 rfl) rfl rfl ?_
      refine sEv (v := (.slice Aa na ca)) (rfl) rfl rfl ?_
      refine sEv (v := (.int .i64 ((na : Int)))) (evLen Try.underlying44 rfl) rfl rfl ?_
      refine sEv (v := (.int .i64 (((nb : Int)) + ((na : Int))))) (evAdd (((nb : Int)) + ((na : Int))) rfl rfl (wI64 (by omega))) rfl rfl ?_
      refine sOp rfl (oMake1 (nb + na) Try.underlying44 inf62 rfl (congrArg (Value.int .i64) (by omega)) (congrArg (Value.int .i64) (by omega)) (by omega) (by omega) ?_)
      intro g15 w16 hg17 hE18 hz19 hB20
      have hB21 : Blk w16 g15 62 (((List.replicate (nb + na) 0)).map u32) := by rw [List.map_replicate]; exact hB20
      refine sEv (v := (.slice (some ⟨g15, 0, none⟩) (nb + na) (nb + na))) (rfl) rfl rfl ?_
      refine sDone ?_
      refine xN (hK14 _ _ ?_)
      refine wp_seq_k fun K22 hK22 => ?_
      refine wp_seq_k fun K23 hK23 => ?_
      refine wp_region_lit ?_
      refine sEv (v := (.slice Ab nb cb)) (rfl) rfl rfl ?_
      have h24 := (hb.ext hE18)
      refine sOp rfl (oCall rfl call94 (natural_IsZero h24) rfl ?_)
      rintro _ w26 ⟨gr_25, rfl, hE27, e_25⟩
      have hz28 := hE27.size
      refine sEv (v := (.bool gr_25)) (rfl) rfl rfl ?_
      cases gr_25
      · refine sEv (v := (.slice Aa na ca)) (rfl) rfl rfl ?_
        have h29 := (ha.ext (hE18.trans hE27))
        refine sOp rfl (oCall rfl call94 (natural_IsZero h29) rfl ?_)
        rintro _ w31 ⟨gr_30, rfl, hE32, e_30⟩
        have hz33 := hE32.size
        refine sEv (v := (.bool gr_30)) (rfl) rfl rfl ?_
        refine sDone ?_
        refine xN (hK23 _ _ ?_)
        refine cB gr_30 rfl ?_ ?_
        · intro hc34
          subst hc34
          refine wp_seq_k fun K35 hK35 => ?_
          refine wp_region_lit ?_
          refine sEv (v := (.slice (some ⟨g15, 0, none⟩) (nb + na) (nb + na))) (rfl) rfl rfl ?_
          refine sEv (v := (.slice (some ⟨g15, 0, none⟩) (nb + na) (nb + na))) (rfl) rfl rfl ?_
          refine sDone ?_
          refine xN (hK35 _ _ ?_)
          refine wp_ret (xR ?_)
          refine ret1 (.slice (some ⟨g15, 0, none⟩) (nb + na) (nb + na)) Try.results116 (resT rfl) ?_
          have hB36 := (hB21.ext (hE27.trans hE32))
          have h37 : NatR w31 (fun b => b = g15) (some ⟨g15, 0, none⟩) (nb + na) (nb + na) (List.replicate (nb + na) 0) := NatR.of_blk hB36 rfl (lt_zeros _) (by exact lq) (by omega) (by unfold CapMax; omega)
          exact ⟨(some ⟨g15, 0, none⟩), (nb + na), (nb + na), (List.replicate (nb + na) 0), rfl, ((hE18.trans hE27).trans hE32), (NatR.sub h37 q5), (by rw [val_zeros, zmul1 (of_decide_eq_true e_30.symm)]), (by omega)⟩
        · intro hc34
          subst hc34
          refine wp_skip ?_
          refine xN (hK22 _ _ ?_)
          refine wp_seq_k fun K38 hK38 => ?_
          refine wp_region_lit ?_
          refine sEv (v := (.slice Ab nb cb)) (rfl) rfl rfl ?_
          refine sEv (v := (.int .i64 ((nb : Int)))) (evLen Try.underlying44 rfl) rfl rfl ?_
          refine sEv (v := (.int .i64 (((nb : Int)) + 1))) (evAdd (((nb : Int)) + 1) rfl rfl (wI64 (by omega))) rfl rfl ?_
          refine sEv (v := (.int .i64 ((((nb + 1) / 2 : Nat) : Int)))) (evQuo ((((nb + 1) / 2 : Nat) : Int)) rfl rfl (by omega) (quoI (by omega) (by omega))) rfl rfl ?_
          refine sEv (v := (.int .i64 ((((nb + 1) / 2 : Nat) : Int)))) (rfl) rfl rfl ?_
          refine sDone ?_
          refine xN (hK38 _ _ ?_)
          refine wp_seq_k fun K39 hK39 => ?_
          refine wp_seq_k fun K40 hK40 => ?_
          refine wp_region_lit ?_
          refine sEv (v := (.slice Aa na ca)) (rfl) rfl rfl ?_
          refine sEv (v := (.int .i64 ((na : Int)))) (evLen Try.underlying44 rfl) rfl rfl ?_
          refine sEv (v := (.int .i64 ((((nb + 1) / 2 : Nat) : Int)))) (rfl) rfl rfl ?_
          by_cases hc41 : ((na : Int)) ≤ ((((nb + 1) / 2 : Nat) : Int))
          · refine sEv (v := (.bool true)) (evLeq true rfl rfl (dT hc41)) rfl rfl ?_
            refine sDone ?_
            refine xN (hK40 _ _ ?_)
            refine cT rfl ?_
            refine wp_seq_k fun K42 hK42 => ?_
            refine wp_region_lit ?_
            refine sEv (v := (.slice (some ⟨g15, 0, none⟩) (nb + na) (nb + na))) (rfl) rfl rfl ?_
            refine sEv (v := (.slice Ab nb cb)) (rfl) rfl rfl ?_
            refine sEv (v := (.int .i64 ((((nb + 1) / 2 : Nat) : Int)))) (rfl) rfl rfl ?_
            have h43 := (h24.ext (hE27.trans hE32))
            have h44 := h43.take (m := (nb + 1) / 2) (by omega)
            refine sEv (v := (.slice Ab ((nb + 1) / 2) cb)) (evSliceHi ((nb + 1) / 2) Try.underlying44 sz62 rfl rfl (by omega) (by omega)) rfl rfl ?_
            refine sEv (v := (.slice Aa na ca)) (rfl) rfl rfl ?_
            have h46 := (h29.ext hE32)
            refine sOp rfl (oCall rfl call116 (ih h44 h46 (by omega) (by omega)) rfl ?_)
            rintro _ w48 ⟨Ar_47, nr_47, cr_47, dr_47, rfl, hE49, hr_47, v_47, ln_47⟩
            have hz50 := hE49.size
            have lr_47 := hr_47.len; have kr_47 := hr_47.cap; have mr_47 := hr_47.max
            have hB52 := (hB21.ext ((hE27.trans hE32).trans hE49))
            refine sOp rfl (oCopy Try.underlying44 sz62 rfl rfl hr_47.1 (u32s_one _) hB52 (by omega) (by exact lq) ?_)
            intro w53 hU54 hz55 hB56
            replace hB56 : Blk w53 g15 62 ((dr_47 ++ List.replicate (nb + na - nr_47) 0).map u32) := by rw [← (copy_first lr_47 (by omega) : (List.replicate (nb + na) 0).take 0 ++ dr_47 ++ (List.replicate (nb + na) 0).drop (0 + nr_47) = dr_47 ++ List.replicate (nb + na - nr_47) 0), List.map_append, List.map_append, List.map_take, List.map_drop]; exact hB56
            rw [put_mkA]
            refine sDone ?_
            refine xN (hK42 _ _ ?_)
            refine wp_seq_k fun K57 hK57 => ?_
            refine dBegin (fun b => b = g15) mixed ?_
            intro w58 hE59 hz60
            refine dEv 0 rfl (v := (.slice (some ⟨g15, 0, none⟩) (nb + na) (nb + na))) (fun _ _ => rfl) rfl rfl (by kernel_rfl) ?_
            refine dEv 1 rfl (v := (.int .i64 ((((nb + 1) / 2 : Nat) : Int)))) (fun _ _ => rfl) rfl rfl (by kernel_rfl) ?_
            refine dEv 2 rfl (v := (.slice (some ⟨g15, (nb + 1) / 2, none⟩) ((nb + na) - ((nb + 1) / 2)) ((nb + na) - ((nb + 1) / 2)))) (fun _ _ => evSliceLoAt ((nb + 1) / 2) Try.underlying44 sz62 rfl rfl (by omega) (by omega) (by omega) (by omega) ((nb + 1) / 2) (by omega)) rfl rfl (by kernel_rfl) ?_
            refine dEv 3 rfl (v := (.slice Ab nb cb)) (fun _ _ => rfl) rfl rfl (by kernel_rfl) ?_
            refine dEv 4 rfl (v := (.int .i64 ((((nb + 1) / 2 : Nat) : Int)))) (fun _ _ => rfl) rfl rfl (by kernel_rfl) ?_
            have h61 := (h43.frmB (((Frm.of_ext (G := fun b => (b = g15)) hE49).trans hU54).trans (Frm.of_ext (G := fun b => (b = g15)) hE59)) q3)
            have h64 := h61.drop (m := (nb + 1) / 2) (by omega)
            refine dEv 5 rfl (v := (.slice (if cb = ((nb + 1) / 2) then Ab else Ab.map (·.add (((nb + 1) / 2) * 1))) (nb - ((nb + 1) / 2)) (cb - ((nb + 1) / 2)))) (fun _ _ => evSliceLo ((nb + 1) / 2) Try.underlying44 sz62 rfl rfl (by omega) (by omega) (by omega)) rfl rfl (by kernel_rfl) ?_
            generalize (if cb = ((nb + 1) / 2) then Ab else Ab.map (·.add (((nb + 1) / 2) * 1))) = A62 at *
            refine dEv 6 rfl (v := (.slice Aa na ca)) (fun _ _ => rfl) rfl rfl (by kernel_rfl) ?_
            have h66 := (h46.frmB (((Frm.of_ext (G := fun b => (b = g15)) hE49).trans hU54).trans (Frm.of_ext (G := fun b => (b = g15)) hE59)) q3)
            refine dOp 7 rfl rfl (by kernel_rfl) (oCall rfl call116 (ih h64 h66 (by omega) (by omega)) rfl ?_)
            rintro _ w68 ⟨Ar_67, nr_67, cr_67, dr_67, rfl, hE69, hr_67, v_67, ln_67⟩
            refine ⟨(Frm.of_ext hE69), ?_⟩
            have hz70 := hE69.size
            have lr_67 := hr_67.len; have kr_67 := hr_67.cap; have mr_67 := hr_67.max
            refine dOp 8 rfl rfl (by kernel_rfl) (oCall rfl call99 (natural_trim hr_67) rfl ?_)
            rintro _ w73 ⟨Ar_72, nr_72, cr_72, dr_72, rfl, hE74, hr_72, e_72, le_72⟩
            refine ⟨(Frm.of_ext hE74), ?_⟩
            have hz75 := hE74.size
            have lr_72 := hr_72.len; have kr_72 := hr_72.cap; have mr_72 := hr_72.max
            have hB77 := (hB56.ext ((hE59.trans hE69).trans hE74))
            refine dOp 9 rfl rfl (by kernel_rfl) (oCall rfl call125 (natural_addInto (Uz := (dr_47 ++ List.replicate (nb + na - nr_47) 0).take ((nb + 1) / 2)) (Zz := (dr_47 ++ List.replicate (nb + na - nr_47) 0).drop ((nb + 1) / 2)) (by rw [List.take_append_drop]; exact hB77) (by exact lq) (by exact lq) (by rw [List.take_append_drop]; exact (lt_fill hr_47.2)) (by omega) (by omega) (NatR.sub hr_72 q5) (by omega)) rfl ?_)
            rintro _ w79 ⟨Zr_78, cr_78, rfl, hE80, B_78, ln_78, lt_78, e_78⟩
            refine ⟨hE80, ?_⟩
            have hz81 := hE80.size
            refine dDone (by kernel_rfl) ?_
            refine xN (hK57 _ _ ?_)
            refine wp_seq_k fun K82 hK82 => ?_
            refine wp_region_lit ?_
            refine sEv (v := (.slice (some ⟨g15, 0, none⟩) (nb + na) (nb + na))) (rfl) rfl rfl ?_
            refine sEv (v := (.slice (some ⟨g15, 0, none⟩) (nb + na) (nb + na))) (rfl) rfl rfl ?_
            refine sDone ?_
            refine xN (hK82 _ _ ?_)
            refine wp_ret (xR ?_)
            refine ret1 (.slice (some ⟨g15, 0, none⟩) (nb + na) (nb + na)) Try.results116 (resT rfl) ?_
            have h83 : NatR w79 (fun b => b = g15) (some ⟨g15, 0, none⟩) (nb + na) (nb + na) ((dr_47 ++ List.replicate (nb + na - nr_47) 0).take ((nb + 1) / 2) ++ Zr_78) := NatR.of_blk B_78 rfl lt_78 (by exact lq) (by omega) (by unfold CapMax; omega)
            exact ⟨(some ⟨g15, 0, none⟩), (nb + na), (nb + na), ((dr_47 ++ List.replicate (nb + na - nr_47) 0).take ((nb + 1) / 2) ++ Zr_78), rfl, (Frm.mono (((((((((Frm.of_ext (G := fun b => (b = g15)) hE18).trans (Frm.of_ext (G := fun b => (b = g15)) hE27)).trans (Frm.of_ext (G := fun b => (b = g15)) hE32)).trans (Frm.of_ext (G := fun b => (b = g15)) hE49)).trans hU54).trans (Frm.of_ext (G := fun b => (b = g15)) hE59)).trans (Frm.of_ext (G := fun b => (b = g15)) hE69)).trans (Frm.of_ext (G := fun b => (b = g15)) hE74)).trans hE80) q4), (NatR.sub h83 q5), (by rw [Nat.mul_comm (val da)]; exact (kara_short (lo := dr_47) (hi := dr_72) (h := ((nb + 1) / 2)) (n := nb + na) (by omega) hb.2 ha.2 (by omega) v_47 (by rw [e_72, val_trim, v_67]) (by omega) (by omega) ln_78 e_78)), (by omega)⟩
          · refine sEv (v := (.bool false)) (evLeq false rfl rfl (dF hc41)) rfl rfl ?_
            refine sDone ?_
            refine xN (hK40 _ _ ?_)
            refine cF rfl ?_
            refine wp_skip ?_
            refine xN (hK39 _ _ ?_)
            refine wp_seq_k fun K84 hK84 => ?_
            refine dBegin (fun _ => False) mixed ?_
            intro w85 hE86 hz87
            refine dEv 0 rfl (v := (.slice Ab nb cb)) (fun _ _ => rfl) rfl rfl (by kernel_rfl) ?_
            refine dEv 1 rfl (v := (.int .i64 ((((nb + 1) / 2 : Nat) : Int)))) (fun _ _ => rfl) rfl rfl (by kernel_rfl) ?_
            have h88 := (h24.ext ((hE27.trans hE32).trans hE86))
            have h89 := h88.take (m := (nb + 1) / 2) (by omega)
            refine dEv 2 rfl (v := (.slice Ab ((nb + 1) / 2) cb)) (fun _ _ => evSliceHi ((nb + 1) / 2) Try.underlying44 sz62 rfl rfl (by omega) (by omega)) rfl rfl (by kernel_rfl) ?_
            refine dEv 3 rfl (v := (.slice Aa na ca)) (fun _ _ => rfl) rfl rfl (by kernel_rfl) ?_
            refine dEv 4 rfl (v := (.int .i64 ((((nb + 1) / 2 : Nat) : Int)))) (fun _ _ => rfl) rfl rfl (by kernel_rfl) ?_
            have h91 := (h29.ext (hE32.trans hE86))
            have h92 := h91.take (m := (nb + 1) / 2) (by omega)
            refine dEv 5 rfl (v := (.slice Aa ((nb + 1) / 2) ca)) (fun _ _ => evSliceHi ((nb + 1) / 2) Try.underlying44 sz62 rfl rfl (by omega) (by omega)) rfl rfl (by kernel_rfl) ?_
            refine dOp 6 rfl rfl (by kernel_rfl) (oCall rfl call116 (ih h89 h92 (by omega) (by omega)) rfl ?_)
            rintro _ w95 ⟨Ar_94, nr_94, cr_94, dr_94, rfl, hE96, hr_94, v_94, ln_94⟩
            refine ⟨(Frm.of_ext hE96), ?_⟩
            have hz97 := hE96.size
            have lr_94 := hr_94.len; have kr_94 := hr_94.cap; have mr_94 := hr_94.max
            refine dEv 7 rfl (v := (.slice Ar_94 nr_94 cr_94)) (fun _ _ => rfl) rfl rfl (by kernel_rfl) ?_
            refine dDone (by kernel_rfl) ?_
            refine xN (hK84 _ _ ?_)
            refine wp_seq_k fun K99 hK99 => ?_
            refine dBegin (fun _ => False) mixed ?_
            intro w100 hE101 hz102
            refine dEv 0 rfl (v := (.slice Ab nb cb)) (fun _ _ => rfl) rfl rfl (by kernel_rfl) ?_
            refine dEv 1 rfl (v := (.int .i64 ((((nb + 1) / 2 : Nat) : Int)))) (fun _ _ => rfl) rfl rfl (by kernel_rfl) ?_
            have h103 := (h88.ext (hE96.trans hE101))
            have h106 := h103.drop (m := (nb + 1) / 2) (by omega)
            refine dEv 2 rfl (v := (.slice (if cb = ((nb + 1) / 2) then Ab else Ab.map (·.add (((nb + 1) / 2) * 1))) (nb - ((nb + 1) / 2)) (cb - ((nb + 1) / 2)))) (fun _ _ => evSliceLo ((nb + 1) / 2) Try.underlying44 sz62 rfl rfl (by omega) (by omega) (by omega)) rfl rfl (by kernel_rfl) ?_
            generalize (if cb = ((nb + 1) / 2) then Ab else Ab.map (·.add (((nb + 1) / 2) * 1))) = A104 at *
            refine dEv 3 rfl (v := (.slice Aa na ca)) (fun _ _ => rfl) rfl rfl (by kernel_rfl) ?_
            refine dEv 4 rfl (v := (.int .i64 ((((nb + 1) / 2 : Nat) : Int)))) (fun _ _ => rfl) rfl rfl (by kernel_rfl) ?_
            have h108 := (h91.ext (hE96.trans hE101))
            have h111 := h108.drop (m := (nb + 1) / 2) (by omega)
            refine dEv 5 rfl (v := (.slice (if ca = ((nb + 1) / 2) then Aa else Aa.map (·.add (((nb + 1) / 2) * 1))) (na - ((nb + 1) / 2)) (ca - ((nb + 1) / 2)))) (fun _ _ => evSliceLo ((nb + 1) / 2) Try.underlying44 sz62 rfl rfl (by omega) (by omega) (by omega)) rfl rfl (by kernel_rfl) ?_
            generalize (if ca = ((nb + 1) / 2) then Aa else Aa.map (·.add (((nb + 1) / 2) * 1))) = A109 at *
            refine dOp 6 rfl rfl (by kernel_rfl) (oCall rfl call116 (ih h106 h111 (by omega) (by omega)) rfl ?_)
            rintro _ w114 ⟨Ar_113, nr_113, cr_113, dr_113, rfl, hE115, hr_113, v_113, ln_113⟩
            refine ⟨(Frm.of_ext hE115), ?_⟩
            have hz116 := hE115.size
            have lr_113 := hr_113.len; have kr_113 := hr_113.cap; have mr_113 := hr_113.max
            refine dEv 7 rfl (v := (.slice Ar_113 nr_113 cr_113)) (fun _ _ => rfl) rfl rfl (by kernel_rfl) ?_
            refine dDone (by kernel_rfl) ?_
            refine xN (hK99 _ _ ?_)
            refine wp_seq_k fun K118 hK118 => ?_
            refine dBegin (fun _ => False) mixed ?_
            intro w119 hE120 hz121
            refine dEv 0 rfl (v := (.slice Ab nb cb)) (fun _ _ => rfl) rfl rfl (by kernel_rfl) ?_
            refine dEv 1 rfl (v := (.int .i64 ((((nb + 1) / 2 : Nat) : Int)))) (fun _ _ => rfl) rfl rfl (by kernel_rfl) ?_
            have h122 := (h103.ext (hE115.trans hE120))
            have h123 := h122.take (m := (nb + 1) / 2) (by omega)
            refine dEv 2 rfl (v := (.slice Ab ((nb + 1) / 2) cb)) (fun _ _ => evSliceHi ((nb + 1) / 2) Try.underlying44 sz62 rfl rfl (by omega) (by omega)) rfl rfl (by kernel_rfl) ?_
            refine dEv 3 rfl (v := (.slice Ab nb cb)) (fun _ _ => rfl) rfl rfl (by kernel_rfl) ?_
            refine dEv 4 rfl (v := (.int .i64 ((((nb + 1) / 2 : Nat) : Int)))) (fun _ _ => rfl) rfl rfl (by kernel_rfl) ?_
            have h127 := h122.drop (m := (nb + 1) / 2) (by omega)
            refine dEv 5 rfl (v := (.slice (if cb = ((nb + 1) / 2) then Ab else Ab.map (·.add (((nb + 1) / 2) * 1))) (nb - ((nb + 1) / 2)) (cb - ((nb + 1) / 2)))) (fun _ _ => evSliceLo ((nb + 1) / 2) Try.underlying44 sz62 rfl rfl (by omega) (by omega) (by omega)) rfl rfl (by kernel_rfl) ?_
            generalize (if cb = ((nb + 1) / 2) then Ab else Ab.map (·.add (((nb + 1) / 2) * 1))) = A125 at *
            refine dEv 7 rfl (v := (.slice Aa na ca)) (fun _ _ => rfl) rfl rfl (by kernel_rfl) ?_
            refine dEv 8 rfl (v := (.int .i64 ((((nb + 1) / 2 : Nat) : Int)))) (fun _ _ => rfl) rfl rfl (by kernel_rfl) ?_
            have h129 := (h108.ext (hE115.trans hE120))
            have h130 := h129.take (m := (nb + 1) / 2) (by omega)
            refine dEv 9 rfl (v := (.slice Aa ((nb + 1) / 2) ca)) (fun _ _ => evSliceHi ((nb + 1) / 2) Try.underlying44 sz62 rfl rfl (by omega) (by omega)) rfl rfl (by kernel_rfl) ?_
            refine dEv 10 rfl (v := (.slice Aa na ca)) (fun _ _ => rfl) rfl rfl (by kernel_rfl) ?_
            refine dEv 11 rfl (v := (.int .i64 ((((nb + 1) / 2 : Nat) : Int)))) (fun _ _ => rfl) rfl rfl (by kernel_rfl) ?_
            have h134 := h129.drop (m := (nb + 1) / 2) (by omega)
            refine dEv 12 rfl (v := (.slice (if ca = ((nb + 1) / 2) then Aa else Aa.map (·.add (((nb + 1) / 2) * 1))) (na - ((nb + 1) / 2)) (ca - ((nb + 1) / 2)))) (fun _ _ => evSliceLo ((nb + 1) / 2) Try.underlying44 sz62 rfl rfl (by omega) (by omega) (by omega)) rfl rfl (by kernel_rfl) ?_
            generalize (if ca = ((nb + 1) / 2) then Aa else Aa.map (·.add (((nb + 1) / 2) * 1))) = A132 at *
            refine dOp 6 rfl rfl (by kernel_rfl) (oCall rfl call89 (natural_Add h123 h127 (by omega) (by omega)) rfl ?_)
            rintro _ w137 ⟨Ar_136, nr_136, cr_136, dr_136, rfl, hE138, hr_136, v_136, cn_136, le_136⟩
            refine ⟨(Frm.of_ext hE138), ?_⟩
            have hz139 := hE138.size
            have lr_136 := hr_136.len; have kr_136 := hr_136.cap; have mr_136 := hr_136.max
            have h141 := (h130.ext hE138)
            have h142 := (h134.ext hE138)
            refine dOp 13 rfl rfl (by kernel_rfl) (oCall rfl call89 (natural_Add h141 h142 (by omega) (by omega)) rfl ?_)
            rintro _ w144 ⟨Ar_143, nr_143, cr_143, dr_143, rfl, hE145, hr_143, v_143, cn_143, le_143⟩
            refine ⟨(Frm.of_ext hE145), ?_⟩
            have hz146 := hE145.size
            have lr_143 := hr_143.len; have kr_143 := hr_143.cap; have mr_143 := hr_143.max
            have h148 := (hr_136.ext hE145)
            refine dOp 14 rfl rfl (by kernel_rfl) (oCall rfl call116 (ih h148 hr_143 (by omega) (by omega)) rfl ?_)
            rintro _ w150 ⟨Ar_149, nr_149, cr_149, dr_149, rfl, hE151, hr_149, v_149, ln_149⟩
            refine ⟨(Frm.of_ext hE151), ?_⟩
            have hz152 := hE151.size
            have lr_149 := hr_149.len; have kr_149 := hr_149.cap; have mr_149 := hr_149.max
            refine dEv 15 rfl (v := (.slice Ar_149 nr_149 cr_149)) (fun _ _ => rfl) rfl rfl (by kernel_rfl) ?_
            refine dDone (by kernel_rfl) ?_
            refine xN (hK118 _ _ ?_)
            refine wp_seq_k fun K154 hK154 => ?_
            refine wp_region_lit ?_
            refine sEv (v := (.slice Ar_149 nr_149 cr_149)) (rfl) rfl rfl ?_
            refine sEv (v := (.slice Ar_94 nr_94 cr_94)) (rfl) rfl rfl ?_
            refine sEv (v := (.slice Ar_113 nr_113 cr_113)) (rfl) rfl rfl ?_
            have h155 := (hr_94.ext (((((hE101.trans hE115).trans hE120).trans hE138).trans hE145).trans hE151))
            have h156 := (hr_113.ext (((hE120.trans hE138).trans hE145).trans hE151))
            refine sOp rfl (oCall rfl call89 (natural_Add h155 h156 (by omega) (by omega)) rfl ?_)
            rintro _ w158 ⟨Ar_157, nr_157, cr_157, dr_157, rfl, hE159, hr_157, v_157, cn_157, le_157⟩
            have hz160 := hE159.size
            have lr_157 := hr_157.len; have kr_157 := hr_157.cap; have mr_157 := hr_157.max
            have h162 := (hr_149.ext hE159)
            refine sOp rfl (oCall rfl call90 (natural_Sub h162 hr_157 (by omega) (by omega)) rfl ?_)
            rintro _ w164 ⟨Ar_163, nr_163, cr_163, dr_163, gk_163, rfl, hE165, hr_163, k_163, v_163, cn_163, le_163⟩
            have hz166 := hE165.size
            have lr_163 := hr_163.len; have kr_163 := hr_163.cap; have mr_163 := hr_163.max
            refine sEv (v := (.tuple #[(.slice Ar_163 nr_163 cr_163), (.bool gk_163)])) (rfl) rfl rfl ?_
            refine sEv (v := (.slice Ar_163 nr_163 cr_163)) (rfl) rfl rfl ?_
            refine sEv (v := (.bool gk_163)) (rfl) rfl rfl ?_
            refine sEv (v := (.slice Ar_163 nr_163 cr_163)) (rfl) rfl rfl ?_
            refine sDone ?_
            refine xN (hK154 _ _ ?_)
            refine wp_seq_k fun K168 hK168 => ?_
            refine wp_region_lit ?_
            refine sEv (v := (.slice (some ⟨g15, 0, none⟩) (nb + na) (nb + na))) (rfl) rfl rfl ?_
            refine sEv (v := (.slice Ar_94 nr_94 cr_94)) (rfl) rfl rfl ?_
            have hB169 := (hB21.ext (((((((((((hE27.trans hE32).trans hE86).trans hE96).trans hE101).trans hE115).trans hE120).trans hE138).trans hE145).trans hE151).trans hE159).trans hE165))
            have h170 := (h155.ext (hE159.trans hE165))
            refine sOp rfl (oCopy Try.underlying44 sz62 rfl rfl h170.1 (u32s_one _) hB169 (by omega) (by exact lq) ?_)
            intro w171 hU172 hz173 hB174
            replace hB174 : Blk w171 g15 62 ((dr_94 ++ List.replicate (nb + na - nr_94) 0).map u32) := by rw [← (copy_first lr_94 (by omega) : (List.replicate (nb + na) 0).take 0 ++ dr_94 ++ (List.replicate (nb + na) 0).drop (0 + nr_94) = dr_94 ++ List.replicate (nb + na - nr_94) 0), List.map_append, List.map_append, List.map_take, List.map_drop]; exact hB174
            rw [put_mkA]
            refine sDone ?_
            refine xN (hK168 _ _ ?_)
            refine wp_seq_k fun K175 hK175 => ?_
            refine wp_region_lit ?_
            refine sEv (v := (.slice (some ⟨g15, 0, none⟩) (nb + na) (nb + na))) (rfl) rfl rfl ?_
            refine sEv (v := (.int .i64 ((((nb + 1) / 2 : Nat) : Int)))) (rfl) rfl rfl ?_
            refine sEv (v := (.int .i64 (2 * ((((nb + 1) / 2 : Nat) : Int))))) (evMul (2 * ((((nb + 1) / 2 : Nat) : Int))) rfl rfl (wI64 (by omega))) rfl rfl ?_
            refine sEv (v := (.slice (some ⟨g15, 2 * ((nb + 1) / 2), none⟩) ((nb + na) - (2 * ((nb + 1) / 2))) ((nb + na) - (2 * ((nb + 1) / 2))))) (evSliceLoAt (2 * ((nb + 1) / 2)) Try.underlying44 sz62 rfl rfl (by omega) (by omega) (by omega) (by omega) (2 * ((nb + 1) / 2)) (by omega)) rfl rfl ?_
            refine sEv (v := (.slice Ar_113 nr_113 cr_113)) (rfl) rfl rfl ?_
            have h176 := (h156.frmB (((Frm.of_ext (G := fun b => (b = g15)) hE159).trans (Frm.of_ext (G := fun b => (b = g15)) hE165)).trans hU172) q3)
            rw [show nb + na - nr_94 = nr_113 by omega] at hB174
            refine sOp rfl (oCopy Try.underlying44 sz62 rfl rfl h176.1 (u32s_one _) hB174 (by omega) (by exact lq) ?_)
            intro w177 hU178 hz179 hB180
            replace hB180 : Blk w177 g15 62 ((dr_94 ++ dr_113).map u32) := by rw [← (copy_second (lr_94.trans (by omega)) lr_113 (by omega) : (dr_94 ++ List.replicate nr_113 0).take (2 * ((nb + 1) / 2)) ++ dr_113 ++ (dr_94 ++ List.replicate nr_113 0).drop ((2 * ((nb + 1) / 2)) + nr_113) = dr_94 ++ dr_113), List.map_append, List.map_append, List.map_take, List.map_drop]; exact hB180
            rw [put_mkA]
            refine sDone ?_
            refine xN (hK175 _ _ ?_)
            refine wp_seq_k fun K181 hK181 => ?_
            refine wp_region_lit ?_
            refine sEv (v := (.slice (some ⟨g15, 0, none⟩) (nb + na) (nb + na))) (rfl) rfl rfl ?_
            refine sEv (v := (.int .i64 ((((nb + 1) / 2 : Nat) : Int)))) (rfl) rfl rfl ?_
            refine sEv (v := (.slice (some ⟨g15, (nb + 1) / 2, none⟩) ((nb + na) - ((nb + 1) / 2)) ((nb + na) - ((nb + 1) / 2)))) (evSliceLoAt ((nb + 1) / 2) Try.underlying44 sz62 rfl rfl (by omega) (by omega) (by omega) (by omega) ((nb + 1) / 2) (by omega)) rfl rfl ?_
            have hmid : val dr_163 = val (db.take ((nb + 1) / 2)) * val (da.drop ((nb + 1) / 2)) + val (db.drop ((nb + 1) / 2)) * val (da.take ((nb + 1) / 2)) := kara_mid (m := val dr_149) (by rw [v_149, v_136, v_143]) v_94 v_113 (by rw [v_163, v_157])
            have hml := lt_val_len cn_163 (kara_mid_lt (h := ((nb + 1) / 2)) (n := nb + na) (by omega) (by omega) hb.2 ha.2 (by omega) hmid)
            refine sEv (v := (.slice Ar_163 nr_163 cr_163)) (rfl) rfl rfl ?_
            have h182 := (hr_163.frmB (hU172.trans hU178) q3)
            refine sOp rfl (oCall rfl call125 (natural_addInto (Uz := (dr_94 ++ dr_113).take ((nb + 1) / 2)) (Zz := (dr_94 ++ dr_113).drop ((nb + 1) / 2)) (by rw [List.take_append_drop]; exact hB180) (by exact lq) (by exact lq) (by rw [List.take_append_drop]; exact (lt_app hr_94.2 hr_113.2)) (by omega) (by omega) (NatR.sub h182 q5) (by omega)) rfl ?_)
            rintro _ w184 ⟨Zr_183, cr_183, rfl, hE185, B_183, ln_183, lt_183, e_183⟩
            have hz186 := hE185.size
            refine sDone ?_
            refine xN (hK181 _ _ ?_)
            refine wp_seq_k fun K187 hK187 => ?_
            refine wp_region_lit ?_
            refine sEv (v := (.slice (some ⟨g15, 0, none⟩) (nb + na) (nb + na))) (rfl) rfl rfl ?_
            refine sEv (v := (.slice (some ⟨g15, 0, none⟩) (nb + na) (nb + na))) (rfl) rfl rfl ?_
            refine sDone ?_
            refine xN (hK187 _ _ ?_)
            refine wp_ret ?_
            refine ret1 (.slice (some ⟨g15, 0, none⟩) (nb + na) (nb + na)) Try.results116 (resT rfl) ?_
            have h188 : NatR w184 (fun b => b = g15) (some ⟨g15, 0, none⟩) (nb + na) (nb + na) ((dr_94 ++ dr_113).take ((nb + 1) / 2) ++ Zr_183) := NatR.of_blk B_183 rfl lt_183 (by exact lq) (by omega) (by unfold CapMax; omega)
            exact ⟨(some ⟨g15, 0, none⟩), (nb + na), (nb + na), ((dr_94 ++ dr_113).take ((nb + 1) / 2) ++ Zr_183), rfl, (Frm.mono ((((((((((((((((Frm.of_ext (G := fun b => (b = g15)) hE18).trans (Frm.of_ext (G := fun b => (b = g15)) hE27)).trans (Frm.of_ext (G := fun b => (b = g15)) hE32)).trans (Frm.of_ext (G := fun b => (b = g15)) hE86)).trans (Frm.of_ext (G := fun b => (b = g15)) hE96)).trans (Frm.of_ext (G := fun b => (b = g15)) hE101)).trans (Frm.of_ext (G := fun b => (b = g15)) hE115)).trans (Frm.of_ext (G := fun b => (b = g15)) hE120)).trans (Frm.of_ext (G := fun b => (b = g15)) hE138)).trans (Frm.of_ext (G := fun b => (b = g15)) hE145)).trans (Frm.of_ext (G := fun b => (b = g15)) hE151)).trans (Frm.of_ext (G := fun b => (b = g15)) hE159)).trans (Frm.of_ext (G := fun b => (b = g15)) hE165)).trans hU172).trans hU178).trans hE185) q4), (NatR.sub h188 q5), (by rw [Nat.mul_comm (val da)]; exact (kara_full (h := ((nb + 1) / 2)) (n := nb + na) (by omega) (by omega) hb.2 ha.2 (by omega) v_94 v_113 hmid (by omega) (by omega) ln_183 e_183)), (by omega)⟩
      · refine sSkip rfl rfl ?_
        refine sSkip rfl rfl ?_
        refine sEv (v := (.bool true)) (rfl) rfl rfl ?_
        refine sDone ?_
        refine xN (hK23 _ _ ?_)
        refine cT rfl ?_
        refine wp_seq_k fun K189 hK189 => ?_
        refine wp_region_lit ?_
        refine sEv (v := (.slice (some ⟨g15, 0, none⟩) (nb + na) (nb + na))) (rfl) rfl rfl ?_
        refine sEv (v := (.slice (some ⟨g15, 0, none⟩) (nb + na) (nb + na))) (rfl) rfl rfl ?_
        refine sDone ?_
        refine xN (hK189 _ _ ?_)
        refine wp_ret (xR ?_)
        refine ret1 (.slice (some ⟨g15, 0, none⟩) (nb + na) (nb + na)) Try.results116 (resT rfl) ?_
        have hB190 := (hB21.ext hE27)
        have h191 : NatR w26 (fun b => b = g15) (some ⟨g15, 0, none⟩) (nb + na) (nb + na) (List.replicate (nb + na) 0) := NatR.of_blk hB190 rfl (lt_zeros _) (by exact lq) (by omega) (by unfold CapMax; omega)
        exact ⟨(some ⟨g15, 0, none⟩), (nb + na), (nb + na), (List.replicate (nb + na) 0), rfl, (hE18.trans hE27), (NatR.sub h191 q5), (by rw [val_zeros, zmul2 (of_decide_eq_true e_25.symm)]), (by omega)⟩
  · refine sEv (v := (.bool false)) (evLss false rfl rfl (dF hc4)) rfl rfl ?_
    refine sDone ?_
    refine xN (hK3 _ _ ?_)
    refine cF rfl ?_
    refine wp_skip ?_
    refine xN (hK2 _ _ ?_)
    refine wp_seq_k fun K192 hK192 => ?_
    refine wp_seq_k fun K193 hK193 => ?_
    refine wp_region_lit ?_
    refine sEv (v := (.slice Ab nb cb)) (rfl) rfl rfl ?_
    refine sEv (v := (.int .i64 ((nb : Int)))) (evLen Try.underlying44 rfl) rfl rfl ?_
    by_cases hc194 : ((nb : Int)) < 48
    · refine sEv (v := (.bool true)) (evLss true rfl rfl (dT hc194)) rfl rfl ?_
      refine sDone ?_
      refine xN (hK193 _ _ ?_)
      refine cT rfl ?_
      refine wp_seq_k fun K195 hK195 => ?_
      refine wp_region_lit ?_
      refine sEv (v := (.slice Ab nb cb)) (rfl) rfl rfl ?_
      refine sEv (v := (.slice Aa na ca)) (rfl) rfl rfl ?_
      refine sOp rfl (oCall rfl call124 (natural_schoolbook hb ha (by omega) (by omega)) rfl ?_)
      rintro _ w197 ⟨Ar_196, nr_196, cr_196, dr_196, rfl, hE198, hr_196, v_196, ln_196⟩
      have hz199 := hE198.size
      have lr_196 := hr_196.len; have kr_196 := hr_196.cap; have mr_196 := hr_196.max
      refine sEv (v := (.slice Ar_196 nr_196 cr_196)) (rfl) rfl rfl ?_
      refine sDone ?_
      refine xN (hK195 _ _ ?_)
      refine wp_ret (xR ?_)
      refine ret1 (.slice Ar_196 nr_196 cr_196) Try.results116 (resT rfl) ?_
      exact ⟨Ar_196, nr_196, cr_196, dr_196, rfl, hE198, (NatR.sub hr_196 q5), (by rw [Nat.mul_comm (val da)]; exact v_196), (by omega)⟩
    · refine sEv (v := (.bool false)) (evLss false rfl rfl (dF hc194)) rfl rfl ?_
      refine sDone ?_
      refine xN (hK193 _ _ ?_)
      refine cF rfl ?_
      refine wp_skip ?_
      refine xN (hK192 _ _ ?_)
      refine wp_seq_k fun K201 hK201 => ?_
      refine wp_region_lit ?_
      refine sEv (v := (.slice Aa na ca)) (rfl) rfl rfl ?_
      refine sEv (v := (.int .i64 ((na : Int)))) (evLen Try.underlying44 rfl) rfl rfl ?_
      refine sEv (v := (.slice Ab nb cb)) (rfl) rfl rfl ?_
      refine sEv (v := (.int .i64 ((nb : Int)))) (evLen Try.underlying44 rfl) rfl rfl ?_
      refine sEv (v := (.int .i64 (((na : Int)) + ((nb : Int))))) (evAdd (((na : Int)) + ((nb : Int))) rfl rfl (wI64 (by omega))) rfl rfl ?_
      refine sOp rfl (oMake1 (na + nb) Try.underlying44 inf62 rfl (congrArg (Value.int .i64) (by omega)) (congrArg (Value.int .i64) (by omega)) (by omega) (by omega) ?_)
      intro g202 w203 hg204 hE205 hz206 hB207
      have hB208 : Blk w203 g202 62 (((List.replicate (na + nb) 0)).map u32) := by rw [List.map_replicate]; exact hB207
      refine sEv (v := (.slice (some ⟨g202, 0, none⟩) (na + nb) (na + nb))) (rfl) rfl rfl ?_
      refine sDone ?_
      refine xN (hK201 _ _ ?_)
      refine wp_seq_k fun K209 hK209 => ?_
      refine wp_seq_k fun K210 hK210 => ?_
      refine wp_region_lit ?_
      refine sEv (v := (.slice Aa na ca)) (rfl) rfl rfl ?_
      have h211 := (ha.ext hE205)
      refine sOp rfl (oCall rfl call94 (natural_IsZero h211) rfl ?_)
      rintro _ w213 ⟨gr_212, rfl, hE214, e_212⟩
      have hz215 := hE214.size
      refine sEv (v := (.bool gr_212)) (rfl) rfl rfl ?_
      cases gr_212
      · refine sEv (v := (.slice Ab nb cb)) (rfl) rfl rfl ?_
        have h216 := (hb.ext (hE205.trans hE214))
        refine sOp rfl (oCall rfl call94 (natural_IsZero h216) rfl ?_)
        rintro _ w218 ⟨gr_217, rfl, hE219, e_217⟩
        have hz220 := hE219.size
        refine sEv (v := (.bool gr_217)) (rfl) rfl rfl ?_
        refine sDone ?_
        refine xN (hK210 _ _ ?_)
        refine cB gr_217 rfl ?_ ?_
        · intro hc221
          subst hc221
          refine wp_seq_k fun K222 hK222 => ?_
          refine wp_region_lit ?_
          refine sEv (v := (.slice (some ⟨g202, 0, none⟩) (na + nb) (na + nb))) (rfl) rfl rfl ?_
          refine sEv (v := (.slice (some ⟨g202, 0, none⟩) (na + nb) (na + nb))) (rfl) rfl rfl ?_
          refine sDone ?_
          refine xN (hK222 _ _ ?_)
          refine wp_ret (xR ?_)
          refine ret1 (.slice (some ⟨g202, 0, none⟩) (na + nb) (na + nb)) Try.results116 (resT rfl) ?_
          have hB223 := (hB208.ext (hE214.trans hE219))
          have h224 : NatR w218 (fun b => b = g202) (some ⟨g202, 0, none⟩) (na + nb) (na + nb) (List.replicate (na + nb) 0) := NatR.of_blk hB223 rfl (lt_zeros _) (by exact lq) (by omega) (by unfold CapMax; omega)
          exact ⟨(some ⟨g202, 0, none⟩), (na + nb), (na + nb), (List.replicate (na + nb) 0), rfl, ((hE205.trans hE214).trans hE219), (NatR.sub h224 q5), (by rw [val_zeros, zmul2 (of_decide_eq_true e_217.symm)]), (by omega)⟩
        · intro hc221
          subst hc221
          refine wp_skip ?_
          refine xN (hK209 _ _ ?_)
          refine wp_seq_k fun K225 hK225 => ?_
          refine wp_region_lit ?_
          refine sEv (v := (.slice Aa na ca)) (rfl) rfl rfl ?_
          refine sEv (v := (.int .i64 ((na : Int)))) (evLen Try.underlying44 rfl) rfl rfl ?_
          refine sEv (v := (.int .i64 (((na : Int)) + 1))) (evAdd (((na : Int)) + 1) rfl rfl (wI64 (by omega))) rfl rfl ?_
          refine sEv (v := (.int .i64 ((((na + 1) / 2 : Nat) : Int)))) (evQuo ((((na + 1) / 2 : Nat) : Int)) rfl rfl (by omega) (quoI (by omega) (by omega))) rfl rfl ?_
          refine sEv (v := (.int .i64 ((((na + 1) / 2 : Nat) : Int)))) (rfl) rfl rfl ?_
          refine sDone ?_
          refine xN (hK225 _ _ ?_)
          refine wp_seq_k fun K226 hK226 => ?_
          refine wp_seq_k fun K227 hK227 => ?_
          refine wp_region_lit ?_
          refine sEv (v := (.slice Ab nb cb)) (rfl) rfl rfl ?_
          refine sEv (v := (.int .i64 ((nb : Int)))) (evLen Try.underlying44 rfl) rfl rfl ?_
          refine sEv (v := (.int .i64 ((((na + 1) / 2 : Nat) : Int)))) (rfl) rfl rfl ?_
          by_cases hc228 : ((nb : Int)) ≤ ((((na + 1) / 2 : Nat) : Int))
          · refine sEv (v := (.bool true)) (evLeq true rfl rfl (dT hc228)) rfl rfl ?_
            refine sDone ?_
            refine xN (hK227 _ _ ?_)
            refine cT rfl ?_
            refine wp_seq_k fun K229 hK229 => ?_
            refine wp_region_lit ?_
            refine sEv (v := (.slice (some ⟨g202, 0, none⟩) (na + nb) (na + nb))) (rfl) rfl rfl ?_
            refine sEv (v := (.slice Aa na ca)) (rfl) rfl rfl ?_
            refine sEv (v := (.int .i64 ((((na + 1) / 2 : Nat) : Int)))) (rfl) rfl rfl ?_
            have h230 := (h211.ext (hE214.trans hE219))
            have h231 := h230.take (m := (na + 1) / 2) (by omega)
            refine sEv (v := (.slice Aa ((na + 1) / 2) ca)) (evSliceHi ((na + 1) / 2) Try.underlying44 sz62 rfl rfl (by omega) (by omega)) rfl rfl ?_
            refine sEv (v := (.slice Ab nb cb)) (rfl) rfl rfl ?_
            have h233 := (h216.ext hE219)
            refine sOp rfl (oCall rfl call116 (ih h231 h233 (by omega) (by omega)) rfl ?_)
            rintro _ w235 ⟨Ar_234, nr_234, cr_234, dr_234, rfl, hE236, hr_234, v_234, ln_234⟩
            have hz237 := hE236.size
            have lr_234 := hr_234.len; have kr_234 := hr_234.cap; have mr_234 := hr_234.max
            have hB239 := (hB208.ext ((hE214.trans hE219).trans hE236))
            refine sOp rfl (oCopy Try.underlying44 sz62 rfl rfl hr_234.1 (u32s_one _) hB239 (by omega) (by exact lq) ?_)
            intro w240 hU241 hz242 hB243
            replace hB243 : Blk w240 g202 62 ((dr_234 ++ List.replicate (na + nb - nr_234) 0).map u32) := by rw [← (copy_first lr_234 (by omega) : (List.replicate (na + nb) 0).take 0 ++ dr_234 ++ (List.replicate (na + nb) 0).drop (0 + nr_234) = dr_234 ++ List.replicate (na + nb - nr_234) 0), List.map_append, List.map_append, List.map_take, List.map_drop]; exact hB243
            rw [put_mkA]
            refine sDone ?_
            refine xN (hK229 _ _ ?_)
            refine wp_seq_k fun K244 hK244 => ?_
            refine dBegin (fun b => b = g202) mixed ?_
            intro w245 hE246 hz247
            refine dEv 0 rfl (v := (.slice (some ⟨g202, 0, none⟩) (na + nb) (na + nb))) (fun _ _ => rfl) rfl rfl (by kernel_rfl) ?_
            refine dEv 1 rfl (v := (.int .i64 ((((na + 1) / 2 : Nat) : Int)))) (fun _ _ => rfl) rfl rfl (by kernel_rfl) ?_
            refine dEv 2 rfl (v := (.slice (some ⟨g202, (na + 1) / 2, none⟩) ((na + nb) - ((na + 1) / 2)) ((na + nb) - ((na + 1) / 2)))) (fun _ _ => evSliceLoAt ((na + 1) / 2) Try.underlying44 sz62 rfl rfl (by omega) (by omega) (by omega) (by omega) ((na + 1) / 2) (by omega)) rfl rfl (by kernel_rfl) ?_
            refine dEv 3 rfl (v := (.slice Aa na ca)) (fun _ _ => rfl) rfl rfl (by kernel_rfl) ?_
            refine dEv 4 rfl (v := (.int .i64 ((((na + 1) / 2 : Nat) : Int)))) (fun _ _ => rfl) rfl rfl (by kernel_rfl) ?_
            have h248 := (h230.frmB (((Frm.of_ext (G := fun b => (b = g202)) hE236).trans hU241).trans (Frm.of_ext (G := fun b => (b = g202)) hE246)) q3)
            have h251 := h248.drop (m := (na + 1) / 2) (by omega)
            refine dEv 5 rfl (v := (.slice (if ca = ((na + 1) / 2) then Aa else Aa.map (·.add (((na + 1) / 2) * 1))) (na - ((na + 1) / 2)) (ca - ((na + 1) / 2)))) (fun _ _ => evSliceLo ((na + 1) / 2) Try.underlying44 sz62 rfl rfl (by omega) (by omega) (by omega)) rfl rfl (by kernel_rfl) ?_
            generalize (if ca = ((na + 1) / 2) then Aa else Aa.map (·.add (((na + 1) / 2) * 1))) = A249 at *
            refine dEv 6 rfl (v := (.slice Ab nb cb)) (fun _ _ => rfl) rfl rfl (by kernel_rfl) ?_
            have h253 := (h233.frmB (((Frm.of_ext (G := fun b => (b = g202)) hE236).trans hU241).trans (Frm.of_ext (G := fun b => (b = g202)) hE246)) q3)
            refine dOp 7 rfl rfl (by kernel_rfl) (oCall rfl call116 (ih h251 h253 (by omega) (by omega)) rfl ?_)
            rintro _ w255 ⟨Ar_254, nr_254, cr_254, dr_254, rfl, hE256, hr_254, v_254, ln_254⟩
            refine ⟨(Frm.of_ext hE256), ?_⟩
            have hz257 := hE256.size
            have lr_254 := hr_254.len; have kr_254 := hr_254.cap; have mr_254 := hr_254.max
            refine dOp 8 rfl rfl (by kernel_rfl) (oCall rfl call99 (natural_trim hr_254) rfl ?_)
            rintro _ w260 ⟨Ar_259, nr_259, cr_259, dr_259, rfl, hE261, hr_259, e_259, le_259⟩
            refine ⟨(Frm.of_ext hE261), ?_⟩
            have hz262 := hE261.size
            have lr_259 := hr_259.len; have kr_259 := hr_259.cap; have mr_259 := hr_259.max
            have hB264 := (hB243.ext ((hE246.trans hE256).trans hE261))
            refine dOp 9 rfl rfl (by kernel_rfl) (oCall rfl call125 (natural_addInto (Uz := (dr_234 ++ List.replicate (na + nb - nr_234) 0).take ((na + 1) / 2)) (Zz := (dr_234 ++ List.replicate (na + nb - nr_234) 0).drop ((na + 1) / 2)) (by rw [List.take_append_drop]; exact hB264) (by exact lq) (by exact lq) (by rw [List.take_append_drop]; exact (lt_fill hr_234.2)) (by omega) (by omega) (NatR.sub hr_259 q5) (by omega)) rfl ?_)
            rintro _ w266 ⟨Zr_265, cr_265, rfl, hE267, B_265, ln_265, lt_265, e_265⟩
            refine ⟨hE267, ?_⟩
            have hz268 := hE267.size
            refine dDone (by kernel_rfl) ?_
            refine xN (hK244 _ _ ?_)
            refine wp_seq_k fun K269 hK269 => ?_
            refine wp_region_lit ?_
            refine sEv (v := (.slice (some ⟨g202, 0, none⟩) (na + nb) (na + nb))) (rfl) rfl rfl ?_
            refine sEv (v := (.slice (some ⟨g202, 0, none⟩) (na + nb) (na + nb))) (rfl) rfl rfl ?_
            refine sDone ?_
            refine xN (hK269 _ _ ?_)
            refine wp_ret (xR ?_)
            refine ret1 (.slice (some ⟨g202, 0, none⟩) (na + nb) (na + nb)) Try.results116 (resT rfl) ?_
            have h270 : NatR w266 (fun b => b = g202) (some ⟨g202, 0, none⟩) (na + nb) (na + nb) ((dr_234 ++ List.replicate (na + nb - nr_234) 0).take ((na + 1) / 2) ++ Zr_265) := NatR.of_blk B_265 rfl lt_265 (by exact lq) (by omega) (by unfold CapMax; omega)
            exact ⟨(some ⟨g202, 0, none⟩), (na + nb), (na + nb), ((dr_234 ++ List.replicate (na + nb - nr_234) 0).take ((na + 1) / 2) ++ Zr_265), rfl, (Frm.mono (((((((((Frm.of_ext (G := fun b => (b = g202)) hE205).trans (Frm.of_ext (G := fun b => (b = g202)) hE214)).trans (Frm.of_ext (G := fun b => (b = g202)) hE219)).trans (Frm.of_ext (G := fun b => (b = g202)) hE236)).trans hU241).trans (Frm.of_ext (G := fun b => (b = g202)) hE246)).trans (Frm.of_ext (G := fun b => (b = g202)) hE256)).trans (Frm.of_ext (G := fun b => (b = g202)) hE261)).trans hE267) q4), (NatR.sub h270 q5), (kara_short (lo := dr_234) (hi := dr_259) (h := ((na + 1) / 2)) (n := na + nb) (by omega) ha.2 hb.2 (by omega) v_234 (by rw [e_259, val_trim, v_254]) (by omega) (by omega) ln_265 e_265), (by omega)⟩
          · refine sEv (v := (.bool false)) (evLeq false rfl rfl (dF hc228)) rfl rfl ?_
            refine sDone ?_
            refine xN (hK227 _ _ ?_)
            refine cF rfl ?_
            refine wp_skip ?_
            refine xN (hK226 _ _ ?_)
            refine wp_seq_k fun K271 hK271 => ?_
            refine dBegin (fun _ => False) mixed ?_
            intro w272 hE273 hz274
            refine dEv 0 rfl (v := (.slice Aa na ca)) (fun _ _ => rfl) rfl rfl (by kernel_rfl) ?_
            refine dEv 1 rfl (v := (.int .i64 ((((na + 1) / 2 : Nat) : Int)))) (fun _ _ => rfl) rfl rfl (by kernel_rfl) ?_
            have h275 := (h211.ext ((hE214.trans hE219).trans hE273))
            have h276 := h275.take (m := (na + 1) / 2) (by omega)
            refine dEv 2 rfl (v := (.slice Aa ((na + 1) / 2) ca)) (fun _ _ => evSliceHi ((na + 1) / 2) Try.underlying44 sz62 rfl rfl (by omega) (by omega)) rfl rfl (by kernel_rfl) ?_
            refine dEv 3 rfl (v := (.slice Ab nb cb)) (fun _ _ => rfl) rfl rfl (by kernel_rfl) ?_
            refine dEv 4 rfl (v := (.int .i64 ((((na + 1) / 2 : Nat) : Int)))) (fun _ _ => rfl) rfl rfl (by kernel_rfl) ?_
            have h278 := (h216.ext (hE219.trans hE273))
            have h279 := h278.take (m := (na + 1) / 2) (by omega)
            refine dEv 5 rfl (v := (.slice Ab ((na + 1) / 2) cb)) (fun _ _ => evSliceHi ((na + 1) / 2) Try.underlying44 sz62 rfl rfl (by omega) (by omega)) rfl rfl (by kernel_rfl) ?_
            refine dOp 6 rfl rfl (by kernel_rfl) (oCall rfl call116 (ih h276 h279 (by omega) (by omega)) rfl ?_)
            rintro _ w282 ⟨Ar_281, nr_281, cr_281, dr_281, rfl, hE283, hr_281, v_281, ln_281⟩
            refine ⟨(Frm.of_ext hE283), ?_⟩
            have hz284 := hE283.size
            have lr_281 := hr_281.len; have kr_281 := hr_281.cap; have mr_281 := hr_281.max
            refine dEv 7 rfl (v := (.slice Ar_281 nr_281 cr_281)) (fun _ _ => rfl) rfl rfl (by kernel_rfl) ?_
            refine dDone (by kernel_rfl) ?_
            refine xN (hK271 _ _ ?_)
            refine wp_seq_k fun K286 hK286 => ?_
            refine dBegin (fun _ => False) mixed ?_
            intro w287 hE288 hz289
            refine dEv 0 rfl (v := (.slice Aa na ca)) (fun _ _ => rfl) rfl rfl (by kernel_rfl) ?_
            refine dEv 1 rfl (v := (.int .i64 ((((na + 1) / 2 : Nat) : Int)))) (fun _ _ => rfl) rfl rfl (by kernel_rfl) ?_
            have h290 := (h275.ext (hE283.trans hE288))
            have h293 := h290.drop (m := (na + 1) / 2) (by omega)
            refine dEv 2 rfl (v := (.slice (if ca = ((na + 1) / 2) then Aa else Aa.map (·.add (((na + 1) / 2) * 1))) (na - ((na + 1) / 2)) (ca - ((na + 1) / 2)))) (fun _ _ => evSliceLo ((na + 1) / 2) Try.underlying44 sz62 rfl rfl (by omega) (by omega) (by omega)) rfl rfl (by kernel_rfl) ?_
            generalize (if ca = ((na + 1) / 2) then Aa else Aa.map (·.add (((na + 1) / 2) * 1))) = A291 at *
            refine dEv 3 rfl (v := (.slice Ab nb cb)) (fun _ _ => rfl) rfl rfl (by kernel_rfl) ?_
            refine dEv 4 rfl (v := (.int .i64 ((((na + 1) / 2 : Nat) : Int)))) (fun _ _ => rfl) rfl rfl (by kernel_rfl) ?_
            have h295 := (h278.ext (hE283.trans hE288))
            have h298 := h295.drop (m := (na + 1) / 2) (by omega)
            refine dEv 5 rfl (v := (.slice (if cb = ((na + 1) / 2) then Ab else Ab.map (·.add (((na + 1) / 2) * 1))) (nb - ((na + 1) / 2)) (cb - ((na + 1) / 2)))) (fun _ _ => evSliceLo ((na + 1) / 2) Try.underlying44 sz62 rfl rfl (by omega) (by omega) (by omega)) rfl rfl (by kernel_rfl) ?_
            generalize (if cb = ((na + 1) / 2) then Ab else Ab.map (·.add (((na + 1) / 2) * 1))) = A296 at *
            refine dOp 6 rfl rfl (by kernel_rfl) (oCall rfl call116 (ih h293 h298 (by omega) (by omega)) rfl ?_)
            rintro _ w301 ⟨Ar_300, nr_300, cr_300, dr_300, rfl, hE302, hr_300, v_300, ln_300⟩
            refine ⟨(Frm.of_ext hE302), ?_⟩
            have hz303 := hE302.size
            have lr_300 := hr_300.len; have kr_300 := hr_300.cap; have mr_300 := hr_300.max
            refine dEv 7 rfl (v := (.slice Ar_300 nr_300 cr_300)) (fun _ _ => rfl) rfl rfl (by kernel_rfl) ?_
            refine dDone (by kernel_rfl) ?_
            refine xN (hK286 _ _ ?_)
            refine wp_seq_k fun K305 hK305 => ?_
            refine dBegin (fun _ => False) mixed ?_
            intro w306 hE307 hz308
            refine dEv 0 rfl (v := (.slice Aa na ca)) (fun _ _ => rfl) rfl rfl (by kernel_rfl) ?_
            refine dEv 1 rfl (v := (.int .i64 ((((na + 1) / 2 : Nat) : Int)))) (fun _ _ => rfl) rfl rfl (by kernel_rfl) ?_
            have h309 := (h290.ext (hE302.trans hE307))
            have h310 := h309.take (m := (na + 1) / 2) (by omega)
            refine dEv 2 rfl (v := (.slice Aa ((na + 1) / 2) ca)) (fun _ _ => evSliceHi ((na + 1) / 2) Try.underlying44 sz62 rfl rfl (by omega) (by omega)) rfl rfl (by kernel_rfl) ?_
            refine dEv 3 rfl (v := (.slice Aa na ca)) (fun _ _ => rfl) rfl rfl (by kernel_rfl) ?_
            refine dEv 4 rfl (v := (.int .i64 ((((na + 1) / 2 : Nat) : Int)))) (fun _ _ => rfl) rfl rfl (by kernel_rfl) ?_
            have h314 := h309.drop (m := (na + 1) / 2) (by omega)
            refine dEv 5 rfl (v := (.slice (if ca = ((na + 1) / 2) then Aa else Aa.map (·.add (((na + 1) / 2) * 1))) (na - ((na + 1) / 2)) (ca - ((na + 1) / 2)))) (fun _ _ => evSliceLo ((na + 1) / 2) Try.underlying44 sz62 rfl rfl (by omega) (by omega) (by omega)) rfl rfl (by kernel_rfl) ?_
            generalize (if ca = ((na + 1) / 2) then Aa else Aa.map (·.add (((na + 1) / 2) * 1))) = A312 at *
            refine dEv 7 rfl (v := (.slice Ab nb cb)) (fun _ _ => rfl) rfl rfl (by kernel_rfl) ?_
            refine dEv 8 rfl (v := (.int .i64 ((((na + 1) / 2 : Nat) : Int)))) (fun _ _ => rfl) rfl rfl (by kernel_rfl) ?_
            have h316 := (h295.ext (hE302.trans hE307))
            have h317 := h316.take (m := (na + 1) / 2) (by omega)
            refine dEv 9 rfl (v := (.slice Ab ((na + 1) / 2) cb)) (fun _ _ => evSliceHi ((na + 1) / 2) Try.underlying44 sz62 rfl rfl (by omega) (by omega)) rfl rfl (by kernel_rfl) ?_
            refine dEv 10 rfl (v := (.slice Ab nb cb)) (fun _ _ => rfl) rfl rfl (by kernel_rfl) ?_
            refine dEv 11 rfl (v := (.int .i64 ((((na + 1) / 2 : Nat) : Int)))) (fun _ _ => rfl) rfl rfl (by kernel_rfl) ?_
            have h321 := h316.drop (m := (na + 1) / 2) (by omega)
            refine dEv 12 rfl (v := (.slice (if cb = ((na + 1) / 2) then Ab else Ab.map (·.add (((na + 1) / 2) * 1))) (nb - ((na + 1) / 2)) (cb - ((na + 1) / 2)))) (fun _ _ => evSliceLo ((na + 1) / 2) Try.underlying44 sz62 rfl rfl (by omega) (by omega) (by omega)) rfl rfl (by kernel_rfl) ?_
            generalize (if cb = ((na + 1) / 2) then Ab else Ab.map (·.add (((na + 1) / 2) * 1))) = A319 at *
            refine dOp 6 rfl rfl (by kernel_rfl) (oCall rfl call89 (natural_Add h310 h314 (by omega) (by omega)) rfl ?_)
            rintro _ w324 ⟨Ar_323, nr_323, cr_323, dr_323, rfl, hE325, hr_323, v_323, cn_323, le_323⟩
            refine ⟨(Frm.of_ext hE325), ?_⟩
            have hz326 := hE325.size
            have lr_323 := hr_323.len; have kr_323 := hr_323.cap; have mr_323 := hr_323.max
            have h328 := (h317.ext hE325)
            have h329 := (h321.ext hE325)
            refine dOp 13 rfl rfl (by kernel_rfl) (oCall rfl call89 (natural_Add h328 h329 (by omega) (by omega)) rfl ?_)
            rintro _ w331 ⟨Ar_330, nr_330, cr_330, dr_330, rfl, hE332, hr_330, v_330, cn_330, le_330⟩
            refine ⟨(Frm.of_ext hE332), ?_⟩
            have hz333 := hE332.size
            have lr_330 := hr_330.len; have kr_330 := hr_330.cap; have mr_330 := hr_330.max
            have h335 := (hr_323.ext hE332)
            refine dOp 14 rfl rfl (by kernel_rfl) (oCall rfl call116 (ih h335 hr_330 (by omega) (by omega)) rfl ?_)
            rintro _ w337 ⟨Ar_336, nr_336, cr_336, dr_336, rfl, hE338, hr_336, v_336, ln_336⟩
            refine ⟨(Frm.of_ext hE338), ?_⟩
            have hz339 := hE338.size
            have lr_336 := hr_336.len; have kr_336 := hr_336.cap; have mr_336 := hr_336.max
            refine dEv 15 rfl (v := (.slice Ar_336 nr_336 cr_336)) (fun _ _ => rfl) rfl rfl (by kernel_rfl) ?_
            refine dDone (by kernel_rfl) ?_
            refine xN (hK305 _ _ ?_)
            refine wp_seq_k fun K341 hK341 => ?_
            refine wp_region_lit ?_
            refine sEv (v := (.slice Ar_336 nr_336 cr_336)) (rfl) rfl rfl ?_
            refine sEv (v := (.slice Ar_281 nr_281 cr_281)) (rfl) rfl rfl ?_
            refine sEv (v := (.slice Ar_300 nr_300 cr_300)) (rfl) rfl rfl ?_
            have h342 := (hr_281.ext (((((hE288.trans hE302).trans hE307).trans hE325).trans hE332).trans hE338))
            have h343 := (hr_300.ext (((hE307.trans hE325).trans hE332).trans hE338))
            refine sOp rfl (oCall rfl call89 (natural_Add h342 h343 (by omega) (by omega)) rfl ?_)
            rintro _ w345 ⟨Ar_344, nr_344, cr_344, dr_344, rfl, hE346, hr_344, v_344, cn_344, le_344⟩
            have hz347 := hE346.size
            have lr_344 := hr_344.len; have kr_344 := hr_344.cap; have mr_344 := hr_344.max
            have h349 := (hr_336.ext hE346)
            refine sOp rfl (oCall rfl call90 (natural_Sub h349 hr_344 (by omega) (by omega)) rfl ?_)
            rintro _ w351 ⟨Ar_350, nr_350, cr_350, dr_350, gk_350, rfl, hE352, hr_350, k_350, v_350, cn_350, le_350⟩
            have hz353 := hE352.size
            have lr_350 := hr_350.len; have kr_350 := hr_350.cap; have mr_350 := hr_350.max
            refine sEv (v := (.tuple #[(.slice Ar_350 nr_350 cr_350), (.bool gk_350)])) (rfl) rfl rfl ?_
            refine sEv (v := (.slice Ar_350 nr_350 cr_350)) (rfl) rfl rfl ?_
            refine sEv (v := (.bool gk_350)) (rfl) rfl rfl ?_
            refine sEv (v := (.slice Ar_350 nr_350 cr_350)) (rfl) rfl rfl ?_
            refine sDone ?_
            refine xN (hK341 _ _ ?_)
            refine wp_seq_k fun K355 hK355 => ?_
            refine wp_region_lit ?_
            refine sEv (v := (.slice (some ⟨g202, 0, none⟩) (na + nb) (na + nb))) (rfl) rfl rfl ?_
            refine sEv (v := (.slice Ar_281 nr_281 cr_281)) (rfl) rfl rfl ?_
            have hB356 := (hB208.ext (((((((((((hE214.trans hE219).trans hE273).trans hE283).trans hE288).trans hE302).trans hE307).trans hE325).trans hE332).trans hE338).trans hE346).trans hE352))
            have h357 := (h342.ext (hE346.trans hE352))
            refine sOp rfl (oCopy Try.underlying44 sz62 rfl rfl h357.1 (u32s_one _) hB356 (by omega) (by exact lq) ?_)
            intro w358 hU359 hz360 hB361
            replace hB361 : Blk w358 g202 62 ((dr_281 ++ List.replicate (na + nb - nr_281) 0).map u32) := by rw [← (copy_first lr_281 (by omega) : (List.replicate (na + nb) 0).take 0 ++ dr_281 ++ (List.replicate (na + nb) 0).drop (0 + nr_281) = dr_281 ++ List.replicate (na + nb - nr_281) 0), List.map_append, List.map_append, List.map_take, List.map_drop]; exact hB361
            rw [put_mkA]
            refine sDone ?_
            refine xN (hK355 _ _ ?_)
            refine wp_seq_k fun K362 hK362 => ?_
            refine wp_region_lit ?_
            refine sEv (v := (.slice (some ⟨g202, 0, none⟩) (na + nb) (na + nb))) (rfl) rfl rfl ?_
            refine sEv (v := (.int .i64 ((((na + 1) / 2 : Nat) : Int)))) (rfl) rfl rfl ?_
            refine sEv (v := (.int .i64 (2 * ((((na + 1) / 2 : Nat) : Int))))) (evMul (2 * ((((na + 1) / 2 : Nat) : Int))) rfl rfl (wI64 (by omega))) rfl rfl ?_
            refine sEv (v := (.slice (some ⟨g202, 2 * ((na + 1) / 2), none⟩) ((na + nb) - (2 * ((na + 1) / 2))) ((na + nb) - (2 * ((na + 1) / 2))))) (evSliceLoAt (2 * ((na + 1) / 2)) Try.underlying44 sz62 rfl rfl (by omega) (by omega) (by omega) (by omega) (2 * ((na + 1) / 2)) (by omega)) rfl rfl ?_
            refine sEv (v := (.slice Ar_300 nr_300 cr_300)) (rfl) rfl rfl ?_
            have h363 := (h343.frmB (((Frm.of_ext (G := fun b => (b = g202)) hE346).trans (Frm.of_ext (G := fun b => (b = g202)) hE352)).trans hU359) q3)
            rw [show na + nb - nr_281 = nr_300 by omega] at hB361
            refine sOp rfl (oCopy Try.underlying44 sz62 rfl rfl h363.1 (u32s_one _) hB361 (by omega) (by exact lq) ?_)
            intro w364 hU365 hz366 hB367
            replace hB367 : Blk w364 g202 62 ((dr_281 ++ dr_300).map u32) := by rw [← (copy_second (lr_281.trans (by omega)) lr_300 (by omega) : (dr_281 ++ List.replicate nr_300 0).take (2 * ((na + 1) / 2)) ++ dr_300 ++ (dr_281 ++ List.replicate nr_300 0).drop ((2 * ((na + 1) / 2)) + nr_300) = dr_281 ++ dr_300), List.map_append, List.map_append, List.map_take, List.map_drop]; exact hB367
            rw [put_mkA]
            refine sDone ?_
            refine xN (hK362 _ _ ?_)
            refine wp_seq_k fun K368 hK368 => ?_
            refine wp_region_lit ?_
            refine sEv (v := (.slice (some ⟨g202, 0, none⟩) (na + nb) (na + nb))) (rfl) rfl rfl ?_
            refine sEv (v := (.int .i64 ((((na + 1) / 2 : Nat) : Int)))) (rfl) rfl rfl ?_
            refine sEv (v := (.slice (some ⟨g202, (na + 1) / 2, none⟩) ((na + nb) - ((na + 1) / 2)) ((na + nb) - ((na + 1) / 2)))) (evSliceLoAt ((na + 1) / 2) Try.underlying44 sz62 rfl rfl (by omega) (by omega) (by omega) (by omega) ((na + 1) / 2) (by omega)) rfl rfl ?_
            have hmid : val dr_350 = val (da.take ((na + 1) / 2)) * val (db.drop ((na + 1) / 2)) + val (da.drop ((na + 1) / 2)) * val (db.take ((na + 1) / 2)) := kara_mid (m := val dr_336) (by rw [v_336, v_323, v_330]) v_281 v_300 (by rw [v_350, v_344])
            have hml := lt_val_len cn_350 (kara_mid_lt (h := ((na + 1) / 2)) (n := na + nb) (by omega) (by omega) ha.2 hb.2 (by omega) hmid)
            refine sEv (v := (.slice Ar_350 nr_350 cr_350)) (rfl) rfl rfl ?_
            have h369 := (hr_350.frmB (hU359.trans hU365) q3)
            refine sOp rfl (oCall rfl call125 (natural_addInto (Uz := (dr_281 ++ dr_300).take ((na + 1) / 2)) (Zz := (dr_281 ++ dr_300).drop ((na + 1) / 2)) (by rw [List.take_append_drop]; exact hB367) (by exact lq) (by exact lq) (by rw [List.take_append_drop]; exact (lt_app hr_281.2 hr_300.2)) (by omega) (by omega) (NatR.sub h369 q5) (by omega)) rfl ?_)
            rintro _ w371 ⟨Zr_370, cr_370, rfl, hE372, B_370, ln_370, lt_370, e_370⟩
            have hz373 := hE372.size
            refine sDone ?_
            refine xN (hK368 _ _ ?_)
            refine wp_seq_k fun K374 hK374 => ?_
            refine wp_region_lit ?_
            refine sEv (v := (.slice (some ⟨g202, 0, none⟩) (na + nb) (na + nb))) (rfl) rfl rfl ?_
            refine sEv (v := (.slice (some ⟨g202, 0, none⟩) (na + nb) (na + nb))) (rfl) rfl rfl ?_
            refine sDone ?_
            refine xN (hK374 _ _ ?_)
            refine wp_ret ?_
            refine ret1 (.slice (some ⟨g202, 0, none⟩) (na + nb) (na + nb)) Try.results116 (resT rfl) ?_
            have h375 : NatR w371 (fun b => b = g202) (some ⟨g202, 0, none⟩) (na + nb) (na + nb) ((dr_281 ++ dr_300).take ((na + 1) / 2) ++ Zr_370) := NatR.of_blk B_370 rfl lt_370 (by exact lq) (by omega) (by unfold CapMax; omega)
            exact ⟨(some ⟨g202, 0, none⟩), (na + nb), (na + nb), ((dr_281 ++ dr_300).take ((na + 1) / 2) ++ Zr_370), rfl, (Frm.mono ((((((((((((((((Frm.of_ext (G := fun b => (b = g202)) hE205).trans (Frm.of_ext (G := fun b => (b = g202)) hE214)).trans (Frm.of_ext (G := fun b => (b = g202)) hE219)).trans (Frm.of_ext (G := fun b => (b = g202)) hE273)).trans (Frm.of_ext (G := fun b => (b = g202)) hE283)).trans (Frm.of_ext (G := fun b => (b = g202)) hE288)).trans (Frm.of_ext (G := fun b => (b = g202)) hE302)).trans (Frm.of_ext (G := fun b => (b = g202)) hE307)).trans (Frm.of_ext (G := fun b => (b = g202)) hE325)).trans (Frm.of_ext (G := fun b => (b = g202)) hE332)).trans (Frm.of_ext (G := fun b => (b = g202)) hE338)).trans (Frm.of_ext (G := fun b => (b = g202)) hE346)).trans (Frm.of_ext (G := fun b => (b = g202)) hE352)).trans hU359).trans hU365).trans hE372) q4), (NatR.sub h375 q5), (kara_full (h := ((na + 1) / 2)) (n := na + nb) (by omega) (by omega) ha.2 hb.2 (by omega) v_281 v_300 hmid (by omega) (by omega) ln_370 e_370), (by omega)⟩
      · refine sSkip rfl rfl ?_
        refine sSkip rfl rfl ?_
        refine sEv (v := (.bool true)) (rfl) rfl rfl ?_
        refine sDone ?_
        refine xN (hK210 _ _ ?_)
        refine cT rfl ?_
        refine wp_seq_k fun K376 hK376 => ?_
        refine wp_region_lit ?_
        refine sEv (v := (.slice (some ⟨g202, 0, none⟩) (na + nb) (na + nb))) (rfl) rfl rfl ?_
        refine sEv (v := (.slice (some ⟨g202, 0, none⟩) (na + nb) (na + nb))) (rfl) rfl rfl ?_
        refine sDone ?_
        refine xN (hK376 _ _ ?_)
        refine wp_ret (xR ?_)
        refine ret1 (.slice (some ⟨g202, 0, none⟩) (na + nb) (na + nb)) Try.results116 (resT rfl) ?_
        have hB377 := (hB208.ext hE214)
        have h378 : NatR w213 (fun b => b = g202) (some ⟨g202, 0, none⟩) (na + nb) (na + nb) (List.replicate (na + nb) 0) := NatR.of_blk hB377 rfl (lt_zeros _) (by exact lq) (by omega) (by unfold CapMax; omega)
        exact ⟨(some ⟨g202, 0, none⟩), (na + nb), (na + nb), (List.replicate (na + nb) 0), rfl, (hE205.trans hE214), (NatR.sub h378 q5), (by rw [val_zeros, zmul1 (of_decide_eq_true e_212.symm)]), (by omega)⟩
theorem natural_product_all (N : Nat) : ∀ {w : World} {Sa : Nat → Prop} {Aa : Option Addr} {na ca : Nat} {da : List Nat} {Sb : Nat → Prop} {Ab : Option Addr} {nb cb : Nat} {db : List Nat} (ha : NatR w Sa Aa na ca da) (hb : NatR w Sb Ab nb cb db) (hna : na + nb ≤ 1099511627776) (hN : na + nb ≤ N), Calls Try.prog 116 #[(.slice Aa na ca), (.slice Ab nb cb)] w (Ret fun v w' => ∃ (Ar : Option Addr) (nr : Nat) (cr : Nat) (dr : List Nat), v = (.slice Ar nr cr) ∧ Ext w w' ∧ NatR w' (fun b => w.heap.size ≤ b) Ar nr cr dr ∧ (val dr = val da * val db) ∧ (nr = na + nb)) := by
  induction N with
  | zero => intros; exact natural_product_step 0 (by intros; omega) (by assumption) (by assumption) (by omega) (by omega)
  | succ N ih => intros; exact natural_product_step (N + 1) (by intros; exact ih (by assumption) (by assumption) (by omega) (by omega)) (by assumption) (by assumption) (by omega) (by omega)
theorem natural_product {w : World} {Sa : Nat → Prop} {Aa : Option Addr} {na ca : Nat} {da : List Nat} {Sb : Nat → Prop} {Ab : Option Addr} {nb cb : Nat} {db : List Nat} (ha : NatR w Sa Aa na ca da) (hb : NatR w Sb Ab nb cb db) (hna : na + nb ≤ 1099511627776) : Calls Try.prog 116 #[(.slice Aa na ca), (.slice Ab nb cb)] w (Ret fun v w' => ∃ (Ar : Option Addr) (nr : Nat) (cr : Nat) (dr : List Nat), v = (.slice Ar nr cr) ∧ Ext w w' ∧ NatR w' (fun b => w.heap.size ≤ b) Ar nr cr dr ∧ (val dr = val da * val db) ∧ (nr = na + nb)) := natural_product_all (na + nb) ha hb hna (Nat.le_refl _)

theorem natural_Mul {w : World} {Sa : Nat → Prop} {Aa : Option Addr} {na ca : Nat} {da : List Nat} {Sb : Nat → Prop} {Ab : Option Addr} {nb cb : Nat} {db : List Nat} (ha : NatR w Sa Aa na ca da) (hb : NatR w Sb Ab nb cb db) (hna : na + nb ≤ 1099511627776) : Calls Try.prog 96 #[(.slice Aa na ca), (.slice Ab nb cb)] w (Ret fun v w' => ∃ (Ar : Option Addr) (nr : Nat) (cr : Nat) (dr : List Nat), v = (.slice Ar nr cr) ∧ Ext w w' ∧ NatR w' (fun b => w.heap.size ≤ b) Ar nr cr dr ∧ (val dr = val da * val db) ∧ (Canon isZ dr) ∧ (nr ≤ na + nb)) := by
  have la := ha.len; have ka := ha.cap; have ma := ha.max
  replace ha := ha.low
  have lb := hb.len; have kb := hb.cap; have mb := hb.max
  replace hb := hb.low
  refine enter Try.func96 rfl Try.ntmps96 rfl ?_
  refine wp_seq_k fun K1 hK1 => ?_
  refine wp_region_lit ?_
  refine sEv (v := (.slice none 0 0)) (rfl) rfl rfl ?_
  refine sDone ?_
  refine xN (hK1 _ _ ?_)
  refine wp_seq_k fun K2 hK2 => ?_
  refine wp_region_lit ?_
  refine sEv (v := (.slice Aa na ca)) (rfl) rfl rfl ?_
  refine sOp rfl (oCall rfl call99 (natural_trim ha) rfl ?_)
  rintro _ w4 ⟨Ar_3, nr_3, cr_3, dr_3, rfl, hE5, hr_3, e_3, le_3⟩
  have hz6 := hE5.size
  have lr_3 := hr_3.len; have kr_3 := hr_3.cap; have mr_3 := hr_3.max
  refine sEv (v := (.slice Ab nb cb)) (rfl) rfl rfl ?_
  have h8 := (hb.ext hE5)
  refine sOp rfl (oCall rfl call99 (natural_trim h8) rfl ?_)
  rintro _ w10 ⟨Ar_9, nr_9, cr_9, dr_9, rfl, hE11, hr_9, e_9, le_9⟩
  have hz12 := hE11.size
  have lr_9 := hr_9.len; have kr_9 := hr_9.cap; have mr_9 := hr_9.max
  have h14 := (hr_3.ext hE11)
  refine sOp rfl (oCall rfl call116 (natural_product h14 hr_9 (by omega)) rfl ?_)
  rintro _ w16 ⟨Ar_15, nr_15, cr_15, dr_15, rfl, hE17, hr_15, v_15, ln_15⟩
  have hz18 := hE17.size
  have lr_15 := hr_15.len; have kr_15 := hr_15.cap; have mr_15 := hr_15.max
  refine sOp rfl (oCall rfl call99 (natural_trim hr_15) rfl ?_)
  rintro _ w21 ⟨Ar_20, nr_20, cr_20, dr_20, rfl, hE22, hr_20, e_20, le_20⟩
  have hz23 := hE22.size
  have lr_20 := hr_20.len; have kr_20 := hr_20.cap; have mr_20 := hr_20.max
  refine sEv (v := (.slice Ar_20 nr_20 cr_20)) (rfl) rfl rfl ?_
  refine sDone ?_
  refine xN (hK2 _ _ ?_)
  refine wp_ret ?_
  refine ret1 (.slice Ar_20 nr_20 cr_20) Try.results96 (resT rfl) ?_
  exact ⟨Ar_20, nr_20, cr_20, dr_20, rfl, (((hE5.trans hE11).trans hE17).trans hE22), (NatR.sub hr_20 q5), (by rw [e_20, val_trim, v_15, e_3, e_9, val_trim, val_trim]), (by rw [e_20]; exact canon_trim _ _), (by omega)⟩

end Go.Proofs.Ytppegjbdencefaa
