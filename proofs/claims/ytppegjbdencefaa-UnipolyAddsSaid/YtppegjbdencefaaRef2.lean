/-
  Walks of package cylinderref01: digits of bits, products.
-/
import Derived.Test.YtppegjbdencefaaRef1
namespace Go.Proofs.Ytppegjbdencefaa
open Go.RowKit Go.Gx
theorem ref01_To {w : World} {Sb : Nat → Prop} {Ab : Option Addr} {nb cb : Nat} {db : List Nat} (hb : DigR 2 w Sb Ab nb cb db) (hnb : nb ≤ 1099511627776) : Calls Try.prog 102 #[(.slice Ab nb cb)] w (Ret fun v w' => ∃ (Ar : Option Addr) (nr : Nat) (cr : Nat) (dr : List Nat), v = (.slice Ar nr cr) ∧ Ext w w' ∧ NatR w' (fun b => w.heap.size ≤ b) Ar nr cr dr ∧ (val dr = vb 2 db) ∧ (Canon isZ dr) ∧ (nr ≤ (nb + 31) / 32)) := by
  have lb := hb.len; have kb := hb.cap; have mb := hb.max
  replace hb := hb.low
  refine enter Try.func102 rfl Try.ntmps102 rfl ?_
  refine wp_seq_k fun K1 hK1 => ?_
  refine wp_region_lit ?_
  refine sEv (v := (.slice none 0 0)) (rfl) rfl rfl ?_
  refine sDone ?_
  refine xN (hK1 _ _ ?_)
  refine wp_seq_k fun K2 hK2 => ?_
  refine wp_region_lit ?_
  refine sEv (v := (.slice Ab nb cb)) (rfl) rfl rfl ?_
  refine sOp rfl (oCall rfl call74 (ref01_Trim hb) rfl ?_)
  rintro _ w4 ⟨Ar_3, nr_3, cr_3, dr_3, rfl, hE5, hr_3, e_3, le_3⟩
  have hz6 := hE5.size
  have lr_3 := hr_3.len; have kr_3 := hr_3.cap; have mr_3 := hr_3.max
  refine sEv (v := (.slice Ar_3 nr_3 cr_3)) (rfl) rfl rfl ?_
  refine sDone ?_
  refine xN (hK2 _ _ ?_)
  refine wp_seq_k fun K8 hK8 => ?_
  refine wp_region_lit ?_
  refine sEv (v := (.slice none 0 0)) (rfl) rfl rfl ?_
  refine sDone ?_
  refine xN (hK8 _ _ ?_)
  refine wp_seq_k fun K9 hK9 => ?_
  refine wp_seq_k fun K10 hK10 => ?_
  refine wp_region_lit ?_
  refine sEv (v := (.int .i64 (0))) (rfl) rfl rfl ?_
  refine sDone ?_
  refine xN (hK10 _ _ ?_)
  refine wp_block ?_
  refine lLoop (fun m e w_ => ∃ (k : Nat) (L : Nat) (P : List Nat) (Ao : Option Addr) (co : Nat), m = nr_3 - k ∧ e 0 = (.slice Ar_3 nr_3 cr_3) ∧ e 3 = (.slice Ao L co) ∧ e 4 = (.int .i64 ((k : Int))) ∧ Frm (fun b => w4.heap.size ≤ b) w4 w_ ∧ (k ≤ nr_3) ∧ (L = (k + 31) / 32) ∧ (P.length = L) ∧ (∀ d ∈ P, d < BS) ∧ (val P = vb 2 (dr_3.take k)) ∧ (Own w_ w4.heap.size 62 1 Ao L co (P.map u32))) (nr_3 - (0)) ?_ ?_
  · refine ⟨(0), (0), ([]), (none), (0), rfl, rfl, rfl, (congrArg (Value.int .i64) (by omega)), (Frm.refl _ _), ?_, ?_, ?_, ?_, ?_, ?_⟩
    · omega
    · omega
    · rfl
    · simp
    · simp [val, vb]
    · exact Own.nil
  · rintro m11 e18 w12 ⟨k, L, P, Ao, co, hm17, hs13, hs14, hs15, hF16, hk, hL, hP, hlt, hv, hO⟩
    obtain ⟨r19, rfl⟩ := sq (e := e18) (t := 0) hs13
    obtain ⟨r20, rfl⟩ := sq (e := r19) (t := 3) hs14
    obtain ⟨r21, rfl⟩ := sq (e := r20) (t := 4) hs15
    have hz22 := hF16.size
    refine wp_seq_k fun K23 hK23 => ?_
    refine wp_seq_k fun K24 hK24 => ?_
    refine wp_region_lit ?_
    refine sEv (v := (.int .i64 ((k : Int)))) (rfl) rfl rfl ?_
    refine sEv (v := (.slice Ar_3 nr_3 cr_3)) (rfl) rfl rfl ?_
    refine sEv (v := (.int .i64 ((nr_3 : Int)))) (evLen Try.underlying29 rfl) rfl rfl ?_
    by_cases hc25 : ((k : Int)) < ((nr_3 : Int))
    · refine sEv (v := (.bool true)) (evLss true rfl rfl (dT hc25)) rfl rfl ?_
      refine sDone ?_
      refine xN (hK24 _ _ ?_)
      refine cT rfl ?_
      refine wp_skip ?_
      refine xN (hK23 _ _ ?_)
      refine wp_seq_k fun K26 hK26 => ?_
      refine wp_block ?_
      refine wp_seq_k fun K27 hK27 => ?_
      refine wp_seq_k fun K28 hK28 => ?_
      refine wp_region_lit ?_
      refine sEv (v := (.int .i64 ((k : Int)))) (rfl) rfl rfl ?_
      refine sEv (v := (.int .i64 (((k % 32 : Nat) : Int)))) (evRem (((k % 32 : Nat) : Int)) rfl rfl (by omega) (remE (by omega) (by omega))) rfl rfl ?_
      by_cases hc29 : (((k % 32 : Nat) : Int)) = 0
      · refine sEv (v := (.bool true)) (evEql true rfl rfl (dT hc29)) rfl rfl ?_
        refine sDone ?_
        refine xN (hK28 _ _ ?_)
        refine cT rfl ?_
        refine wp_region_lit ?_
        refine sEv (v := (.slice Ao L co)) (rfl) rfl rfl ?_
        refine sOp rfl (oBuildSlice [(.int .u32 (0))] [[(.int .u32 (0))]] Try.underlying43 inf62 rfl rfl rfl rfl rfl ?_)
        intro g30 w31 hg32 hE33 hz34 hB35
        replace hB35 : Blk w31 g30 62 [(.int .u32 (0))] := hB35
        have hO36 := (hO.ext hE33)
        refine sOp rfl (oApp (B := w4.heap.size) (cs := (P).map u32) Try.underlying43 inf62 rfl (by decide) rfl rfl hO36 hB35 rfl rfl (by omega) (by omega) (by omega) ?_)
        intro A37 c38 w39 hO40 hF41 _ _
        replace hO40 : Own w39 w4.heap.size 62 1 A37 (L + 1) c38 ((P ++ [0]).map u32) := by rw [List.map_append]; exact hO40
        refine sEv (v := (.slice A37 (L + 1) c38)) (rfl) rfl rfl ?_
        refine sDone ?_
        refine xN (hK27 _ _ ?_)
        have hmx := hO40.max; have hcap := hO40.cap
        obtain ⟨g42, sp43, rfl, hg44, hB45, hl46⟩ := hO40.open_ (by omega)
        have hlt3 := hB45.lt
        have hvv : val (P ++ [0]) = vb 2 (dr_3.take k) := by rw [val_snoc_zero]; exact hv
        have h47 := (hr_3.frmB ((hF16.trans (Frm.of_ext (G := fun b => (w4.heap.size ≤ b)) hE33)).trans hF41) q3)
        have hsb := to_step hvv h47.2 (by exact lq)
        have hsh := bit_shift (k := k) (s := 32) (m := 31) h47.2 (by omega)
        simp only [show (2 : Nat) ^ 31 = 2147483648 from rfl] at hsh
        refine dBegin (fun b => b = g42) mixed ?_
        intro w48 hE49 hz50
        refine dEv 0 rfl (v := (.slice (some ⟨g42, 0, none⟩) (L + 1) c38)) (fun _ _ => rfl) rfl rfl (by kernel_rfl) ?_
        refine dEv 1 rfl (v := (.int .i64 ((k : Int)))) (fun _ _ => rfl) rfl rfl (by kernel_rfl) ?_
        refine dEv 2 rfl (v := (.int .i64 (((k / 32 : Nat) : Int)))) (fun _ _ => evQuo (((k / 32 : Nat) : Int)) rfl rfl (by omega) (quoEi64 (by omega) (by omega) (by omega))) rfl rfl (by kernel_rfl) ?_
        refine dEv 3 rfl (v := (.pointer (some ⟨g42, k / 32, none⟩))) (fun _ _ => evIndex (k / 32) Try.underlying43 sz62 rfl rfl (by omega) (by omega) (k / 32) (by omega)) rfl rfl (by kernel_rfl) ?_
        refine dEv 5 rfl (v := (.slice Ar_3 nr_3 cr_3)) (fun _ _ => rfl) rfl rfl (by kernel_rfl) ?_
        refine dEv 6 rfl (v := (.int .i64 ((k : Int)))) (fun _ _ => rfl) rfl rfl (by kernel_rfl) ?_
        have h51 := (h47.ext hE49)
        obtain ⟨b52, o53, rfl⟩ := h51.base (by omega)
        refine dEv 7 rfl (v := (.pointer (some ⟨b52, o53 + k, none⟩))) (fun _ _ => evIndex k Try.underlying29 sz3 rfl rfl (by omega) (by omega) (o53 + k) (by omega)) rfl rfl (by kernel_rfl) ?_
        have hd54 := h51.lt k
        refine dEv 8 rfl (v := (.int .i64 (((dr_3.getD k 0 : Nat) : Int)))) (fun _ hf => evLoad one3 rfl ((h51.frm hf q2).cell (by omega))) rfl rfl (by kernel_rfl) ?_
        refine dEv 9 rfl (v := (.int .u32 (((dr_3.getD k 0 : Nat) : Int)))) (fun _ _ => evConv (((dr_3.getD k 0 : Nat) : Int)) Try.underlying3 Try.underlying62 rfl (wU32 (by omega))) rfl rfl (by kernel_rfl) ?_
        refine dEv 10 rfl (v := (.int .i64 ((k : Int)))) (fun _ _ => rfl) rfl rfl (by kernel_rfl) ?_
        refine dEv 11 rfl (v := (.int .i64 (((k % 32 : Nat) : Int)))) (fun _ _ => evRem (((k % 32 : Nat) : Int)) rfl rfl (by omega) (remE (by omega) (by omega))) rfl rfl (by kernel_rfl) ?_
        refine dEv 12 rfl (v := (.int .u64 (((k % 32 : Nat) : Int)))) (fun _ _ => evConv _ Try.underlying3 Try.underlying90 rfl (wU64 (by omega))) rfl rfl (by kernel_rfl) ?_
        refine dEv 13 rfl (v := (.int .u32 (((dr_3.getD k 0 * 2 ^ (k % 32) : Nat) : Int)))) (fun _ _ => evShl (((dr_3.getD k 0 * 2 ^ (k % 32) : Nat) : Int)) rfl rfl (by omega) (shlE32 (by omega) (by omega) (by omega) (by omega))) rfl rfl (by kernel_rfl) ?_
        have hB55 := (hB45.ext hE49)
        have hd56 := vgetD_lt (P := P ++ [0]) (i := k / 32) (vlt_snoc hlt (by decide)) (by decide)
        refine dOp 4 rfl rfl (by kernel_rfl) (oEv (v := (.int .u32 ((((P ++ [0]).getD (k / 32) 0 : Nat) : Int)))) (evLoad one62 rfl (hB55.appdig (by exact lq))) rfl ⟨Frm.refl _ _, ?_⟩)
        refine dEv 14 rfl (v := (.int .u32 (((((P ++ [0]).getD (k / 32) 0) + (dr_3.getD k 0 * 2 ^ (k % 32)) : Nat) : Int)))) (fun _ _ => evAdd (((((P ++ [0]).getD (k / 32) 0) + (dr_3.getD k 0 * 2 ^ (k % 32)) : Nat) : Int)) rfl rfl (wU32 (by omega))) rfl rfl (by kernel_rfl) ?_
        refine dEv 15 rfl (v := (.pointer (some ⟨g42, k / 32, none⟩))) (fun _ _ => evIndex (k / 32) Try.underlying43 sz62 rfl rfl (by omega) (by omega) (k / 32) (by omega)) rfl rfl (by kernel_rfl) ?_
        refine dOp 16 rfl rfl (by kernel_rfl) (oStore1 rfl rfl rfl sz62 hB55 (by exact lq) ?_)
        intro w57 hU58 hz59 hB60
        replace hB60 : Blk w57 g42 62 (((P ++ [0]).set (k / 32) (((P ++ [0]).getD (k / 32) 0) + (dr_3.getD k 0 * 2 ^ (k % 32)))).map u32 ++ sp43) := (app_set (ds := P ++ [0]) (i := k / 32) (by exact lq)) ▸ hB60
        refine ⟨hU58, ?_⟩
        refine dDone (by kernel_rfl) ?_
        refine bN ?_
        refine xN (hK26 _ _ ?_)
        refine wp_region_lit ?_
        refine sEv (v := (.int .i64 ((k : Int)))) (rfl) rfl rfl ?_
        refine sEv (v := (.int .i64 (((k : Int)) + 1))) (evAdd (((k : Int)) + 1) rfl rfl (wI64 (by omega))) rfl rfl ?_
        refine sEv (v := (.int .i64 (((k : Int)) + 1))) (rfl) rfl rfl ?_
        refine sDone ?_
        refine again (nr_3 - (k + 1)) (by omega) ⟨(k + 1), (L + 1), ((P ++ [0]).set (k / 32) (((P ++ [0]).getD (k / 32) 0) + (dr_3.getD k 0 * 2 ^ (k % 32)))), ((some ⟨g42, 0, none⟩)), (c38), rfl, rfl, rfl, (congrArg (Value.int .i64) (by omega)), (Frm.mono (((((hF16.mono (G' := fun b => (w4.heap.size ≤ b) ∨ (b = g42)) fun _ _ h => .inl h).trans (Frm.of_ext (G := fun b => (w4.heap.size ≤ b) ∨ (b = g42)) hE33)).trans (hF41.mono (G' := fun b => (w4.heap.size ≤ b) ∨ (b = g42)) fun _ _ h => .inl h)).trans (Frm.of_ext (G := fun b => (w4.heap.size ≤ b) ∨ (b = g42)) hE49)).trans (hU58.mono (G' := fun b => (w4.heap.size ≤ b) ∨ (b = g42)) fun _ _ h => .inr h)) q4), ?_, ?_, ?_, ?_, ?_, ?_⟩
        · omega
        · omega
        · simp; omega
        · exact vlt_set (vlt_snoc hlt (by decide)) (by show _ < 4294967296; omega)
        · exact hsb.2
        · exact Own.close hg44 hB60 (by simp at hl46 ⊢; omega) (by simp; omega) (by unfold CapMax; omega)
      · refine sEv (v := (.bool false)) (evEql false rfl rfl (dF hc29)) rfl rfl ?_
        refine sDone ?_
        refine xN (hK28 _ _ ?_)
        refine cF rfl ?_
        refine wp_skip ?_
        refine xN (hK27 _ _ ?_)
        have hmx := hO.max; have hcap := hO.cap
        obtain ⟨g61, sp62, rfl, hg63, hB64, hl65⟩ := hO.open_ (by omega)
        have hlt3 := hB64.lt
        have hvv : val (P) = vb 2 (dr_3.take k) := hv
        have h66 := (hr_3.frmB hF16 q3)
        have hsb := to_step hvv h66.2 (by exact lq)
        have hsh := bit_shift (k := k) (s := 32) (m := 31) h66.2 (by omega)
        simp only [show (2 : Nat) ^ 31 = 2147483648 from rfl] at hsh
        refine dBegin (fun b => b = g61) mixed ?_
        intro w67 hE68 hz69
        refine dEv 0 rfl (v := (.slice (some ⟨g61, 0, none⟩) L co)) (fun _ _ => rfl) rfl rfl (by kernel_rfl) ?_
        refine dEv 1 rfl (v := (.int .i64 ((k : Int)))) (fun _ _ => rfl) rfl rfl (by kernel_rfl) ?_
        refine dEv 2 rfl (v := (.int .i64 (((k / 32 : Nat) : Int)))) (fun _ _ => evQuo (((k / 32 : Nat) : Int)) rfl rfl (by omega) (quoEi64 (by omega) (by omega) (by omega))) rfl rfl (by kernel_rfl) ?_
        refine dEv 3 rfl (v := (.pointer (some ⟨g61, k / 32, none⟩))) (fun _ _ => evIndex (k / 32) Try.underlying43 sz62 rfl rfl (by omega) (by omega) (k / 32) (by omega)) rfl rfl (by kernel_rfl) ?_
        refine dEv 5 rfl (v := (.slice Ar_3 nr_3 cr_3)) (fun _ _ => rfl) rfl rfl (by kernel_rfl) ?_
        refine dEv 6 rfl (v := (.int .i64 ((k : Int)))) (fun _ _ => rfl) rfl rfl (by kernel_rfl) ?_
        have h70 := (h66.ext hE68)
        obtain ⟨b71, o72, rfl⟩ := h70.base (by omega)
        refine dEv 7 rfl (v := (.pointer (some ⟨b71, o72 + k, none⟩))) (fun _ _ => evIndex k Try.underlying29 sz3 rfl rfl (by omega) (by omega) (o72 + k) (by omega)) rfl rfl (by kernel_rfl) ?_
        have hd73 := h70.lt k
        refine dEv 8 rfl (v := (.int .i64 (((dr_3.getD k 0 : Nat) : Int)))) (fun _ hf => evLoad one3 rfl ((h70.frm hf q2).cell (by omega))) rfl rfl (by kernel_rfl) ?_
        refine dEv 9 rfl (v := (.int .u32 (((dr_3.getD k 0 : Nat) : Int)))) (fun _ _ => evConv (((dr_3.getD k 0 : Nat) : Int)) Try.underlying3 Try.underlying62 rfl (wU32 (by omega))) rfl rfl (by kernel_rfl) ?_
        refine dEv 10 rfl (v := (.int .i64 ((k : Int)))) (fun _ _ => rfl) rfl rfl (by kernel_rfl) ?_
        refine dEv 11 rfl (v := (.int .i64 (((k % 32 : Nat) : Int)))) (fun _ _ => evRem (((k % 32 : Nat) : Int)) rfl rfl (by omega) (remE (by omega) (by omega))) rfl rfl (by kernel_rfl) ?_
        refine dEv 12 rfl (v := (.int .u64 (((k % 32 : Nat) : Int)))) (fun _ _ => evConv _ Try.underlying3 Try.underlying90 rfl (wU64 (by omega))) rfl rfl (by kernel_rfl) ?_
        refine dEv 13 rfl (v := (.int .u32 (((dr_3.getD k 0 * 2 ^ (k % 32) : Nat) : Int)))) (fun _ _ => evShl (((dr_3.getD k 0 * 2 ^ (k % 32) : Nat) : Int)) rfl rfl (by omega) (shlE32 (by omega) (by omega) (by omega) (by omega))) rfl rfl (by kernel_rfl) ?_
        have hB74 := (hB64.ext hE68)
        have hd75 := vgetD_lt (P := P) (i := k / 32) hlt (by decide)
        refine dOp 4 rfl rfl (by kernel_rfl) (oEv (v := (.int .u32 (((P.getD (k / 32) 0 : Nat) : Int)))) (evLoad one62 rfl (hB74.appdig (by exact lq))) rfl ⟨Frm.refl _ _, ?_⟩)
        refine dEv 14 rfl (v := (.int .u32 ((((P.getD (k / 32) 0) + (dr_3.getD k 0 * 2 ^ (k % 32)) : Nat) : Int)))) (fun _ _ => evAdd ((((P.getD (k / 32) 0) + (dr_3.getD k 0 * 2 ^ (k % 32)) : Nat) : Int)) rfl rfl (wU32 (by omega))) rfl rfl (by kernel_rfl) ?_
        refine dEv 15 rfl (v := (.pointer (some ⟨g61, k / 32, none⟩))) (fun _ _ => evIndex (k / 32) Try.underlying43 sz62 rfl rfl (by omega) (by omega) (k / 32) (by omega)) rfl rfl (by kernel_rfl) ?_
        refine dOp 16 rfl rfl (by kernel_rfl) (oStore1 rfl rfl rfl sz62 hB74 (by exact lq) ?_)
        intro w76 hU77 hz78 hB79
        replace hB79 : Blk w76 g61 62 (((P).set (k / 32) ((P.getD (k / 32) 0) + (dr_3.getD k 0 * 2 ^ (k % 32)))).map u32 ++ sp62) := (app_set (ds := P) (i := k / 32) (by exact lq)) ▸ hB79
        refine ⟨hU77, ?_⟩
        refine dDone (by kernel_rfl) ?_
        refine bN ?_
        refine xN (hK26 _ _ ?_)
        refine wp_region_lit ?_
        refine sEv (v := (.int .i64 ((k : Int)))) (rfl) rfl rfl ?_
        refine sEv (v := (.int .i64 (((k : Int)) + 1))) (evAdd (((k : Int)) + 1) rfl rfl (wI64 (by omega))) rfl rfl ?_
        refine sEv (v := (.int .i64 (((k : Int)) + 1))) (rfl) rfl rfl ?_
        refine sDone ?_
        refine again (nr_3 - (k + 1)) (by omega) ⟨(k + 1), (L), ((P).set (k / 32) ((P.getD (k / 32) 0) + (dr_3.getD k 0 * 2 ^ (k % 32)))), ((some ⟨g61, 0, none⟩)), (co), rfl, rfl, rfl, (congrArg (Value.int .i64) (by omega)), (Frm.mono (((hF16.mono (G' := fun b => (w4.heap.size ≤ b) ∨ (b = g61)) fun _ _ h => .inl h).trans (Frm.of_ext (G := fun b => (w4.heap.size ≤ b) ∨ (b = g61)) hE68)).trans (hU77.mono (G' := fun b => (w4.heap.size ≤ b) ∨ (b = g61)) fun _ _ h => .inr h)) q4), ?_, ?_, ?_, ?_, ?_, ?_⟩
        · omega
        · omega
        · simp; omega
        · exact vlt_set hlt (by show _ < 4294967296; omega)
        · exact hsb.2
        · exact Own.close hg63 hB79 (by simp at hl65 ⊢; omega) (by simp; omega) (by unfold CapMax; omega)
    · refine sEv (v := (.bool false)) (evLss false rfl rfl (dF hc25)) rfl rfl ?_
      refine sDone ?_
      refine xN (hK24 _ _ ?_)
      refine cF rfl ?_
      refine wp_exit (xE (xE (bE ?_)))
      refine xN (hK9 _ _ ?_)
      refine wp_seq_k fun K80 hK80 => ?_
      refine wp_region_lit ?_
      refine sEv (v := (.slice Ao L co)) (rfl) rfl rfl ?_
      refine sEv (v := (.slice Ao L co)) (rfl) rfl rfl ?_
      refine sDone ?_
      refine xN (hK80 _ _ ?_)
      refine wp_ret ?_
      refine ret1 (.slice Ao L co) Try.results102 (resT rfl) ?_
      exact ⟨Ao, L, co, P, rfl, (Frm.mono ((Frm.of_ext (G := fun b => (w4.heap.size ≤ b)) hE5).trans hF16) q4), (NatR.sub (Own.natR hO hlt) q5), (by rw [hv, vb_all dr_3 (by omega), e_3, vb_trim]), (to_canon (bs := dr_3) (by rw [e_3]; exact canon_trim _ _) rfl (by omega) hlt (by omega) hv), (by omega)⟩

theorem ref01_Is {w : World} {Sa : Nat → Prop} {Aa : Option Addr} {na ca : Nat} {da : List Nat} {Sb : Nat → Prop} {Ab : Option Addr} {nb cb : Nat} {db : List Nat} (ha : NatR w Sa Aa na ca da) (hb : DigR 2 w Sb Ab nb cb db) (hnb : nb ≤ 1099511627776) (hc : Canon isZ da) (hv : val da = vb 2 db) : Calls Try.prog 81 #[(.slice Aa na ca), (.slice Ab nb cb)] w (Ret fun v w' => ∃ (gr : Bool), v = (.bool gr) ∧ Ext w w' ∧ (gr = true)) := by
  have la := ha.len; have ka := ha.cap; have ma := ha.max
  replace ha := ha.low
  have lb := hb.len; have kb := hb.cap; have mb := hb.max
  replace hb := hb.low
  refine enter Try.func81 rfl Try.ntmps81 rfl ?_
  refine wp_seq_k fun K1 hK1 => ?_
  refine wp_region_lit ?_
  refine sEv (v := (.bool false)) (rfl) rfl rfl ?_
  refine sDone ?_
  refine xN (hK1 _ _ ?_)
  refine wp_seq_k fun K2 hK2 => ?_
  refine wp_region_lit ?_
  refine sEv (v := (.slice Ab nb cb)) (rfl) rfl rfl ?_
  refine sOp rfl (oCall rfl call102 (ref01_To hb (by omega)) rfl ?_)
  rintro _ w4 ⟨Ar_3, nr_3, cr_3, dr_3, rfl, hE5, hr_3, v_3, cn_3, le_3⟩
  have hz6 := hE5.size
  have lr_3 := hr_3.len; have kr_3 := hr_3.cap; have mr_3 := hr_3.max
  have hEq := canon_val_inj ha.2 hr_3.2 hc cn_3 (hv.trans v_3.symm)
  have hln : na = nr_3 := by rw [← la, ← lr_3, hEq]
  refine sEv (v := (.slice Ar_3 nr_3 cr_3)) (rfl) rfl rfl ?_
  refine sDone ?_
  refine xN (hK2 _ _ ?_)
  refine wp_seq_k fun K8 hK8 => ?_
  refine wp_seq_k fun K9 hK9 => ?_
  refine wp_region_lit ?_
  refine sEv (v := (.slice Aa na ca)) (rfl) rfl rfl ?_
  refine sEv (v := (.int .i64 ((na : Int)))) (evLen Try.underlying43 rfl) rfl rfl ?_
  refine sEv (v := (.slice Ar_3 nr_3 cr_3)) (rfl) rfl rfl ?_
  refine sEv (v := (.int .i64 ((nr_3 : Int)))) (evLen Try.underlying43 rfl) rfl rfl ?_
  refine sEv (v := (.bool false)) (evNeq false rfl rfl (dF (by omega))) rfl rfl ?_
  refine sDone ?_
  refine xN (hK9 _ _ ?_)
  refine cF rfl ?_
  refine wp_skip ?_
  refine xN (hK8 _ _ ?_)
  refine wp_seq_k fun K10 hK10 => ?_
  refine wp_seq_k fun K11 hK11 => ?_
  refine wp_region_lit ?_
  refine sEv (v := (.int .i64 (0))) (rfl) rfl rfl ?_
  refine sDone ?_
  refine xN (hK11 _ _ ?_)
  refine wp_block ?_
  refine lLoop (fun m e w_ => ∃ (k : Nat), m = na - k ∧ e 0 = (.slice Aa na ca) ∧ e 5 = (.slice Ar_3 nr_3 cr_3) ∧ e 6 = (.int .i64 ((k : Int))) ∧ Frm (fun b => False) w4 w_ ∧ (k ≤ na)) (na - (0)) ?_ ?_
  · refine ⟨(0), rfl, rfl, rfl, (congrArg (Value.int .i64) (by omega)), (Frm.refl _ _), ?_⟩
    · omega
  · rintro m12 e19 w13 ⟨k, hm18, hs14, hs15, hs16, hF17, hk⟩
    obtain ⟨r20, rfl⟩ := sq (e := e19) (t := 0) hs14
    obtain ⟨r21, rfl⟩ := sq (e := r20) (t := 5) hs15
    obtain ⟨r22, rfl⟩ := sq (e := r21) (t := 6) hs16
    have hz23 := hF17.size
    refine wp_seq_k fun K24 hK24 => ?_
    refine wp_seq_k fun K25 hK25 => ?_
    refine wp_region_lit ?_
    refine sEv (v := (.int .i64 ((k : Int)))) (rfl) rfl rfl ?_
    refine sEv (v := (.slice Aa na ca)) (rfl) rfl rfl ?_
    refine sEv (v := (.int .i64 ((na : Int)))) (evLen Try.underlying43 rfl) rfl rfl ?_
    by_cases hc26 : ((k : Int)) < ((na : Int))
    · refine sEv (v := (.bool true)) (evLss true rfl rfl (dT hc26)) rfl rfl ?_
      refine sDone ?_
      refine xN (hK25 _ _ ?_)
      refine cT rfl ?_
      refine wp_skip ?_
      refine xN (hK24 _ _ ?_)
      refine wp_seq_k fun K27 hK27 => ?_
      refine wp_block ?_
      refine wp_seq_k fun K28 hK28 => ?_
      refine dBegin (fun _ => False) mixed ?_
      intro w29 hE30 hz31
      refine dEv 0 rfl (v := (.slice Aa na ca)) (fun _ _ => rfl) rfl rfl (by kernel_rfl) ?_
      refine dEv 1 rfl (v := (.int .i64 ((k : Int)))) (fun _ _ => rfl) rfl rfl (by kernel_rfl) ?_
      have h32 := (ha.ext ((hE5.trans hF17).trans hE30))
      obtain ⟨b33, o34, rfl⟩ := h32.base (by omega)
      refine dEv 2 rfl (v := (.pointer (some ⟨b33, o34 + k, none⟩))) (fun _ _ => evIndex k Try.underlying43 sz62 rfl rfl (by omega) (by omega) (o34 + k) (by omega)) rfl rfl (by kernel_rfl) ?_
      have hd35 := h32.lt k
      refine dEv 3 rfl (v := (.int .u32 (((da.getD k 0 : Nat) : Int)))) (fun _ hf => evLoad one62 rfl ((h32.ext hf).cell (by omega))) rfl rfl (by kernel_rfl) ?_
      refine dEv 4 rfl (v := (.slice Ar_3 nr_3 cr_3)) (fun _ _ => rfl) rfl rfl (by kernel_rfl) ?_
      refine dEv 5 rfl (v := (.int .i64 ((k : Int)))) (fun _ _ => rfl) rfl rfl (by kernel_rfl) ?_
      have h36 := (hr_3.ext (hF17.trans hE30))
      obtain ⟨b37, o38, rfl⟩ := h36.base (by omega)
      refine dEv 6 rfl (v := (.pointer (some ⟨b37, o38 + k, none⟩))) (fun _ _ => evIndex k Try.underlying43 sz62 rfl rfl (by omega) (by omega) (o38 + k) (by omega)) rfl rfl (by kernel_rfl) ?_
      have hd39 := h36.lt k
      refine dEv 7 rfl (v := (.int .u32 (((dr_3.getD k 0 : Nat) : Int)))) (fun _ hf => evLoad one62 rfl ((h36.ext hf).cell (by omega))) rfl rfl (by kernel_rfl) ?_
      refine dEv 8 rfl (v := (.bool false)) (fun _ _ => evNeq false rfl rfl (dF (by rw [hEq]; simp))) rfl rfl (by kernel_rfl) ?_
      refine dDone (by kernel_rfl) ?_
      refine xN (hK28 _ _ ?_)
      refine cF rfl ?_
      refine wp_skip ?_
      refine bN ?_
      refine xN (hK27 _ _ ?_)
      refine wp_region_lit ?_
      refine sEv (v := (.int .i64 ((k : Int)))) (rfl) rfl rfl ?_
      refine sEv (v := (.int .i64 (((k : Int)) + 1))) (evAdd (((k : Int)) + 1) rfl rfl (wI64 (by omega))) rfl rfl ?_
      refine sEv (v := (.int .i64 (((k : Int)) + 1))) (rfl) rfl rfl ?_
      refine sDone ?_
      refine again (na - (k + 1)) (by omega) ⟨(k + 1), rfl, rfl, rfl, (congrArg (Value.int .i64) (by omega)), (hF17.trans hE30), ?_⟩
      · omega
    · refine sEv (v := (.bool false)) (evLss false rfl rfl (dF hc26)) rfl rfl ?_
      refine sDone ?_
      refine xN (hK25 _ _ ?_)
      refine cF rfl ?_
      refine wp_exit (xE (xE (bE ?_)))
      refine xN (hK10 _ _ ?_)
      refine wp_seq_k fun K40 hK40 => ?_
      refine wp_region_lit ?_
      refine sEv (v := (.bool true)) (rfl) rfl rfl ?_
      refine sDone ?_
      refine xN (hK40 _ _ ?_)
      refine wp_ret ?_
      refine ret1 (.bool true) Try.results81 (resT rfl) ?_
      exact ⟨(true), rfl, (hE5.trans hF17), rfl⟩

theorem ref01_words {w : World} {Sb : Nat → Prop} {Ab : Option Addr} {nb cb : Nat} {db : List Nat} (hb : DigR 2 w Sb Ab nb cb db) (hnb : nb ≤ 1099511627776) : Calls Try.prog 117 #[(.slice Ab nb cb)] w (Ret fun v w' => ∃ (Ar : Option Addr) (nr : Nat) (cr : Nat) (dr : List Nat), v = (.slice Ar nr cr) ∧ Ext w w' ∧ DigR 32768 w' (fun b => w.heap.size ≤ b) Ar nr cr dr ∧ (vb 32768 dr = vb 2 db) ∧ (nr = (nb + 14) / 15)) := by
  have lb := hb.len; have kb := hb.cap; have mb := hb.max
  replace hb := hb.low
  refine enter Try.func117 rfl Try.ntmps117 rfl ?_
  refine wp_seq_k fun K1 hK1 => ?_
  refine wp_region_lit ?_
  refine sEv (v := (.slice none 0 0)) (rfl) rfl rfl ?_
  refine sDone ?_
  refine xN (hK1 _ _ ?_)
  refine wp_seq_k fun K2 hK2 => ?_
  refine wp_region_lit ?_
  refine sEv (v := (.slice Ab nb cb)) (rfl) rfl rfl ?_
  refine sEv (v := (.int .i64 ((nb : Int)))) (evLen Try.underlying29 rfl) rfl rfl ?_
  refine sEv (v := (.int .i64 (((nb : Int)) + 14))) (evAdd (((nb : Int)) + 14) rfl rfl (wI64 (by omega))) rfl rfl ?_
  refine sEv (v := (.int .i64 ((((nb + 14) / 15 : Nat) : Int)))) (evQuo ((((nb + 14) / 15 : Nat) : Int)) rfl rfl (by omega) (quoEi64 (by omega) (by omega) (by omega))) rfl rfl ?_
  refine sOp rfl (oMake1 ((nb + 14) / 15) Try.underlying29 inf3 rfl (congrArg (Value.int .i64) (by omega)) (congrArg (Value.int .i64) (by omega)) (by omega) (by omega) ?_)
  intro g3 w4 hg5 hE6 hz7 hB8
  have hB9 : Blk w4 g3 3 (((List.replicate ((nb + 14) / 15) 0)).map i64n) := by rw [List.map_replicate]; exact hB8
  refine sEv (v := (.slice (some ⟨g3, 0, none⟩) ((nb + 14) / 15) ((nb + 14) / 15))) (rfl) rfl rfl ?_
  refine sDone ?_
  refine xN (hK2 _ _ ?_)
  refine wp_seq_k fun K10 hK10 => ?_
  refine wp_seq_k fun K11 hK11 => ?_
  refine wp_region_lit ?_
  refine sEv (v := (.int .i64 (0))) (rfl) rfl rfl ?_
  refine sDone ?_
  refine xN (hK11 _ _ ?_)
  refine wp_block ?_
  refine lLoop (fun m e w_ => ∃ (k : Nat) (P : List Nat), m = nb - k ∧ e 0 = (.slice Ab nb cb) ∧ e 3 = (.slice (some ⟨g3, 0, none⟩) ((nb + 14) / 15) ((nb + 14) / 15)) ∧ e 4 = (.int .i64 ((k : Int))) ∧ Frm (fun b => b = g3) w4 w_ ∧ Blk w_ g3 3 (P.map i64n) ∧ (k ≤ nb) ∧ (P.length = (nb + 14) / 15) ∧ (∀ d ∈ P, d < 32768) ∧ (vb 32768 P = vb 2 (db.take k))) (nb - (0)) ?_ ?_
  · refine ⟨(0), (List.replicate ((nb + 14) / 15) 0), rfl, rfl, rfl, (congrArg (Value.int .i64) (by omega)), (Frm.refl _ _), ?_, ?_, ?_, ?_, ?_⟩
    · exact hB9
    · omega
    · simp
    · exact vlt_zeros (by decide) _
    · simp [vb, vb_zeros]
  · rintro m12 e20 w13 ⟨k, P, hm19, hs14, hs15, hs16, hF17, hB18, hk, hP, hlt, hv⟩
    obtain ⟨r21, rfl⟩ := sq (e := e20) (t := 0) hs14
    obtain ⟨r22, rfl⟩ := sq (e := r21) (t := 3) hs15
    obtain ⟨r23, rfl⟩ := sq (e := r22) (t := 4) hs16
    have hz24 := hF17.size
    refine wp_seq_k fun K25 hK25 => ?_
    refine wp_seq_k fun K26 hK26 => ?_
    refine wp_region_lit ?_
    refine sEv (v := (.int .i64 ((k : Int)))) (rfl) rfl rfl ?_
    refine sEv (v := (.slice Ab nb cb)) (rfl) rfl rfl ?_
    refine sEv (v := (.int .i64 ((nb : Int)))) (evLen Try.underlying29 rfl) rfl rfl ?_
    by_cases hc27 : ((k : Int)) < ((nb : Int))
    · refine sEv (v := (.bool true)) (evLss true rfl rfl (dT hc27)) rfl rfl ?_
      refine sDone ?_
      refine xN (hK26 _ _ ?_)
      refine cT rfl ?_
      refine wp_skip ?_
      refine xN (hK25 _ _ ?_)
      refine wp_seq_k fun K28 hK28 => ?_
      refine wp_block ?_
      have hsb := word_step (s := 15) hv hb.2 (by omega)
      have hsh := bit_shift (k := k) (s := 15) (m := 14) hb.2 (by omega)
      simp only [show (2 : Nat) ^ 14 = 16384 from rfl] at hsh
      refine dBegin (fun b => b = g3) mixed ?_
      intro w29 hE30 hz31
      refine dEv 0 rfl (v := (.slice (some ⟨g3, 0, none⟩) ((nb + 14) / 15) ((nb + 14) / 15))) (fun _ _ => rfl) rfl rfl (by kernel_rfl) ?_
      refine dEv 1 rfl (v := (.int .i64 ((k : Int)))) (fun _ _ => rfl) rfl rfl (by kernel_rfl) ?_
      refine dEv 2 rfl (v := (.int .i64 (((k / 15 : Nat) : Int)))) (fun _ _ => evQuo (((k / 15 : Nat) : Int)) rfl rfl (by omega) (quoEi64 (by omega) (by omega) (by omega))) rfl rfl (by kernel_rfl) ?_
      refine dEv 3 rfl (v := (.pointer (some ⟨g3, k / 15, none⟩))) (fun _ _ => evIndex (k / 15) Try.underlying29 sz3 rfl rfl (by omega) (by omega) (k / 15) (by omega)) rfl rfl (by kernel_rfl) ?_
      refine dEv 5 rfl (v := (.slice Ab nb cb)) (fun _ _ => rfl) rfl rfl (by kernel_rfl) ?_
      refine dEv 6 rfl (v := (.int .i64 ((k : Int)))) (fun _ _ => rfl) rfl rfl (by kernel_rfl) ?_
      have h32 := (hb.frmB (((Frm.of_ext (G := fun b => (b = g3)) hE6).trans hF17).trans (Frm.of_ext (G := fun b => (b = g3)) hE30)) q3)
      obtain ⟨b33, o34, rfl⟩ := h32.base (by omega)
      refine dEv 7 rfl (v := (.pointer (some ⟨b33, o34 + k, none⟩))) (fun _ _ => evIndex k Try.underlying29 sz3 rfl rfl (by omega) (by omega) (o34 + k) (by omega)) rfl rfl (by kernel_rfl) ?_
      have hd35 := h32.lt k
      refine dEv 8 rfl (v := (.int .i64 (((db.getD k 0 : Nat) : Int)))) (fun _ hf => evLoad one3 rfl ((h32.frm hf q2).cell (by omega))) rfl rfl (by kernel_rfl) ?_
      refine dEv 9 rfl (v := (.int .i64 ((k : Int)))) (fun _ _ => rfl) rfl rfl (by kernel_rfl) ?_
      refine dEv 10 rfl (v := (.int .i64 (((k % 15 : Nat) : Int)))) (fun _ _ => evRem (((k % 15 : Nat) : Int)) rfl rfl (by omega) (remE (by omega) (by omega))) rfl rfl (by kernel_rfl) ?_
      refine dEv 11 rfl (v := (.int .u64 (((k % 15 : Nat) : Int)))) (fun _ _ => evConv _ Try.underlying3 Try.underlying90 rfl (wU64 (by omega))) rfl rfl (by kernel_rfl) ?_
      refine dEv 12 rfl (v := (.int .i64 (((db.getD k 0 * 2 ^ (k % 15) : Nat) : Int)))) (fun _ _ => evShl (((db.getD k 0 * 2 ^ (k % 15) : Nat) : Int)) rfl rfl (by omega) (shlE64 (by omega) (by omega) (by omega) (by omega))) rfl rfl (by kernel_rfl) ?_
      have hB36 := (hB18.ext hE30)
      have hd37 := vgetD_lt (P := P) (i := k / 15) hlt (by decide)
      refine dOp 4 rfl rfl (by kernel_rfl) (oEv (v := (.int .i64 (((P.getD (k / 15) 0 : Nat) : Int)))) (evLoad one3 rfl (hB36.digi (by exact lq))) rfl ⟨Frm.refl _ _, ?_⟩)
      refine dEv 13 rfl (v := (.int .i64 ((((P.getD (k / 15) 0 : Nat) : Int)) + (((db.getD k 0 * 2 ^ (k % 15) : Nat) : Int))))) (fun _ _ => evAdd ((((P.getD (k / 15) 0 : Nat) : Int)) + (((db.getD k 0 * 2 ^ (k % 15) : Nat) : Int))) rfl rfl (wI64 (by omega))) rfl rfl (by kernel_rfl) ?_
      refine dEv 14 rfl (v := (.pointer (some ⟨g3, k / 15, none⟩))) (fun _ _ => evIndex (k / 15) Try.underlying29 sz3 rfl rfl (by omega) (by omega) (k / 15) (by omega)) rfl rfl (by kernel_rfl) ?_
      refine dOp 15 rfl rfl (by kernel_rfl) (oStore1 rfl (congrArg (Value.int .i64) (by omega : _ = (((P.getD (k / 15) 0) + (db.getD k 0 * 2 ^ (k % 15)) : Nat) : Int))) rfl sz3 hB36 (by exact lq) ?_)
      intro w38 hU39 hz40 hB41
      replace hB41 : Blk w38 g3 3 (((P).set (k / 15) ((P.getD (k / 15) 0) + (db.getD k 0 * 2 ^ (k % 15)))).map i64n) := by rw [List.map_set]; exact hB41
      refine ⟨hU39, ?_⟩
      refine dDone (by kernel_rfl) ?_
      refine bN ?_
      refine xN (hK28 _ _ ?_)
      refine wp_region_lit ?_
      refine sEv (v := (.int .i64 ((k : Int)))) (rfl) rfl rfl ?_
      refine sEv (v := (.int .i64 (((k : Int)) + 1))) (evAdd (((k : Int)) + 1) rfl rfl (wI64 (by omega))) rfl rfl ?_
      refine sEv (v := (.int .i64 (((k : Int)) + 1))) (rfl) rfl rfl ?_
      refine sDone ?_
      refine again (nb - (k + 1)) (by omega) ⟨(k + 1), ((P).set (k / 15) ((P.getD (k / 15) 0) + (db.getD k 0 * 2 ^ (k % 15)))), rfl, rfl, rfl, (congrArg (Value.int .i64) (by omega)), ((hF17.trans (Frm.of_ext (G := fun b => (b = g3)) hE30)).trans hU39), ?_, ?_, ?_, ?_, ?_⟩
      · exact hB41
      · omega
      · simp [hP]
      · exact vlt_set hlt (by omega)
      · exact hsb.2
    · refine sEv (v := (.bool false)) (evLss false rfl rfl (dF hc27)) rfl rfl ?_
      refine sDone ?_
      refine xN (hK26 _ _ ?_)
      refine cF rfl ?_
      refine wp_exit (xE (xE (bE ?_)))
      refine xN (hK10 _ _ ?_)
      refine wp_seq_k fun K42 hK42 => ?_
      refine wp_region_lit ?_
      refine sEv (v := (.slice (some ⟨g3, 0, none⟩) ((nb + 14) / 15) ((nb + 14) / 15))) (rfl) rfl rfl ?_
      refine sEv (v := (.slice (some ⟨g3, 0, none⟩) ((nb + 14) / 15) ((nb + 14) / 15))) (rfl) rfl rfl ?_
      refine sDone ?_
      refine xN (hK42 _ _ ?_)
      refine wp_ret ?_
      refine ret1 (.slice (some ⟨g3, 0, none⟩) ((nb + 14) / 15) ((nb + 14) / 15)) Try.results117 (resT rfl) ?_
      have h43 : DigR 32768 w13 (fun b => b = g3) (some ⟨g3, 0, none⟩) ((nb + 14) / 15) ((nb + 14) / 15) (P) := DigR.of_blk hB18 rfl hlt (by exact lq) (by omega) (by unfold CapMax; omega)
      exact ⟨(some ⟨g3, 0, none⟩), ((nb + 14) / 15), ((nb + 14) / 15), P, rfl, (Frm.mono ((Frm.of_ext (G := fun b => (b = g3)) hE6).trans hF17) q4), (DigR.sub h43 q5), (by rw [hv, vb_all db (by omega)]), (by omega)⟩

theorem ref01_bits {w : World} {Sw : Nat → Prop} {Aw : Option Addr} {nw cw : Nat} {dw : List Nat} (hw : DigR 32768 w Sw Aw nw cw dw) (hnw : nw ≤ 1099511627776) : Calls Try.prog 118 #[(.slice Aw nw cw)] w (Ret fun v w' => ∃ (Ar : Option Addr) (nr : Nat) (cr : Nat) (dr : List Nat), v = (.slice Ar nr cr) ∧ Ext w w' ∧ DigR 2 w' (fun b => w.heap.size ≤ b) Ar nr cr dr ∧ (vb 2 dr = vb 32768 dw) ∧ (Canon isZ dr) ∧ (nr ≤ 15 * nw)) := by
  have lw := hw.len; have kw := hw.cap; have mw := hw.max
  replace hw := hw.low
  refine enter Try.func118 rfl Try.ntmps118 rfl ?_
  refine wp_seq_k fun K1 hK1 => ?_
  refine wp_region_lit ?_
  refine sEv (v := (.slice none 0 0)) (rfl) rfl rfl ?_
  refine sDone ?_
  refine xN (hK1 _ _ ?_)
  refine wp_seq_k fun K2 hK2 => ?_
  refine wp_region_lit ?_
  refine sEv (v := (.slice Aw nw cw)) (rfl) rfl rfl ?_
  refine sEv (v := (.int .i64 ((nw : Int)))) (evLen Try.underlying29 rfl) rfl rfl ?_
  refine sEv (v := (.int .i64 (((15 * nw : Nat) : Int)))) (evMul (((15 * nw : Nat) : Int)) rfl rfl (wI64 (by omega))) rfl rfl ?_
  refine sOp rfl (oMake1 (15 * nw) Try.underlying29 inf3 rfl (congrArg (Value.int .i64) (by omega)) (congrArg (Value.int .i64) (by omega)) (by omega) (by omega) ?_)
  intro g3 w4 hg5 hE6 hz7 hB8
  have hB9 : Blk w4 g3 3 (((List.replicate (15 * nw) 0)).map i64n) := by rw [List.map_replicate]; exact hB8
  refine sEv (v := (.slice (some ⟨g3, 0, none⟩) (15 * nw) (15 * nw))) (rfl) rfl rfl ?_
  refine sDone ?_
  refine xN (hK2 _ _ ?_)
  refine wp_seq_k fun K10 hK10 => ?_
  refine wp_seq_k fun K11 hK11 => ?_
  refine wp_region_lit ?_
  refine sEv (v := (.int .i64 (0))) (rfl) rfl rfl ?_
  refine sDone ?_
  refine xN (hK11 _ _ ?_)
  refine wp_block ?_
  refine lLoop (fun m e w_ => ∃ (k : Nat) (P : List Nat), m = 15 * nw - k ∧ e 0 = (.slice Aw nw cw) ∧ e 3 = (.slice (some ⟨g3, 0, none⟩) (15 * nw) (15 * nw)) ∧ e 4 = (.int .i64 ((k : Int))) ∧ Frm (fun b => b = g3) w4 w_ ∧ Blk w_ g3 3 ((P ++ List.replicate (15 * nw - k) 0).map i64n) ∧ (k ≤ 15 * nw) ∧ (P.length = k) ∧ (∀ d ∈ P, d < 2) ∧ (vb 2 P = vb 32768 dw % 2 ^ k)) (15 * nw - (0)) ?_ ?_
  · refine ⟨(0), ([]), rfl, rfl, rfl, (congrArg (Value.int .i64) (by omega)), (Frm.refl _ _), ?_, ?_, ?_, ?_, ?_⟩
    · simpa using hB9
    · omega
    · rfl
    · simp
    · simp [vb, Nat.mod_one]
  · rintro m12 e20 w13 ⟨k, P, hm19, hs14, hs15, hs16, hF17, hB18, hk, hP, hlt, hv⟩
    obtain ⟨r21, rfl⟩ := sq (e := e20) (t := 0) hs14
    obtain ⟨r22, rfl⟩ := sq (e := r21) (t := 3) hs15
    obtain ⟨r23, rfl⟩ := sq (e := r22) (t := 4) hs16
    have hz24 := hF17.size
    refine wp_seq_k fun K25 hK25 => ?_
    refine wp_seq_k fun K26 hK26 => ?_
    refine wp_region_lit ?_
    refine sEv (v := (.int .i64 ((k : Int)))) (rfl) rfl rfl ?_
    refine sEv (v := (.slice (some ⟨g3, 0, none⟩) (15 * nw) (15 * nw))) (rfl) rfl rfl ?_
    refine sEv (v := (.int .i64 (((15 * nw : Nat) : Int)))) (evLen Try.underlying29 rfl) rfl rfl ?_
    by_cases hc27 : ((k : Int)) < (((15 * nw : Nat) : Int))
    · refine sEv (v := (.bool true)) (evLss true rfl rfl (dT hc27)) rfl rfl ?_
      refine sDone ?_
      refine xN (hK26 _ _ ?_)
      refine cT rfl ?_
      refine wp_skip ?_
      refine xN (hK25 _ _ ?_)
      refine wp_seq_k fun K28 hK28 => ?_
      refine wp_block ?_
      refine wp_region_lit ?_
      refine sEv (v := (.slice (some ⟨g3, 0, none⟩) (15 * nw) (15 * nw))) (rfl) rfl rfl ?_
      refine sEv (v := (.int .i64 ((k : Int)))) (rfl) rfl rfl ?_
      refine sEv (v := (.slice Aw nw cw)) (rfl) rfl rfl ?_
      refine sEv (v := (.int .i64 ((k : Int)))) (rfl) rfl rfl ?_
      refine sEv (v := (.int .i64 (((k / 15 : Nat) : Int)))) (evQuo (((k / 15 : Nat) : Int)) rfl rfl (by omega) (quoEi64 (by omega) (by omega) (by omega))) rfl rfl ?_
      have h29 := (hw.frmB ((Frm.of_ext (G := fun b => (b = g3)) hE6).trans hF17) q3)
      obtain ⟨b30, o31, rfl⟩ := h29.base (by omega)
      refine sEv (v := (.pointer (some ⟨b30, o31 + (k / 15), none⟩))) (evIndex (k / 15) Try.underlying29 sz3 rfl rfl (by omega) (by omega) (o31 + (k / 15)) (by omega)) rfl rfl ?_
      have hd32 := h29.lt (k / 15)
      refine sEv (v := (.int .i64 (((dw.getD (k / 15) 0 : Nat) : Int)))) (evLoad one3 rfl (h29.cell (by omega))) rfl rfl ?_
      refine sEv (v := (.int .i64 ((k : Int)))) (rfl) rfl rfl ?_
      refine sEv (v := (.int .i64 (((k % 15 : Nat) : Int)))) (evRem (((k % 15 : Nat) : Int)) rfl rfl (by omega) (remE (by omega) (by omega))) rfl rfl ?_
      refine sEv (v := (.int .u64 (((k % 15 : Nat) : Int)))) (evConv _ Try.underlying3 Try.underlying90 rfl (wU64 (by omega))) rfl rfl ?_
      refine sEv (v := (.int .i64 ((((dw.getD (k / 15) 0) / 2 ^ (k % 15) : Nat) : Int)))) (evShr ((((dw.getD (k / 15) 0) / 2 ^ (k % 15) : Nat) : Int)) rfl rfl (by omega) (shrE (x := dw.getD (k / 15) 0) (s := k % 15) (by omega) (by omega) (by show _ ≤ 64; omega))) rfl rfl ?_
      refine sEv (v := (.int .i64 (((((dw.getD (k / 15) 0) / 2 ^ (k % 15)) % 2 : Nat) : Int)))) (evRem (((((dw.getD (k / 15) 0) / 2 ^ (k % 15)) % 2 : Nat) : Int)) rfl rfl (by omega) (remE (by omega) (by omega))) rfl rfl ?_
      refine sEv (v := (.pointer (some ⟨g3, k, none⟩))) (evIndex k Try.underlying29 sz3 rfl rfl (by omega) (by omega) k (by omega)) rfl rfl ?_
      refine sOp rfl (oStore1 rfl rfl rfl sz3 hB18 (by exact lq) ?_)
      intro w33 hU34 hz35 hB36
      replace hB36 : Blk w33 g3 3 (((P ++ [((dw.getD (k / 15) 0) / 2 ^ (k % 15)) % 2]) ++ List.replicate (15 * nw - (k + 1)) 0).map i64n) := by rw [← (fill_set2 hP (by omega) : (P ++ List.replicate (15 * nw - k) 0).set k (((dw.getD (k / 15) 0) / 2 ^ (k % 15)) % 2) = (P ++ [((dw.getD (k / 15) 0) / 2 ^ (k % 15)) % 2]) ++ List.replicate (15 * nw - (k + 1)) 0), List.map_set]; exact hB36
      refine sDone ?_
      refine bN ?_
      refine xN (hK28 _ _ ?_)
      refine wp_region_lit ?_
      refine sEv (v := (.int .i64 ((k : Int)))) (rfl) rfl rfl ?_
      refine sEv (v := (.int .i64 (((k : Int)) + 1))) (evAdd (((k : Int)) + 1) rfl rfl (wI64 (by omega))) rfl rfl ?_
      refine sEv (v := (.int .i64 (((k : Int)) + 1))) (rfl) rfl rfl ?_
      refine sDone ?_
      refine again (15 * nw - (k + 1)) (by omega) ⟨(k + 1), (P ++ [((dw.getD (k / 15) 0) / 2 ^ (k % 15)) % 2]), rfl, rfl, rfl, (congrArg (Value.int .i64) (by omega)), (hF17.trans hU34), ?_, ?_, ?_, ?_, ?_⟩
      · exact hB36
      · omega
      · simp [hP]
      · exact vlt_snoc hlt (by omega)
      · exact bits_step hv hP (bits_bit hw.2 k)
    · refine sEv (v := (.bool false)) (evLss false rfl rfl (dF hc27)) rfl rfl ?_
      refine sDone ?_
      refine xN (hK26 _ _ ?_)
      refine cF rfl ?_
      refine wp_exit (xE (xE (bE ?_)))
      refine xN (hK10 _ _ ?_)
      refine wp_seq_k fun K37 hK37 => ?_
      refine wp_region_lit ?_
      refine sEv (v := (.slice (some ⟨g3, 0, none⟩) (15 * nw) (15 * nw))) (rfl) rfl rfl ?_
      have h38 : DigR 2 w13 (fun b => b = g3) (some ⟨g3, 0, none⟩) (15 * nw) (15 * nw) (P ++ List.replicate (15 * nw - k) 0) := DigR.of_blk hB18 rfl (vlt_fill (by decide) hlt) (by exact lq) (by omega) (by unfold CapMax; omega)
      refine sOp rfl (oCall rfl call74 (ref01_Trim h38) rfl ?_)
      rintro _ w40 ⟨Ar_39, nr_39, cr_39, dr_39, rfl, hE41, hr_39, e_39, le_39⟩
      have hz42 := hE41.size
      have lr_39 := hr_39.len; have kr_39 := hr_39.cap; have mr_39 := hr_39.max
      refine sEv (v := (.slice Ar_39 nr_39 cr_39)) (rfl) rfl rfl ?_
      refine sDone ?_
      refine xN (hK37 _ _ ?_)
      refine wp_ret ?_
      refine ret1 (.slice Ar_39 nr_39 cr_39) Try.results118 (resT rfl) ?_
      exact ⟨Ar_39, nr_39, cr_39, dr_39, rfl, (Frm.mono (((Frm.of_ext (G := fun b => (b = g3)) hE6).trans hF17).trans (Frm.of_ext (G := fun b => (b = g3)) hE41)) q4), (DigR.sub hr_39 q5), (by rw [e_39, vb_trim]; exact bits_end hw.2 lw (by omega) hv), (by rw [e_39]; exact canon_trim _ _), (by omega)⟩

set_option maxHeartbeats 1000000 in
theorem ref01_Mul {w : World} {Sa : Nat → Prop} {Aa : Option Addr} {na ca : Nat} {da : List Nat} {Sb : Nat → Prop} {Ab : Option Addr} {nb cb : Nat} {db : List Nat} (ha : DigR 2 w Sa Aa na ca da) (hb : DigR 2 w Sb Ab nb cb db) (hna : na ≤ 1073741824) (hnb : nb ≤ 1073741824) : Calls Try.prog 97 #[(.slice Aa na ca), (.slice Ab nb cb)] w (Ret fun v w' => ∃ (Ar : Option Addr) (nr : Nat) (cr : Nat) (dr : List Nat), v = (.slice Ar nr cr) ∧ Ext w w' ∧ DigR 2 w' (fun b => w.heap.size ≤ b) Ar nr cr dr ∧ (vb 2 dr = vb 2 da * vb 2 db) ∧ (Canon isZ dr) ∧ (nr ≤ na + nb)) := by
  have la := ha.len; have ka := ha.cap; have ma := ha.max
  replace ha := ha.low
  have lb := hb.len; have kb := hb.cap; have mb := hb.max
  replace hb := hb.low
  refine enter Try.func97 rfl Try.ntmps97 rfl ?_
  refine wp_seq_k fun K1 hK1 => ?_
  refine wp_region_lit ?_
  refine sEv (v := (.slice none 0 0)) (rfl) rfl rfl ?_
  refine sDone ?_
  refine xN (hK1 _ _ ?_)
  refine wp_seq_k fun K2 hK2 => ?_
  refine wp_region_lit ?_
  refine sEv (v := (.slice Aa na ca)) (rfl) rfl rfl ?_
  refine sOp rfl (oCall rfl call117 (ref01_words ha (by omega)) rfl ?_)
  rintro _ w4 ⟨Ar_3, nr_3, cr_3, dr_3, rfl, hE5, hr_3, v_3, ln_3⟩
  have hz6 := hE5.size
  have lr_3 := hr_3.len; have kr_3 := hr_3.cap; have mr_3 := hr_3.max
  refine sEv (v := (.slice Ab nb cb)) (rfl) rfl rfl ?_
  have h8 := (hb.ext hE5)
  refine sOp rfl (oCall rfl call117 (ref01_words h8 (by omega)) rfl ?_)
  rintro _ w10 ⟨Ar_9, nr_9, cr_9, dr_9, rfl, hE11, hr_9, v_9, ln_9⟩
  have hz12 := hE11.size
  have lr_9 := hr_9.len; have kr_9 := hr_9.cap; have mr_9 := hr_9.max
  refine sEv (v := (.slice Ar_3 nr_3 cr_3)) (rfl) rfl rfl ?_
  refine sEv (v := (.slice Ar_9 nr_9 cr_9)) (rfl) rfl rfl ?_
  refine sDone ?_
  refine xN (hK2 _ _ ?_)
  refine wp_seq_k fun K14 hK14 => ?_
  refine wp_region_lit ?_
  refine sEv (v := (.slice Ar_3 nr_3 cr_3)) (rfl) rfl rfl ?_
  refine sEv (v := (.int .i64 ((nr_3 : Int)))) (evLen Try.underlying29 rfl) rfl rfl ?_
  refine sEv (v := (.slice Ar_9 nr_9 cr_9)) (rfl) rfl rfl ?_
  refine sEv (v := (.int .i64 ((nr_9 : Int)))) (evLen Try.underlying29 rfl) rfl rfl ?_
  refine sEv (v := (.int .i64 (((nr_3 : Int)) + ((nr_9 : Int))))) (evAdd (((nr_3 : Int)) + ((nr_9 : Int))) rfl rfl (wI64 (by omega))) rfl rfl ?_
  refine sOp rfl (oMake1 (nr_3 + nr_9) Try.underlying29 inf3 rfl (congrArg (Value.int .i64) (by omega)) (congrArg (Value.int .i64) (by omega)) (by omega) (by omega) ?_)
  intro g15 w16 hg17 hE18 hz19 hB20
  have hB21 : Blk w16 g15 3 (((List.replicate (nr_3 + nr_9) 0)).map i64n) := by rw [List.map_replicate]; exact hB20
  refine sEv (v := (.slice (some ⟨g15, 0, none⟩) (nr_3 + nr_9) (nr_3 + nr_9))) (rfl) rfl rfl ?_
  refine sDone ?_
  refine xN (hK14 _ _ ?_)
  refine wp_seq_k fun K22 hK22 => ?_
  refine wp_seq_k fun K23 hK23 => ?_
  refine wp_region_lit ?_
  refine sEv (v := (.int .i64 (0))) (rfl) rfl rfl ?_
  refine sDone ?_
  refine xN (hK23 _ _ ?_)
  refine wp_block ?_
  refine lLoop (fun m e w_ => ∃ (i : Nat) (Q : List Nat), m = nr_3 - i ∧ e 5 = (.slice Ar_3 nr_3 cr_3) ∧ e 6 = (.slice Ar_9 nr_9 cr_9) ∧ e 7 = (.slice (some ⟨g15, 0, none⟩) (nr_3 + nr_9) (nr_3 + nr_9)) ∧ e 8 = (.int .i64 ((i : Int))) ∧ Frm (fun b => b = g15) w16 w_ ∧ Blk w_ g15 3 ((Q ++ List.replicate (nr_3 - i) 0).map i64n) ∧ (i ≤ nr_3) ∧ (Q.length = i + nr_9) ∧ (∀ d ∈ Q, d < 32768) ∧ (vb 32768 Q = vb 32768 (dr_3.take i) * vb 32768 dr_9)) (nr_3 - (0)) ?_ ?_
  · refine ⟨(0), (List.replicate nr_9 0), rfl, rfl, rfl, rfl, (congrArg (Value.int .i64) (by omega)), (Frm.refl _ _), ?_, ?_, ?_, ?_, ?_⟩
    · rw [List.replicate_append_replicate, show nr_9 + (nr_3 - 0) = nr_3 + nr_9 by omega]; exact hB21
    · omega
    · simp
    · exact vlt_zeros (by decide) _
    · simp [vb, vb_zeros]
  · rintro m24 e33 w25 ⟨i, Q, hm32, hs26, hs27, hs28, hs29, hF30, hB31, hi, hQ, hQt, hv⟩
    obtain ⟨r34, rfl⟩ := sq (e := e33) (t := 5) hs26
    obtain ⟨r35, rfl⟩ := sq (e := r34) (t := 6) hs27
    obtain ⟨r36, rfl⟩ := sq (e := r35) (t := 7) hs28
    obtain ⟨r37, rfl⟩ := sq (e := r36) (t := 8) hs29
    have hz38 := hF30.size
    refine wp_seq_k fun K39 hK39 => ?_
    refine wp_seq_k fun K40 hK40 => ?_
    refine wp_region_lit ?_
    refine sEv (v := (.int .i64 ((i : Int)))) (rfl) rfl rfl ?_
    refine sEv (v := (.slice Ar_3 nr_3 cr_3)) (rfl) rfl rfl ?_
    refine sEv (v := (.int .i64 ((nr_3 : Int)))) (evLen Try.underlying29 rfl) rfl rfl ?_
    by_cases hc41 : ((i : Int)) < ((nr_3 : Int))
    · refine sEv (v := (.bool true)) (evLss true rfl rfl (dT hc41)) rfl rfl ?_
      refine sDone ?_
      refine xN (hK40 _ _ ?_)
      refine cT rfl ?_
      refine wp_skip ?_
      refine xN (hK39 _ _ ?_)
      refine wp_seq_k fun K42 hK42 => ?_
      refine wp_block ?_
      refine wp_seq_k fun K43 hK43 => ?_
      refine wp_region_lit ?_
      refine sEv (v := (.int .i64 (0))) (rfl) rfl rfl ?_
      refine sDone ?_
      refine xN (hK43 _ _ ?_)
      refine wp_seq_k fun K44 hK44 => ?_
      refine wp_seq_k fun K45 hK45 => ?_
      refine wp_region_lit ?_
      refine sEv (v := (.int .i64 (0))) (rfl) rfl rfl ?_
      refine sDone ?_
      refine xN (hK45 _ _ ?_)
      refine wp_block ?_
      refine lLoop (fun m e w_ => ∃ (j : Nat) (R : List Nat) (cy : Nat), m = nr_9 - j ∧ e 5 = (.slice Ar_3 nr_3 cr_3) ∧ e 6 = (.slice Ar_9 nr_9 cr_9) ∧ e 7 = (.slice (some ⟨g15, 0, none⟩) (nr_3 + nr_9) (nr_3 + nr_9)) ∧ e 8 = (.int .i64 ((i : Int))) ∧ e 9 = (.int .i64 ((cy : Int))) ∧ e 10 = (.int .i64 ((j : Int))) ∧ Frm (fun b => b = g15) w25 w_ ∧ Blk w_ g15 3 ((R ++ Q.drop (i + j) ++ List.replicate (nr_3 - i) 0).map i64n) ∧ (j ≤ nr_9) ∧ (R.length = i + j) ∧ (∀ d ∈ R, d < 32768) ∧ (cy < 32768) ∧ (vb 32768 R + 32768 ^ (i + j) * cy = vb 32768 (Q.take (i + j)) + 32768 ^ i * (dr_3.getD i 0 * vb 32768 (dr_9.take j)))) (nr_9 - (0)) ?_ ?_
      · refine ⟨(0), (Q.take i), (0), rfl, rfl, rfl, rfl, rfl, (congrArg (Value.int .i64) (by omega)), (congrArg (Value.int .i64) (by omega)), (Frm.refl _ _), ?_, ?_, ?_, ?_, ?_, ?_⟩
        · rw [Nat.add_zero, List.take_append_drop]; exact hB31
        · omega
        · simp [hQ]
        · exact fun d hd => hQt d (List.mem_of_mem_take hd)
        · omega
        · simp [vb]
      · rintro m46 e57 w47 ⟨j, R, cy, hm56, hs48, hs49, hs50, hs51, hs52, hs53, hF54, hB55, hj, hR, hRt, hcy, hw⟩
        obtain ⟨r58, rfl⟩ := sq (e := e57) (t := 5) hs48
        obtain ⟨r59, rfl⟩ := sq (e := r58) (t := 6) hs49
        obtain ⟨r60, rfl⟩ := sq (e := r59) (t := 7) hs50
        obtain ⟨r61, rfl⟩ := sq (e := r60) (t := 8) hs51
        obtain ⟨r62, rfl⟩ := sq (e := r61) (t := 9) hs52
        obtain ⟨r63, rfl⟩ := sq (e := r62) (t := 10) hs53
        have hz64 := hF54.size
        refine wp_seq_k fun K65 hK65 => ?_
        refine wp_seq_k fun K66 hK66 => ?_
        refine wp_region_lit ?_
        refine sEv (v := (.int .i64 ((j : Int)))) (rfl) rfl rfl ?_
        refine sEv (v := (.slice Ar_9 nr_9 cr_9)) (rfl) rfl rfl ?_
        refine sEv (v := (.int .i64 ((nr_9 : Int)))) (evLen Try.underlying29 rfl) rfl rfl ?_
        by_cases hc67 : ((j : Int)) < ((nr_9 : Int))
        · refine sEv (v := (.bool true)) (evLss true rfl rfl (dT hc67)) rfl rfl ?_
          refine sDone ?_
          refine xN (hK66 _ _ ?_)
          refine cT rfl ?_
          refine wp_skip ?_
          refine xN (hK65 _ _ ?_)
          refine wp_seq_k fun K68 hK68 => ?_
          refine wp_block ?_
          refine wp_seq_k fun K69 hK69 => ?_
          have h70 := (hr_3.frmB ((((Frm.of_ext (G := fun b => (b = g15)) hE11).trans (Frm.of_ext (G := fun b => (b = g15)) hE18)).trans hF30).trans hF54) q3)
          have h71 := (hr_9.frmB (((Frm.of_ext (G := fun b => (b = g15)) hE18).trans hF30).trans hF54) q3)
          have hq := mid_get (Z := List.replicate (nr_3 - i) 0) hR (show i + j < Q.length by omega)
          have hqq := vgetD_lt (i := i + j) hQt (by decide)
          have hxy := mul15_le (vgetD_lt (i := i) h70.2 (by decide)) (vgetD_lt (i := j) h71.2 (by decide))
          refine dBegin (fun _ => False) mixed ?_
          intro w72 hE73 hz74
          refine dEv 0 rfl (v := (.slice (some ⟨g15, 0, none⟩) (nr_3 + nr_9) (nr_3 + nr_9))) (fun _ _ => rfl) rfl rfl (by kernel_rfl) ?_
          refine dEv 1 rfl (v := (.int .i64 ((i : Int)))) (fun _ _ => rfl) rfl rfl (by kernel_rfl) ?_
          refine dEv 2 rfl (v := (.int .i64 ((j : Int)))) (fun _ _ => rfl) rfl rfl (by kernel_rfl) ?_
          refine dEv 3 rfl (v := (.int .i64 (((i : Int)) + ((j : Int))))) (fun _ _ => evAdd (((i : Int)) + ((j : Int))) rfl rfl (wI64 (by omega))) rfl rfl (by kernel_rfl) ?_
          refine dEv 4 rfl (v := (.pointer (some ⟨g15, i + j, none⟩))) (fun _ _ => evIndex (i + j) Try.underlying29 sz3 rfl rfl (by omega) (by omega) (i + j) (by omega)) rfl rfl (by kernel_rfl) ?_
          have hB75 := (hB55.ext hE73)
          have hd76 := vgetD_lt (P := R ++ Q.drop (i + j) ++ List.replicate (nr_3 - i) 0) (i := i + j) (vlt_mid (by decide) hRt hQt) (by decide)
          refine dEv 5 rfl (v := (.int .i64 ((((R ++ Q.drop (i + j) ++ List.replicate (nr_3 - i) 0).getD (i + j) 0 : Nat) : Int)))) (fun _ hf => evLoad one3 rfl ((hB75.ext hf).digi (by exact lq))) rfl rfl (by kernel_rfl) ?_
          generalize hq39 : (R ++ Q.drop (i + j) ++ List.replicate (nr_3 - i) 0).getD (i + j) 0 = q39 at *
          refine dEv 6 rfl (v := (.slice Ar_3 nr_3 cr_3)) (fun _ _ => rfl) rfl rfl (by kernel_rfl) ?_
          refine dEv 7 rfl (v := (.int .i64 ((i : Int)))) (fun _ _ => rfl) rfl rfl (by kernel_rfl) ?_
          have h77 := (h70.ext hE73)
          obtain ⟨b78, o79, rfl⟩ := h77.base (by omega)
          refine dEv 8 rfl (v := (.pointer (some ⟨b78, o79 + i, none⟩))) (fun _ _ => evIndex i Try.underlying29 sz3 rfl rfl (by omega) (by omega) (o79 + i) (by omega)) rfl rfl (by kernel_rfl) ?_
          have hd80 := h77.lt i
          refine dEv 9 rfl (v := (.int .i64 (((dr_3.getD i 0 : Nat) : Int)))) (fun _ hf => evLoad one3 rfl ((h77.ext hf).cell (by omega))) rfl rfl (by kernel_rfl) ?_
          refine dEv 10 rfl (v := (.slice Ar_9 nr_9 cr_9)) (fun _ _ => rfl) rfl rfl (by kernel_rfl) ?_
          refine dEv 11 rfl (v := (.int .i64 ((j : Int)))) (fun _ _ => rfl) rfl rfl (by kernel_rfl) ?_
          have h81 := (h71.ext hE73)
          obtain ⟨b82, o83, rfl⟩ := h81.base (by omega)
          refine dEv 12 rfl (v := (.pointer (some ⟨b82, o83 + j, none⟩))) (fun _ _ => evIndex j Try.underlying29 sz3 rfl rfl (by omega) (by omega) (o83 + j) (by omega)) rfl rfl (by kernel_rfl) ?_
          have hd84 := h81.lt j
          refine dEv 13 rfl (v := (.int .i64 (((dr_9.getD j 0 : Nat) : Int)))) (fun _ hf => evLoad one3 rfl ((h81.ext hf).cell (by omega))) rfl rfl (by kernel_rfl) ?_
          refine dEv 14 rfl (v := (.int .i64 (((dr_3.getD i 0 * dr_9.getD j 0 : Nat) : Int)))) (fun _ _ => evMul (((dr_3.getD i 0 * dr_9.getD j 0 : Nat) : Int)) rfl rfl (mulI64 (by omega))) rfl rfl (by kernel_rfl) ?_
          refine dEv 15 rfl (v := (.int .i64 (((q39 : Int)) + (((dr_3.getD i 0 * dr_9.getD j 0 : Nat) : Int))))) (fun _ _ => evAdd (((q39 : Int)) + (((dr_3.getD i 0 * dr_9.getD j 0 : Nat) : Int))) rfl rfl (wI64 (by omega))) rfl rfl (by kernel_rfl) ?_
          refine dEv 16 rfl (v := (.int .i64 ((cy : Int)))) (fun _ _ => rfl) rfl rfl (by kernel_rfl) ?_
          refine dEv 17 rfl (v := (.int .i64 ((((q39 : Int)) + (((dr_3.getD i 0 * dr_9.getD j 0 : Nat) : Int))) + ((cy : Int))))) (fun _ _ => evAdd ((((q39 : Int)) + (((dr_3.getD i 0 * dr_9.getD j 0 : Nat) : Int))) + ((cy : Int))) rfl rfl (wI64 (by omega))) rfl rfl (by kernel_rfl) ?_
          refine dEv 18 rfl (v := (.int .i64 ((((q39 : Int)) + (((dr_3.getD i 0 * dr_9.getD j 0 : Nat) : Int))) + ((cy : Int))))) (fun _ _ => rfl) rfl rfl (by kernel_rfl) ?_
          refine dDone (by kernel_rfl) ?_
          refine xN (hK69 _ _ ?_)
          refine wp_seq_k fun K85 hK85 => ?_
          refine wp_region_lit ?_
          refine sEv (v := (.slice (some ⟨g15, 0, none⟩) (nr_3 + nr_9) (nr_3 + nr_9))) (rfl) rfl rfl ?_
          refine sEv (v := (.int .i64 ((i : Int)))) (rfl) rfl rfl ?_
          refine sEv (v := (.int .i64 ((j : Int)))) (rfl) rfl rfl ?_
          refine sEv (v := (.int .i64 (((i : Int)) + ((j : Int))))) (evAdd (((i : Int)) + ((j : Int))) rfl rfl (wI64 (by omega))) rfl rfl ?_
          refine sEv (v := (.int .i64 ((((q39 : Int)) + (((dr_3.getD i 0 * dr_9.getD j 0 : Nat) : Int))) + ((cy : Int))))) (rfl) rfl rfl ?_
          refine sEv (v := (.int .i64 (((((q39 + (dr_3.getD i 0 * dr_9.getD j 0)) + cy) % 32768 : Nat) : Int)))) (evRem (((((q39 + (dr_3.getD i 0 * dr_9.getD j 0)) + cy) % 32768 : Nat) : Int)) rfl rfl (by omega) (remE (by omega) (by omega))) rfl rfl ?_
          refine sEv (v := (.pointer (some ⟨g15, i + j, none⟩))) (evIndex (i + j) Try.underlying29 sz3 rfl rfl (by omega) (by omega) (i + j) (by omega)) rfl rfl ?_
          refine sOp rfl (oStore1 rfl rfl rfl sz3 hB75 (by exact lq) ?_)
          intro w86 hU87 hz88 hB89
          replace hB89 : Blk w86 g15 3 (((R ++ [((q39 + (dr_3.getD i 0 * dr_9.getD j 0)) + cy) % 32768]) ++ Q.drop (i + j + 1) ++ List.replicate (nr_3 - i) 0).map i64n) := by rw [← (mid_set hR (by omega) : (R ++ Q.drop (i + j) ++ List.replicate (nr_3 - i) 0).set (i + j) (((q39 + (dr_3.getD i 0 * dr_9.getD j 0)) + cy) % 32768) = (R ++ [((q39 + (dr_3.getD i 0 * dr_9.getD j 0)) + cy) % 32768]) ++ Q.drop (i + j + 1) ++ List.replicate (nr_3 - i) 0), List.map_set]; exact hB89
          refine sDone ?_
          refine xN (hK85 _ _ ?_)
          refine wp_region_lit ?_
          refine sEv (v := (.int .i64 ((((q39 : Int)) + (((dr_3.getD i 0 * dr_9.getD j 0 : Nat) : Int))) + ((cy : Int))))) (rfl) rfl rfl ?_
          refine sEv (v := (.int .i64 (((((q39 + (dr_3.getD i 0 * dr_9.getD j 0)) + cy) / 32768 : Nat) : Int)))) (evQuo (((((q39 + (dr_3.getD i 0 * dr_9.getD j 0)) + cy) / 32768 : Nat) : Int)) rfl rfl (by omega) (quoEi64 (by omega) (by omega) (by omega))) rfl rfl ?_
          refine sEv (v := (.int .i64 (((((q39 + (dr_3.getD i 0 * dr_9.getD j 0)) + cy) / 32768 : Nat) : Int)))) (rfl) rfl rfl ?_
          refine sDone ?_
          refine bN ?_
          refine xN (hK68 _ _ ?_)
          refine wp_region_lit ?_
          refine sEv (v := (.int .i64 ((j : Int)))) (rfl) rfl rfl ?_
          refine sEv (v := (.int .i64 (((j : Int)) + 1))) (evAdd (((j : Int)) + 1) rfl rfl (wI64 (by omega))) rfl rfl ?_
          refine sEv (v := (.int .i64 (((j : Int)) + 1))) (rfl) rfl rfl ?_
          refine sDone ?_
          refine again (nr_9 - (j + 1)) (by omega) ⟨(j + 1), (R ++ [((q39 + (dr_3.getD i 0 * dr_9.getD j 0)) + cy) % 32768]), (((q39 + (dr_3.getD i 0 * dr_9.getD j 0)) + cy) / 32768), rfl, rfl, rfl, rfl, rfl, (congrArg (Value.int .i64) (by omega)), (congrArg (Value.int .i64) (by omega)), ((hF54.trans (Frm.of_ext (G := fun b => (b = g15)) hE73)).trans hU87), ?_, ?_, ?_, ?_, ?_, ?_⟩
          · rw [show i + (j + 1) = i + j + 1 from rfl]; exact hB89
          · omega
          · simp [hR]; omega
          · exact vlt_snoc hRt (by omega)
          · omega
          · exact vmul_step hw hR (by omega)
        · refine sEv (v := (.bool false)) (evLss false rfl rfl (dF hc67)) rfl rfl ?_
          refine sDone ?_
          refine xN (hK66 _ _ ?_)
          refine cF rfl ?_
          refine wp_exit (xE (xE (bE ?_)))
          refine xN (hK44 _ _ ?_)
          have hq0 := mid_zero (m := nr_3 - i) hR (show i + j = Q.length by omega) (show i + nr_9 = i + j by omega)
          refine wp_region_lit ?_
          refine sEv (v := (.slice (some ⟨g15, 0, none⟩) (nr_3 + nr_9) (nr_3 + nr_9))) (rfl) rfl rfl ?_
          refine sEv (v := (.int .i64 ((i : Int)))) (rfl) rfl rfl ?_
          refine sEv (v := (.slice Ar_9 nr_9 cr_9)) (rfl) rfl rfl ?_
          refine sEv (v := (.int .i64 ((nr_9 : Int)))) (evLen Try.underlying29 rfl) rfl rfl ?_
          refine sEv (v := (.int .i64 (((i : Int)) + ((nr_9 : Int))))) (evAdd (((i : Int)) + ((nr_9 : Int))) rfl rfl (wI64 (by omega))) rfl rfl ?_
          refine sEv (v := (.pointer (some ⟨g15, i + nr_9, none⟩))) (evIndex (i + nr_9) Try.underlying29 sz3 rfl rfl (by omega) (by omega) (i + nr_9) (by omega)) rfl rfl ?_
          have hd90 := vgetD_lt (P := R ++ Q.drop (i + j) ++ List.replicate (nr_3 - i) 0) (i := i + nr_9) (vlt_mid (by decide) hRt hQt) (by decide)
          refine sEv (v := (.int .i64 ((((R ++ Q.drop (i + j) ++ List.replicate (nr_3 - i) 0).getD (i + nr_9) 0 : Nat) : Int)))) (evLoad one3 rfl (hB55.digi (by exact lq))) rfl rfl ?_
          refine sEv (v := (.int .i64 ((cy : Int)))) (rfl) rfl rfl ?_
          refine sEv (v := (.int .i64 ((cy : Int)))) (evAdd ((cy : Int)) rfl rfl (wI64 (by omega))) rfl rfl ?_
          refine sEv (v := (.pointer (some ⟨g15, i + nr_9, none⟩))) (evIndex (i + nr_9) Try.underlying29 sz3 rfl rfl (by omega) (by omega) (i + nr_9) (by omega)) rfl rfl ?_
          refine sOp rfl (oStore1 rfl rfl rfl sz3 hB55 (by exact lq) ?_)
          intro w91 hU92 hz93 hB94
          replace hB94 : Blk w91 g15 3 (((R ++ [cy]) ++ List.replicate (nr_3 - (i + 1)) 0).map i64n) := by rw [← (row_end (Q := Q) hR (by omega) (by omega) (by omega) : (R ++ Q.drop (i + j) ++ List.replicate (nr_3 - i) 0).set (i + nr_9) cy = (R ++ [cy]) ++ List.replicate (nr_3 - (i + 1)) 0), List.map_set]; exact hB94
          refine sDone ?_
          refine bN ?_
          refine xN (hK42 _ _ ?_)
          refine wp_region_lit ?_
          refine sEv (v := (.int .i64 ((i : Int)))) (rfl) rfl rfl ?_
          refine sEv (v := (.int .i64 (((i : Int)) + 1))) (evAdd (((i : Int)) + 1) rfl rfl (wI64 (by omega))) rfl rfl ?_
          refine sEv (v := (.int .i64 (((i : Int)) + 1))) (rfl) rfl rfl ?_
          refine sDone ?_
          refine again (nr_3 - (i + 1)) (by omega) ⟨(i + 1), (R ++ [cy]), rfl, rfl, rfl, rfl, (congrArg (Value.int .i64) (by omega)), ((hF30.trans hF54).trans hU92), ?_, ?_, ?_, ?_, ?_⟩
          · exact hB94
          · omega
          · simp [hR]; omega
          · exact vlt_snoc hRt (by omega)
          · exact vmul_row hw hR (by omega) (by omega) hv
    · refine sEv (v := (.bool false)) (evLss false rfl rfl (dF hc41)) rfl rfl ?_
      refine sDone ?_
      refine xN (hK40 _ _ ?_)
      refine cF rfl ?_
      refine wp_exit (xE (xE (bE ?_)))
      refine xN (hK22 _ _ ?_)
      refine wp_seq_k fun K95 hK95 => ?_
      refine wp_region_lit ?_
      refine sEv (v := (.slice (some ⟨g15, 0, none⟩) (nr_3 + nr_9) (nr_3 + nr_9))) (rfl) rfl rfl ?_
      have h96 : DigR 32768 w25 (fun b => b = g15) (some ⟨g15, 0, none⟩) (nr_3 + nr_9) (nr_3 + nr_9) (Q ++ List.replicate (nr_3 - i) 0) := DigR.of_blk hB31 rfl (vlt_fill (by decide) hQt) (by exact lq) (by omega) (by unfold CapMax; omega)
      refine sOp rfl (oCall rfl call118 (ref01_bits h96 (by omega)) rfl ?_)
      rintro _ w98 ⟨Ar_97, nr_97, cr_97, dr_97, rfl, hE99, hr_97, v_97, cn_97, ln_97⟩
      have hz100 := hE99.size
      have lr_97 := hr_97.len; have kr_97 := hr_97.cap; have mr_97 := hr_97.max
      refine sEv (v := (.slice Ar_97 nr_97 cr_97)) (rfl) rfl rfl ?_
      refine sDone ?_
      refine xN (hK95 _ _ ?_)
      refine wp_ret ?_
      refine ret1 (.slice Ar_97 nr_97 cr_97) Try.results97 (resT rfl) ?_
      have hmv := mul_end v_97 hv (by omega) v_3 v_9
      exact ⟨Ar_97, nr_97, cr_97, dr_97, rfl, (Frm.mono (((((Frm.of_ext (G := fun b => (b = g15)) hE5).trans (Frm.of_ext (G := fun b => (b = g15)) hE11)).trans (Frm.of_ext (G := fun b => (b = g15)) hE18)).trans hF30).trans (Frm.of_ext (G := fun b => (b = g15)) hE99)) q4), (DigR.sub hr_97 q5), hmv, cn_97, (by have h := mul_nat_len cn_97 hmv ha.2 hb.2 la lb; omega)⟩

end Go.Proofs.Ytppegjbdencefaa
