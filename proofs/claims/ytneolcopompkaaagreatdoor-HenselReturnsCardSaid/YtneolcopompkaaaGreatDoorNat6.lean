/-
  Walks of package natural: shifts.
-/
import Derived.Test.YtneolcopompkaaaGreatDoorNat5
namespace Go.Proofs.YtneolcopompkaaaGreatDoor
open Go.RowKit Go.Gx Tryz
set_option maxHeartbeats 1000000 in
theorem natural_Shl {w : World} {Sa : Nat → Prop} {Aa : Option Addr} {na ca : Nat} {da : List Nat} {xn : Nat} (ha : NatR w Sa Aa na ca da) (bn : xn ≤ 9223372036854775807) (hna : na ≤ 549755813888) (hxn : xn ≤ 16777216) : Calls Tryz.prog 74 #[(.slice Aa na ca), (.int .i64 xn)] w (Ret fun v w' => ∃ (Ar : Option Addr) (nr : Nat) (cr : Nat) (dr : List Nat), v = (.slice Ar nr cr) ∧ Ext w w' ∧ NatR w' (fun b => w.heap.size ≤ b) Ar nr cr dr ∧ (val dr = val da * 2 ^ xn) ∧ (Canon isZ dr) ∧ (nr ≤ na + xn / 32 + 1)) := by
 have ⟨la, ka, ma⟩ := ha.lkm
 replace ha := ha.low
 refine enter func74 rfl ntmps74 rfl (rS fun K1 b6 => sAs rfl (sK b6 (rS fun K2 b7 => sMs rfl (sO (oCall rfl call87 (natural_trim ha) rfl ?_)))))
 rintro _ w4 ⟨M, a, N, f, rfl, z, A, J, c8⟩
 have e3 := z.size
 have ⟨c9, d0, d1⟩ := A.lkm
 refine sAs rfl (sK b7 (wp_seq_k fun K8 b8 => rS fun K9 K => sMs rfl (sV (evLen underlying23 rfl) ?_)))
 by_cases B : ((a : Int)) = 0
 ·refine sV (evEql true rfl rfl (dT B)) (sK K (cT rfl (rS fun e4 O => sAs rfl (sK O (wp_ret (xR (ret1 (.slice none 0 0) results74 (resT rfl) ?_)))))))
  exact ⟨none, 0, 0, ([]), rfl, z, NatR.nil, (by rw [← val_trim da, ← J, show f = [] from List.eq_nil_of_length_eq_zero (by omega)]; simp [val]), (canon_nil _), (by omega)⟩
 ·refine sV (evEql false rfl rfl (dF B)) (sK K (cF rfl (wp_skip (xN (b8 _ _ (rS fun e5 Q => sMi rfl (sV (evMax ((xn : Int)) rfl rfl (by split <;> omega)) (sV (evMin ((xn : Int)) rfl rfl (by split <;> omega)) (sAi rfl (sK Q (rS fun e6 R => sMi rfl (sV (evQuo (((xn / 32 : Nat) : Int)) rfl rfl Qo (quoEi64 Qo Qo Qo)) (sMi rfl (sV (evRem (((xn % 32 : Nat) : Int)) rfl rfl Qo (remE Qo Qo)) (sV (evConv (((xn % 32 : Nat) : Int)) underlying3 underlying139 rfl (wU64 Qo)) (sAi rfl (sAi rfl (sK R (rS fun e7 S => sMi rfl (sMs rfl (sV (evLen underlying23 rfl) (sV (evAdd ((((xn / 32 : Nat) : Int)) + ((a : Int))) rfl rfl wI) ?_))))))))))))))))))))))
  refine sV (evAdd (((((xn / 32 : Nat) : Int)) + ((a : Int))) + 1) rfl rfl wI) (sO (oMake1 (((xn / 32) + a) + 1) underlying23 inf26 rfl cI cI Qo Qo (fun g L d2 C d3 T => ?_)))
  have U : Blk L g 26 (((List.replicate (((xn / 32) + a) + 1) 0)).map u32) := by rw [List.map_replicate]; exact T
  refine sAs rfl (sK S (rS fun e8 V => sMs rfl (sMi rfl (sV (evSliceLoAt (xn / 32) underlying23 sz26 rfl rfl Qo Qo Qo Qo (xn / 32) Qo) (sAs rfl (sK V (wp_seq_k fun e9 W => rS fun f0 X => sMs rfl (sV (evLen underlying23 rfl) (sMi rfl (sK X (wp_block ?_)))))))))))
  refine lLoop (fun m e w_ => ∃ (k : Nat) (P : List Nat) (cy : Nat), m = a - k ∧ e 6 = (.int .u64 (((xn % 32 : Nat) : Int))) ∧ e 7 = (.slice (some ⟨g, 0, none⟩) (((xn / 32) + a) + 1) (((xn / 32) + a) + 1)) ∧ e 8 = (.slice (some ⟨g, xn / 32, none⟩) ((((xn / 32) + a) + 1) - (xn / 32)) ((((xn / 32) + a) + 1) - (xn / 32))) ∧ e 34 = (.slice M a N) ∧ e 35 = (.int .i64 a) ∧ e 36 = (.int .i64 k) ∧ Frm (fun b => b = g) L w_ ∧ Blk w_ g 26 ((List.replicate (xn / 32) 0 ++ (P ++ (cy :: List.replicate (a - k) 0))).map u32) ∧ (k ≤ a) ∧ (P.length = k) ∧ (∀ d ∈ P, d < BS) ∧ (cy < 2 ^ (xn % 32)) ∧ (cy < 4294967296) ∧ (val P + BS ^ k * cy = val (f.take k) * 2 ^ (xn % 32))) (a - (0)) ?_ ?_
  ·refine ⟨(0), ([]), (0), rfl, rfl, rfl, rfl, rfl, rfl, cI, (Frm.refl _ _), ?_, ?_, ?_, ?_, ?_, ?_, ?_⟩
   ·rw [List.nil_append, rep_shl]; exact U
   ·omega
   ·rfl
   ·simp
   ·exact Nat.pow_pos (by decide)
   ·omega
   ·simp [val]
  ·rintro f1 f2 b9 ⟨k, P, cy, d4, Y, a0, a1, a2, a3, a4, h, j, hk, hP, hlt, hcy, D, hw⟩
   obtain ⟨f3, rfl⟩ := sq6 Y a0 a1 a2 a3 a4
   have d5 := h.size
   refine rS fun f4 E => ?_
   by_cases F : ((k : Int)) < ((a : Int))
   ·refine sV (evLss true rfl rfl (dT F)) (sK E (wp_seq_k fun f5 a5 => cT rfl (wp_skip (xN (a5 _ _ (wp_seq_k fun f6 a6 => wp_block (rS fun f7 a7 => sMi rfl ?_)))))))
    have a8 := C.rx h
    have p := (A.frmB a8 q3)
    obtain ⟨f8, c0, rfl⟩ := p.base Qo
    refine sV (evIx k underlying23 sz26 rfl rfl (c0 + k)) ?_
    have d6 := p.lt k
    refine sV (evLoad one26 rfl (p.cell Qo)) (sAi rfl (sAi rfl (sK a7 (wp_seq_k fun f9 a9 => ?_))))
    have hsp := shl_parts (p.lt k) (show xn % 32 ≤ 31 by omega) hcy
    refine wp_region_lit (sMi rfl (sV (evConv (((f.getD k 0 : Nat) : Int)) underlying26 underlying100 rfl (wU64 Qo)) (sMi rfl (sV (evShl (((f.getD k 0 * 2 ^ (xn % 32) : Nat) : Int)) rfl rfl Qo (shlE64u Qo Qo Qo Qo)) (sAi rfl (sK a9 (wp_seq_k fun g0 b0 => ?_)))))))
    have hq := shl_get (Z := List.replicate (a - k) 0) (c := cy) (w := xn / 32) hP (t := xn / 32 + k) rfl
    refine wp_region_lit (sMs rfl (sMi rfl (sV (evIx k underlying23 sz26 rfl rfl (xn / 32 + k)) ?_)))
    have d7 := getD_lt (ds := List.replicate (xn / 32) 0 ++ (P ++ (cy :: List.replicate (a - k) 0))) (i := xn / 32 + k) (lt_shl hlt D)
    refine sV (evLoad one26 rfl (j.dig (by exact lq))) ?_
    generalize d8 : (List.replicate (xn / 32) 0 ++ (P ++ (cy :: List.replicate (a - k) 0))).getD (xn / 32 + k) 0 = q48 at *
    obtain rfl := hq.symm
    refine sMi rfl (sV (evConv ((((f.getD k 0 * 2 ^ (xn % 32)) % 4294967296 : Nat) : Int)) underlying100 underlying26 rfl (wU32m Qo)) (sV (v := (.int .u32 (((cy + (f.getD k 0 * 2 ^ (xn % 32)) % 4294967296 : Nat) : Int)))) (evOr32n rfl rfl Qo Qo hsp.2.1) (sV (evIx k underlying23 sz26 rfl rfl (xn / 32 + k)) (sO (oStore1 rfl rfl rfl sz26 j (by exact lq) (fun c1 b1 d9 l => ?_))))))
    replace l : Blk c1 g 26 ((List.replicate (xn / 32) 0 ++ (P ++ ((cy + (f.getD k 0 * 2 ^ (xn % 32)) % 4294967296) :: List.replicate (a - k) 0))).map u32) := by rw [← (shl_set1 hP (by omega) : (List.replicate (xn / 32) 0 ++ (P ++ (cy :: List.replicate (a - k) 0))).set (xn / 32 + k) (cy + (f.getD k 0 * 2 ^ (xn % 32)) % 4294967296) = List.replicate (xn / 32) 0 ++ (P ++ ((cy + (f.getD k 0 * 2 ^ (xn % 32)) % 4294967296) :: List.replicate (a - k) 0))), List.map_set]; exact l
    refine sK b0 (wp_region_lit (sMs rfl (sMi rfl (sV (evAdd (((k : Int)) + 1) rfl rfl wI) (sMi rfl (sV (evShr ((((f.getD k 0 * 2 ^ (xn % 32)) / 2 ^ 32 : Nat) : Int)) rfl rfl Qo (shrE (x := f.getD k 0 * 2 ^ (xn % 32)) (s := 32) Qo Qo (by show _ ≤ 64; omega))) (sV (evConv (((((f.getD k 0 * 2 ^ (xn % 32)) / 2 ^ 32) % 4294967296 : Nat) : Int)) underlying100 underlying26 rfl (wU32m Qo)) (sV (evIx (k + 1) underlying23 sz26 rfl rfl (xn / 32 + (k + 1))) ?_))))))))
    have hcn : ((f.getD k 0 * 2 ^ (xn % 32)) / 2 ^ 32) % 4294967296 < 2 ^ (xn % 32) := by have h1 := hsp.2.2.2.1; omega
    refine sO (oStore1 rfl rfl rfl sz26 l (by exact lq) (fun c2 b2 e0 o => ?_))
    replace o : Blk c2 g 26 ((List.replicate (xn / 32) 0 ++ ((P ++ [cy + (f.getD k 0 * 2 ^ (xn % 32)) % 4294967296]) ++ ((((f.getD k 0 * 2 ^ (xn % 32)) / 2 ^ 32) % 4294967296) :: List.replicate (a - (k + 1)) 0))).map u32) := by rw [← (shl_set2 hP (by omega) (by omega) : (List.replicate (xn / 32) 0 ++ (P ++ ((cy + (f.getD k 0 * 2 ^ (xn % 32)) % 4294967296) :: List.replicate (a - k) 0))).set (xn / 32 + (k + 1)) (((f.getD k 0 * 2 ^ (xn % 32)) / 2 ^ 32) % 4294967296) = List.replicate (xn / 32) 0 ++ ((P ++ [cy + (f.getD k 0 * 2 ^ (xn % 32)) % 4294967296]) ++ ((((f.getD k 0 * 2 ^ (xn % 32)) / 2 ^ 32) % 4294967296) :: List.replicate (a - (k + 1)) 0))), List.map_set]; exact o
    refine sDone (bN (xN (a6 _ _ (wp_region_lit (sV (evAdd (((k : Int)) + 1) rfl rfl wI) (sMi rfl (sDone ?_)))))))
    have b3 := b1.trans b2
    refine again (a - (k + 1)) Qo ⟨(k + 1), (P ++ [cy + (f.getD k 0 * 2 ^ (xn % 32)) % 4294967296]), (((f.getD k 0 * 2 ^ (xn % 32)) / 2 ^ 32) % 4294967296), rfl, rfl, rfl, rfl, rfl, rfl, cI, (h.trans b3), ?_, ?_, ?_, ?_, ?_, ?_, ?_⟩
    ·exact o
    ·omega
    ·simp [hP]
    ·exact lt_snoc hlt Qo
    ·exact hcn
    ·omega
    ·exact shl_step hw hP Qo
   ·refine sV (evLss false rfl rfl (dF F)) (sK E (wp_seq_k fun g1 e1 => cF rfl (wp_exit (xE (xE (bE (xN (W _ _ (rS fun g2 b4 => sMs rfl ?_)))))))))
    have c3 : NatR b9 (fun b => b = g) (some ⟨g, 0, none⟩) (((xn / 32) + a) + 1) (((xn / 32) + a) + 1) (List.replicate (xn / 32) 0 ++ (P ++ (cy :: List.replicate (a - k) 0))) := NatR.of_blk j rfl (lt_shl hlt D) (by exact lq) Qo (by unfold CapMax; omega)
    refine sO (oCall rfl call87 (natural_trim c3) rfl ?_)
    rintro _ g3 ⟨q, r, u, I, rfl, G, y, H, c4⟩
    have e2 := G.size
    have ⟨c5, c6, c7⟩ := y.lkm
    refine sAs rfl (sK b4 (wp_ret (ret1 (.slice q r u) results74 (resT rfl) ?_)))
    have b5 := ((z.trans C).rx h).xr G
    exact ⟨q, r, u, I, rfl, (Frm.mono b5 q4), (NatR.sub y q5), (by rw [H, val_trim, shl_end (n := xn) hw hP (by omega) (by omega) (by omega), J, val_trim]), (by rw [H]; exact canon_trim _ _), (by omega)⟩
set_option maxHeartbeats 1000000 in
theorem natural_Shr {w : World} {Sa : Nat → Prop} {Aa : Option Addr} {na ca : Nat} {da : List Nat} {xn : Nat} (ha : NatR w Sa Aa na ca da) (bn : xn ≤ 9223372036854775807) (hna : na ≤ 549755813888) : Calls Tryz.prog 146 #[(.slice Aa na ca), (.int .i64 xn)] w (Ret fun v w' => ∃ (Ar : Option Addr) (nr : Nat) (cr : Nat) (dr : List Nat), v = (.slice Ar nr cr) ∧ Ext w w' ∧ NatR w' (fun b => w.heap.size ≤ b) Ar nr cr dr ∧ (val dr = val da / 2 ^ xn) ∧ (Canon isZ dr) ∧ (nr ≤ na)) := by
 have ⟨la, ka, ma⟩ := ha.lkm
 replace ha := ha.low
 refine enter func146 rfl ntmps146 rfl (rS fun K1 b2 => sAs rfl (sK b2 (rS fun K2 b3 => sMs rfl (sO (oCall rfl call87 (natural_trim ha) rfl ?_)))))
 rintro _ w4 ⟨y, c, j, a, rfl, z, i, O, c8⟩
 have e1 := z.size
 have ⟨S, c9, d0⟩ := i.lkm
 refine sAs rfl (sK b3 (rS fun K8 b4 => sMi rfl (sV (evMax ((xn : Int)) rfl rfl (by split <;> omega)) (sAi rfl (sK b4 (rS fun K9 b5 => sMi rfl (sV (evQuo (((xn / 32 : Nat) : Int)) rfl rfl Qo (quoEi64 Qo Qo Qo)) (sMi rfl (sV (evRem (((xn % 32 : Nat) : Int)) rfl rfl Qo (remE Qo Qo)) (sV (evConv (((xn % 32 : Nat) : Int)) underlying3 underlying139 rfl (wU64 Qo)) (sAi rfl (sAi rfl (sK b5 (wp_seq_k fun e2 T => rS fun e3 A => sMi rfl (sMs rfl (sV (evLen underlying23 rfl) ?_))))))))))))))))
 by_cases B : (((xn / 32 : Nat) : Int)) ≥ ((c : Int))
 ·refine sV (evGeq true rfl rfl (dT B)) (sK A (cT rfl (rS fun e4 U => sAs rfl (sK U (wp_ret (xR (ret1 (.slice none 0 0) results146 (resT rfl) ?_)))))))
  exact ⟨none, 0, 0, ([]), rfl, z, NatR.nil, (by rw [← val_trim da, ← O]; exact shr_zero (w := xn / 32) i.2 S (by omega) (by omega)), (canon_nil _), (by omega)⟩
 ·refine sV (evGeq false rfl rfl (dF B)) (sK A (cF rfl (wp_skip (xN (T _ _ (rS fun e5 V => sMs rfl (sMi rfl ?_)))))))
  have b6 := i.drop (m := xn / 32) Qo
  refine sV (evSliceLo (xn / 32) underlying23 sz26 rfl rfl Qo Qo Qo) ?_
  generalize (if j = (xn / 32) then y else y.map (·.add ((xn / 32) * 1))) = A15 at *
  refine sAs rfl (sK V (rS fun e6 W => sMs rfl (sV (evLen underlying23 rfl) (sO (oMake1 (c - (xn / 32)) underlying23 inf26 rfl cI cI Qo Qo (fun f Q d1 C d2 X => ?_))))))
  have Y : Blk Q f 26 (((List.replicate (c - (xn / 32)) 0)).map u32) := by rw [List.map_replicate]; exact X
  refine sAs rfl (sK W (wp_seq_k fun e7 Z => rS fun e8 a0 => sMs rfl (sV (evLen underlying23 rfl) (sMi rfl (sK a0 (wp_block ?_))))))
  have b7 := (b6.ext C)
  refine lLoop (fun m e w_ => ∃ (k : Nat) (P : List Nat), m = (c - (xn / 32)) - k ∧ e 6 = (.int .u64 (((xn % 32 : Nat) : Int))) ∧ e 7 = (.slice A15 (c - (xn / 32)) (j - (xn / 32))) ∧ e 8 = (.slice (some ⟨f, 0, none⟩) (c - (xn / 32)) (c - (xn / 32))) ∧ e 31 = (.slice A15 (c - (xn / 32)) (j - (xn / 32))) ∧ e 32 = (.int .i64 (((c - (xn / 32) : Nat) : Int))) ∧ e 33 = (.int .i64 k) ∧ Frm (fun b => b = f) Q w_ ∧ Blk w_ f 26 ((P ++ List.replicate ((c - (xn / 32)) - k) 0).map u32) ∧ (k ≤ c - (xn / 32)) ∧ (P.length = k) ∧ (∀ d ∈ P, d < BS) ∧ (val P = val ((a).drop (xn / 32)) / 2 ^ (xn % 32) % BS ^ k)) ((c - (xn / 32)) - (0)) ?_ ?_
  ·refine ⟨(0), ([]), rfl, rfl, rfl, rfl, rfl, rfl, cI, (Frm.refl _ _), ?_, ?_, ?_, ?_, ?_⟩
   ·simpa using Y
   ·omega
   ·rfl
   ·simp
   ·simp [val, Nat.mod_one]
  ·rintro e9 f0 b8 ⟨k, P, d3, a1, a2, a3, a4, a5, a6, g, l, hk, hP, hlt, hw⟩
   obtain ⟨f1, rfl⟩ := sq6 a1 a2 a3 a4 a5 a6
   have d4 := g.size
   refine rS fun f2 D => ?_
   by_cases E : ((k : Int)) < (((c - (xn / 32) : Nat) : Int))
   ·refine sV (evLss true rfl rfl (dT E)) (sK D (wp_seq_k fun f3 a7 => cT rfl (wp_skip (xN (a7 _ _ (wp_seq_k fun f4 F => wp_block (rS fun f5 a8 => sMi rfl ?_)))))))
    have h := (b7.frmB g q3)
    obtain ⟨f6, R, rfl⟩ := h.base Qo
    refine sV (evIx k underlying23 sz26 rfl rfl (R + k)) ?_
    have d5 := h.lt k
    refine sV (evLoad one26 rfl (h.cell Qo)) (sAi rfl (sAi rfl (sK a8 (rS fun f7 a9 => sMi rfl (sV (evConv (((((a).drop (xn / 32)).getD k 0 : Nat) : Int)) underlying26 underlying100 rfl (wU64 Qo)) (sAi rfl (sK a9 (wp_seq_k fun f8 G => rS fun f9 H => sMi rfl (sV (evAdd (((k : Int)) + 1) rfl rfl wI) (sMs rfl (sV (evLen underlying23 rfl) ?_)))))))))))
    by_cases I : (((k : Int)) + 1) < (((c - (xn / 32) : Nat) : Int))
    ·refine sV (evLss true rfl rfl (dT I)) (sK H (cT rfl (wp_region_lit (sMi rfl (sMs rfl (sMi rfl (sV (evAdd (((k : Int)) + 1) rfl rfl wI) (sV (evIx (k + 1) underlying23 sz26 rfl rfl (R + (k + 1))) ?_))))))))
     have d6 := h.lt (k + 1)
     refine sV (evLoad one26 rfl (h.cell Qo)) (sV (evConv (((((a).drop (xn / 32)).getD (k + 1) 0 : Nat) : Int)) underlying26 underlying100 rfl (wU64 Qo)) (sV (evShl (((((a).drop (xn / 32)).getD (k + 1) 0 * 4294967296 : Nat) : Int)) rfl rfl Qo (shlE64u (x := ((a).drop (xn / 32)).getD (k + 1) 0) (s := 32) Qo Qo Qo Qo)) (sV (v := (.int .u64 (((((a).drop (xn / 32)).getD k 0 + ((a).drop (xn / 32)).getD (k + 1) 0 * 4294967296 : Nat) : Int)))) (evOr64 rfl rfl Qo Qo (or_high Qo)) (sAi rfl (sK G (wp_region_lit (sMs rfl (sMi rfl (sMi rfl (sMi rfl (sV (evShr ((((((a).drop (xn / 32)).getD k 0 + ((a).drop (xn / 32)).getD (k + 1) 0 * 4294967296) / 2 ^ (xn % 32) : Nat) : Int)) rfl rfl Qo (shrE (x := ((a).drop (xn / 32)).getD k 0 + ((a).drop (xn / 32)).getD (k + 1) 0 * 4294967296) (s := xn % 32) Qo Qo (by show _ ≤ 64; omega))) ?_)))))))))))
     refine sV (evConv (((((((a).drop (xn / 32)).getD k 0 + ((a).drop (xn / 32)).getD (k + 1) 0 * 4294967296) / 2 ^ (xn % 32)) % 4294967296 : Nat) : Int)) underlying100 underlying26 rfl (wU32m Qo)) (sV (evIx k underlying23 sz26 rfl rfl k) (sO (oStore1 rfl rfl rfl sz26 l (by exact lq) (fun b9 J d7 o => ?_))))
     replace o : Blk b9 f 26 (((P ++ [((((a).drop (xn / 32)).getD k 0 + ((a).drop (xn / 32)).getD (k + 1) 0 * 4294967296) / 2 ^ (xn % 32)) % 4294967296]) ++ List.replicate ((c - (xn / 32)) - (k + 1)) 0).map u32) := by rw [← (fill_set2 hP (by omega) : (P ++ List.replicate ((c - (xn / 32)) - k) 0).set k (((((a).drop (xn / 32)).getD k 0 + ((a).drop (xn / 32)).getD (k + 1) 0 * 4294967296) / 2 ^ (xn % 32)) % 4294967296) = (P ++ [((((a).drop (xn / 32)).getD k 0 + ((a).drop (xn / 32)).getD (k + 1) 0 * 4294967296) / 2 ^ (xn % 32)) % 4294967296]) ++ List.replicate ((c - (xn / 32)) - (k + 1)) 0), List.map_set]; exact o
     refine sDone (bN (xN (F _ _ (wp_region_lit (sV (evAdd (((k : Int)) + 1) rfl rfl wI) (sMi rfl (sDone ?_)))))))
     have c0 := (h.frmB J q3)
     refine again ((c - (xn / 32)) - (k + 1)) Qo ⟨(k + 1), (P ++ [((((a).drop (xn / 32)).getD k 0 + ((a).drop (xn / 32)).getD (k + 1) 0 * 4294967296) / 2 ^ (xn % 32)) % 4294967296]), rfl, rfl, rfl, rfl, rfl, rfl, cI, (g.trans J), ?_, ?_, ?_, ?_, ?_⟩
     ·exact o
     ·omega
     ·simp [hP]
     ·exact lt_snoc hlt Qo
     ·exact shr_step c0.2 Qo hw hP rfl
    ·refine sV (evLss false rfl rfl (dF I)) (sK H (cF rfl (wp_skip (xN (G _ _ (wp_region_lit (sMs rfl (sMi rfl (sMi rfl (sMi rfl (sV (evShr ((((((a).drop (xn / 32)).getD k 0) / 2 ^ (xn % 32) : Nat) : Int)) rfl rfl Qo (shrE (x := ((a).drop (xn / 32)).getD k 0) (s := xn % 32) Qo Qo (by show _ ≤ 64; omega))) (sV (evConv (((((((a).drop (xn / 32)).getD k 0) / 2 ^ (xn % 32)) % 4294967296 : Nat) : Int)) underlying100 underlying26 rfl (wU32m Qo)) (sV (evIx k underlying23 sz26 rfl rfl k) (sO (oStore1 rfl rfl rfl sz26 l (by exact lq) (fun c1 K d8 p => ?_))))))))))))))))
     replace p : Blk c1 f 26 (((P ++ [((((a).drop (xn / 32)).getD k 0) / 2 ^ (xn % 32)) % 4294967296]) ++ List.replicate ((c - (xn / 32)) - (k + 1)) 0).map u32) := by rw [← (fill_set2 hP (by omega) : (P ++ List.replicate ((c - (xn / 32)) - k) 0).set k (((((a).drop (xn / 32)).getD k 0) / 2 ^ (xn % 32)) % 4294967296) = (P ++ [((((a).drop (xn / 32)).getD k 0) / 2 ^ (xn % 32)) % 4294967296]) ++ List.replicate ((c - (xn / 32)) - (k + 1)) 0), List.map_set]; exact p
     refine sDone (bN (xN (F _ _ (wp_region_lit (sV (evAdd (((k : Int)) + 1) rfl rfl wI) (sMi rfl (sDone ?_)))))))
     have c2 := (h.frmB K q3)
     refine again ((c - (xn / 32)) - (k + 1)) Qo ⟨(k + 1), (P ++ [((((a).drop (xn / 32)).getD k 0) / 2 ^ (xn % 32)) % 4294967296]), rfl, rfl, rfl, rfl, rfl, rfl, cI, (g.trans K), ?_, ?_, ?_, ?_, ?_⟩
     ·exact p
     ·omega
     ·simp [hP]
     ·exact lt_snoc hlt Qo
     ·exact shr_step c2.2 (by omega) hw hP (by rw [getD_ge (ds := (a).drop (xn / 32)) (n := (c - (xn / 32))) (by exact lq) (k + 1) (by omega), Nat.zero_mul, Nat.add_zero])
   ·refine sV (evLss false rfl rfl (dF E)) (sK D (wp_seq_k fun g0 d9 => cF rfl (wp_exit (xE (xE (bE (xN (Z _ _ (rS fun g1 b0 => sMs rfl ?_)))))))))
    have c3 : NatR b8 (fun b => b = f) (some ⟨f, 0, none⟩) (c - (xn / 32)) (c - (xn / 32)) (P ++ List.replicate ((c - (xn / 32)) - k) 0) := NatR.of_blk l rfl (lt_fill hlt) (by exact lq) Qo (by unfold CapMax; omega)
    refine sO (oCall rfl call87 (natural_trim c3) rfl ?_)
    rintro _ g2 ⟨q, r, t, N, rfl, L, u, M, c4⟩
    have e0 := L.size
    have ⟨c5, c6, c7⟩ := u.lkm
    refine sAs rfl (sK b0 (wp_ret (ret1 (.slice q r t) results146 (resT rfl) ?_)))
    have b1 := ((z.trans C).rx g).xr L
    exact ⟨q, r, t, N, rfl, (Frm.mono b1 q4), (NatR.sub u q5), (by rw [M, val_trim, shr_end (n := xn) i.2 rfl hw (by simp; omega) (by omega), O, val_trim]), (by rw [M]; exact canon_trim _ _), (by omega)⟩
end Go.Proofs.YtneolcopompkaaaGreatDoor
