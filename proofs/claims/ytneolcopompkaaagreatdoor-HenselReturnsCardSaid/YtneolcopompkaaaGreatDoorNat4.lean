/-
  Walks of package natural: the product.
-/
import Derived.Test.YtneolcopompkaaaGreatDoorNat3
import Derived.Test.YtneolcopompkaaaGreatDoorLibA
namespace Go.Proofs.YtneolcopompkaaaGreatDoor
open Go.RowKit Go.Gx Tryz
theorem natural_addInto {w : World} {pz oz nz cz : Nat} {Uz Zz : List Nat} {Ax : Option Addr} {nx cx : Nat} {dx : List Nat} (Bz : Blk w pz 26 ((Uz ++ Zz).map u32)) (luz : Uz.length = oz) (lzz : Zz.length = nz) (ltz : ∀ d ∈ Uz ++ Zz, d < BS) (lcz : cz ≤ 9223372036854775807) (lkz : nz ≤ cz) (hx : NatR w (fun b => b ≠ pz) Ax nx cx dx) (hxz : nx ≤ nz) : Calls Tryz.prog 127 #[(.slice (some ⟨pz, oz, none⟩) nz cz), (.slice Ax nx cx)] w (Ret fun v w' => ∃ (Zr : List Nat) (cr : Nat), v = (.tuple #[]) ∧ Frm (fun b => b = pz) w w' ∧ (Blk w' pz 26 ((Uz ++ Zr).map u32)) ∧ (Zr.length = nz) ∧ (∀ d ∈ Uz ++ Zr, d < BS) ∧ (val Zr + BS ^ nz * cr = val Zz + val dx)) := by
 have ⟨lx, kx, mx⟩ := hx.lkm
 refine enter func127 rfl ntmps127 rfl (rS fun K1 a2 => sAi rfl (sK a2 (wp_seq_k fun K2 a3 => rS fun K3 a4 => sMs rfl (sV (evLen underlying23 rfl) (sMi rfl (sK a4 (wp_block ?_)))))))
 refine lLoop (fun m e w_ => ∃ (k : Nat) (P : List Nat) (cy : Nat), m = nx - k ∧ e 0 = (.slice (some ⟨pz, oz, none⟩) nz cz) ∧ e 1 = (.slice Ax nx cx) ∧ e 4 = (.int .u32 cy) ∧ e 8 = (.slice Ax nx cx) ∧ e 9 = (.int .i64 nx) ∧ e 10 = (.int .i64 k) ∧ Frm (fun b => b = pz) w w_ ∧ Blk w_ pz 26 ((Uz ++ (P ++ Zz.drop k)).map u32) ∧ (k ≤ nx) ∧ (0 ≤ k) ∧ (P.length = k) ∧ (∀ d ∈ P, d < BS) ∧ (cy ≤ 1) ∧ (val P + BS ^ k * cy = val (Zz.take k) + val (dx.take k))) (nx - (0)) ?_ ?_
 ·refine ⟨(0), ([]), (0), rfl, rfl, rfl, cI, rfl, rfl, cI, (Frm.refl _ _), ?_, ?_, ?_, ?_, ?_, ?_, ?_⟩
  ·simpa using Bz
  ·omega
  ·omega
  ·rfl
  ·simp
  ·omega
  ·simp [val]
 ·rintro m4 d4 w5 ⟨k, P, cy, b7, a5, a6, a7, a8, I, J, j, u, hk, hl, hP, hlt, hcy, hv⟩
  obtain ⟨d5, rfl⟩ := sq6 a5 a6 a7 a8 I J
  have b8 := j.size
  refine rS fun d6 C => ?_
  by_cases D : ((k : Int)) < ((nx : Int))
  ·refine sV (evLss true rfl rfl (dT D)) (sK C (wp_seq_k fun d7 K => cT rfl (wp_skip (xN (K _ _ (wp_seq_k fun d8 L => wp_block (rS fun d9 M => sMi rfl ?_)))))))
   have E := (hx.frmB j q3)
   obtain ⟨e0, a9, rfl⟩ := E.base Qo
   refine sV (evIx k underlying23 sz26 rfl rfl (a9 + k)) ?_
   have b9 := E.lt k
   refine sV (evLoad one26 rfl (E.cell Qo)) (sAi rfl (sAi rfl (sK M (wp_region_lit (sMs rfl (sMi rfl (sMs rfl (sMi rfl (sV (evIx k underlying23 sz26 rfl rfl (oz + k)) ?_)))))))))
   have c0 := getD_lt (ds := Uz ++ (P ++ Zz.drop k)) (i := oz + k) (lt_seg ltz hlt)
   refine sV (evLoad one26 rfl (u.dig (by exact lq))) ?_
   have hq := seg_get luz hP (show k < Zz.length by omega) (t := oz + k) rfl
   refine sMi rfl (sMi rfl (sO (oCall rfl call89 (bits_Add32 (x1 := (Uz ++ (P ++ Zz.drop k)).getD (oz + k) 0) Qo (x2 := dx.getD k 0) Qo (x3 := cy) Qo Qo) rfl ?_)))
   rintro _ e1 ⟨c, o, rfl, x, b2, b3, c1, c2⟩
   have c3 := x.size
   refine sV (v := (.tuple #[(.int .u32 c), (.int .u32 o)])) (rfl) (sV (v := (.int .u32 c)) (rfl) (sV (v := (.int .u32 o)) (rfl) (sV (evIx k underlying23 sz26 rfl rfl (oz + k)) ?_)))
   have N := (u.ext x)
   refine sO (oStore1 rfl rfl rfl sz26 N (by exact lq) (fun b0 O c4 y => ?_))
   replace y : Blk b0 pz 26 ((Uz ++ ((P ++ [c]) ++ Zz.drop (k + 1))).map u32) := by rw [← (seg_set luz hP (by omega) (by omega) : (Uz ++ (P ++ Zz.drop k)).set (oz + k) c = Uz ++ ((P ++ [c]) ++ Zz.drop (k + 1))), List.map_set]; exact y
   refine sAi rfl (sDone (bN (xN (L _ _ (wp_region_lit (sV (evAdd (((k : Int)) + 1) rfl rfl wI) (sMi rfl (sDone ?_))))))))
   have Q := x.rx O
   refine again (nx - (k + 1)) Qo ⟨(k + 1), (P ++ [c]), (o), rfl, rfl, rfl, cI, rfl, rfl, cI, (j.trans Q), ?_, ?_, ?_, ?_, ?_, ?_, ?_⟩
   ·exact y
   ·omega
   ·omega
   ·simp [hP]
   ·exact lt_snoc hlt Qo
   ·omega
   ·exact add_step hv hP Qo
  ·refine sV (evLss false rfl rfl (dF D)) (sK C (wp_seq_k fun e2 c5 => cF rfl (wp_exit (xE (xE (bE (xN (a3 _ _ (rS fun e3 R => sMs rfl (sV (evLen underlying23 rfl) (sAi rfl (sK R (wp_block ?_)))))))))))))
   refine lLoop (fun m e w_ => ∃ (a : Nat) (g : List Nat) (h : Nat), m = nz - a ∧ e 0 = (.slice (some ⟨pz, oz, none⟩) nz cz) ∧ e 4 = (.int .u32 h) ∧ e 7 = (.int .i64 a) ∧ Frm (fun b => b = pz) w5 w_ ∧ Blk w_ pz 26 ((Uz ++ (g ++ Zz.drop a)).map u32) ∧ (a ≤ nz) ∧ (nx ≤ a) ∧ (g.length = a) ∧ (∀ d ∈ g, d < BS) ∧ (h ≤ 1) ∧ (val g + BS ^ a * h = val (Zz.take a) + val (dx.take a))) (nz - (k)) ?_ ?_
   ·refine ⟨(k), (P), (cy), rfl, rfl, cI, cI, (Frm.refl _ _), ?_, ?_, ?_, ?_, ?_, ?_, ?_⟩
    ·exact u
    ·omega
    ·omega
    ·exact hP
    ·exact hlt
    ·omega
    ·exact hv
   ·rintro e4 e5 e6 ⟨a, g, h, c6, S, T, U, p, q, e7, e8, l, r, c7, F⟩
    obtain ⟨e9, rfl⟩ := sq3 S T U
    have c8 := p.size
    refine wp_seq_k fun f0 V => rS fun f1 z => sMi rfl ?_
    by_cases G : ((h : Int)) ≠ 0
    ·refine sV (evNeq true rfl rfl (dT G)) (sMb rfl (sEv (v := (.int .i64 a)) (rfl) rfl rfl (sEv (v := (.slice (some ⟨pz, oz, none⟩) nz cz)) (rfl) rfl rfl (sEv (v := (.int .i64 nz)) (evLen underlying23 rfl) rfl rfl ?_))))
     by_cases H : ((a : Int)) < ((nz : Int))
     ·refine sEv (v := (.bool true)) (evLss true rfl rfl (dT H)) rfl rfl (sV (v := (.bool true)) (rfl) (sK z (cT rfl (wp_skip (xN (V _ _ (wp_seq_k fun f2 W => wp_block (wp_region_lit (sMs rfl (sMi rfl (sMs rfl (sMi rfl (sV (evIx a underlying23 sz26 rfl rfl (oz + a)) ?_)))))))))))))
      have c9 := getD_lt (ds := Uz ++ (g ++ Zz.drop a)) (i := oz + a) (lt_seg ltz r)
      refine sV (evLoad one26 rfl (q.dig (by exact lq))) ?_
      have hq := seg_get luz l (show a < Zz.length by omega) (t := oz + a) rfl
      refine sMi rfl (sO (oCall rfl call89 (bits_Add32 (x1 := (Uz ++ (g ++ Zz.drop a)).getD (oz + a) 0) Qo (x2 := 0) Qo (x3 := h) Qo Qo) rfl ?_))
      rintro _ f3 ⟨f, s, rfl, A, b4, b5, d0, d1⟩
      have d2 := A.size
      refine sV (v := (.tuple #[(.int .u32 f), (.int .u32 s)])) (rfl) (sV (v := (.int .u32 f)) (rfl) (sV (v := (.int .u32 s)) (rfl) (sV (evIx a underlying23 sz26 rfl rfl (oz + a)) ?_)))
      have X := (q.ext A)
      refine sO (oStore1 rfl rfl rfl sz26 X (by exact lq) (fun b1 Y d3 B => ?_))
      replace B : Blk b1 pz 26 ((Uz ++ ((g ++ [f]) ++ Zz.drop (a + 1))).map u32) := by rw [← (seg_set luz l (by omega) (by omega) : (Uz ++ (g ++ Zz.drop a)).set (oz + a) f = Uz ++ ((g ++ [f]) ++ Zz.drop (a + 1))), List.map_set]; exact B
      refine sAi rfl (sDone (bN (xN (W _ _ (wp_region_lit (sMi rfl (sV (evAdd (((a : Int)) + 1) rfl rfl wI) (sAi rfl (sDone ?_)))))))))
      have Z := A.rx Y
      refine again (nz - (a + 1)) Qo ⟨(a + 1), (g ++ [f]), (s), rfl, rfl, cI, cI, (p.trans Z), ?_, ?_, ?_, ?_, ?_, ?_, ?_⟩
      ·exact B
      ·omega
      ·omega
      ·simp [l]
      ·exact lt_snoc r Qo
      ·omega
      ·exact add_step F l (by rw [getD_ge (ds := dx) (n := nx) (by omega) a (by omega)]; omega)
     ·refine sEv (v := (.bool false)) (evLss false rfl rfl (dF H)) rfl rfl (sV (v := (.bool false)) (rfl) (sK z (cF rfl (wp_exit (xE (xE (bE (end0 results127 ?_))))))))
      have a0 := j.trans p
      exact ⟨(g ++ Zz.drop a), h, rfl, a0, q, (by exact lq), (lt_seg ltz r), (addin_full F l Qo Qo Qo)⟩
    ·refine sV (evNeq false rfl rfl (dF G)) (sMb rfl (sSkip rfl rfl (sSkip rfl rfl (sSkip rfl rfl (sSkip rfl rfl (sV (v := (.bool false)) (rfl) (sK z (cF rfl (wp_exit (xE (xE (bE (end0 results127 ?_)))))))))))))
     obtain rfl : h = 0 := by omega
     have a1 := j.trans p
     exact ⟨(g ++ Zz.drop a), 0, rfl, a1, q, (by exact lq), (lt_seg ltz r), (addin_zero F l Qo Qo Qo)⟩
set_option maxHeartbeats 1000000 in
theorem natural_product_step (N : Nat) (ih : ∀ {w : World} {Sa : Nat → Prop} {Aa : Option Addr} {na ca : Nat} {da : List Nat} {Sb : Nat → Prop} {Ab : Option Addr} {nb cb : Nat} {db : List Nat} (ha : NatR w Sa Aa na ca da) (hb : NatR w Sb Ab nb cb db) (hna : na + nb ≤ 1099511627776) (hN : na + nb + 1 ≤ N), Calls Tryz.prog 110 #[(.slice Aa na ca), (.slice Ab nb cb)] w (Ret fun v w' => ∃ (Ar : Option Addr) (nr : Nat) (cr : Nat) (dr : List Nat), v = (.slice Ar nr cr) ∧ Ext w w' ∧ NatR w' (fun b => w.heap.size ≤ b) Ar nr cr dr ∧ (val dr = val da * val db) ∧ (nr = na + nb))) {w : World} {Sa : Nat → Prop} {Aa : Option Addr} {na ca : Nat} {da : List Nat} {Sb : Nat → Prop} {Ab : Option Addr} {nb cb : Nat} {db : List Nat} (ha : NatR w Sa Aa na ca da) (hb : NatR w Sb Ab nb cb db) (hna : na + nb ≤ 1099511627776) (hN : na + nb ≤ N) : Calls Tryz.prog 110 #[(.slice Aa na ca), (.slice Ab nb cb)] w (Ret fun v w' => ∃ (Ar : Option Addr) (nr : Nat) (cr : Nat) (dr : List Nat), v = (.slice Ar nr cr) ∧ Ext w w' ∧ NatR w' (fun b => w.heap.size ≤ b) Ar nr cr dr ∧ (val dr = val da * val db) ∧ (nr = na + nb)) := by
 have ⟨la, ka, ma⟩ := ha.lkm
 replace ha := ha.low
 have ⟨lb, kb, mb⟩ := hb.lkm
 replace hb := hb.low
 refine enter func110 rfl ntmps110 rfl (rS fun K1 E4 => sAs rfl (sK E4 (wp_seq_k fun K2 w0 => rS fun K3 w1 => sMs rfl (sV (evLen underlying23 rfl) (sMs rfl (sV (evLen underlying23 rfl) ?_))))))
 by_cases w2 : ((na : Int)) < ((nb : Int))
 ·refine sV (evLss true rfl rfl (dT w2)) (sK w1 (cT rfl (wp_region_lit (sMs rfl (sMs rfl (sAs rfl (sAs rfl (sK w0 (wp_seq_k fun K5 E5 => rS fun K6 w3 => sMs rfl (sV (evLen underlying23 rfl) ?_))))))))))
  by_cases w4 : ((na : Int)) < 48
  ·refine sV (evLss true rfl rfl (dT w4)) (sK w3 (cT rfl (rS fun K8 E6 => sMs rfl (sMs rfl (sO (oCall rfl call126 (natural_schoolbook ha hb Qo Qo) rfl ?_))))))
   rintro _ bi ⟨i5, i6, i7, w8, rfl, i8, i9, E7, Y8⟩
   have Y9 := i8.size
   have ⟨Z0, Z1, Z2⟩ := i9.lkm
   refine sAs rfl (sK E6 (wp_ret (xR (ret1 (.slice i5 i6 i7) results110 (resT rfl) ?_))))
   exact ⟨i5, i6, i7, w8, rfl, i8, (NatR.sub i9 q5), E7, Qo⟩
  ·refine sV (evLss false rfl rfl (dF w4)) (sK w3 (cF rfl (wp_skip (xN (E5 _ _ (rS fun bj w9 => sMs rfl (sV (evLen underlying23 rfl) (sMs rfl (sV (evLen underlying23 rfl) (sV (evAdd (((nb : Int)) + ((na : Int))) rfl rfl wI) (sO (oMake1 (nb + na) underlying23 inf26 rfl cI cI Qo Qo (fun e E8 Z3 e9 Z4 x0 => ?_)))))))))))))
   have a3 : Blk E8 e 26 (((List.replicate (nb + na) 0)).map u32) := by rw [List.map_replicate]; exact x0
   refine sAs rfl (sK w9 (wp_seq_k fun bk x1 => rS fun bl j0 => sMs rfl ?_))
   have j1 := (hb.ext e9)
   refine sO (oCall rfl call69 (natural_IsZero j1) rfl ?_)
   rintro _ E9 ⟨n4, rfl, B, x2⟩
   have Z5 := B.size
   refine sMb rfl ?_
   cases n4
   ·refine sEv (v := (.slice Aa na ca)) (rfl) rfl rfl ?_
    have a4 := e9.trans B
    have j2 := (ha.ext a4)
    refine sOp rfl (oCall rfl call69 (natural_IsZero j2) rfl ?_)
    rintro _ F0 ⟨f7, rfl, q, x3⟩
    have Z6 := q.size
    refine sV (v := (.bool f7)) (rfl) (sK j0 (cB f7 rfl ?_ ?_))
    ·intro f0
     subst f0
     refine rS fun bm x4 => sMs rfl (sAs rfl (sK x4 (wp_ret (xR (ret1 (.slice (some ⟨e, 0, none⟩) (nb + na) (nb + na)) results110 (resT rfl) ?_)))))
     have x5 := B.trans q
     have x6 := (a3.ext x5)
     have F1 : NatR F0 (fun b => b = e) (some ⟨e, 0, none⟩) (nb + na) (nb + na) (List.replicate (nb + na) 0) := NatR.of_blk x6 rfl (lt_zeros _) (by exact lq) Qo (by unfold CapMax; omega)
     have x7 := a4.trans q
     exact ⟨(some ⟨e, 0, none⟩), (nb + na), (nb + na), (List.replicate (nb + na) 0), rfl, x7, (NatR.sub F1 q5), (by rw [val_zeros, zmul1 (of_decide_eq_true x3.symm)]), (by omega)⟩
    ·intro f0
     subst f0
     refine wp_skip (xN (x1 _ _ (rS fun bn x8 => sMs rfl (sV (evLen underlying23 rfl) (sV (evAdd (((nb : Int)) + 1) rfl rfl wI) (sV (evQuo ((((nb + 1) / 2 : Nat) : Int)) rfl rfl Qo (quoI Qo Qo)) (sAi rfl (sK x8 (wp_seq_k fun bo x9 => rS fun bp j3 => sMs rfl (sV (evLen underlying23 rfl) (sMi rfl ?_)))))))))))
     by_cases j4 : ((na : Int)) ≤ ((((nb + 1) / 2 : Nat) : Int))
     ·refine sV (evLeq true rfl rfl (dT j4)) (sK j3 (cT rfl (rS fun bq y0 => sMs rfl (sMs rfl (sMi rfl ?_)))))
      have j5 := B.trans q
      have w5 := (j1.ext j5)
      have F2 := w5.take (m := (nb + 1) / 2) Qo
      refine sV (evSliceHi ((nb + 1) / 2) underlying23 sz26 rfl rfl Qo Qo) (sMs rfl ?_)
      have w6 := (j2.ext q)
      refine sO (oCall rfl call110 (ih F2 w6 Qo Qo) rfl ?_)
      rintro _ br ⟨S9, r, T0, l, rfl, a5, a6, y1, T1⟩
      have Z7 := a5.size
      have ⟨n5, T2, T3⟩ := a6.lkm
      have y2 := j5.trans a5
      have y3 := (a3.ext y2)
      refine sO (oCopy underlying23 sz26 rfl rfl a6.1 (u32s_one _) y3 Qo (by exact lq) (fun F3 j6 Z8 f1 => ?_))
      replace f1 : Blk F3 e 26 ((l ++ List.replicate (nb + na - r) 0).map u32) := by rw [← (copy_first n5 (by omega) : (List.replicate (nb + na) 0).take 0 ++ l ++ (List.replicate (nb + na) 0).drop (0 + r) = l ++ List.replicate (nb + na - r) 0), List.map_append, List.map_append, List.map_take, List.map_drop]; exact f1
      rw [put_mkA]
      refine sK y0 (wp_seq_k fun bs y4 => dBegin (fun b => b = e) mixed (fun bt f2 Z9 => dMs 0 rfl rfl (dMi 1 rfl rfl (dV 2 rfl (fun _ _ => evSliceLoAt ((nb + 1) / 2) underlying23 sz26 rfl rfl Qo Qo Qo Qo ((nb + 1) / 2) Qo) (dMs 3 rfl rfl (dMi 4 rfl rfl ?_))))))
      have j7 := (a5.rx j6).xr f2
      have F4 := (w5.frmB j7 q3)
      have F5 := F4.drop (m := (nb + 1) / 2) Qo
      refine dV 5 rfl (fun _ _ => evSliceLo ((nb + 1) / 2) underlying23 sz26 rfl rfl Qo Qo Qo) ?_
      generalize (if cb = ((nb + 1) / 2) then Ab else Ab.map (·.add (((nb + 1) / 2) * 1))) = A68 at *
      refine dMs 6 rfl rfl ?_
      have F6 := (w6.frmB j7 q3)
      refine dOp 7 rfl rfl (by kernel_rfl) (oCall rfl call110 (ih F5 F6 Qo Qo) rfl ?_)
      rintro _ bu ⟨T4, T5, T6, T7, rfl, a7, f8, y5, T8⟩
      refine ⟨(Frm.of_ext a7), ?_⟩
      have aa := a7.size
      have ⟨T9, U0, U1⟩ := f8.lkm
      refine dOp 8 rfl rfl (by kernel_rfl) (oCall rfl call87 (natural_trim f8) rfl ?_)
      rintro _ bv ⟨U2, U3, U4, n6, rfl, a8, f9, y6, U5⟩
      refine ⟨(Frm.of_ext a8), ?_⟩
      have ab := a8.size
      have ⟨U6, U7, U8⟩ := f9.lkm
      have y7 := (f2.trans a7).trans a8
      have y8 := (f1.ext y7)
      refine dOp 9 rfl rfl (by kernel_rfl) (oCall rfl call127 (natural_addInto (Uz := (l ++ List.replicate (nb + na - r) 0).take ((nb + 1) / 2)) (Zz := (l ++ List.replicate (nb + na - r) 0).drop ((nb + 1) / 2)) (by rw [List.take_append_drop]; exact y8) (by exact lq) (by exact lq) (by rw [List.take_append_drop]; exact (lt_fill a6.2)) (by omega) (by omega) (NatR.sub f9 q5) (by omega)) rfl ?_)
      rintro _ F7 ⟨g0, U9, rfl, f3, y9, n7, n8, z0⟩
      refine ⟨f3, ?_⟩
      have ac := f3.size
      refine dDone (by kernel_rfl) (xN (y4 _ _ (rS fun bw z1 => sMs rfl (sAs rfl (sK z1 (wp_ret (xR (ret1 (.slice (some ⟨e, 0, none⟩) (nb + na) (nb + na)) results110 (resT rfl) ?_))))))))
      have F8 : NatR F7 (fun b => b = e) (some ⟨e, 0, none⟩) (nb + na) (nb + na) ((l ++ List.replicate (nb + na - r) 0).take ((nb + 1) / 2) ++ g0) := NatR.of_blk y9 rfl n8 (by exact lq) Qo (by unfold CapMax; omega)
      have z2 := ((((((a4.trans q).trans a5).rx j6).xr f2).xr a7).xr a8).trans f3
      exact ⟨(some ⟨e, 0, none⟩), (nb + na), (nb + na), ((l ++ List.replicate (nb + na - r) 0).take ((nb + 1) / 2) ++ g0), rfl, (Frm.mono z2 q4), (NatR.sub F8 q5), (by rw [Nat.mul_comm (val da)]; exact (kara_short (lo := l) (hi := n6) (h := ((nb + 1) / 2)) (n := nb + na) (by omega) hb.2 ha.2 (by omega) y1 (by rw [y6, val_trim, y5]) (by omega) (by omega) n7 z0)), (by omega)⟩
     ·refine sV (evLeq false rfl rfl (dF j4)) (sK j3 (cF rfl (wp_skip (xN (x9 _ _ (wp_seq_k fun bx z3 => dBegin (fun _ => False) mixed (fun bz f4 ad => dMs 0 rfl rfl (dMi 1 rfl rfl ?_))))))))
      have j8 := (B.trans q).trans f4
      have w7 := (j1.ext j8)
      have F9 := w7.take (m := (nb + 1) / 2) Qo
      refine dV 2 rfl (fun _ _ => evSliceHi ((nb + 1) / 2) underlying23 sz26 rfl rfl Qo Qo) (dMs 3 rfl rfl (dMi 4 rfl rfl ?_))
      have n9 := q.trans f4
      have j9 := (j2.ext n9)
      have z4 := j9.take (m := (nb + 1) / 2) Qo
      refine dV 5 rfl (fun _ _ => evSliceHi ((nb + 1) / 2) underlying23 sz26 rfl rfl Qo Qo) (dOp 6 rfl rfl (by kernel_rfl) (oCall rfl call110 (ih F9 z4 Qo Qo) rfl ?_))
      rintro _ ae ⟨G0, C, G1, c, rfl, D, Y, g1, G2⟩
      refine ⟨(Frm.of_ext D), ?_⟩
      have V0 := D.size
      have ⟨b9, G3, G4⟩ := Y.lkm
      refine dAs 7 rfl rfl (dDone (by kernel_rfl) (xN (z3 _ _ (wp_seq_k fun af o0 => dBegin (fun _ => False) mixed (fun ag M V1 => dMs 0 rfl rfl (dMi 1 rfl rfl ?_))))))
      have g2 := D.trans M
      have k0 := (w7.ext g2)
      have z5 := k0.drop (m := (nb + 1) / 2) Qo
      refine dV 2 rfl (fun _ _ => evSliceLo ((nb + 1) / 2) underlying23 sz26 rfl rfl Qo Qo Qo) ?_
      generalize (if cb = ((nb + 1) / 2) then Ab else Ab.map (·.add (((nb + 1) / 2) * 1))) = A115 at *
      refine dMs 3 rfl rfl (dMi 4 rfl rfl ?_)
      have k1 := (j9.ext g2)
      have z6 := k1.drop (m := (nb + 1) / 2) Qo
      refine dV 5 rfl (fun _ _ => evSliceLo ((nb + 1) / 2) underlying23 sz26 rfl rfl Qo Qo Qo) ?_
      generalize (if ca = ((nb + 1) / 2) then Aa else Aa.map (·.add (((nb + 1) / 2) * 1))) = A120 at *
      refine dOp 6 rfl rfl (by kernel_rfl) (oCall rfl call110 (ih z5 z6 Qo Qo) rfl ?_)
      rintro _ ah ⟨G5, E, G6, i, rfl, x, Z, g3, G7⟩
      refine ⟨(Frm.of_ext x), ?_⟩
      have V2 := x.size
      have ⟨k2, G8, G9⟩ := Z.lkm
      refine dAs 7 rfl rfl (dDone (by kernel_rfl) (xN (o0 _ _ (wp_seq_k fun ai o1 => dBegin (fun _ => False) mixed (fun aj F V3 => dMs 0 rfl rfl (dMi 1 rfl rfl ?_))))))
      have g4 := x.trans F
      have k3 := (k0.ext g4)
      have z7 := k3.take (m := (nb + 1) / 2) Qo
      refine dV 2 rfl (fun _ _ => evSliceHi ((nb + 1) / 2) underlying23 sz26 rfl rfl Qo Qo) (dMs 3 rfl rfl (dMi 4 rfl rfl ?_))
      have z8 := k3.drop (m := (nb + 1) / 2) Qo
      refine dV 5 rfl (fun _ _ => evSliceLo ((nb + 1) / 2) underlying23 sz26 rfl rfl Qo Qo Qo) ?_
      generalize (if cb = ((nb + 1) / 2) then Ab else Ab.map (·.add (((nb + 1) / 2) * 1))) = A137 at *
      refine dMs 7 rfl rfl (dMi 8 rfl rfl ?_)
      have k4 := (k1.ext g4)
      have z9 := k4.take (m := (nb + 1) / 2) Qo
      refine dV 9 rfl (fun _ _ => evSliceHi ((nb + 1) / 2) underlying23 sz26 rfl rfl Qo Qo) (dMs 10 rfl rfl (dMi 11 rfl rfl ?_))
      have A0 := k4.drop (m := (nb + 1) / 2) Qo
      refine dV 12 rfl (fun _ _ => evSliceLo ((nb + 1) / 2) underlying23 sz26 rfl rfl Qo Qo Qo) ?_
      generalize (if ca = ((nb + 1) / 2) then Aa else Aa.map (·.add (((nb + 1) / 2) * 1))) = A144 at *
      refine dOp 6 rfl rfl (by kernel_rfl) (oCall rfl call46 (natural_Add z7 z8 Qo Qo) rfl ?_)
      rintro _ ak ⟨H0, H1, H2, H3, rfl, o, c0, o2, H4, H5⟩
      refine ⟨(Frm.of_ext o), ?_⟩
      have V4 := o.size
      have ⟨H6, H7, H8⟩ := c0.lkm
      have A1 := (z9.ext o)
      have A2 := (A0.ext o)
      refine dOp 13 rfl rfl (by kernel_rfl) (oCall rfl call46 (natural_Add A1 A2 Qo Qo) rfl ?_)
      rintro _ al ⟨H9, I0, I1, I2, rfl, s, c1, o3, I3, I4⟩
      refine ⟨(Frm.of_ext s), ?_⟩
      have V5 := s.size
      have ⟨I5, I6, I7⟩ := c1.lkm
      have A3 := (c0.ext s)
      refine dOp 14 rfl rfl (by kernel_rfl) (oCall rfl call110 (ih A3 c1 Qo Qo) rfl ?_)
      rintro _ am ⟨I8, I9, J0, k5, rfl, y, c2, o4, J1⟩
      refine ⟨(Frm.of_ext y), ?_⟩
      have V6 := y.size
      have ⟨J2, J3, J4⟩ := c2.lkm
      refine dAs 15 rfl rfl (dDone (by kernel_rfl) (xN (o1 _ _ (rS fun an o5 => sMs rfl (sMs rfl (sMs rfl ?_))))))
      have o6 := ((((M.trans x).trans F).trans o).trans s).trans y
      have k6 := (Y.ext o6)
      have o7 := ((F.trans o).trans s).trans y
      have k7 := (Z.ext o7)
      refine sO (oCall rfl call46 (natural_Add k6 k7 Qo Qo) rfl ?_)
      rintro _ ao ⟨J5, J6, J7, J8, rfl, G, c3, o8, J9, K0⟩
      have V7 := G.size
      have ⟨K4, K7, K9⟩ := c3.lkm
      have A4 := (c2.ext G)
      refine sO (oCall rfl call48 (natural_Sub A4 c3 Qo Qo) rfl ?_)
      rintro _ ap ⟨c4, c5, c6, k8, c7, rfl, O, c8, V8, o9, k9, L0⟩
      have V9 := O.size
      have ⟨L1, L2, L3⟩ := c8.lkm
      refine sV (v := (.tuple #[(.slice c4 c5 c6), (.bool c7)])) (rfl) (sV (v := (.slice c4 c5 c6)) (rfl) (sV (v := (.bool c7)) (rfl) (sAs rfl (sK o5 (rS fun aq p0 => sMs rfl (sMs rfl ?_))))))
      have p1 := ((((((((j8.trans D).trans M).trans x).trans F).trans o).trans s).trans y).trans G).trans O
      have p2 := (a3.ext p1)
      have g5 := G.trans O
      have A5 := (k6.ext g5)
      refine sO (oCopy underlying23 sz26 rfl rfl A5.1 (u32s_one _) p2 Qo (by exact lq) (fun A6 a9 W0 P => ?_))
      replace P : Blk A6 e 26 ((c ++ List.replicate (nb + na - C) 0).map u32) := by rw [← (copy_first b9 (by omega) : (List.replicate (nb + na) 0).take 0 ++ c ++ (List.replicate (nb + na) 0).drop (0 + C) = c ++ List.replicate (nb + na - C) 0), List.map_append, List.map_append, List.map_take, List.map_drop]; exact P
      rw [put_mkA]
      refine sK p0 (rS fun ar p3 => sMs rfl (sMi rfl (sV (evMul (2 * ((((nb + 1) / 2 : Nat) : Int))) rfl rfl wI) (sV (evSliceLoAt (2 * ((nb + 1) / 2)) underlying23 sz26 rfl rfl Qo Qo Qo Qo (2 * ((nb + 1) / 2)) Qo) (sMs rfl ?_)))))
      have p4 := g5.rx a9
      have A7 := (k7.frmB p4 q3)
      rw [show nb + na - C = E by omega] at P
      refine sO (oCopy underlying23 sz26 rfl rfl A7.1 (u32s_one _) P Qo (by exact lq) (fun A8 g6 W1 b0 => ?_))
      replace b0 : Blk A8 e 26 ((c ++ i).map u32) := by rw [← (copy_second (b9.trans (by omega)) k2 (by omega) : (c ++ List.replicate E 0).take (2 * ((nb + 1) / 2)) ++ i ++ (c ++ List.replicate E 0).drop ((2 * ((nb + 1) / 2)) + E) = c ++ i), List.map_append, List.map_append, List.map_take, List.map_drop]; exact b0
      rw [put_mkA]
      refine sK p3 (rS fun au p5 => sMs rfl (sMi rfl (sV (evSliceLoAt ((nb + 1) / 2) underlying23 sz26 rfl rfl Qo Qo Qo Qo ((nb + 1) / 2) Qo) ?_)))
      have hmid : val k8 = val (db.take ((nb + 1) / 2)) * val (da.drop ((nb + 1) / 2)) + val (db.drop ((nb + 1) / 2)) * val (da.take ((nb + 1) / 2)) := kara_mid (m := val k5) (by rw [o4, o2, o3]) g1 g3 (by rw [o9, o8])
      have hml := lt_val_len k9 (kara_mid_lt (h := ((nb + 1) / 2)) (n := nb + na) Qo Qo hb.2 ha.2 Qo hmid)
      refine sMs rfl ?_
      have p6 := a9.trans g6
      have A9 := (c8.frmB p6 q3)
      refine sO (oCall rfl call127 (natural_addInto (Uz := (c ++ i).take ((nb + 1) / 2)) (Zz := (c ++ i).drop ((nb + 1) / 2)) (by rw [List.take_append_drop]; exact b0) (by exact lq) (by exact lq) (by rw [List.take_append_drop]; exact (lt_app Y.2 Z.2)) (by omega) (by omega) (NatR.sub A9 q5) (by omega)) rfl ?_)
      rintro _ B0 ⟨c9, L4, rfl, g7, p7, l0, l1, p8⟩
      have W2 := g7.size
      refine sK p5 (rS fun av p9 => sMs rfl (sAs rfl (sK p9 (wp_ret (ret1 (.slice (some ⟨e, 0, none⟩) (nb + na) (nb + na)) results110 (resT rfl) ?_)))))
      have B1 : NatR B0 (fun b => b = e) (some ⟨e, 0, none⟩) (nb + na) (nb + na) ((c ++ i).take ((nb + 1) / 2) ++ c9) := NatR.of_blk p7 rfl l1 (by exact lq) Qo (by unfold CapMax; omega)
      have q0 := (((((((((((((a4.trans q).trans f4).trans D).trans M).trans x).trans F).trans o).trans s).trans y).trans G).trans O).rx a9).trans g6).trans g7
      exact ⟨(some ⟨e, 0, none⟩), (nb + na), (nb + na), ((c ++ i).take ((nb + 1) / 2) ++ c9), rfl, (Frm.mono q0 q4), (NatR.sub B1 q5), (by rw [Nat.mul_comm (val da)]; exact (kara_full (h := ((nb + 1) / 2)) (n := nb + na) (by omega) (by omega) hb.2 ha.2 (by omega) g1 g3 hmid (by omega) (by omega) l0 p8)), (by omega)⟩
   ·refine sSkip rfl rfl (sSkip rfl rfl (sV (v := (.bool true)) (rfl) (sK j0 (cT rfl (rS fun aw q1 => sMs rfl (sAs rfl (sK q1 (wp_ret (xR (ret1 (.slice (some ⟨e, 0, none⟩) (nb + na) (nb + na)) results110 (resT rfl) ?_))))))))))
    have q2 := (a3.ext B)
    have B2 : NatR E9 (fun b => b = e) (some ⟨e, 0, none⟩) (nb + na) (nb + na) (List.replicate (nb + na) 0) := NatR.of_blk q2 rfl (lt_zeros _) (by exact lq) Qo (by unfold CapMax; omega)
    have q6 := e9.trans B
    exact ⟨(some ⟨e, 0, none⟩), (nb + na), (nb + na), (List.replicate (nb + na) 0), rfl, q6, (NatR.sub B2 q5), (by rw [val_zeros, zmul2 (of_decide_eq_true x2.symm)]), (by omega)⟩
 ·refine sV (evLss false rfl rfl (dF w2)) (sK w1 (cF rfl (wp_skip (xN (w0 _ _ (wp_seq_k fun ax q7 => rS fun ay g8 => sMs rfl (sV (evLen underlying23 rfl) ?_)))))))
  by_cases g9 : ((nb : Int)) < 48
  ·refine sV (evLss true rfl rfl (dT g9)) (sK g8 (cT rfl (rS fun az q8 => sMs rfl (sMs rfl (sO (oCall rfl call126 (natural_schoolbook hb ha Qo Qo) rfl ?_))))))
   rintro _ aA ⟨d0, d1, d2, l2, rfl, h0, d3, q9, L5⟩
   have W3 := h0.size
   have ⟨L6, L7, L8⟩ := d3.lkm
   refine sAs rfl (sK q8 (wp_ret (xR (ret1 (.slice d0 d1 d2) results110 (resT rfl) ?_))))
   exact ⟨d0, d1, d2, l2, rfl, h0, (NatR.sub d3 q5), (by rw [Nat.mul_comm (val da)]; exact q9), (by omega)⟩
  ·refine sV (evLss false rfl rfl (dF g9)) (sK g8 (cF rfl (wp_skip (xN (q7 _ _ (rS fun aB r0 => sMs rfl (sV (evLen underlying23 rfl) (sMs rfl (sV (evLen underlying23 rfl) (sV (evAdd (((na : Int)) + ((nb : Int))) rfl rfl wI) (sO (oMake1 (na + nb) underlying23 inf26 rfl cI cI Qo Qo (fun a B3 W4 b1 W5 r1 => ?_)))))))))))))
   have Q : Blk B3 a 26 (((List.replicate (na + nb) 0)).map u32) := by rw [List.map_replicate]; exact r1
   refine sAs rfl (sK r0 (wp_seq_k fun aC r2 => rS fun aD h1 => sMs rfl ?_))
   have f5 := (ha.ext b1)
   refine sO (oCall rfl call69 (natural_IsZero f5) rfl ?_)
   rintro _ B4 ⟨l3, rfl, t, r3⟩
   have W6 := t.size
   refine sMb rfl ?_
   cases l3
   ·refine sEv (v := (.slice Ab nb cb)) (rfl) rfl rfl ?_
    have R := b1.trans t
    have f6 := (hb.ext R)
    refine sOp rfl (oCall rfl call69 (natural_IsZero f6) rfl ?_)
    rintro _ B5 ⟨d4, rfl, g, r4⟩
    have W7 := g.size
    refine sV (v := (.bool d4)) (rfl) (sK h1 (cB d4 rfl ?_ ?_))
    ·intro b2
     subst b2
     refine rS fun aE r5 => sMs rfl (sAs rfl (sK r5 (wp_ret (xR (ret1 (.slice (some ⟨a, 0, none⟩) (na + nb) (na + nb)) results110 (resT rfl) ?_)))))
     have r6 := t.trans g
     have r7 := (Q.ext r6)
     have B6 : NatR B5 (fun b => b = a) (some ⟨a, 0, none⟩) (na + nb) (na + nb) (List.replicate (na + nb) 0) := NatR.of_blk r7 rfl (lt_zeros _) (by exact lq) Qo (by unfold CapMax; omega)
     have r8 := R.trans g
     exact ⟨(some ⟨a, 0, none⟩), (na + nb), (na + nb), (List.replicate (na + nb) 0), rfl, r8, (NatR.sub B6 q5), (by rw [val_zeros, zmul2 (of_decide_eq_true r4.symm)]), (by omega)⟩
    ·intro b2
     subst b2
     refine wp_skip (xN (r2 _ _ (rS fun aF r9 => sMs rfl (sV (evLen underlying23 rfl) (sV (evAdd (((na : Int)) + 1) rfl rfl wI) (sV (evQuo ((((na + 1) / 2 : Nat) : Int)) rfl rfl Qo (quoI Qo Qo)) (sAi rfl (sK r9 (wp_seq_k fun aG s0 => rS fun aH h2 => sMs rfl (sV (evLen underlying23 rfl) (sMi rfl ?_)))))))))))
     by_cases h3 : ((nb : Int)) ≤ ((((na + 1) / 2 : Nat) : Int))
     ·refine sV (evLeq true rfl rfl (dT h3)) (sK h2 (cT rfl (rS fun aI s1 => sMs rfl (sMs rfl (sMi rfl ?_)))))
      have h4 := t.trans g
      have l4 := (f5.ext h4)
      have B7 := l4.take (m := (na + 1) / 2) Qo
      refine sV (evSliceHi ((na + 1) / 2) underlying23 sz26 rfl rfl Qo Qo) (sMs rfl ?_)
      have l5 := (f6.ext g)
      refine sO (oCall rfl call110 (ih B7 l5 Qo Qo) rfl ?_)
      rintro _ aJ ⟨L9, j, M0, f, rfl, S, a0, s2, M1⟩
      have W8 := S.size
      have ⟨l6, M2, M3⟩ := a0.lkm
      have s3 := h4.trans S
      have s4 := (Q.ext s3)
      refine sO (oCopy underlying23 sz26 rfl rfl a0.1 (u32s_one _) s4 Qo (by exact lq) (fun B8 h5 W9 b3 => ?_))
      replace b3 : Blk B8 a 26 ((f ++ List.replicate (na + nb - j) 0).map u32) := by rw [← (copy_first l6 (by omega) : (List.replicate (na + nb) 0).take 0 ++ f ++ (List.replicate (na + nb) 0).drop (0 + j) = f ++ List.replicate (na + nb - j) 0), List.map_append, List.map_append, List.map_take, List.map_drop]; exact b3
      rw [put_mkA]
      refine sK s1 (wp_seq_k fun aK s5 => dBegin (fun b => b = a) mixed (fun aL b4 X0 => dMs 0 rfl rfl (dMi 1 rfl rfl (dV 2 rfl (fun _ _ => evSliceLoAt ((na + 1) / 2) underlying23 sz26 rfl rfl Qo Qo Qo Qo ((na + 1) / 2) Qo) (dMs 3 rfl rfl (dMi 4 rfl rfl ?_))))))
      have h6 := (S.rx h5).xr b4
      have B9 := (l4.frmB h6 q3)
      have C0 := B9.drop (m := (na + 1) / 2) Qo
      refine dV 5 rfl (fun _ _ => evSliceLo ((na + 1) / 2) underlying23 sz26 rfl rfl Qo Qo Qo) ?_
      generalize (if ca = ((na + 1) / 2) then Aa else Aa.map (·.add (((na + 1) / 2) * 1))) = A275 at *
      refine dMs 6 rfl rfl ?_
      have C1 := (l5.frmB h6 q3)
      refine dOp 7 rfl rfl (by kernel_rfl) (oCall rfl call110 (ih C0 C1 Qo Qo) rfl ?_)
      rintro _ aM ⟨M4, M5, M6, M7, rfl, T, d5, s6, M8⟩
      refine ⟨(Frm.of_ext T), ?_⟩
      have X1 := T.size
      have ⟨M9, N0, N1⟩ := d5.lkm
      refine dOp 8 rfl rfl (by kernel_rfl) (oCall rfl call87 (natural_trim d5) rfl ?_)
      rintro _ aN ⟨N2, N3, N4, l7, rfl, U, d6, s7, N5⟩
      refine ⟨(Frm.of_ext U), ?_⟩
      have X2 := U.size
      have ⟨N6, N7, N8⟩ := d6.lkm
      have s8 := (b4.trans T).trans U
      have s9 := (b3.ext s8)
      refine dOp 9 rfl rfl (by kernel_rfl) (oCall rfl call127 (natural_addInto (Uz := (f ++ List.replicate (na + nb - j) 0).take ((na + 1) / 2)) (Zz := (f ++ List.replicate (na + nb - j) 0).drop ((na + 1) / 2)) (by rw [List.take_append_drop]; exact s9) (by exact lq) (by exact lq) (by rw [List.take_append_drop]; exact (lt_fill a0.2)) (by omega) (by omega) (NatR.sub d6 q5) (by omega)) rfl ?_)
      rintro _ C2 ⟨d7, N9, rfl, b5, t0, l8, l9, t1⟩
      refine ⟨b5, ?_⟩
      have X3 := b5.size
      refine dDone (by kernel_rfl) (xN (s5 _ _ (rS fun aO t2 => sMs rfl (sAs rfl (sK t2 (wp_ret (xR (ret1 (.slice (some ⟨a, 0, none⟩) (na + nb) (na + nb)) results110 (resT rfl) ?_))))))))
      have C3 : NatR C2 (fun b => b = a) (some ⟨a, 0, none⟩) (na + nb) (na + nb) ((f ++ List.replicate (na + nb - j) 0).take ((na + 1) / 2) ++ d7) := NatR.of_blk t0 rfl l9 (by exact lq) Qo (by unfold CapMax; omega)
      have t3 := ((((((R.trans g).trans S).rx h5).xr b4).xr T).xr U).trans b5
      exact ⟨(some ⟨a, 0, none⟩), (na + nb), (na + nb), ((f ++ List.replicate (na + nb - j) 0).take ((na + 1) / 2) ++ d7), rfl, (Frm.mono t3 q4), (NatR.sub C3 q5), (kara_short (lo := f) (hi := l7) (h := ((na + 1) / 2)) (n := na + nb) (by omega) ha.2 hb.2 (by omega) s2 (by rw [s7, val_trim, s6]) (by omega) (by omega) l8 t1), (by omega)⟩
     ·refine sV (evLeq false rfl rfl (dF h3)) (sK h2 (cF rfl (wp_skip (xN (s0 _ _ (wp_seq_k fun aP t4 => dBegin (fun _ => False) mixed (fun aQ b6 X4 => dMs 0 rfl rfl (dMi 1 rfl rfl ?_))))))))
      have h7 := (t.trans g).trans b6
      have m0 := (f5.ext h7)
      have C4 := m0.take (m := (na + 1) / 2) Qo
      refine dV 2 rfl (fun _ _ => evSliceHi ((na + 1) / 2) underlying23 sz26 rfl rfl Qo Qo) (dMs 3 rfl rfl (dMi 4 rfl rfl ?_))
      have t5 := g.trans b6
      have m1 := (f6.ext t5)
      have C5 := m1.take (m := (na + 1) / 2) Qo
      refine dV 5 rfl (fun _ _ => evSliceHi ((na + 1) / 2) underlying23 sz26 rfl rfl Qo Qo) (dOp 6 rfl rfl (by kernel_rfl) (oCall rfl call110 (ih C4 C5 Qo Qo) rfl ?_))
      rintro _ aR ⟨O0, H, O1, d, rfl, I, a1, h8, O2⟩
      refine ⟨(Frm.of_ext I), ?_⟩
      have X5 := I.size
      have ⟨d8, O3, O4⟩ := a1.lkm
      refine dAs 7 rfl rfl (dDone (by kernel_rfl) (xN (t4 _ _ (wp_seq_k fun aS t6 => dBegin (fun _ => False) mixed (fun aT V X6 => dMs 0 rfl rfl (dMi 1 rfl rfl ?_))))))
      have h9 := I.trans V
      have m2 := (m0.ext h9)
      have C6 := m2.drop (m := (na + 1) / 2) Qo
      refine dV 2 rfl (fun _ _ => evSliceLo ((na + 1) / 2) underlying23 sz26 rfl rfl Qo Qo Qo) ?_
      generalize (if ca = ((na + 1) / 2) then Aa else Aa.map (·.add (((na + 1) / 2) * 1))) = A322 at *
      refine dMs 3 rfl rfl (dMi 4 rfl rfl ?_)
      have m3 := (m1.ext h9)
      have C7 := m3.drop (m := (na + 1) / 2) Qo
      refine dV 5 rfl (fun _ _ => evSliceLo ((na + 1) / 2) underlying23 sz26 rfl rfl Qo Qo Qo) ?_
      generalize (if cb = ((na + 1) / 2) then Ab else Ab.map (·.add (((na + 1) / 2) * 1))) = A327 at *
      refine dOp 6 rfl rfl (by kernel_rfl) (oCall rfl call110 (ih C6 C7 Qo Qo) rfl ?_)
      rintro _ aU ⟨O5, J, O6, k, rfl, z, a2, i0, O7⟩
      refine ⟨(Frm.of_ext z), ?_⟩
      have X7 := z.size
      have ⟨m4, O8, O9⟩ := a2.lkm
      refine dAs 7 rfl rfl (dDone (by kernel_rfl) (xN (t6 _ _ (wp_seq_k fun aV t7 => dBegin (fun _ => False) mixed (fun aW K X8 => dMs 0 rfl rfl (dMi 1 rfl rfl ?_))))))
      have i1 := z.trans K
      have m5 := (m2.ext i1)
      have C8 := m5.take (m := (na + 1) / 2) Qo
      refine dV 2 rfl (fun _ _ => evSliceHi ((na + 1) / 2) underlying23 sz26 rfl rfl Qo Qo) (dMs 3 rfl rfl (dMi 4 rfl rfl ?_))
      have C9 := m5.drop (m := (na + 1) / 2) Qo
      refine dV 5 rfl (fun _ _ => evSliceLo ((na + 1) / 2) underlying23 sz26 rfl rfl Qo Qo Qo) ?_
      generalize (if ca = ((na + 1) / 2) then Aa else Aa.map (·.add (((na + 1) / 2) * 1))) = A344 at *
      refine dMs 7 rfl rfl (dMi 8 rfl rfl ?_)
      have m6 := (m3.ext i1)
      have D0 := m6.take (m := (na + 1) / 2) Qo
      refine dV 9 rfl (fun _ _ => evSliceHi ((na + 1) / 2) underlying23 sz26 rfl rfl Qo Qo) (dMs 10 rfl rfl (dMi 11 rfl rfl ?_))
      have D1 := m6.drop (m := (na + 1) / 2) Qo
      refine dV 12 rfl (fun _ _ => evSliceLo ((na + 1) / 2) underlying23 sz26 rfl rfl Qo Qo Qo) ?_
      generalize (if cb = ((na + 1) / 2) then Ab else Ab.map (·.add (((na + 1) / 2) * 1))) = A351 at *
      refine dOp 6 rfl rfl (by kernel_rfl) (oCall rfl call46 (natural_Add C8 C9 Qo Qo) rfl ?_)
      rintro _ aX ⟨P0, P1, P2, P3, rfl, p, d9, t8, P4, P5⟩
      refine ⟨(Frm.of_ext p), ?_⟩
      have X9 := p.size
      have ⟨P6, P7, P8⟩ := d9.lkm
      have D2 := (D0.ext p)
      have D3 := (D1.ext p)
      refine dOp 13 rfl rfl (by kernel_rfl) (oCall rfl call46 (natural_Add D2 D3 Qo Qo) rfl ?_)
      rintro _ aY ⟨P9, Q0, Q1, Q2, rfl, u, e0, t9, Q3, Q4⟩
      refine ⟨(Frm.of_ext u), ?_⟩
      have Y0 := u.size
      have ⟨Q5, Q6, Q7⟩ := e0.lkm
      have D4 := (d9.ext u)
      refine dOp 14 rfl rfl (by kernel_rfl) (oCall rfl call110 (ih D4 e0 Qo Qo) rfl ?_)
      rintro _ aZ ⟨Q8, Q9, R0, m7, rfl, A, e1, u0, R1⟩
      refine ⟨(Frm.of_ext A), ?_⟩
      have Y1 := A.size
      have ⟨R2, R3, R4⟩ := e1.lkm
      refine dAs 15 rfl rfl (dDone (by kernel_rfl) (xN (t7 _ _ (rS fun ba u1 => sMs rfl (sMs rfl (sMs rfl ?_))))))
      have u2 := ((((V.trans z).trans K).trans p).trans u).trans A
      have m8 := (a1.ext u2)
      have u3 := ((K.trans p).trans u).trans A
      have m9 := (a2.ext u3)
      refine sO (oCall rfl call46 (natural_Add m8 m9 Qo Qo) rfl ?_)
      rintro _ bb ⟨R5, R6, R7, R8, rfl, L, e2, u4, R9, S0⟩
      have Y2 := L.size
      have ⟨S1, S2, S3⟩ := e2.lkm
      have D5 := (e1.ext L)
      refine sO (oCall rfl call48 (natural_Sub D5 e2 Qo Qo) rfl ?_)
      rintro _ bc ⟨e3, e4, e5, n0, e6, rfl, W, e7, Y3, u5, n1, S4⟩
      have Y4 := W.size
      have ⟨S5, S6, S7⟩ := e7.lkm
      refine sV (v := (.tuple #[(.slice e3 e4 e5), (.bool e6)])) (rfl) (sV (v := (.slice e3 e4 e5)) (rfl) (sV (v := (.bool e6)) (rfl) (sAs rfl (sK u1 (rS fun bd u6 => sMs rfl (sMs rfl ?_))))))
      have u7 := ((((((((h7.trans I).trans V).trans z).trans K).trans p).trans u).trans A).trans L).trans W
      have u8 := (Q.ext u7)
      have i2 := L.trans W
      have D6 := (m8.ext i2)
      refine sO (oCopy underlying23 sz26 rfl rfl D6.1 (u32s_one _) u8 Qo (by exact lq) (fun D7 b7 Y5 X => ?_))
      replace X : Blk D7 a 26 ((d ++ List.replicate (na + nb - H) 0).map u32) := by rw [← (copy_first d8 (by omega) : (List.replicate (na + nb) 0).take 0 ++ d ++ (List.replicate (na + nb) 0).drop (0 + H) = d ++ List.replicate (na + nb - H) 0), List.map_append, List.map_append, List.map_take, List.map_drop]; exact X
      rw [put_mkA]
      refine sK u6 (rS fun be u9 => sMs rfl (sMi rfl (sV (evMul (2 * ((((na + 1) / 2 : Nat) : Int))) rfl rfl wI) (sV (evSliceLoAt (2 * ((na + 1) / 2)) underlying23 sz26 rfl rfl Qo Qo Qo Qo (2 * ((na + 1) / 2)) Qo) (sMs rfl ?_)))))
      have v0 := i2.rx b7
      have D8 := (m9.frmB v0 q3)
      rw [show na + nb - H = J by omega] at X
      refine sO (oCopy underlying23 sz26 rfl rfl D8.1 (u32s_one _) X Qo (by exact lq) (fun D9 i3 Y6 b8 => ?_))
      replace b8 : Blk D9 a 26 ((d ++ k).map u32) := by rw [← (copy_second (d8.trans (by omega)) m4 (by omega) : (d ++ List.replicate J 0).take (2 * ((na + 1) / 2)) ++ k ++ (d ++ List.replicate J 0).drop ((2 * ((na + 1) / 2)) + J) = d ++ k), List.map_append, List.map_append, List.map_take, List.map_drop]; exact b8
      rw [put_mkA]
      refine sK u9 (rS fun bf v1 => sMs rfl (sMi rfl (sV (evSliceLoAt ((na + 1) / 2) underlying23 sz26 rfl rfl Qo Qo Qo Qo ((na + 1) / 2) Qo) ?_)))
      have hmid : val n0 = val (da.take ((na + 1) / 2)) * val (db.drop ((na + 1) / 2)) + val (da.drop ((na + 1) / 2)) * val (db.take ((na + 1) / 2)) := kara_mid (m := val m7) (by rw [u0, t8, t9]) h8 i0 (by rw [u5, u4])
      have hml := lt_val_len n1 (kara_mid_lt (h := ((na + 1) / 2)) (n := na + nb) Qo Qo ha.2 hb.2 Qo hmid)
      refine sMs rfl ?_
      have v2 := b7.trans i3
      have E0 := (e7.frmB v2 q3)
      refine sO (oCall rfl call127 (natural_addInto (Uz := (d ++ k).take ((na + 1) / 2)) (Zz := (d ++ k).drop ((na + 1) / 2)) (by rw [List.take_append_drop]; exact b8) (by exact lq) (by exact lq) (by rw [List.take_append_drop]; exact (lt_app a1.2 a2.2)) (by omega) (by omega) (NatR.sub E0 q5) (by omega)) rfl ?_)
      rintro _ E1 ⟨e8, S8, rfl, i4, v3, n2, n3, v4⟩
      have Y7 := i4.size
      refine sK v1 (rS fun bg v5 => sMs rfl (sAs rfl (sK v5 (wp_ret (ret1 (.slice (some ⟨a, 0, none⟩) (na + nb) (na + nb)) results110 (resT rfl) ?_)))))
      have E2 : NatR E1 (fun b => b = a) (some ⟨a, 0, none⟩) (na + nb) (na + nb) ((d ++ k).take ((na + 1) / 2) ++ e8) := NatR.of_blk v3 rfl n3 (by exact lq) Qo (by unfold CapMax; omega)
      have v6 := (((((((((((((R.trans g).trans b6).trans I).trans V).trans z).trans K).trans p).trans u).trans A).trans L).trans W).rx b7).trans i3).trans i4
      exact ⟨(some ⟨a, 0, none⟩), (na + nb), (na + nb), ((d ++ k).take ((na + 1) / 2) ++ e8), rfl, (Frm.mono v6 q4), (NatR.sub E2 q5), (kara_full (h := ((na + 1) / 2)) (n := na + nb) Qo Qo ha.2 hb.2 Qo h8 i0 hmid Qo Qo n2 v4), Qo⟩
   ·refine sSkip rfl rfl (sSkip rfl rfl (sV (v := (.bool true)) (rfl) (sK h1 (cT rfl (rS fun bh v7 => sMs rfl (sAs rfl (sK v7 (wp_ret (xR (ret1 (.slice (some ⟨a, 0, none⟩) (na + nb) (na + nb)) results110 (resT rfl) ?_))))))))))
    have v8 := (Q.ext t)
    have E3 : NatR B4 (fun b => b = a) (some ⟨a, 0, none⟩) (na + nb) (na + nb) (List.replicate (na + nb) 0) := NatR.of_blk v8 rfl (lt_zeros _) (by exact lq) Qo (by unfold CapMax; omega)
    have v9 := b1.trans t
    exact ⟨(some ⟨a, 0, none⟩), (na + nb), (na + nb), (List.replicate (na + nb) 0), rfl, v9, (NatR.sub E3 q5), (by rw [val_zeros, zmul1 (of_decide_eq_true r3.symm)]), (by omega)⟩
theorem natural_product_all (N : Nat) : ∀ {w : World} {Sa : Nat → Prop} {Aa : Option Addr} {na ca : Nat} {da : List Nat} {Sb : Nat → Prop} {Ab : Option Addr} {nb cb : Nat} {db : List Nat} (ha : NatR w Sa Aa na ca da) (hb : NatR w Sb Ab nb cb db) (hna : na + nb ≤ 1099511627776) (hN : na + nb ≤ N), Calls Tryz.prog 110 #[(.slice Aa na ca), (.slice Ab nb cb)] w (Ret fun v w' => ∃ (Ar : Option Addr) (nr : Nat) (cr : Nat) (dr : List Nat), v = (.slice Ar nr cr) ∧ Ext w w' ∧ NatR w' (fun b => w.heap.size ≤ b) Ar nr cr dr ∧ (val dr = val da * val db) ∧ (nr = na + nb)) := by
 induction N with
 | zero => intros; exact natural_product_step 0 (by intros; omega) (by assumption) (by assumption) Qo Qo
 | succ N ih => intros; exact natural_product_step (N + 1) (by intros; exact ih (by assumption) (by assumption) Qo Qo) (by assumption) (by assumption) Qo Qo
theorem natural_product {w : World} {Sa : Nat → Prop} {Aa : Option Addr} {na ca : Nat} {da : List Nat} {Sb : Nat → Prop} {Ab : Option Addr} {nb cb : Nat} {db : List Nat} (ha : NatR w Sa Aa na ca da) (hb : NatR w Sb Ab nb cb db) (hna : na + nb ≤ 1099511627776) : Calls Tryz.prog 110 #[(.slice Aa na ca), (.slice Ab nb cb)] w (Ret fun v w' => ∃ (Ar : Option Addr) (nr : Nat) (cr : Nat) (dr : List Nat), v = (.slice Ar nr cr) ∧ Ext w w' ∧ NatR w' (fun b => w.heap.size ≤ b) Ar nr cr dr ∧ (val dr = val da * val db) ∧ (nr = na + nb)) := natural_product_all (na + nb) ha hb hna (Nat.le_refl _)
theorem natural_Mul {w : World} {Sa : Nat → Prop} {Aa : Option Addr} {na ca : Nat} {da : List Nat} {Sb : Nat → Prop} {Ab : Option Addr} {nb cb : Nat} {db : List Nat} (ha : NatR w Sa Aa na ca da) (hb : NatR w Sb Ab nb cb db) (hna : na + nb ≤ 1099511627776) : Calls Tryz.prog 73 #[(.slice Aa na ca), (.slice Ab nb cb)] w (Ret fun v w' => ∃ (Ar : Option Addr) (nr : Nat) (cr : Nat) (dr : List Nat), v = (.slice Ar nr cr) ∧ Ext w w' ∧ NatR w' (fun b => w.heap.size ≤ b) Ar nr cr dr ∧ (val dr = val da * val db) ∧ (Canon isZ dr) ∧ (nr ≤ na + nb)) := by
 have ⟨la, ka, ma⟩ := ha.lkm
 replace ha := ha.low
 have ⟨lb, kb, mb⟩ := hb.lkm
 replace hb := hb.low
 refine enter func73 rfl ntmps73 rfl (rS fun K1 q => sAs rfl (sK q (rS fun K2 r => sMs rfl (sO (oCall rfl call87 (natural_trim ha) rfl ?_)))))
 rintro _ w4 ⟨J, K, L, M, rfl, h, i, s, N⟩
 have a3 := h.size
 have ⟨O, P, Q⟩ := i.lkm
 refine sMs rfl ?_
 have R := (hb.ext h)
 refine sO (oCall rfl call87 (natural_trim R) rfl ?_)
 rintro _ a4 ⟨S, T, U, V, rfl, a, j, t, W⟩
 have X := a.size
 have ⟨Y, Z, a0⟩ := j.lkm
 have u := (i.ext a)
 refine sO (oCall rfl call110 (natural_product u j Qo) rfl ?_)
 rintro _ a5 ⟨x, y, z, A, rfl, k, c, o, B⟩
 have a1 := k.size
 have ⟨C, D, E⟩ := c.lkm
 refine sO (oCall rfl call87 (natural_trim c) rfl ?_)
 rintro _ a6 ⟨d, e, f, n, rfl, l, g, m, F⟩
 have a2 := l.size
 have ⟨G, H, I⟩ := g.lkm
 refine sAs rfl (sK r (wp_ret (ret1 (.slice d e f) results73 (resT rfl) ?_)))
 have p := ((h.trans a).trans k).trans l
 exact ⟨d, e, f, n, rfl, p, (NatR.sub g q5), (by rw [m, val_trim, o, s, t, val_trim, val_trim]), (by rw [m]; exact canon_trim _ _), (by omega)⟩
end Go.Proofs.YtneolcopompkaaaGreatDoor
