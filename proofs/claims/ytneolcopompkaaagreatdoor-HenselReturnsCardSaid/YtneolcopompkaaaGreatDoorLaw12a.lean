/-
  Walks of the laws on the lift: the fixed example, HenselExponent.
-/
import Derived.Test.YtneolcopompkaaaGreatDoorHen9
import Derived.Test.YtneolcopompkaaaGreatDoorLibB
namespace Go.Proofs.YtneolcopompkaaaGreatDoor
open Go.RowKit Go.Gx Tryz
theorem law12_fit {w : World}   (hT : TabR w) : Calls Tryz.prog 9 #[] w (Ret fun v w' => ∃ (gr : Bool), v = (.bool gr) ∧ Ext w w' ∧ (gr = true)) := by
 have ltT := hT.lt0
 refine enter func9 rfl ntmps9 rfl (rS fun K1 d3 => sAb rfl (sK d3 (rS fun K2 d4 => sO (oBuildSlice [(.int .i64 (1)), (.int .i64 (0)), (.int .i64 (1))] [[(.int .i64 (1))], [(.int .i64 (0))], [(.int .i64 (1))]] underlying82 inf2 rfl rfl rfl rfl rfl (fun g3 w4 k2 d6 k3 Q => ?_)))))
 replace Q : Blk w4 g3 2 [(.int .i64 (1)), (.int .i64 (0)), (.int .i64 (1))] := Q
 refine sO (oCall rfl call17 (unipoly_Of (IntsR.of_blk (S := fun b => b = g3) (n := 3) (c := 3) (xs := [1, 0, 1]) Q rfl (by decide) rfl (Nat.le_refl _) (by decide)) Qo) rfl ?_)
 rintro _ k4 ⟨h5, h6, h7, b3, rfl, R, T, d7, h8, h9⟩
 have i0 := R.size
 have ⟨i1, i2, i3⟩ := T.lkm
 have hof : zs b3 = [1, 0, 1] := by rw [d7]; decide
 refine sO (oBuildSlice [(.int .u32 (2)), (.int .u32 (1))] [[(.int .u32 (2))], [(.int .u32 (1))]] underlying46 inf26 rfl rfl rfl rfl rfl (fun g d8 i4 U i5 x => ?_))
 replace x : Blk d8 g 26 [(.int .u32 (2)), (.int .u32 (1))] := x
 refine sO (oBuildSlice [(.int .u32 (3)), (.int .u32 (1))] [[(.int .u32 (3))], [(.int .u32 (1))]] underlying46 inf26 rfl rfl rfl rfl rfl (fun j d9 i6 y i7 z => ?_))
 replace z : Blk d9 j 26 [(.int .u32 (3)), (.int .u32 (1))] := z
 refine sO (oBuildSlice [(.slice (some ⟨g, 0, none⟩) 2 2), (.slice (some ⟨j, 0, none⟩) 2 2)] [[(.slice (some ⟨g, 0, none⟩) 2 2)], [(.slice (some ⟨j, 0, none⟩) 2 2)]] underlying42 inf46 rfl rfl rfl rfl rfl (fun e0 G i8 k i9 A => ?_))
 replace A : Blk G e0 46 [(.slice (some ⟨g, 0, none⟩) 2 2), (.slice (some ⟨j, 0, none⟩) 2 2)] := A
 have b4 := y.trans k
 have b5 := (x.ext b4)
 have e1 : NatR G (fun b => b = g) (some ⟨g, 0, none⟩) 2 2 ([2, 1]) := NatR.of_blk b5 rfl (by decide) (by exact lq) Qo (by unfold CapMax; omega)
 have b6 := (z.ext k)
 have e2 : NatR G (fun b => b = j) (some ⟨j, 0, none⟩) 2 2 ([3, 1]) := NatR.of_blk b6 rfl (by decide) (by exact lq) Qo (by unfold CapMax; omega)
 have a1 := GListR.of_blk (L := LN) (w := G) (S := fun b => w.heap.size ≤ b) (l := [(⟨(some ⟨g, 0, none⟩), 2, 2, [2, 1]⟩ : NE), (⟨(some ⟨j, 0, none⟩), 2, 2, [3, 1]⟩ : NE)]) (n := 2) (c := 2) A (by intro f hf; simp only [List.mem_cons, List.not_mem_nil, or_false] at hf; rcases hf with rfl | rfl; exact NatR.sub e1 q5; exact NatR.sub e2 q5) (by (try dsimp only); omega) rfl (Nat.le_refl _) (by decide)
 have b7 := (U.trans y).trans k
 have e3 := (T.ext b7)
 have V := (((d6.trans R).trans U).trans y).trans k
 have e4 := (hT.ext V)
 refine sO (oCall rfl call22 (hensel_Lift e3 a1 (xp := 5) (by omega) (xk := 2) (by omega) e4 (by decide) (by omega) (by omega) (by omega) (by intro f hf; simp only [List.mem_cons, List.not_mem_nil, or_false] at hf; rcases hf with rfl | rfl <;> (dsimp only; omega)) (by omega) fit_deg (fun _ _ => by rw [hof]; exact fit_same) (fun _ _ => by rw [hof]; exact fit_ok)) rfl ?_)
 rintro _ k5 ⟨e, a, d, a2, m, rfl, W, H, b8, I⟩
 have j0 := W.size
 have ⟨f0, f1, f2⟩ := H.lkm
 have hfit : zsL a2 = [[7, 1], [-7, 1]] ∧ m = 0 ∧ a = 2 := fit_end2 (by have h := b8; rw [hof] at h; exact h)
 have ⟨hfit, hfo, hfn⟩ := hfit
 refine sV (v := (.tuple #[(.slice e a d), (.int .i64 (m))])) (rfl) (sV (v := (.slice e a d)) (rfl) (sV (v := (.int .i64 (m))) (rfl) (sAs rfl (sAi rfl (sK d4 (wp_seq_k fun k6 b9 => dBegin (fun _ => False) mixed (fun k7 X j1 => dMi 0 rfl rfl (dV 1 rfl (fun _ _ => evEql true rfl rfl (dT Qo)) (dMb 2 rfl rfl (dEv 3 rfl (v := (.slice e a d)) (fun _ _ => rfl) rfl rfl (by kernel_rfl) (dEv 4 rfl (v := (.int .i64 a)) (fun _ _ => evLen underlying43 rfl) rfl rfl (by kernel_rfl) (dEv 5 rfl (v := (.bool true)) (fun _ _ => evEql true rfl rfl (dT Qo)) rfl rfl (by kernel_rfl) (dV 6 rfl (v := (.bool true)) (fun _ _ => rfl) ?_)))))))))))))
 refine dMb 7 rfl rfl (dEv 8 rfl (v := (.slice e a d)) (fun _ _ => rfl) rfl rfl (by kernel_rfl) ?_)
 have Y := (H.ext X)
 obtain ⟨Z, u, rfl⟩ := Y.base Qo
 refine dEv 9 rfl (v := (.pointer (some ⟨Z, u + 0, none⟩))) (fun _ _ => evIx 0 underlying43 sz39 rfl rfl (u + 0)) rfl rfl (by kernel_rfl) ?_
 obtain ⟨⟨c0, c1, c2, j2⟩, J, K, o, f3, a3⟩ := Y.at_ (i := 0) Qo
 dsimp only at K o; have ⟨q1_55, q2_55, q3_55⟩ := o.lkm
 have a4 := zsL_get hfit J rfl; have a5 := I _ (List.mem_of_getElem? J); dsimp only at a5
 refine dEv 10 rfl (v := (.slice c0 c1 c2)) (fun _ hf => evLoad one39 rfl ((hf.cell (p := ⟨_, _, none⟩) a3 (fun h => h)).trans K)) rfl rfl (by kernel_rfl) (dOp 11 rfl rfl (by kernel_rfl) (oBuildSlice [(.int .i64 (7)), (.int .i64 (1))] [[(.int .i64 (7))], [(.int .i64 (1))]] underlying82 inf2 rfl rfl rfl rfl rfl (fun b1 e5 j3 B j4 C => ⟨(Frm.of_ext B), ?_⟩)))
 replace C : Blk e5 b1 2 [(.int .i64 (7)), (.int .i64 (1))] := C
 refine dOp 12 rfl rfl (by kernel_rfl) (oCall rfl call17 (unipoly_Of (IntsR.of_blk (S := fun b => b = b1) (n := 2) (c := 2) (xs := [7, 1]) C rfl (by decide) rfl (Nat.le_refl _) (by decide)) Qo) rfl ?_)
 rintro _ k8 ⟨f4, f5, f6, f7, rfl, q, M, c3, f8, f9⟩
 refine ⟨(Frm.of_ext q), ?_⟩
 have j5 := q.size
 have ⟨g0, g1, g2⟩ := M.lkm
 have a0 := B.trans q
 have e6 := (o.ext a0)
 refine dOp 13 rfl rfl (by kernel_rfl) (oCall rfl call25 (unipoly_Same e6 M) rfl ?_)
 rintro _ k9 ⟨a6, rfl, r, c4⟩
 refine ⟨(Frm.of_ext r), ?_⟩
 have j6 := r.size
 obtain rfl : a6 = true := by rw [c4, a4, c3]; decide
 refine dV 14 rfl (v := (.bool true)) (fun _ _ => rfl) (dMb 15 rfl rfl (dEv 16 rfl (v := (.slice (some ⟨Z, u, none⟩) a d)) (fun _ _ => rfl) rfl rfl (by kernel_rfl) (dEv 17 rfl (v := (.pointer (some ⟨Z, u + 1, none⟩))) (fun _ _ => evIx 1 underlying43 sz39 rfl rfl (u + 1)) rfl rfl (by kernel_rfl) ?_)))
 have c5 := a0.trans r
 have e7 := (Y.ext c5)
 obtain ⟨⟨c6, c7, c8, j7⟩, N, O, s, g4, a7⟩ := e7.at_ (i := 1) Qo
 dsimp only at O s; have ⟨q1_76, q2_76, q3_76⟩ := s.lkm
 have a8 := zsL_get hfit N rfl; have a9 := I _ (List.mem_of_getElem? N); dsimp only at a9
 refine dEv 18 rfl (v := (.slice c6 c7 c8)) (fun _ hf => evLoad one39 rfl ((hf.cell (p := ⟨_, _, none⟩) a7 (fun h => h)).trans O)) rfl rfl (by kernel_rfl) (dOp 19 rfl rfl (by kernel_rfl) (oBuildSlice [(.int .i64 ((-7))), (.int .i64 (1))] [[(.int .i64 ((-7)))], [(.int .i64 (1))]] underlying82 inf2 rfl rfl rfl rfl rfl (fun b2 e8 j8 D j9 E => ⟨(Frm.of_ext D), ?_⟩)))
 replace E : Blk e8 b2 2 [(.int .i64 ((-7))), (.int .i64 (1))] := E
 refine dOp 20 rfl rfl (by kernel_rfl) (oCall rfl call17 (unipoly_Of (IntsR.of_blk (S := fun b => b = b2) (n := 2) (c := 2) (xs := [(-7), 1]) E rfl (by decide) rfl (Nat.le_refl _) (by decide)) Qo) rfl ?_)
 rintro _ l0 ⟨g5, g6, g7, g8, rfl, t, P, c9, g9, h0⟩
 refine ⟨(Frm.of_ext t), ?_⟩
 have k0 := t.size
 have ⟨h1, h2, h3⟩ := P.lkm
 have d0 := D.trans t
 have e9 := (s.ext d0)
 refine dOp 21 rfl rfl (by kernel_rfl) (oCall rfl call25 (unipoly_Same e9 P) rfl ?_)
 rintro _ l1 ⟨b0, rfl, F, d1⟩
 refine ⟨(Frm.of_ext F), ?_⟩
 have k1 := F.size
 obtain rfl : b0 = true := by rw [d1, a8, c9]; decide
 refine dV 22 rfl (v := (.bool true)) (fun _ _ => rfl) (dAb 23 rfl rfl (dDone (by kernel_rfl) (xN (b9 _ _ (wp_ret (ret1 (.bool true) results9 (resT rfl) ?_))))))
 have d2 := (((((((V.trans W).trans X).trans B).trans q).trans r).trans D).trans t).trans F
 exact ⟨(true), rfl, d2, rfl⟩
theorem law12_one {w : World}    : Calls Tryz.prog 42 #[] w (Ret fun v w' => ∃ (gr : Bool) (Ar : Option Addr) (nr : Nat) (cr : Nat) (dr : List Nat), v = (.agg #[(.bool gr), (.slice Ar nr cr)]) ∧ Ext w w' ∧ NatR w' (fun b => w.heap.size ≤ b) Ar nr cr dr ∧ (zval gr dr = 1) ∧ (ICan gr dr) ∧ (nr ≤ 2)) := by
 refine enter func42 rfl ntmps42 rfl (rS fun G n => sO (oAlloc [(.bool false), (.slice none 0 0)] zero25 rfl (fun u H D o E p => sK n (rS fun I q => sO (oCall rfl call35 (integer_Of Qo) rfl ?_)))))
 rintro _ F ⟨a, c, d, e, j, rfl, f, h, r, k, x⟩
 have y := f.size
 have ⟨z, A, B⟩ := h.lkm
 have l := (p.ext f)
 refine sO (oStore [(.bool a), (.slice c d e)] rfl rfl rfl sz25 rfl l Qn (fun s i C g => ?_))
 replace g : Blk s u 25 [(.bool a), (.slice c d e)] := g
 refine sK q (wp_ret (ret1 (.agg #[(.bool a), (.slice c d e)]) results42 (resB [(.bool a), (.slice c d e)] agg25 sz25 rfl g) ?_))
 have t := (h.frmB i q3)
 have m := (o.trans f).rx i
 exact ⟨a, c, d, e, j, rfl, (Frm.mono m q4), (NatR.sub t q5), r, k, Qo⟩
end Go.Proofs.YtneolcopompkaaaGreatDoor
