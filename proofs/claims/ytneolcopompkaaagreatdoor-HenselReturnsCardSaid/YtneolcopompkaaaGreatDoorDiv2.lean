/-
  Walk of package division: long division.
-/
import Derived.Test.YtneolcopompkaaaGreatDoorDiv1
import Derived.Test.YtneolcopompkaaaGreatDoorNat6
import Derived.Test.YtneolcopompkaaaGreatDoorLibA
namespace Go.Proofs.YtneolcopompkaaaGreatDoor
open Go.RowKit Go.Gx Tryz
set_option maxHeartbeats 2000000 in
theorem division_divide {w : World} {Sa : Nat → Prop} {Aa : Option Addr} {na ca : Nat} {da : List Nat} {Sb : Nat → Prop} {Ab : Option Addr} {nb cb : Nat} {db : List Nat} (ha : NatR w Sa Aa na ca da) (hb : NatR w Sb Ab nb cb db) (hna : na ≤ 274877906944) (hnb : nb ≤ 274877906944) (hb0 : 0 < val db) : Calls Tryz.prog 125 #[(.slice Aa na ca), (.slice Ab nb cb)] w (Ret fun v w' => ∃ (Aq : Option Addr) (nq : Nat) (cq : Nat) (dq : List Nat) (Ar : Option Addr) (nr : Nat) (cr : Nat) (dr : List Nat), v = (.tuple #[(.slice Aq nq cq), (.slice Ar nr cr)]) ∧ Ext w w' ∧ NatR w' (fun b => w.heap.size ≤ b) Aq nq cq dq ∧ NatR w' (fun b => w.heap.size ≤ b) Ar nr cr dr ∧ (val da = val db * val dq + val dr) ∧ (val dr < val db) ∧ (Canon isZ dq) ∧ (Canon isZ dr) ∧ (nq ≤ na + 1) ∧ (nr ≤ nb)) := by
 have ⟨la, ka, ma⟩ := ha.lkm
 replace ha := ha.low
 have ⟨lb, kb, mb⟩ := hb.lkm
 replace hb := hb.low
 refine enter func125 rfl ntmps125 rfl (rS fun K1 q9 => sAs rfl (sAs rfl (sK q9 (wp_scope_straight (rS fun K2 r0 => sMs rfl (sO (oCall rfl call86 (natural_Normal hb Qo) rfl ?_)))))))
 rintro _ w4 ⟨y0, l, y1, p, rfl, b0, N, m9, y2⟩
 have C1 := b0.size
 have ⟨T, y3, y4⟩ := N.lkm
 have hvb : val p = val db := by rw [m9, val_trim]
 have hcb : Canon isZ p := by rw [m9]; exact canon_trim _ _
 have r1 : l ≠ 0 := by intro h; rw [show p = [] from List.eq_nil_of_length_eq_zero (by omega)] at hvb; simp [val] at hvb; omega
 refine sAs rfl (sK r0 (wp_seq_k fun K8 r2 => rS fun K9 n0 => sMs rfl (sMs rfl ?_)))
 have c9 := (ha.ext b0)
 refine sO (oCall rfl call47 (natural_Cmp c9 N) rfl ?_)
 rintro _ C2 ⟨i4, rfl, r, f5⟩
 have y5 := r.size
 by_cases U : i4 < 0
 ·refine sV (evLss true rfl rfl (dT U)) (sK n0 (cT rfl (rS fun C3 n4 => sMs rfl ?_)))
  have r3 := (c9.ext r)
  refine sO (oCall rfl call86 (natural_Normal r3 Qo) rfl ?_)
  rintro _ C4 ⟨d0, d1, d2, V, rfl, f6, d3, c1, t4⟩
  have y6 := f6.size
  have ⟨i5, t5, t6⟩ := d3.lkm
  refine sAs rfl (sAs rfl (sK n4 (wp_ret (xR (nR (ret2 (.slice none 0 0) (.slice d0 d1 d2) results125 (resT rfl) (resT rfl) ?_))))))
  have hlt : val V < val db := by rw [c1, val_trim, ← hvb]; exact cmpN_neg f5 U
  have hcr : Canon isZ V := by rw [c1]; exact canon_trim _ _
  have n5 := (b0.trans r).trans f6
  exact ⟨none, 0, 0, ([]), d0, d1, d2, V, rfl, n5, NatR.nil, (NatR.sub d3 q5), (by rw [c1, val_trim]; simp [val]), hlt, (canon_nil _), hcr, (by omega), (rem_len hcr hlt hb.2 lb i5)⟩
 ·refine sV (evLss false rfl rfl (dF U)) (sK n0 (cF rfl (wp_skip (xN (r2 _ _ (wp_seq_k fun C5 n6 => rS fun C6 f7 => sMs rfl (sV (evLen underlying23 rfl) ?_)))))))
  by_cases f8 : ((l : Int)) = 1
  ·refine sV (evEql true rfl rfl (dT f8)) (sK f7 (cT rfl (rS fun C7 n7 => sMs rfl (sMs rfl ?_))))
   have f9 := (N.ext r)
   obtain ⟨C8, r4, rfl⟩ := f9.base Qo
   refine sV (evIx 0 underlying23 sz26 rfl rfl (r4 + 0)) ?_
   have y7 := f9.lt 0
   refine sV (evLoad one26 rfl (f9.cell Qo)) ?_
   have g0 : val p = p.getD 0 0 := (val2 T).2.1 Qo
   have r5 := (c9.ext r)
   refine sO (oCall rfl call64 (natural_DivSmall r5 (xd := p.getD 0 0) Qo Qo Qo) rfl ?_)
   rintro _ C9 ⟨D, E, F, i6, G, d4, rfl, g1, d5, t7, n8, d6, i7, t8⟩
   have y8 := g1.size
   have ⟨t9, u0, u1⟩ := d5.lkm
   refine sV (v := (.tuple #[(.slice D E F), (.int .u32 G), (.bool d4)])) (rfl) (sV (v := (.slice D E F)) (rfl) (sV (v := (.int .u32 G)) (rfl) (sV (v := (.bool d4)) (rfl) (sAs rfl (sAi rfl (sAb rfl (sK n7 (rS fun D0 n9 => sMs rfl (sMi rfl (sV (evConv ((G : Int)) underlying26 underlying100 rfl (wU64 Qo)) (sO (oCall rfl call75 (natural_Of (x1 := G) Qo) rfl ?_))))))))))))
   rintro _ D1 ⟨d7, d8, d9, i8, rfl, c2, e0, c3, e1, u2⟩
   have y9 := c2.size
   have ⟨i9, u3, u4⟩ := e0.lkm
   refine sAs rfl (sAs rfl (sK n9 (wp_ret (xR (nR (ret2 (.slice D E F) (.slice d7 d8 d9) results125 (resT rfl) (resT rfl) ?_))))))
   have r6 := (d5.ext c2)
   have o0 := ((b0.trans r).trans g1).trans c2
   exact ⟨D, E, F, i6, d7, d8, d9, i8, rfl, o0, (NatR.sub r6 q5), (NatR.sub e0 q5), (by rw [c3, ← hvb, g0]; exact n8), (by rw [c3, ← hvb, g0]; exact d6), i7, e1, (by omega), (rem_len e1 (by rw [c3, ← hvb, g0]; exact d6) hb.2 lb i9)⟩
  ·refine sV (evEql false rfl rfl (dF f8)) (sK f7 (cF rfl (wp_skip (xN (n6 _ _ (rS fun D2 o1 => sMs rfl (sMs rfl (sV (evLen underlying23 rfl) (sV (evSub (((l : Int)) - 1) rfl rfl wI) ?_)))))))))
   have e2 := (N.ext r)
   obtain ⟨D3, r7, rfl⟩ := e2.base Qo
   refine sV (evIx (l - 1) underlying23 sz26 rfl rfl (r7 + (l - 1))) ?_
   have z0 := e2.lt (l - 1)
   refine sV (evLoad one26 rfl (e2.cell Qo)) ?_
   have htop : p.getD (l - 1) 0 ≠ 0 := canon_top hcb T r1
   refine sO (oCall rfl call142 (bits_LeadingZeros32 (x1 := p.getD (l - 1) 0) Qo Qo) rfl ?_)
   rintro _ r8 ⟨t, rfl, W, u5, j0, j1, X⟩
   have z1 := W.size
   refine sAi rfl (sK o1 (rS fun D4 o2 => sMs rfl (sMi rfl ?_)))
   have r9 := (e2.ext W)
   refine sO (oCall rfl call74 (natural_Shl r9 (xn := t) Qo Qo Qo) rfl ?_)
   rintro _ s0 ⟨j2, a, j3, j, rfl, c4, Y, g2, j4, u6⟩
   have z2 := c4.size
   have ⟨H, u7, u8⟩ := Y.lkm
   have s1 := Y.sub (S' := fun b => (r8.heap.size ≤ b) ∧ b < s0.heap.size) fun _ hb hs => ⟨hs, hb⟩
   have hnl := norm_len N.2 T Qo j0 j1 X g2 Y.2 j4
   have hnv : a = l := by rw [← H]; exact hnl.1
   rw [← hnv] at hnl
   refine sAs rfl (sK o2 (rS fun D5 o3 => sMs rfl (sV (evLen underlying23 rfl) (sAi rfl (sK o3 (rS fun D6 o4 => sMs rfl ?_))))))
   have o5 := (r.trans W).trans c4
   have n1 := (c9.ext o5)
   refine sO (oCall rfl call86 (natural_Normal n1 Qo) rfl ?_)
   rintro _ D7 ⟨u9, f, v0, j5, rfl, c5, I, o6, v1⟩
   have z3 := c5.size
   have ⟨Z, v2, v3⟩ := I.lkm
   refine sV (evLen underlying23 rfl) (sV (evAdd (((f : Int)) + 1) rfl rfl wI) (sO (oMake1 (f + 1) underlying23 inf26 rfl cI cI Qo Qo (fun O s2 z4 g3 z5 o7 => ?_))))
   have o8 : Blk s2 O 26 (((List.replicate (f + 1) 0)).map u32) := by rw [List.map_replicate]; exact o7
   refine sAs rfl (sK o4 (rS fun D8 o9 => sMs rfl (sMs rfl (sMi rfl ?_))))
   have g4 := c5.trans g3
   have s3 := (n1.ext g4)
   refine sO (oCall rfl call74 (natural_Shl s3 (xn := t) Qo Qo Qo) rfl ?_)
   rintro _ D9 ⟨v4, x, v5, J, rfl, a0, a1, g5, j6, v6⟩
   have z6 := a0.size
   have ⟨e3, v7, v8⟩ := a1.lkm
   have hva : val j5 = val da := by rw [o6, val_trim]
   have hcmp := cmpN_nn f5 U
   have hul : x ≤ f + 1 := by rw [← e3]; exact lt_val_len j6 (shl_len I.2 Z hva g5 X)
   have hab : l ≤ f := by rw [← Z, ← T]; exact canon_len_le I.2 hcb (by rw [hva, hvb]; rw [hvb] at hcmp; exact hcmp)
   have p0 := (o8.ext a0)
   refine sO (oCopy underlying23 sz26 rfl rfl a1.1 (u32s_one _) p0 Qo (by exact lq) (fun s4 g6 z7 c6 => ?_))
   replace c6 : Blk s4 O 26 ((J ++ List.replicate (f + 1 - x) 0).map u32) := by rw [← (copy_first e3 (by omega) : (List.replicate (f + 1) 0).take 0 ++ J ++ (List.replicate (f + 1) 0).drop (0 + x) = J ++ List.replicate (f + 1 - x) 0), List.map_append, List.map_append, List.map_take, List.map_drop]; exact c6
   rw [put_mkA]
   refine sK o9 (rS fun E0 p1 => sMs rfl (sV (evLen underlying23 rfl) (sMi rfl (sV (evSub ((((f + 1 : Nat) : Int)) - ((a : Int))) rfl rfl wI) (sO (oMake1 ((f + 1) - a) underlying23 inf26 rfl cI cI Qo Qo (fun y n2 z8 c7 z9 p2 => ?_)))))))
   have p3 : Blk n2 y 26 (((List.replicate ((f + 1) - a) 0)).map u32) := by rw [List.map_replicate]; exact p2
   refine sAs rfl (sK p1 (wp_seq_k fun A0 j7 => wp_label (xN (j7 _ _ (wp_seq_k fun A1 j8 => rS fun A2 j9 => sMs rfl (sV (evLen underlying23 rfl) (sV (evSub (((((f + 1) - a : Nat) : Int)) - 1) rfl rfl wI) (sAi rfl (sK j9 (wp_block ?_))))))))))
   have k0 := (c6.ext c7)
   refine lLoop (fun m e w_ => ∃ (k : Nat) (Du : List Nat) (Q : List Nat), m = k ∧ e 4 = (.slice (some ⟨y, 0, none⟩) ((f + 1) - a) ((f + 1) - a)) ∧ e 9 = (.int .i64 t) ∧ e 10 = (.slice j2 a j3) ∧ e 11 = (.int .i64 a) ∧ e 12 = (.slice (some ⟨O, 0, none⟩) (f + 1) (f + 1)) ∧ e 13 = (.int .i64 ((k : Int) - 1)) ∧ Frm (fun b => b = O ∨ b = y) n2 w_ ∧ Blk w_ O 26 (Du.map u32) ∧ Blk w_ y 26 ((List.replicate k 0 ++ Q).map u32) ∧ (k ≤ (f + 1) - a) ∧ (Du.length = f + 1) ∧ (∀ d ∈ Du, d < BS) ∧ (Q.length = (f + 1) - a - k) ∧ (∀ d ∈ Q, d < BS) ∧ (DivI Du j Q k (val da * 2 ^ t))) (((f + 1) - a)) ?_ ?_
   ·refine ⟨((f + 1) - a), (J ++ List.replicate (f + 1 - x) 0), ([]), rfl, rfl, rfl, rfl, rfl, rfl, cI, (Frm.refl _ _), ?_, ?_, ?_, ?_, ?_, ?_, ?_, ?_⟩
    ·exact k0
    ·simpa using p3
    ·omega
    ·simp; omega
    ·exact lt_fill a1.2
    ·simp
    ·simp
    ·exact DivI.start (m := (f + 1)) (n := a) (s := t) (va := val da) (by rw [val_fill, g5]) rfl (by rw [← hva]; have h := val_lt _ I.2; rw [Z] at h; simpa using h) X (by have h := top_ge (d := j) (n := a) H (by omega); have h2 : BS ^ (a - 1) * 2147483648 ≤ BS ^ (a - 1) * j.getD (a - 1) 0 := Nat.mul_le_mul_left _ hnl.2; omega) (by omega) rfl (by omega)
   ·rintro A3 A4 p5 ⟨k, Du, Q, v9, k1, k2, k3, k4, k5, k6, z, e4, e5, hk, hDl, hDt, hQl, hQt, hI⟩
    obtain ⟨A5, rfl⟩ := sq6 k1 k2 k3 k4 k5 k6
    have w0 := z.size
    refine wp_seq_k fun A6 k7 => rS fun A7 e6 => sMi rfl ?_
    by_cases e7 : ((k : Int) - 1) ≥ 0
    ·refine sV (evGeq true rfl rfl (dT e7)) (sK e6 (cT rfl (wp_skip (xN (k7 _ _ (wp_seq_k fun A8 e8 => wp_block (rS fun A9 k8 => sMs rfl (sMi rfl (sMi rfl (sMi rfl (sV (evAdd (((k : Int) - 1) + ((a : Int))) rfl rfl wI) (sV (evAdd ((((k : Int) - 1) + ((a : Int))) + 1) rfl rfl wI) (sV (evSliceLH (k - 1) (((k - 1) + a) + 1) underlying23 sz26 rfl rfl rfl Qo Qo Qo Qo Qo (k - 1) Qo) (sAs rfl (sK k8 (wp_seq_k fun B0 k9 => ?_))))))))))))))))
     have l0 := (((g4.trans a0).rx g6).xr c7).tr z
     have a2 := (s1.frmB l0 q3)
     have hvlt : val j < BS ^ a := by have h := val_lt _ a2.2; rw [H] at h; exact h
     have hpt := hI.part (n := a) Qo Qo hvlt
     have hpd : ∀ d ∈ (Du.drop (k - 1)).take (a + 1), d < BS := fun d hd => hDt d (List.mem_of_mem_drop (List.mem_of_mem_take hd))
     have n3 := drop_three (d := (Du.drop (k - 1)).take (a + 1)) (n := a) (by omega) (by simp; omega)
     rw [part_getD (by omega), part_getD (by omega), part_getD (by omega)] at n3
     have g7 := tops (k := 0) hpd (show 2 ≤ a by omega) (by simp; omega) n3
     have g8 := tops (k := 0) a2.2 (show 2 ≤ a by omega) Qo (drop_two Qo H)
     have hE : 0 < BS ^ (a - 2) := Nat.pow_pos (by decide)
     have hut := top_le hE g8.2 g7.1 hpt.2.1 rfl rfl (a2.lt (a - 2))
     refine dBegin (fun b => b = y) mixed (fun B1 a3 w1 => dMs 0 rfl rfl (dMi 1 rfl rfl (dMs 2 rfl rfl (dMi 3 rfl rfl (dV 4 rfl (fun _ _ => evIx a underlying23 sz26 rfl rfl (k - 1 + a)) ?_)))))
     have K := (e4.ext a3)
     have w2 := getD_lt (ds := Du) (i := k - 1 + a) hDt
     refine dV 5 rfl (fun _ hf => evLoad one26 rfl ((K.frm hf q1).dig (by exact lq))) (dMs 6 rfl rfl (dMi 7 rfl rfl (dV 8 rfl (fun _ _ => evSub (((a : Int)) - 1) rfl rfl wI) (dV 9 rfl (fun _ _ => evIx (a - 1) underlying23 sz26 rfl rfl (k - 1 + (a - 1))) ?_))))
     have w3 := getD_lt (ds := Du) (i := k - 1 + (a - 1)) hDt
     refine dV 10 rfl (fun _ hf => evLoad one26 rfl ((K.frm hf q1).dig (by exact lq))) (dMs 11 rfl rfl (dMi 12 rfl rfl (dV 13 rfl (fun _ _ => evSub (((a : Int)) - 2) rfl rfl wI) (dV 14 rfl (fun _ _ => evIx (a - 2) underlying23 sz26 rfl rfl (k - 1 + (a - 2))) ?_))))
     have w5 := getD_lt (ds := Du) (i := k - 1 + (a - 2)) hDt
     refine dV 15 rfl (fun _ hf => evLoad one26 rfl ((K.frm hf q1).dig (by exact lq))) (dMs 16 rfl rfl (dMi 17 rfl rfl (dV 18 rfl (fun _ _ => evSub (((a : Int)) - 1) rfl rfl wI) ?_)))
     have C := (a2.ext a3)
     obtain ⟨B2, g9, rfl⟩ := C.base Qo
     refine dV 19 rfl (fun _ _ => evIx (a - 1) underlying23 sz26 rfl rfl (g9 + (a - 1))) ?_
     have w6 := C.lt (a - 1)
     refine dV 20 rfl (fun _ hf => evLoad one26 rfl ((C.frm hf q2).cell Qo)) (dMs 21 rfl rfl (dMi 22 rfl rfl (dV 23 rfl (fun _ _ => evSub (((a : Int)) - 2) rfl rfl wI) (dV 24 rfl (fun _ _ => evIx (a - 2) underlying23 sz26 rfl rfl (g9 + (a - 2))) ?_))))
     have w7 := C.lt (a - 2)
     refine dV 25 rfl (fun _ hf => evLoad one26 rfl ((C.frm hf q2).cell Qo)) (dOp 26 rfl rfl (by kernel_rfl) (oCall rfl call143 (division_estimate (xa := Du.getD (k - 1 + a) 0) Qo (xb := Du.getD (k - 1 + (a - 1)) 0) Qo (xc := Du.getD (k - 1 + (a - 2)) 0) Qo (xd := j.getD (a - 1) 0) Qo (xe := j.getD (a - 2) 0) Qo Qo Qo) rfl ?_))
     rintro _ B3 ⟨c, rfl, L, s5, h0, h1⟩
     refine ⟨(Frm.of_ext L), ?_⟩
     have w8 := L.size
     have hbd := est_bound hE g8.1 g8.2 g7.1 g7.2 h0 h1 Qo hpt.2.1 (by unfold estV; have h := hnl.2; omega)
     refine dV 27 rfl (fun _ _ => evIx (k - 1) underlying23 sz26 rfl rfl (k - 1)) ?_
     have a4 := a3.trans L
     have l1 := (e5.ext a4)
     refine dOp 28 rfl rfl (by kernel_rfl) (oStore1 rfl rfl rfl sz26 l1 (by exact lq) (fun p6 M w9 A => ?_))
     replace A : Blk p6 y 26 ((List.replicate (k - 1) 0 ++ (c :: Q)).map u32) := by rw [← (revN_set (by omega) (by omega) : (List.replicate k 0 ++ Q).set (k - 1) c = List.replicate (k - 1) 0 ++ (c :: Q)), List.map_set]; exact A
     refine ⟨M, dDone (by kernel_rfl) (xN (k9 _ _ (wp_seq_k fun B4 l2 => rS fun B5 l3 => sMs rfl (sMs rfl (sMs rfl (sMi rfl (sV (evIx (k - 1) underlying23 sz26 rfl rfl (k - 1)) ?_)))))))⟩
     have x0 := getD_lt (ds := List.replicate (k - 1) 0 ++ (c :: Q)) (i := k - 1) (lt_revfill (lt_cons hQt Qo))
     refine sV (evLoad one26 rfl (A.dig (by exact lq))) ?_
     have hqg : (List.replicate (k - 1) 0 ++ (c :: Q)).getD (k - 1) 0 = c := revN_get
     generalize x2 : (List.replicate (k - 1) 0 ++ (c :: Q)).getD (k - 1) 0 = q113 at *
     obtain rfl := hqg.symm
     have e9 := L.rx M
     have l4 := (K.frm e9 q1)
     have h3 := (C.frmB e9 q3)
     refine sO (oCall rfl call144 (division_subtractMultiple (Uz := (Du).take (k - 1)) (Zz := (Du).drop (k - 1)) (by rw [List.take_append_drop]; exact l4) (by exact lq) (by exact lq) (by rw [List.take_append_drop]; exact hDt) (by omega) (by omega) (NatR.sub h3 q5) (xd := c) (by omega) (by omega)) rfl ?_)
     rintro _ B6 ⟨h4, g, P, rfl, u, f0, B, R, b1, l5, l6, f1⟩
     have x3 := u.size
     have hzl : val (g.take (a + 1)) < BS ^ (a + 1) := val_take_lt fun d hd => R d (by simp [hd])
     have ex : val (g.take (a + 1)) + c * val j = val ((Du.drop (k - 1)).take (a + 1)) + BS ^ (a + 1) * P := by have h := l5; rwa [show k - 1 + a + 1 - (k - 1) = a + 1 by omega] at h
     have h5 := nonneg_of_borrow ex hzl
     have lnz : g.length = Du.length - (k - 1) := by rw [B, List.length_drop]
     refine sV (evNot _ rfl rfl) (sK l3 ?_)
     cases h4
     ·refine cT rfl (wp_exit (xE (bE (xN (e8 _ _ ?_)))))
      have hdl : g.drop (a + 1) = (Du.drop (k - 1)).drop (a + 1) := by have h := b1; rwa [show k - 1 + a + 1 - (k - 1) = a + 1 by omega] at h
      have h6 : P = 0 := by simpa using f1.symm
      have hqv := h5.1 h6; rw [h6, Nat.mul_zero, Nat.add_zero] at ex
      have hstep := hI.step (n := a) (q := c) Qo Qo hvlt hDt B hdl ex (by have h := hbd.2.2 hqv; omega)
      have c8 : (Du.take (k - 1) ++ g).length = f + 1 := by simp [B]; omega
      refine wp_region_lit (sMi rfl (sV (evSub (((k : Int) - 1) - 1) rfl rfl wI) (sAi rfl (sDone ?_))))
      have l7 := (a4.rx M).tr u
      have l8 := (A.frm u q1)
      refine again ((k - 1)) Qo ⟨(k - 1), ((Du).take (k - 1) ++ g), ((c) :: Q), rfl, rfl, rfl, rfl, rfl, rfl, cI, (Frm.mono (z.tr l7) q4), ?_, ?_, ?_, ?_, ?_, ?_, ?_, ?_⟩
      ·exact f0
      ·exact l8
      ·omega
      ·exact c8
      ·exact R
      ·simp [hQl]; omega
      ·exact lt_cons hQt Qo
      ·exact hstep
     ·refine cF rfl (wp_skip (xN (l2 _ _ (wp_seq_k fun B7 l9 => ?_))))
      have h7 : P ≠ 0 := by simpa using f1.symm
      have hnq : ¬ c * val j ≤ val ((Du.drop (k - 1)).take (a + 1)) := fun h => h7 (h5.2 h)
      have hpos : 0 < c := by rcases Nat.eq_zero_or_pos c with h | h; rw [h, Nat.zero_mul] at hnq; omega; exact h
      refine wp_region_lit (sMs rfl (sMi rfl (sV (evIx (k - 1) underlying23 sz26 rfl rfl (k - 1)) ?_)))
      have f2 := (A.frm u q1)
      have x4 := getD_lt (ds := List.replicate (k - 1) 0 ++ (c :: Q)) (i := k - 1) (lt_revfill (lt_cons hQt Qo))
      refine sV (evLoad one26 rfl (f2.dig (by exact lq))) ?_
      have p7 : (List.replicate (k - 1) 0 ++ (c :: Q)).getD (k - 1) 0 = c := revN_get
      generalize x5 : (List.replicate (k - 1) 0 ++ (c :: Q)).getD (k - 1) 0 = q119 at *
      obtain rfl := p7.symm
      refine sV (evSub (((c - 1 : Nat) : Int)) rfl rfl (wU32 Qo)) (sV (evIx (k - 1) underlying23 sz26 rfl rfl (k - 1)) (sO (oStore1 rfl rfl rfl sz26 f2 (by exact lq) (fun p8 a5 x6 a6 => ?_))))
      replace a6 : Blk p8 y 26 ((List.replicate (k - 1) 0 ++ ((c - 1) :: Q)).map u32) := by rw [← (revN_set2 : (List.replicate (k - 1) 0 ++ (c :: Q)).set (k - 1) (c - 1) = List.replicate (k - 1) 0 ++ ((c - 1) :: Q)), List.map_set]; exact a6
      refine sK l9 (wp_region_lit (sMs rfl (sMs rfl ?_)))
      have m0 := (f0.frm a5 q1)
      have m1 := u.tr a5
      have p9 := (h3.frmB m1 q3)
      refine sO (oCall rfl call145 (division_addBack (Uz := ((Du).take (k - 1) ++ g).take (k - 1)) (Zz := ((Du).take (k - 1) ++ g).drop (k - 1)) (by rw [List.take_append_drop]; exact m0) (by exact lq) (by exact lq) (by rw [List.take_append_drop]; exact R) (by omega) (by omega) (NatR.sub p9 q5) (by omega)) rfl ?_)
      rintro _ B8 ⟨o, h8, rfl, a7, f3, h9, S, i0, m2⟩
      have x7 := a7.size
      refine sDone (bN (xN (e8 _ _ ?_)))
      have hta : (Du.take (k - 1) ++ g).drop (k - 1) = g := take_app Qo
      have htb : (Du.take (k - 1) ++ g).take (k - 1) = Du.take (k - 1) := take_app2 Qo
      have hdl : o.drop (a + 1) = (Du.drop (k - 1)).drop (a + 1) := by have h := i0; have h2 := b1; rw [hta] at h; rw [show k - 1 + a + 1 - (k - 1) = a + 1 by omega] at h h2; rw [h, h2]
      have hln : o.length = (Du.drop (k - 1)).length := by have h := h9; rw [hta] at h; rw [h]; exact B
      have ez : val (o.take (a + 1)) + BS ^ (a + 1) * h8 = val (g.take (a + 1)) + val j := by have h := m2; rw [hta] at h; rwa [show k - 1 + a + 1 - (k - 1) = a + 1 by omega] at h
      have s6 : val (o.take (a + 1)) < BS ^ (a + 1) := val_take_lt fun d hd => S d (by simp [hd])
      have hvB : val j < BS ^ (a + 1) := Nat.lt_of_lt_of_le hvlt (Nat.pow_le_pow_right (by decide) Qo)
      have hbk := addback (q := c - 1) (by rw [show c - 1 + 1 = c by omega]; exact ex) h7 l6 ez s6 (hbd.2.1 hpos) (by rw [show c - 1 + 1 = c by omega]; omega) hvB
      have hstep := hI.step (n := a) (q := c - 1) Qo Qo hvlt hDt hln hdl hbk.1 hbk.2
      rw [htb] at f3 S
      have c8 : (Du.take (k - 1) ++ o).length = f + 1 := by simp [hln]; omega
      refine wp_region_lit (sMi rfl (sV (evSub (((k : Int) - 1) - 1) rfl rfl wI) (sAi rfl (sDone ?_))))
      have m3 := (((a4.rx M).tr u).tr a5).tr a7
      have m4 := (a6.frm a7 q1)
      refine again ((k - 1)) Qo ⟨(k - 1), ((Du).take (k - 1) ++ o), ((c - 1) :: Q), rfl, rfl, rfl, rfl, rfl, rfl, cI, (Frm.mono (z.tr m3) q4), ?_, ?_, ?_, ?_, ?_, ?_, ?_, ?_⟩
      ·exact f3
      ·exact m4
      ·omega
      ·exact c8
      ·exact S
      ·simp [hQl]; omega
      ·exact lt_cons hQt Qo
      ·exact hstep
    ·refine sV (evGeq false rfl rfl (dF e7)) (sK e6 (cF rfl (wp_exit (xE (xE (bE (xN (j8 _ _ (rS fun B9 m5 => sMs rfl ?_)))))))))
     have q0 : NatR p5 (fun b => b = y) (some ⟨y, 0, none⟩) ((f + 1) - a) ((f + 1) - a) (List.replicate k 0 ++ Q) := NatR.of_blk e5 rfl (lt_revfill hQt) (by exact lq) Qo (by unfold CapMax; omega)
     refine sO (oCall rfl call86 (natural_Normal q0 Qo) rfl ?_)
     rintro _ q6 ⟨b2, b3, b4, i1, rfl, a8, b5, f4, s7⟩
     have x8 := a8.size
     have ⟨s8, s9, t0⟩ := b5.lkm
     refine sMs rfl (sMi rfl ?_)
     have m6 := (e4.ext a8)
     have q7 : NatR q6 (fun b => b = O) (some ⟨O, 0, none⟩) (f + 1) (f + 1) (Du) := NatR.of_blk m6 rfl hDt (by exact lq) Qo (by unfold CapMax; omega)
     refine sO (oCall rfl call146 (natural_Shr q7 (xn := t) Qo Qo) rfl ?_)
     rintro _ C0 ⟨b6, b7, b8, i2, rfl, a9, b9, m7, c0, t1⟩
     have x9 := a9.size
     have ⟨i3, t2, t3⟩ := b9.lkm
     refine sAs rfl (sAs rfl (sK m5 (wp_ret (nR (ret2 (.slice b2 b3 b4) (.slice b6 b7 b8) results125 (resT rfl) (resT rfl) ?_)))))
     have hfin := DivI.fin (b := p) (by have h := hI; rw [show k = 0 by omega] at h; exact h) rfl g2 m7
     rw [hvb] at hfin
     have q8 := (b5.ext a9)
     have m8 := ((((((((((b0.trans r).trans W).trans c4).trans c5).trans g3).trans a0).rx g6).xr c7).tr z).xr a8).xr a9
     exact ⟨b2, b3, b4, i1, b6, b7, b8, i2, rfl, (Frm.mono m8 q4), (NatR.sub q8 q5), (NatR.sub b9 q5), (by rw [f4, val_trim, show k = 0 by omega, List.replicate_zero, List.nil_append]; exact hfin.1), hfin.2, (by rw [f4]; exact canon_trim _ _), c0, (by omega), (rem_len c0 hfin.2 hb.2 lb i3)⟩
end Go.Proofs.YtneolcopompkaaaGreatDoor
