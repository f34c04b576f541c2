/-
  Walk of the law HenselBound.
-/
import Derived.Test.YtneolcopompkaaaGreatDoorLaw12b
import Derived.Test.YtneolcopompkaaaGreatDoorBnd1
namespace Go.Proofs.YtneolcopompkaaaGreatDoor
open Go.RowKit Go.Gx Tryz
set_option maxHeartbeats 2000000 in
theorem law12_bound {w : World} {Sf : Nat → Prop} {Af : Option Addr} {nf cf Mf : Nat} {lf : List RI} {Sg : Nat → Prop} {Ag : Option Addr} {ng cg Mg : Nat} {lg : List RI} (hf : PolyR w Sf Af nf cf lf Mf) (hg : PolyR w Sg Ag ng cg lg Mg) (hT : TabR w) : Calls Tryz.prog 6 #[(.slice Af nf cf), (.slice Ag ng cg)] w (Ret fun v w' => ∃ (gr : Bool), v = (.bool gr) ∧ Ext w w' ∧ (gr = true)) := by
 have ltT := hT.lt0
 have ⟨kf, jf, mf⟩ := hf.lkm
 replace hf := hf.low
 have ⟨kg, jg, mg⟩ := hg.lkm
 replace hg := hg.low
 refine enter func6 rfl ntmps6 rfl (rS fun K1 j4 => sAb rfl (sK j4 (wp_seq_k fun K2 j5 => rS fun K3 j6 => sO (oCall rfl call9 (law12_fit hT) rfl ?_))))
 rintro _ w5 ⟨f9, rfl, X, j7⟩
 have A9 := X.size
 obtain rfl : f9 = true := j7
 refine sV (evNot _ rfl rfl) (sK j6 (cF rfl (wp_skip (xN (j5 _ _ (wp_seq_k fun K8 j8 => rS fun K9 f4 => sMs rfl ?_))))))
 have j9 := (hf.ext X)
 refine sO (oCall rfl call26 (law12_few j9) rfl ?_)
 rintro _ B0 ⟨c9, rfl, P, g0⟩
 have x6 := P.size
 refine sV (evNot _ rfl rfl) (sMb rfl ?_)
 cases c9
 ·refine sSkip rfl rfl (sSkip rfl rfl (sSkip rfl rfl (sV (v := (.bool true)) (rfl) (sK f4 (cT rfl (rS fun B1 g1 => sAb rfl (sK g1 (wp_ret (xR (ret1 (.bool true) results6 (resT rfl) ?_))))))))))
  have g2 := X.trans P
  exact ⟨(true), rfl, g2, rfl⟩
 ·refine sEv (v := (.slice Ag ng cg)) (rfl) rfl rfl ?_
  have Q := X.trans P
  have k0 := (hg.ext Q)
  refine sOp rfl (oCall rfl call26 (law12_few k0) rfl ?_)
  rintro _ B2 ⟨n, rfl, R, g3⟩
  have x7 := R.size
  refine sEv (v := (.bool (!n))) (evNot _ rfl rfl) rfl rfl (sV (v := (.bool (!n))) (rfl) (sK f4 ?_))
  cases n
  ·refine cT rfl (rS fun B3 g4 => sAb rfl (sK g4 (wp_ret (xR (ret1 (.bool true) results6 (resT rfl) ?_)))))
   have g5 := Q.trans R
   exact ⟨(true), rfl, g5, rfl⟩
  ·refine cF rfl (wp_skip (xN (j8 _ _ (wp_seq_k fun B4 g6 => ?_))))
   have qf := g0 rfl
   have qnf := qf.1
   have k1 := hf.reM (M' := 10) (by intro r hr; have := qf.2 r hr; omega)
   have qg := g3 rfl
   have qng := qg.1
   have f5 := hg.reM (M' := 10) (by intro r hr; have := qg.2 r hr; omega)
   have hzf := zlen lf; have hzg := zlen lg; have hfl : (zs lf).length ≤ 10 := Qo; have hgl : (zs lg).length ≤ 10 := Qo; have b1 := few_len hfl
   refine wp_region_lit (sMs rfl ?_)
   have T := Q.trans R
   have b2 := (k1.ext T)
   refine sO (oCall rfl call32 (unipoly_Degree b2 Qo Qo) rfl ?_)
   rintro _ B5 ⟨a, rfl, i, b3⟩
   have x8 := i.size
   refine sAi rfl (sK g6 (rS fun B6 g7 => sV (v := (.agg #[(.bool false), (.slice none 0 0)])) (evK (by kernel_rfl)) (sO (oAlloc [(.bool false), (.slice none 0 0)] zero25 rfl (fun f6 B7 x9 o y0 g8 => sO (oStore [(.bool false), (.slice none 0 0)] rfl rfl rfl sz25 rfl g8 Qn (fun k2 p y1 q => ?_)))))))
   replace q : Blk k2 f6 25 [(.bool false), (.slice none 0 0)] := q
   refine sK g7 (wp_seq_k fun B8 b4 => rS fun B9 b5 => sMi rfl ?_)
   by_cases b6 : a ≥ 0
   ·refine sV (evGeq true rfl rfl (dT b6)) (sK b5 (cT rfl (wp_region_lit (sMi rfl (sV (evAdd (((a.toNat + 1 : Nat) : Int)) rfl rfl (wI64 ⟨by omega, by omega, by omega⟩)) (sO (oCall rfl call36 (ref12_root (xn := a.toNat + 1) Qo Qo) rfl ?_)))))))
    rintro _ C0 ⟨r2, rfl, s, r3, g9, r4⟩
    have y2 := s.size
    refine sO (oCall rfl call35 (integer_Of Qo) rfl ?_)
    rintro _ C1 ⟨r5, r6, r7, r8, r9, rfl, t, Y, h0, s0, s1⟩
    have y3 := t.size
    have ⟨s2, s3, s4⟩ := Y.lkm
    refine sV (v := (.int .i64 (((a.toNat : Nat) : Int)))) (by rw [show ((a.toNat : Nat) : Int) = a by omega]; rfl) (sO (oCall rfl call34 (integer_Shl Y (xn := a.toNat) (by omega) (by omega) (by omega)) rfl ?_))
    rintro _ C2 ⟨s5, s6, s7, s8, s9, rfl, u, Z, h1, t0, t1⟩
    have y4 := u.size
    have ⟨t2, t3, t4⟩ := Z.lkm
    refine sMs rfl ?_
    have h2 := ((((i.trans o).rx p).xr s).xr t).xr u
    have f7 := (b2.frmB h2 q3)
    refine sO (oCall rfl call21 (unipoly_Height f7 Qo Qo) rfl ?_)
    rintro _ C3 ⟨t5, t6, t7, t8, t9, rfl, j, a0, h3, u0, u1⟩
    have y5 := j.size
    have ⟨u2, u3, u4⟩ := a0.lkm
    have k3 := (Z.ext j)
    refine sO (oCall rfl call33 (integer_Mul k3 a0 Qo) rfl ?_)
    rintro _ C4 ⟨d, x, y, z, d0, rfl, A, a1, h4, u5, u6⟩
    have y6 := A.size
    have ⟨u7, u8, u9⟩ := a1.lkm
    have hw : zval d d0 = bndZ (zs lf) := (by rw [h4]; exact bnd_want b3 (by omega) (by rw [g9]; congr 1; omega) rfl h0 h1 h3)
    have h5 := (((s.trans t).trans u).trans j).trans A
    have h6 := (q.ext h5)
    refine sO (oStore [(.bool d), (.slice x y z)] rfl rfl rfl sz25 rfl h6 Qn (fun k4 U y7 V => ?_))
    replace V : Blk k4 f6 25 [(.bool d), (.slice x y z)] := V
    refine sK b4 (wp_seq_k fun C5 h7 => wp_seq_k fun C6 h8 => dBegin (fun _ => False) mixed (fun C7 B y8 => dMs 0 rfl rfl ?_))
    have h9 := (V.ext B)
    refine dV 2 rfl (fun _ hf => evLoadAB [(.bool d), (.slice x y z)] agg25 sz25 rfl (h9.ext hf) rfl) ?_
    have i0 := ((j.trans A).rx U).xr B
    have f8 := (f7.frmB i0 q3)
    refine dOp 1 rfl rfl (by kernel_rfl) (oCall rfl call38 (hensel_bound f8 Qo Qo b1) rfl ?_)
    rintro _ C8 ⟨v0, v1, v2, v3, v4, rfl, k, a2, i1, v5, v6⟩
    refine ⟨(Frm.of_ext k), ?_⟩
    have y9 := k.size
    have ⟨v7, v8, v9⟩ := a2.lkm
    have i2 := (U.xr B).xr k
    have k5 := (a1.frmB i2 q3)
    refine dOp 3 rfl rfl (by kernel_rfl) (oCall rfl call37 (integer_Same a2 k5) rfl ?_)
    rintro _ C9 ⟨d1, rfl, C, i3⟩
    refine ⟨(Frm.of_ext C), ?_⟩
    have z0 := C.size
    obtain rfl : d1 = true := by rw [i3, i1, hw]; exact decide_eq_true rfl
    refine dV 4 rfl (fun _ _ => evNot _ rfl rfl) (dDone (by kernel_rfl) (xN (h8 _ _ (cF rfl (wp_skip (xN (h7 _ _ (rS fun D0 i4 => sMs rfl (sMs rfl ?_)))))))))
    have i5 := k.trans C
    have b7 := (f8.ext i5)
    have D := (((((((((((T.trans i).trans o).rx p).xr s).xr t).xr u).xr j).xr A).trans U).xr B).xr k).xr C
    have i6 := (f5.frmB D q3)
    refine sO (oCall rfl call19 (unipoly_Mul b7 i6 Qo Qo Qo Qo) rfl ?_)
    rintro _ z1 ⟨b8, b9, c0, k6, rfl, e, l, a3, k7, k8⟩
    have w0 := e.size
    have ⟨k9, l0, l1⟩ := l.lkm
    have W := prod_len hfl hgl a3
    refine sAs rfl (sK i4 (rS fun z2 a4 => sMs rfl (sO (oCall rfl call32 (unipoly_Degree l Qo Qo) rfl ?_))))
    rintro _ z3 ⟨c1, rfl, b, w1⟩
    have w2 := b.size
    by_cases a5 : c1 < 0
    ·refine sV (evLss true rfl rfl (dT a5)) (sMb rfl (sSkip rfl rfl (sSkip rfl rfl (sSkip rfl rfl (sSkip rfl rfl (sSkip rfl rfl (sSkip rfl rfl (sV (v := (.bool true)) (rfl) (sAb rfl (sK a4 (wp_ret (ret1 (.bool true) results6 (resT rfl) ?_))))))))))))
     have d2 := (D.xr e).xr b
     exact ⟨(true), rfl, (Frm.mono d2 q4), rfl⟩
    ·refine sV (evLss false rfl rfl (dF a5)) (sMb rfl (sEv (v := (.slice Af nf cf)) (rfl) rfl rfl ?_))
     have d3 := e.trans b
     have i7 := (b7.ext d3)
     refine sOp rfl (oCall rfl call21 (unipoly_Height i7 Qo Qo) rfl ?_)
     rintro _ z4 ⟨l2, l3, l4, l5, l6, rfl, E, K, d4, l7, l8⟩
     have w3 := E.size
     have ⟨l9, m0, m1⟩ := K.lkm
     refine sEv (v := (.slice b8 b9 c0)) (rfl) rfl rfl ?_
     have d5 := b.trans E
     have i8 := (l.ext d5)
     refine sOp rfl (oCall rfl call38 (hensel_bound i8 Qo Qo W) rfl ?_)
     rintro _ z5 ⟨m2, m3, m4, m5, m6, rfl, F, L, d6, m7, m8⟩
     have w4 := F.size
     have ⟨m9, n0, n1⟩ := L.lkm
     have i9 := (K.ext F)
     refine sOp rfl (oCall rfl call13 (integer_Cmp i9 L) rfl ?_)
     rintro _ z6 ⟨n2, rfl, a6, d7⟩
     have w6 := a6.size
     refine sEv (v := (.bool true)) (evLeq true rfl rfl (dT (cmp_le0 d7 (by rw [d4, d6]; exact bnd_ok hfl hgl a3 (by omega))))) rfl rfl (sV (v := (.bool true)) (rfl) (sAb rfl (sK a4 (wp_ret (ret1 (.bool true) results6 (resT rfl) ?_)))))
     have d8 := ((((D.xr e).xr b).xr E).xr F).xr a6
     exact ⟨(true), rfl, (Frm.mono d8 q4), rfl⟩
   ·refine sV (evGeq false rfl rfl (dF b6)) (sK b5 (cF rfl (wp_skip (xN (b4 _ _ (wp_seq_k fun z7 d9 => wp_seq_k fun z8 e0 => dBegin (fun _ => False) mixed (fun z9 G w7 => dMs 0 rfl rfl ?_)))))))
    have e1 := (q.ext G)
    refine dV 2 rfl (fun _ hf => evLoadAB [(.bool false), (.slice none 0 0)] agg25 sz25 rfl (e1.ext hf) rfl) ?_
    have e2 := ((i.trans o).rx p).xr G
    have c2 := (b2.frmB e2 q3)
    refine dOp 1 rfl rfl (by kernel_rfl) (oCall rfl call38 (hensel_bound c2 Qo Qo b1) rfl ?_)
    rintro _ A0 ⟨n3, n4, n5, n6, n7, rfl, f, M, e3, n8, n9⟩
    refine ⟨(Frm.of_ext f), ?_⟩
    have w8 := f.size
    have ⟨o0, o1, o2⟩ := M.lkm
    refine dOp 3 rfl rfl (by kernel_rfl) (oCall rfl call37 (integer_Same M (NatR.nil (S := fun _ => True))) rfl ?_)
    rintro _ A1 ⟨c3, rfl, g, e4⟩
    refine ⟨(Frm.of_ext g), ?_⟩
    have w9 := g.size
    obtain rfl : c3 = true := by rw [e4, e3, zval_nil, ← bnd_zero b3 (by omega)]; exact decide_eq_true rfl
    refine dV 4 rfl (fun _ _ => evNot _ rfl rfl) (dDone (by kernel_rfl) (xN (e0 _ _ (cF rfl (wp_skip (xN (d9 _ _ (rS fun A2 e5 => sMs rfl (sMs rfl ?_)))))))))
    have e6 := f.trans g
    have c4 := (c2.ext e6)
    have H := (((((T.trans i).trans o).rx p).xr G).xr f).xr g
    have j0 := (f5.frmB H q3)
    refine sO (oCall rfl call19 (unipoly_Mul c4 j0 Qo Qo Qo Qo) rfl ?_)
    rintro _ A3 ⟨c5, c6, c7, o3, rfl, h, m, a7, o4, o5⟩
    have x0 := h.size
    have ⟨o6, o7, o8⟩ := m.lkm
    have W := prod_len hfl hgl a7
    refine sAs rfl (sK e5 (rS fun A4 a8 => sMs rfl (sO (oCall rfl call32 (unipoly_Degree m Qo Qo) rfl ?_))))
    rintro _ A5 ⟨c8, rfl, c, x1⟩
    have x2 := c.size
    by_cases a9 : c8 < 0
    ·refine sV (evLss true rfl rfl (dT a9)) (sMb rfl (sSkip rfl rfl (sSkip rfl rfl (sSkip rfl rfl (sSkip rfl rfl (sSkip rfl rfl (sSkip rfl rfl (sV (v := (.bool true)) (rfl) (sAb rfl (sK a8 (wp_ret (ret1 (.bool true) results6 (resT rfl) ?_))))))))))))
     have e7 := (H.xr h).xr c
     exact ⟨(true), rfl, (Frm.mono e7 q4), rfl⟩
    ·refine sV (evLss false rfl rfl (dF a9)) (sMb rfl (sEv (v := (.slice Af nf cf)) (rfl) rfl rfl ?_))
     have e8 := h.trans c
     have j1 := (c4.ext e8)
     refine sOp rfl (oCall rfl call21 (unipoly_Height j1 Qo Qo) rfl ?_)
     rintro _ A6 ⟨o9, p0, p1, p2, p3, rfl, I, N, e9, p4, p5⟩
     have x3 := I.size
     have ⟨p6, p7, p8⟩ := N.lkm
     refine sEv (v := (.slice c5 c6 c7)) (rfl) rfl rfl ?_
     have f0 := c.trans I
     have j2 := (m.ext f0)
     refine sOp rfl (oCall rfl call38 (hensel_bound j2 Qo Qo W) rfl ?_)
     rintro _ A7 ⟨p9, q0, q1, q2, q5, rfl, J, O, f1, q6, q7⟩
     have x4 := J.size
     have ⟨q8, q9, r0⟩ := O.lkm
     have j3 := (N.ext J)
     refine sOp rfl (oCall rfl call13 (integer_Cmp j3 O) rfl ?_)
     rintro _ A8 ⟨r1, rfl, b0, f2⟩
     have x5 := b0.size
     refine sEv (v := (.bool true)) (evLeq true rfl rfl (dT (cmp_le0 f2 (by rw [e9, f1]; exact bnd_ok hfl hgl a7 (by omega))))) rfl rfl (sV (v := (.bool true)) (rfl) (sAb rfl (sK a8 (wp_ret (ret1 (.bool true) results6 (resT rfl) ?_)))))
     have f3 := ((((H.xr h).xr c).xr I).xr J).xr b0
     exact ⟨(true), rfl, (Frm.mono f3 q4), rfl⟩
end Go.Proofs.YtneolcopompkaaaGreatDoor
