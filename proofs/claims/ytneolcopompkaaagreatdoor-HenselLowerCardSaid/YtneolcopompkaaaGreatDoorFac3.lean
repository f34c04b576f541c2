/-
  Walk of package modpoly: factors by their degrees.
-/
import Derived.Test.YtneolcopompkaaaGreatDoorFac2
namespace Go.Proofs.YtneolcopompkaaaGreatDoor
open Go.RowKit Go.Gx Tryz
set_option maxHeartbeats 2000000 in
theorem modpoly_byDegree {w : World} {Sf : Nat → Prop} {Af : Option Addr} {nf cf : Nat} {df : List Nat} {xp : Nat} (hf : NatR w Sf Af nf cf df) (bp : xp < 4294967296) (hnf : nf ≤ 8) (hp : xp = 2 ∨ xp = 3 ∨ xp = 5 ∨ xp = 7 ∨ xp = 11 ∨ xp = 13) (hM : Mn xp df) (hsq : SqF xp df) : Calls Tryz.prog 79 #[(.slice Af nf cf), (.int .u32 xp)] w (Ret fun v w' => ∃ (gr : Nat) (Ar : Option Addr) (nr : Nat) (cr : Nat) (fr : List NE), v = (.slice Ar nr cr) ∧ Ext w w' ∧ OwnM w' w.heap.size 46 gr Ar nr cr fr ∧ GListR LN w' (fun _ => True) Ar nr cr fr ∧ (FacOK xp (zl df) (dsN fr)) ∧ (nr ≤ 8) ∧ (∀ x ∈ fr, x.n ≤ 8)) := by
 have ⟨lf, kf, mf⟩ := hf.lkm;replace hf := hf.low;refine enter func79 rfl ntmps79 rfl ?_;have hpr := prime4N hp; have D : 0 < xp := (by omega); have hcf := hM.can; have q7 := hM.pos; have hcx : CanP xp [0, 1] := ⟨fun d hd => by simp only [List.mem_cons, List.not_mem_nil, or_false] at hd; omega, fun _ => (by decide : 0 < [0, 1].getD ([0, 1].length - 1) 0)⟩;refine rS fun K1 i0 => sAs rfl (sK i0 (rS fun K2 i1 => sAs rfl (sK i1 (rS fun K3 i2 => sO (oBuildSlice [(.int .u32 (0)), (.int .u32 (1))] [[(.int .u32 (0))], [(.int .u32 (1))]] underlying46 inf26 rfl rfl rfl rfl rfl (fun Z w5 q8 a0 q9 N => ?_))))));replace N : Blk w5 Z 26 [(.int .u32 (0)), (.int .u32 (1))] := N;refine sAs rfl (sK i2 (rS fun r0 f0 => sMs rfl (sMs rfl (sMi rfl ?_))));have i4 : NatR w5 (fun b => b = Z) (some ⟨Z, 0, none⟩) 2 2 ([0, 1]) := NatR.of_blk N rfl (by decide) (by exact lq) Qo (by unfold CapMax; omega);have e9 := (hf.ext a0);refine sO (oCall rfl call113 (modpoly_remainder i4 e9 (xp := xp) Qo Qo Qo hp hcx hcf Qo) rfl ?_);rintro _ E ⟨b8, b9, c0, c1, rfl, k, O, f1, c2, k1, c3⟩;have o5 := k.size;have ⟨c3, k2, k3⟩ := O.lkm;refine sAs rfl (sK f0 (wp_seq_k fun r1 f2 => rS fun r2 f3 => sAi rfl (sK f3 (wp_block ?_))));have i5 := (e9.ext k);refine lLoop (fun m e w_ => ∃ (d : Nat) (gN : Nat) (Al : Option Addr) (nl : Nat) (cl : Nat) (fl : List NE) (Aa : Option Addr) (na : Nat) (ca : Nat) (da : List Nat) (Ab : Option Addr) (nb : Nat) (cb : Nat) (db : List Nat), m = 8 - d ∧ e 0 = (.slice Aa na ca) ∧ e 1 = (.int .u32 xp) ∧ e 5 = (.slice Al nl cl) ∧ e 6 = (.slice (some ⟨Z, 0, none⟩) 2 2) ∧ e 7 = (.slice Ab nb cb) ∧ e 8 = (.int .i64 d) ∧ Frm (fun b => E.heap.size ≤ b) E w_ ∧ (1 ≤ d ∧ d ≤ 5) ∧ (OwnM w_ E.heap.size 46 gN Al nl cl fl) ∧ (NatR w_ (fun b => b + 1 ≠ gN) Aa na ca da) ∧ (NatR w_ (fun b => b + 1 ≠ gN) Ab nb cb db) ∧ (nl + na ≤ nf) ∧ (nb ≤ 8) ∧ (∀ x ∈ fl, x.n ≤ 8) ∧ (BdI xp d (zl df) (dsN fl) da db)) (8 - (1)) ?_ ?_
 ·refine ⟨(1), (0), (none), (0), (0), ([]), (Af), (nf), (cf), (df), (b8), (b9), (c0), (c1), rfl, rfl, rfl, rfl, rfl, rfl, cI, (Frm.refl _ _), ?_, ?_, ?_, ?_, ?_, ?_, ?_, ?_⟩
  ·omega
  ·exact OwnM.nil
  ·exact NatR.sub i5 q5
  ·exact NatR.sub O q5
  ·omega
  ·omega
  ·intro x hx; cases hx
  ·exact BdI.start hM Qo hsq c2 (rem_eqF D f1)
 ·rintro r3 r4 r5 ⟨d, gN, Al, nl, cl, fl, Aa, na, ca, da, Ab, nb, cb, db, o6, f4, f5, f6, f7, f8, f9, g, hd, hO, ha, hb, hs, hnb, hln, hI⟩
  obtain ⟨r6, rfl⟩ := sq6 f4 f5 f6 f7 f8 f9;have o7 := g.size;have ⟨la, ka, ma⟩ := ha.lkm; have ⟨lb, kb, mb⟩ := hb.lkm;have ⟨kl, jl, ml⟩ := hO.lkm; have hltO := hO.lt; have o8 := hI.len; have o9 := hI.mn.pos; have hca := hI.mn.can; have hcb := hI.can;refine wp_seq_k fun r7 g0 => rS fun r8 a1 => sMi rfl (sV (evMul (2 * ((d : Int))) rfl rfl wI) (sMs rfl (sV (evLen underlying46 rfl) (sV (evSub (((na : Int)) - 1) rfl rfl wI) ?_))))
  by_cases a2 : (2 * ((d : Int))) ≤ (((na : Int)) - 1)
  ·refine sV (evLeq true rfl rfl (dT a2)) (sK a1 (cT rfl (wp_skip (xN (g0 _ _ (wp_seq_k fun r9 a3 => wp_block (rS fun s0 g1 => sMs rfl (sMi rfl (sV (evConv ((xp : Int)) underlying26 underlying100 rfl (wU64 Qo)) (sMs rfl (sMi rfl (sO (oCall rfl call114 (modpoly_powMod hb (xn := xp) Qo ha (xp := xp) Qo Qo Qo hp hcb hca Qo) rfl ?_)))))))))))))
   rintro _ i6 ⟨c4, c5, c6, c7, rfl, H, h, I, P, k4⟩;have p0 := H.size;have ⟨k5, k6, k7⟩ := h.lkm;refine sAs rfl (sK g1 (rS fun s1 g2 => sMs rfl (sMs rfl (sMi rfl ?_))));have g3 := (k.rx g).xr H;have g5 := (N.frm g3 q1);have i7 : NatR i6 (fun b => b = Z) (some ⟨Z, 0, none⟩) 2 2 ([0, 1]) := NatR.of_blk g5 rfl (by decide) (by exact lq) Qo (by unfold CapMax; omega);refine sO (oCall rfl call115 (modpoly_Sub h i7 (xm := xp) Qo Qo Qo Qo) rfl ?_);rintro _ s2 ⟨k8, k9, l0, l1, rfl, p, Q, J, l2, f⟩;have p1 := p.size;have ⟨l3, l4, l5⟩ := Q.lkm;refine sMs rfl (sMi rfl ?_);have K := H.trans p;have a4 := (ha.ext K);refine sO (oCall rfl call103 (modpoly_gcd Q a4 (xp := xp) Qo Qo Qo hp f hca) rfl ?_);rintro _ s3 ⟨l6, c8, l7, c9, rfl, a, q, c, d0, l8⟩;have p2 := a.size;have ⟨l9, m0, m1⟩ := q.lkm;refine sAs rfl (sK g2 (rS fun s4 a5 => sMs rfl (sV (evLen underlying46 rfl) ?_)))
   by_cases a6 : ((c8 : Int)) > 1
   ·refine sV (evGtr true rfl rfl (dT a6)) (sK a5 (cT rfl (wp_seq_k fun s5 g6 => ?_)))
    have hEd : EdP xp d c9 := (by rw [c]; exact hI.ed hp (by omega) f I (by rw [J]; exact cgN_sub D _ _) (by rw [← c]; omega)); have hEl := hEd.len; have hEp := hEd.mon.pos;refine wp_region_lit (sMs rfl (sMs rfl (sMi rfl (sMi rfl (sO (oCall rfl call116 (modpoly_equalDegree q (xd := d) Qo (xp := xp) Qo Qo hp Qo hEd) rfl ?_))))));rintro _ s6 ⟨m2, m3, d1, m4, d2, rfl, l, F, a7, g7, n0_68, m5, d3⟩;have p3 := l.size;have ⟨m6, m7, m8⟩ := F.lkm; have i8 := F.lt;have a8 := (K.trans a).trans l;have L := (hO.ext a8);have m9 := L.lt;refine sO (oAppM (B := E.heap.size) underlying42 inf46 rfl rfl rfl L (OwnM.low L) a7 (fun b hb_ hs => by (try dsimp only at hs); omega) (by omega) (by omega) (by omega) (by omega) (fun i9 j0 j1 s7 M p4 o n0 => ?_));have p5 := o.size; have ⟨_, _, _⟩ := M.lkm; have n1 := M.lt;refine sAs rfl (sK g6 (rS fun s8 g8 => sMs rfl (sMs rfl (sMi rfl ?_))));have g9 := (a.trans l).rx o;have j2 := (a4.frmB g9 q3);have h0 := l.rx o;have j3 := (q.frmB h0 q3);refine sO (oCall rfl call117 (modpoly_divide j2 j3 (xp := xp) Qo Qo Qo hp hca d0 Qo) rfl ?_);rintro _ s9 ⟨r, s, t, d4, R, S, T, n2, rfl, u, y, d5, a9, d6, n3, n4, d7, d8, n5⟩;have p6 := u.size;have ⟨d7, n6, n7⟩ := y.lkm;have ⟨d8, n8, n9⟩ := d5.lkm;have ⟨hsz, t0, _⟩ := hI.size hpr f c Qo a9;refine sV (v := (.tuple #[(.slice r s t), (.slice R S T)])) (rfl) (sV (v := (.slice r s t)) (rfl) (sV (v := (.slice R S T)) (rfl) (sAs rfl (sK g8 (wp_region_lit (sMs rfl (sMs rfl (sMi rfl ?_))))))));have h1 := (((p.trans a).trans l).rx o).xr u;have j4 := (h.frmB h1 q3);refine sO (oCall rfl call113 (modpoly_remainder j4 y (xp := xp) Qo Qo Qo hp P d6 Qo) rfl ?_);rintro _ p7 ⟨b0, b1, b2, b3, rfl, i, G, d9, b4, j5, b5⟩;have o0 := i.size;have ⟨b5, j6, j7⟩ := G.lkm;refine sAs rfl (sDone (bN (xN (a3 _ _ (wp_region_lit (sMi rfl (sV (evAdd (((d : Int)) + 1) rfl rfl wI) (sAi rfl (sDone ?_)))))))));have e0 := ((a8.rx o).xr u).xr i;have e1 := u.trans i;have e2 := (M.ext e1);have h2 := (y.ext i);refine again (8 - (d + 1)) Qo ⟨(d + 1), (j1), (i9), (nl + d1), (j0), (fl ++ d2), (r), (s), (t), (d4), (b0), (b1), (b2), (b3), rfl, rfl, rfl, rfl, rfl, rfl, cI, (Frm.mono (g.tr e0) q4), ?_, ?_, ?_, ?_, ?_, ?_, ?_, ?_⟩
    ·omega
    ·exact e2
    ·exact NatR.sub h2 q5
    ·exact NatR.sub G q5
    ·omega
    ·omega
    ·intro x hx; rcases List.mem_append.1 hx with h9 | h9; exact hln x h9; exact d3 x h9
    ·rw [dsN_app]; exact hI.yes hp (by omega) f I (by rw [J]; exact cgN_sub D _ _) (by rw [← c]; omega) (by rw [← c]; exact g7) (by rw [← c]; exact a9) b4 (rem_eqF D d9)
   ·refine sV (evGtr false rfl rfl (dF a6)) (sK a5 (cF rfl (wp_skip (bN (xN (a3 _ _ (wp_region_lit (sMi rfl (sV (evAdd (((d : Int)) + 1) rfl rfl wI) (sAi rfl (sDone ?_)))))))))))
    have U := K.trans a;have e3 := (hO.ext U);have h3 := (a4.ext a);have e4 := p.trans a;have h4 := (h.ext e4);refine again (8 - (d + 1)) Qo ⟨(d + 1), (gN), (Al), (nl), (cl), (fl), (Aa), (na), (ca), (da), (c4), (c5), (c6), (c7), rfl, rfl, rfl, rfl, rfl, rfl, cI, (g.xr U), ?_, ?_, ?_, ?_, ?_, ?_, ?_, ?_⟩
    ·omega
    ·exact e3
    ·exact NatR.sub h3 q5
    ·exact NatR.sub h4 q5
    ·omega
    ·omega
    ·exact hln
    ·exact hI.no hp (by omega) P f I (by rw [J]; exact cgN_sub D _ _) (by rw [← c]; omega)
  ·refine sV (evLeq false rfl rfl (dF a2)) (sK a1 (cF rfl (wp_exit (xE (xE (bE (xN (f2 _ _ (wp_seq_k fun p8 V => rS fun p9 W => sMs rfl (sV (evLen underlying46 rfl) ?_))))))))))
   by_cases X : ((na : Int)) > 1
   ·refine sV (evGtr true rfl rfl (dT X)) (sK W (cT rfl (wp_region_lit (sMs rfl (sMs rfl (sO (oBuildSlice [(.slice Aa na ca)] [[(.slice Aa na ca)]] underlying42 inf46 rfl rfl rfl rfl rfl (fun h5 h6 o1 z o2 A => ?_))))))))
    replace A : Blk h6 h5 46 [(.slice Aa na ca)] := A;have C := (hO.ext z);have j8 := C.lt;have h7 := (ha.ext z);refine sO (oAppM (B := E.heap.size) underlying42 inf46 rfl rfl rfl C (OwnM.low C) (GListR.oneM (x := ⟨Aa, na, ca, da⟩) A h7) (fun b hb_ hs => by (try dsimp only at hs); omega) (by omega) (by omega) (by omega) (by omega) (fun b6 b7 h8 q0 j o3 Y j9 => ?_));have o4 := Y.size; have ⟨_, _, _⟩ := j.lkm; have k0 := j.lt;refine sAs rfl (sK V (rS fun q2 e5 => sMs rfl (sAs rfl (sK e5 (wp_ret (ret1 (.slice b6 (nl + 1) b7) results79 (resT rfl) ?_))))));have e6 := (((a0.trans k).rx g).xr z).tr Y;exact ⟨h8, b6, (nl + 1), b7, (fl ++ [(⟨Aa, na, ca, da⟩ : NE)]), rfl, (Frm.mono e6 q4), (OwnM.wide j (by omega)), (GListR.sub (OwnM.low j) fun _ _ _ => trivial), (by rw [dsN_app]; exact hI.done2 (by omega)), (by omega), (fun x hx => by rcases List.mem_append.1 hx with h9 | h9; exact hln x h9; rw [List.mem_singleton.1 h9]; exact (by omega : na ≤ 8))⟩
   ·refine sV (evGtr false rfl rfl (dF X)) (sK W (cF rfl (wp_skip (xN (V _ _ (rS fun q6 e7 => sMs rfl (sAs rfl (sK e7 (wp_ret (ret1 (.slice Al nl cl) results79 (resT rfl) ?_))))))))))
    have e8 := (a0.trans k).rx g;exact ⟨gN, Al, nl, cl, fl, rfl, (Frm.mono e8 q4), (OwnM.wide hO Qo), (GListR.sub (OwnM.low hO) fun _ _ _ => trivial), (hI.done1 Qo), Qo, hln⟩
end Go.Proofs.YtneolcopompkaaaGreatDoor
