/-
  Walks of package modpoly: derivatives, powers, trials, separators.
-/
import Derived.Test.YtneolcopompkaaaGreatDoorMod3
import Derived.Test.YtneolcopompkaaaGreatDoorLibC
import Derived.Test.YtneolcopompkaaaGreatDoorLibB
namespace Go.Proofs.YtneolcopompkaaaGreatDoor
open Go.RowKit Go.Gx Tryz
theorem modpoly_Derivative {w : World} {Sf : Nat → Prop} {Af : Option Addr} {nf cf : Nat} {df : List Nat} {xm : Nat} (hf : NatR w Sf Af nf cf df) (bm : xm < 4294967296) (hnf : nf ≤ 1048576) (hm : 0 < xm) : Calls Tryz.prog 112 #[(.slice Af nf cf), (.int .u32 xm)] w (Ret fun v w' => ∃ (Ar : Option Addr) (nr : Nat) (cr : Nat) (dr : List Nat), v = (.slice Ar nr cr) ∧ Ext w w' ∧ NatR w' (fun b => w.heap.size ≤ b) Ar nr cr dr ∧ (dr = redP xm (derivP (zl df))) ∧ (nr ≤ nf) ∧ (CanP xm dr)) := by
 have ⟨lf, kf, mf⟩ := hf.lkm;replace hf := hf.low;refine enter func112 rfl ntmps112 rfl (rS fun K1 Y => sAs rfl (sK Y (wp_seq_k fun K2 Z => rS fun K3 D => sMs rfl (sV (evLen underlying46 rfl) ?_))))
 by_cases E : ((nf : Int)) = 0
 ·refine sV (evEql true rfl rfl (dT E)) (sK D (cT rfl (rS fun K5 a0 => sAs rfl (sK a0 (wp_ret (xR (ret1 (.slice none 0 0) results112 (resT rfl) ?_)))))))
  exact ⟨none, 0, 0, ([]), rfl, (Frm.refl _ _), NatR.nil, (der_nil lf Qo), Qo, CanP.nil⟩
 ·refine sV (evEql false rfl rfl (dF E)) (sK D (cF rfl (wp_skip (xN (Z _ _ (rS fun K6 a1 => sMi rfl (sV (evMax ((xm : Int)) rfl rfl (by split <;> omega)) (sV (evConv ((xm : Int)) underlying26 underlying100 rfl (wU64 Qo)) (sAi rfl (sK a1 (rS fun K7 a2 => sMs rfl (sV (evLen underlying46 rfl) (sV (evSub (((nf : Int)) - 1) rfl rfl wI) (sO (oMake1 (nf - 1) underlying46 inf26 rfl cI cI Qo Qo (fun f w9 b3 p b4 F => ?_))))))))))))))))
  have G : Blk w9 f 26 (((List.replicate (nf - 1) 0)).map u32) := by rw [List.map_replicate]; exact F
  refine sAs rfl (sK a2 (wp_seq_k fun c3 H => rS fun c4 I => sMs rfl (sV (evLen underlying46 rfl) (sMi rfl (sK I (wp_block ?_))))));refine lLoop (fun m e w_ => ∃ (k : Nat) (L : List Nat), m = (nf - 1) - k ∧ e 0 = (.slice Af nf cf) ∧ e 1 = (.int .u32 xm) ∧ e 5 = (.int .u64 xm) ∧ e 6 = (.slice (some ⟨f, 0, none⟩) (nf - 1) (nf - 1)) ∧ e 19 = (.int .i64 (((nf - 1 : Nat) : Int))) ∧ e 20 = (.int .i64 k) ∧ Frm (fun b => b = f) w9 w_ ∧ Blk w_ f 26 ((L ++ List.replicate ((nf - 1) - k) 0).map u32) ∧ (k ≤ (nf - 1)) ∧ (L.length = k) ∧ (L = (List.range k).map fun i => md xm (co (derivP (zl df)) i)) ∧ (∀ d ∈ L, d < xm)) ((nf - 1) - (0)) ?_ ?_
  ·refine ⟨(0), ([]), rfl, rfl, rfl, rfl, rfl, rfl, cI, (Frm.refl _ _), ?_, ?_, ?_, ?_, ?_⟩
   ·simpa using G
   ·omega
   ·rfl
   ·rfl
   ·simp
  ·rintro c5 c6 a4 ⟨k, L, b5, J, K, M, N, O, P, c, q, hk, hLl, hL, hLt⟩
   obtain ⟨c7, rfl⟩ := sq6 J K M N O P;have b6 := c.size;refine rS fun c8 r => ?_
   by_cases s : ((k : Int)) < (((nf - 1 : Nat) : Int))
   ·refine sV (evLss true rfl rfl (dT s)) (sK r (wp_seq_k fun c9 Q => cT rfl (wp_skip (xN (Q _ _ (wp_seq_k fun d0 R => wp_block (rS fun d1 S => sMi rfl (sAi rfl (sK S (dBegin (fun b => b = f) mixed (fun d2 t b7 => dMs 0 rfl rfl (dMi 1 rfl rfl (dMs 2 rfl rfl (dMi 3 rfl rfl (dV 4 rfl (fun _ _ => evAdd (((k : Int)) + 1) rfl rfl wI) ?_)))))))))))))))
    have T := (p.rx c).xr t;have u := (hf.frmB T q3);obtain ⟨d3, a5, rfl⟩ := u.base Qo;refine dV 5 rfl (fun _ _ => evIx (k + 1) underlying46 sz26 rfl rfl (a5 + (k + 1))) ?_;have b8 := u.lt (k + 1);refine dV 6 rfl (fun _ hf => evLoad one26 rfl ((u.frm hf q2).cell Qo)) (dMi 7 rfl rfl (dV 8 rfl (fun _ _ => evAdd (((k : Int)) + 1) rfl rfl wI) (dV 9 rfl (fun _ _ => evConv (((k : Int)) + 1) underlying3 underlying100 rfl (wU64 Qo)) (dMi 10 rfl rfl (dV 11 rfl (fun _ _ => evRem ((((k + 1) % xm : Nat) : Int)) rfl rfl Qo (remE Qo Qo)) ?_)))));have d4 := Nat.mod_lt (k + 1) hm;refine dV 12 rfl (fun _ _ => evConv ((((k + 1) % xm : Nat) : Int)) underlying100 underlying26 rfl (wU32 ⟨rfl, by omega, by omega⟩)) (dMi 13 rfl rfl (dOp 14 rfl rfl (by kernel_rfl) (oCall rfl call84 (modular_Mul (xa := df.getD (k + 1) 0) Qo (xb := (k + 1) % xm) Qo (xm := xm) Qo Qo) rfl ?_)));rintro _ d5 ⟨a, rfl, g, a8, x⟩;refine ⟨(Frm.of_ext g), ?_⟩;have b9 := g.size;refine dV 15 rfl (fun _ _ => evIx k underlying46 sz26 rfl rfl k) ?_;have y := t.trans g;have U := (q.ext y);refine dOp 16 rfl rfl (by kernel_rfl) (oStore1 rfl rfl rfl sz26 U (by exact lq) (fun a6 z c0 h => ?_));replace h : Blk a6 f 26 (((L ++ [a]) ++ List.replicate ((nf - 1) - (k + 1)) 0).map u32) := by rw [← (fill_set2 hLl (by omega) : (L ++ List.replicate ((nf - 1) - k) 0).set k a = (L ++ [a]) ++ List.replicate ((nf - 1) - (k + 1)) 0), List.map_set]; exact h
    refine ⟨z, dDone (by kernel_rfl) (bN (xN (R _ _ (wp_region_lit (sV (evAdd (((k : Int)) + 1) rfl rfl wI) (sMi rfl (sDone ?_)))))))⟩;have V := y.rx z;refine again ((nf - 1) - (k + 1)) Qo ⟨(k + 1), (L ++ [a]), rfl, rfl, rfl, rfl, rfl, rfl, cI, (c.trans V), ?_, ?_, ?_, ?_, ?_⟩
    ·exact h
    ·omega
    ·simp [hLl]
    ·exact range_snocN hL (der_cell hm x)
    ·exact lt_snocP hLt (by rw [x]; exact Nat.mod_lt _ (by omega))
   ·refine sV (evLss false rfl rfl (dF s)) (sK r (wp_seq_k fun d6 c1 => cF rfl (wp_exit (xE (xE (bE (xN (H _ _ (rS fun d7 W => sMs rfl ?_)))))))))
    have a7 : NatR a4 (fun b => b = f) (some ⟨f, 0, none⟩) (nf - 1) (nf - 1) (L ++ List.replicate ((nf - 1) - k) 0) := NatR.of_blk q rfl (lt_fill (lt_BS bm hLt)) (by exact lq) Qo (by unfold CapMax; omega);refine sO (oCall rfl call53 (modpoly_trim a7) rfl ?_);rintro _ d8 ⟨j, l, n, C, rfl, A, o, B, a9⟩;have c2 := A.size;have ⟨b0, b1, b2⟩ := o.lkm;refine sAs rfl (sK W (wp_ret (ret1 (.slice j l n) results112 (resT rfl) ?_)));have X := (p.rx c).xr A;exact ⟨j, l, n, C, rfl, (Frm.mono X q4), (NatR.sub o q5), (by rw [B, show (nf - 1) - k = 0 by omega, List.replicate_zero, List.append_nil, hL, show k = nf - 1 by omega, range_co (by rw [derivP_len, zl_len, lf])]; rfl), (by omega), (by rw [B]; exact canP_trim (lt_fillP hLt (by omega)))⟩
theorem modpoly_squarefree {w : World} {Sf : Nat → Prop} {Af : Option Addr} {nf cf : Nat} {df : List Nat} {xp : Nat} (hf : NatR w Sf Af nf cf df) (bp : xp < 4294967296) (hnf : nf ≤ 1048576) (hp : xp = 2 ∨ xp = 3 ∨ xp = 5 ∨ xp = 7 ∨ xp = 11 ∨ xp = 13) (hcf : CanP xp df) : Calls Tryz.prog 78 #[(.slice Af nf cf), (.int .u32 xp)] w (Ret fun v w' => ∃ (gr : Bool), v = (.bool gr) ∧ Ext w w' ∧ (gr = decide ((gcdP xp df (redP xp (derivP (zl df)))).length = 1))) := by
 have ⟨lf, kf, mf⟩ := hf.lkm;replace hf := hf.low;refine enter func78 rfl ntmps78 rfl (rS fun H h => sAb rfl (sK h (rS fun I i => sMs rfl (sMs rfl (sMi rfl (sO (oCall rfl call112 (modpoly_Derivative hf (xm := xp) Qo Qo Qo) rfl ?_)))))));rintro _ J ⟨l, m, n, o, rfl, a, b, j, p, d⟩;have F := a.size;have ⟨q, r, s⟩ := b.lkm;refine sMi rfl ?_;have t := (hf.ext a);refine sO (oCall rfl call103 (modpoly_gcd t b (xp := xp) Qo Qo Qo hp hcf d) rfl ?_);rintro _ G ⟨u, x, y, z, rfl, c, e, k, A, B⟩;have C := c.size;have ⟨f, D, E⟩ := e.lkm;refine sV (evLen underlying46 rfl) (sV (evEql (decide ((gcdP xp df (redP xp (derivP (zl df)))).length = 1)) rfl rfl (decide_eq_decide.2 (by rw [← j, ← k, f]; omega))) (sAb rfl (sK i (wp_ret (ret1 (.bool (decide ((gcdP xp df (redP xp (derivP (zl df)))).length = 1))) results78 (resT rfl) ?_)))));have g := a.trans c;exact ⟨(decide ((gcdP xp df (redP xp (derivP (zl df)))).length = 1)), rfl, g, rfl⟩
set_option maxHeartbeats 2000000 in
theorem modpoly_powMod {w : World} {Sf : Nat → Prop} {Af : Option Addr} {nf cf : Nat} {df : List Nat} {xn : Nat} {Sg : Nat → Prop} {Ag : Option Addr} {ng cg : Nat} {dg : List Nat} {xp : Nat} (hf : NatR w Sf Af nf cf df) (bn : xn < 18446744073709551616) (hg : NatR w Sg Ag ng cg dg) (bp : xp < 4294967296) (hnf : nf ≤ 1048576) (hng : ng ≤ 1024) (hp : xp = 2 ∨ xp = 3 ∨ xp = 5 ∨ xp = 7 ∨ xp = 11 ∨ xp = 13) (hcf : CanP xp df) (hcg : CanP xp dg) (hng0 : 0 < ng) : Calls Tryz.prog 114 #[(.slice Af nf cf), (.int .u64 xn), (.slice Ag ng cg), (.int .u32 xp)] w (Ret fun v w' => ∃ (Ar : Option Addr) (nr : Nat) (cr : Nat) (dr : List Nat), v = (.slice Ar nr cr) ∧ Ext w w' ∧ NatR w' (fun b => w.heap.size ≤ b) Ar nr cr dr ∧ (EqF xp (zl dg) (zl dr) (powL (zl df) xn)) ∧ (CanP xp dr) ∧ (nr < ng)) := by
 have ⟨lf, kf, mf⟩ := hf.lkm;replace hf := hf.low;have ⟨lg, kg, mg⟩ := hg.lkm;replace hg := hg.low;refine enter func114 rfl ntmps114 rfl ?_;have hpr := prime4N hp; have f : 0 < xp := Qo;refine rS fun K1 f2 => sAs rfl (sK f2 (rS fun K2 f3 => sO (oBuildSlice [(.int .u32 (1))] [[(.int .u32 (1))]] underlying46 inf26 rfl rfl rfl rfl rfl (fun g3 w4 l6 c6 l7 D => ?_))));replace D : Blk w4 g3 26 [(.int .u32 (1))] := D;have f5 : CanP xp [1] := ⟨fun d hd => by rw [List.mem_singleton.1 hd]; omega, fun _ => (by decide : 0 < [1].getD ([1].length - 1) 0)⟩;refine sMs rfl (sMi rfl ?_);have h9 : NatR w4 (fun b => b = g3) (some ⟨g3, 0, none⟩) 1 1 ([1]) := NatR.of_blk D rfl (by decide) (by exact lq) Qo (by unfold CapMax; omega);have c7 := (hg.ext c6);refine sO (oCall rfl call113 (modpoly_remainder h9 c7 (xp := xp) Qo Qo Qo hp f5 hcg Qo) rfl ?_);rintro _ l8 ⟨W, X, Y, Z, rfl, k, p, d1, a0, g4, a1⟩;have k5 := k.size;have ⟨a1, g5, g6⟩ := p.lkm;refine sAs rfl (sK f3 (rS fun l9 d2 => sMs rfl (sMs rfl (sMi rfl ?_))));have E := c6.trans k;have F := (hf.ext E);have G := (c7.ext k);refine sO (oCall rfl call113 (modpoly_remainder F G (xp := xp) Qo Qo Qo hp hcf hcg Qo) rfl ?_);rintro _ f6 ⟨a2, a3, a4, a5, rfl, c, q, d3, a6, g7, a7⟩;have k6 := c.size;have ⟨a7, g8, g9⟩ := q.lkm;refine sAs rfl (sK d2 (wp_seq_k fun m0 d4 => wp_block ?_));have f7 := (p.ext c);refine lLoop (fun m e w_ => ∃ (n : Nat) (Aa : Option Addr) (na : Nat) (ca : Nat) (da : List Nat) (Ab : Option Addr) (nb : Nat) (cb : Nat) (db : List Nat), m = n ∧ e 1 = (.int .u64 n) ∧ e 2 = (.slice Ag ng cg) ∧ e 3 = (.int .u32 xp) ∧ e 9 = (.slice Aa na ca) ∧ e 10 = (.slice Ab nb cb) ∧ Frm (fun b => False) f6 w_ ∧ (n < 18446744073709551616) ∧ (NatR w_ (fun b => w.heap.size ≤ b) Aa na ca da) ∧ (NatR w_ (fun b => w.heap.size ≤ b) Ab nb cb db) ∧ (CanP xp da) ∧ (CanP xp db) ∧ (na < ng ∧ nb < ng) ∧ (PwI xp dg df xn da db n)) ((xn)) ?_ ?_
 ·refine ⟨(xn), (W), (X), (Y), (Z), (a2), (a3), (a4), (a5), rfl, cI, rfl, rfl, rfl, rfl, (Frm.refl _ _), ?_, ?_, ?_, ?_, ?_, ?_, ?_⟩
  ·omega
  ·exact NatR.sub f7 q5
  ·exact NatR.sub q q5
  ·exact a0
  ·exact a6
  ·omega
  ·exact PwI.start (rem_eqF f d1) (rem_eqF f d3)
 ·rintro m1 m2 m3 ⟨n, Aa, na, ca, da, Ab, nb, cb, db, k7, d5, d6, d7, d8, d9, a, hn, ha, hb, hca, hcb, hnn, hI⟩
  obtain ⟨m4, rfl⟩ := sq5 d5 d6 d7 d8 d9;have k8 := a.size;have ⟨la, ka, ma⟩ := ha.lkm; have ⟨lb, kb, mb⟩ := hb.lkm;refine wp_seq_k fun m5 e0 => rS fun m6 H => sMi rfl ?_
  by_cases I : ((n : Int)) > 0
  ·refine sV (evGtr true rfl rfl (dT I)) (sK H (cT rfl (wp_skip (xN (e0 _ _ (wp_block (wp_seq_k fun m7 J => rS fun m8 K => sMi rfl (sV (v := (.int .u64 (((n % 2 : Nat) : Int)))) (evAndOneU rfl rfl Qo) ?_))))))))
   by_cases L : (((n % 2 : Nat) : Int)) ≠ 0
   ·refine sV (evNeq true rfl rfl (dT L)) ?_
    have F :  n % 2 ≠ 0 := by omega
    refine sK K (cT rfl (wp_region_lit (sMs rfl (sMs rfl (sMi rfl (sO (oCall rfl call57 (modpoly_Mul ha hb (xm := xp) Qo Qo Qo Qo) rfl ?_)))))));rintro _ m9 ⟨h0, h1, h2, h3, rfl, g, r, M, h4, a8⟩;have k9 := g.size;have ⟨h5, h6, h7⟩ := r.lkm;refine sMs rfl (sMi rfl ?_);have e1 := (c.trans a).trans g;have c8 := (G.ext e1);refine sO (oCall rfl call113 (modpoly_remainder r c8 (xp := xp) Qo Qo Qo hp a8 hcg Qo) rfl ?_);rintro _ n0 ⟨s, t, u, x, rfl, h, i, N, y, h8, a9⟩;have l0 := h.size;have ⟨a9, i0, i1⟩ := i.lkm;refine sAs rfl (sK J (rS fun n1 e2 => sMi rfl (sV (evShr (((n / 2 : Nat) : Int)) rfl rfl (by omega) (by rw [shr_div 1 rfl 2 rfl (by omega)]; omega)) (sAi rfl (sK e2 (rS fun n2 O => sMi rfl ?_))))))
    by_cases P : (((n / 2 : Nat) : Int)) > 0
    ·refine sV (evGtr true rfl rfl (dT P)) (sK O (cT rfl (wp_region_lit (sMs rfl (sMs rfl (sMi rfl ?_))))))
     have Q := g.trans h;have c9 := (hb.ext Q);refine sO (oCall rfl call57 (modpoly_Mul c9 c9 (xm := xp) Qo Qo Qo Qo) rfl ?_);rintro _ n3 ⟨i2, i3, i4, i5, rfl, j, z, e3, i6, b0⟩;have l1 := j.size;have ⟨i7, i8, i9⟩ := z.lkm;refine sMs rfl (sMi rfl ?_);have e4 := h.trans j;have f8 := (c8.ext e4);refine sO (oCall rfl call113 (modpoly_remainder z f8 (xp := xp) Qo Qo Qo hp b0 hcg Qo) rfl ?_);rintro _ n4 ⟨b1, b2, b3, b4, rfl, l, A, e5, b5, j0, b6⟩;have l2 := l.size;have ⟨b6, j1, j2⟩ := A.lkm;refine sAs rfl (sDone (bN ?_));have e6 := (Q.trans j).trans l;have e7 := j.trans l;have f9 := (i.ext e7);refine again ((n / 2)) Qo ⟨(n / 2), (s), (t), (u), (x), (b1), (b2), (b3), (b4), rfl, cI, rfl, rfl, rfl, rfl, (a.trans e6), ?_, ?_, ?_, ?_, ?_, ?_, ?_⟩
     ·omega
     ·exact NatR.sub f9 q5
     ·exact NatR.sub A q5
     ·exact y
     ·exact b5
     ·omega
     ·exact hI.odd1 Qo (mulrem f M N) (mulrem f e3 e5)
    ·refine sV (evGtr false rfl rfl (dF P)) (sK O (cF rfl (wp_skip (bN ?_))))
     have R := g.trans h;have g0 := (hb.ext R);refine again ((n / 2)) Qo ⟨(n / 2), (s), (t), (u), (x), (Ab), (nb), (cb), (db), rfl, cI, rfl, rfl, rfl, rfl, (a.trans R), ?_, ?_, ?_, ?_, ?_, ?_, ?_⟩
     ·omega
     ·exact NatR.sub i q5
     ·exact NatR.sub g0 q5
     ·exact y
     ·exact hcb
     ·omega
     ·exact hI.odd0 Qo Qo (mulrem f M N)
   ·refine sV (evNeq false rfl rfl (dF L)) ?_
    have F : ¬ n % 2 ≠ 0 := by omega
    refine sK K (cF rfl (wp_skip (xN (J _ _ (rS fun n5 e8 => sMi rfl (sV (evShr (((n / 2 : Nat) : Int)) rfl rfl (by omega) (by rw [shr_div 1 rfl 2 rfl (by omega)]; omega)) (sAi rfl (sK e8 (rS fun n6 S => sMi rfl ?_)))))))))
    by_cases T : (((n / 2 : Nat) : Int)) > 0
    ·refine sV (evGtr true rfl rfl (dT T)) (sK S (cT rfl (wp_region_lit (sMs rfl (sMs rfl (sMi rfl (sO (oCall rfl call57 (modpoly_Mul hb hb (xm := xp) Qo Qo Qo Qo) rfl ?_))))))))
     rintro _ n7 ⟨j3, j4, j5, j6, rfl, o, B, e9, j7, b7⟩;have l3 := o.size;have ⟨j8, j9, k0⟩ := B.lkm;refine sMs rfl (sMi rfl ?_);have f0 := (c.trans a).trans o;have g1 := (G.ext f0);refine sO (oCall rfl call113 (modpoly_remainder B g1 (xp := xp) Qo Qo Qo hp b7 hcg Qo) rfl ?_);rintro _ n8 ⟨b8, b9, c0, c1, rfl, U, C, f1, c2, k1, c3⟩;have l4 := U.size;have ⟨c3, k2, k3⟩ := C.lkm;refine sAs rfl (sDone (bN ?_));have V := o.trans U;have g2 := (ha.ext V);refine again ((n / 2)) Qo ⟨(n / 2), (Aa), (na), (ca), (da), (b8), (b9), (c0), (c1), rfl, cI, rfl, rfl, rfl, rfl, (a.trans V), ?_, ?_, ?_, ?_, ?_, ?_, ?_⟩
     ·omega
     ·exact NatR.sub g2 q5
     ·exact NatR.sub C q5
     ·exact hca
     ·exact c2
     ·omega
     ·exact hI.even1 Qo (mulrem f e9 f1)
    ·refine sV (evGtr false rfl rfl (dF T)) (sK S (cF rfl (wp_skip (bN (again ((n / 2)) Qo ⟨(n / 2), (Aa), (na), (ca), (da), (Ab), (nb), (cb), (db), rfl, cI, rfl, rfl, rfl, rfl, a, ?_, ?_, ?_, ?_, ?_, ?_, ?_⟩)))))
     ·omega
     ·exact NatR.sub ha q5
     ·exact NatR.sub hb q5
     ·exact hca
     ·exact hcb
     ·omega
     ·exfalso; omega
  ·refine sV (evGtr false rfl rfl (dF I)) (sK H (cF rfl (wp_exit (xE (xE (bE (xN (d4 _ _ (rS fun l5 c4 => sMs rfl (sAs rfl (sK c4 (wp_ret (ret1 (.slice Aa na ca) results114 (resT rfl) ?_)))))))))))))
   have c5 := (E.trans c).trans a;exact ⟨Aa, na, ca, da, rfl, c5, (NatR.sub ha q5), (hI.done Qo), hca, Qo⟩
theorem modpoly_trial {w : World} {xn : Nat} {xp : Nat} (bn : xn < 18446744073709551616) (bp : xp < 4294967296) (hx : xp = 2 ∧ xn ≤ 3 ∨ xp ≠ 2 ∧ xn ≤ 1000000000) (hp : xp = 2 ∨ xp = 3 ∨ xp = 5 ∨ xp = 7 ∨ xp = 11 ∨ xp = 13) : Calls Tryz.prog 131 #[(.int .u64 xn), (.int .u32 xp)] w (Ret fun v w' => ∃ (Ar : Option Addr) (nr : Nat) (cr : Nat) (dr : List Nat), v = (.slice Ar nr cr) ∧ Ext w w' ∧ NatR w' (fun b => w.heap.size ≤ b) Ar nr cr dr ∧ (TrialR xp xn dr) ∧ (nr ≤ 32)) := by
 refine enter func131 rfl ntmps131 rfl (rS fun K1 P => sAs rfl (sK P (wp_seq_k fun K2 Q => rS fun K3 l => sMi rfl ?_)))
 by_cases n : ((xp : Int)) = 2
 ·refine sV (evEql true rfl rfl (dT n)) (sK l (cT rfl (rS fun K5 R => sMi rfl (sV (evMul (((2 * xn : Nat) : Int)) rfl rfl (wU64 Qo)) (sV (evAdd ((((2 * xn) + 2 : Nat) : Int)) rfl rfl (wU64 Qo)) (sO (oMake1 ((2 * xn) + 2) underlying46 inf26 rfl cI cI Qo Qo (fun g X a4 S Y t => ?_))))))))
  have u : Blk X g 26 (((List.replicate ((2 * xn) + 2) 0)).map u32) := by rw [List.map_replicate]; exact t
  refine sAs rfl (sK R (rS fun a5 x => sMs rfl (sMi rfl (sV (evMul (((2 * xn : Nat) : Int)) rfl rfl (wU64 Qo)) (sV (evAdd ((((2 * xn) + 1 : Nat) : Int)) rfl rfl (wU64 Qo)) (sV (evIx ((2 * xn) + 1) underlying46 sz26 rfl rfl ((2 * xn) + 1)) (sO (oStore1 rfl rfl rfl sz26 u (by exact lq) (fun o y Z a => ?_)))))))));replace a : Blk o g 26 (((List.replicate ((2 * xn) + 2) 0).set ((2 * xn) + 1) 1).map u32) := by rw [List.map_set]; exact a
  refine sK x (rS fun a6 z => sMs rfl (sAs rfl (sK z (wp_ret (xR (ret1 (.slice (some ⟨g, 0, none⟩) ((2 * xn) + 2) ((2 * xn) + 2)) results131 (resT rfl) ?_))))));have T : NatR o (fun b => b = g) (some ⟨g, 0, none⟩) ((2 * xn) + 2) ((2 * xn) + 2) ((List.replicate ((2 * xn) + 2) 0).set ((2 * xn) + 1) 1) := NatR.of_blk a rfl (lt_set (p := BS) (lt_zeros _) (by decide)) (by exact lq) Qo (by unfold CapMax; omega);have A := S.rx y;exact ⟨(some ⟨g, 0, none⟩), ((2 * xn) + 2), ((2 * xn) + 2), ((List.replicate ((2 * xn) + 2) 0).set ((2 * xn) + 1) 1), rfl, (Frm.mono A q4), (NatR.sub T q5), (trial_2 Qo), Qo⟩
 ·refine sV (evEql false rfl rfl (dF n)) (sK l (cF rfl (wp_skip (xN (Q _ _ (rS fun a7 C => sAs rfl (sK C (wp_seq_k fun a8 D => rS fun a9 E => sMi rfl (sMi rfl (sV (evConv ((xp : Int)) underlying26 underlying100 rfl (wU64 Qo)) (sV (evAdd (((xn + xp : Nat) : Int)) rfl rfl (wU64 Qo)) (sAi rfl (sK E (wp_block ?_))))))))))))))
  refine lLoop (fun m e w_ => ∃ (k : Nat) (L : List Nat) (r : Nat) (Ao : Option Addr) (co : Nat), m = r ∧ e 1 = (.int .u32 xp) ∧ e 6 = (.slice Ao k co) ∧ e 7 = (.int .u64 r) ∧ Frm (fun b => w.heap.size ≤ b) w w_ ∧ (L.length = k) ∧ (r ≤ 1000000016 ∧ k ≤ 32) ∧ (TrI xp xn L k r) ∧ (Own w_ w.heap.size 26 1 Ao k co (L.map u32))) ((xn + xp)) ?_ ?_
  ·refine ⟨(0), ([]), (xn + xp), (none), (0), rfl, rfl, rfl, cI, (Frm.refl _ _), ?_, ?_, ?_, ?_⟩
   ·rfl
   ·omega
   ·exact TrI.start Qo
   ·exact Own.nil
  ·rintro b0 b1 b2 ⟨k, L, r, Ao, co, a0, F, G, H, c, hLl, hr, hI, hO⟩
   obtain ⟨b3, rfl⟩ := sq3 F G H;have a1 := c.size;refine wp_seq_k fun b4 I => rS fun b5 h => sMi rfl ?_
   by_cases i : ((r : Int)) > 0
   ·refine sV (evGtr true rfl rfl (dT i)) (sK h (cT rfl (wp_skip (xN (I _ _ (wp_seq_k fun b6 J => wp_block (wp_region_lit (sMs rfl (sMi rfl (sMi rfl (sV (evConv ((xp : Int)) underlying26 underlying100 rfl (wU64 Qo)) ?_)))))))))))
    have hkb := hI.bound Qo Qo Qo Qo; have b7 := Nat.mod_lt r (show 0 < xp by omega); have b8 : r / xp < r := Nat.div_lt_self Qo Qo;refine sV (evRem (((r % xp : Nat) : Int)) rfl rfl Qo (remE Qo Qo)) (sV (evConv (((r % xp : Nat) : Int)) underlying100 underlying26 rfl (wU32 ⟨rfl, by omega, by omega⟩)) (sO (oBuildSlice [(.int .u32 (((r % xp : Nat) : Int)))] [[(.int .u32 (((r % xp : Nat) : Int)))]] underlying46 inf26 rfl rfl rfl rfl rfl (fun U V a2 j a3 d => ?_))));replace d : Blk V U 26 [(.int .u32 (((r % xp : Nat) : Int)))] := d;have K := (hO.ext j);refine sO (oApp (B := w.heap.size) (cs := (L).map u32) underlying46 inf26 rfl (by decide) rfl rfl K d rfl rfl Qo Qo Qo (fun q s W f M _ _ => ?_));replace f : Own W w.heap.size 26 1 q (k + 1) s ((L ++ [r % xp]).map u32) := by rw [List.map_append]; exact f
    refine sAs rfl (sDone (bN (xN (J _ _ (wp_region_lit (sMi rfl (sMi rfl (sV (evConv ((xp : Int)) underlying26 underlying100 rfl (wU64 Qo)) (sV (evQuo (((r / xp : Nat) : Int)) rfl rfl Qo (quoEu64 Qo Qo Qo)) (sAi rfl (sDone ?_)))))))))));have N := j.rx M;refine again ((r / xp)) Qo ⟨(k + 1), (L ++ [r % xp]), (r / xp), (q), (s), rfl, rfl, rfl, cI, (c.trans N), ?_, ?_, ?_, ?_⟩
    ·simp [hLl]
    ·omega
    ·exact hI.step Qo hLl Qo rfl
    ·exact f
   ·refine sV (evGtr false rfl rfl (dF i)) (sK h (cF rfl (wp_exit (xE (xE (bE (xN (D _ _ (rS fun b9 O => sMs rfl (sAs rfl (sK O (wp_ret (ret1 (.slice Ao k co) results131 (resT rfl) ?_)))))))))))))
    exact ⟨Ao, k, co, L, rfl, (Frm.mono c q4), (NatR.sub (Own.natR hO (lt_BS bp hI.lt)) q5), (hI.done Qo Qo), Qo⟩
set_option maxHeartbeats 2000000 in
theorem modpoly_separator {w : World} {St : Nat → Prop} {At : Option Addr} {nt ct : Nat} {dt : List Nat} {Sf : Nat → Prop} {Af : Option Addr} {nf cf : Nat} {df : List Nat} {xd : Nat} {xp : Nat} (ht : NatR w St At nt ct dt) (hf : NatR w Sf Af nf cf df) (bd : xd ≤ 9223372036854775807) (bp : xp < 4294967296) (hnt : nt ≤ 1048576) (hnf : nf ≤ 1024) (hxd : 1 ≤ xd ∧ xd ≤ 3) (hp : xp = 2 ∨ xp = 3 ∨ xp = 5 ∨ xp = 7 ∨ xp = 11 ∨ xp = 13) (hct : CanP xp dt) (hcf : CanP xp df) (hnf0 : 0 < nf) : Calls Tryz.prog 130 #[(.slice At nt ct), (.slice Af nf cf), (.int .i64 xd), (.int .u32 xp)] w (Ret fun v w' => ∃ (Ar : Option Addr) (nr : Nat) (cr : Nat) (dr : List Nat), v = (.slice Ar nr cr) ∧ Ext w w' ∧ NatR w' (fun b => w.heap.size ≤ b) Ar nr cr dr ∧ (SepR xp df xd dt dr) ∧ (CanP xp dr) ∧ (nr ≤ nf)) := by
 have ⟨lt, kt, mt⟩ := ht.lkm;replace ht := ht.low;have ⟨lf, kf, mf⟩ := hf.lkm;replace hf := hf.low;refine enter func130 rfl ntmps130 rfl ?_;have hpr := prime4N hp; have k : 0 < xp := Qo;refine rS fun K1 e1 => sAs rfl (sK e1 (rS fun K2 e2 => sMs rfl (sMs rfl (sMi rfl (sO (oCall rfl call113 (modpoly_remainder ht hf (xp := xp) Qo Qo Qo hp hct hcf Qo) rfl ?_))))));rintro _ w4 ⟨l, n, o, p, rfl, u, g, e3, q, j0, b9⟩;have k5 := u.size;have ⟨b9, j1, j2⟩ := g.lkm;refine sAs rfl (sK e2 (rS fun K8 e4 => sMs rfl (sMs rfl (sAs rfl (sAs rfl (sK e4 (wp_seq_k fun K9 e5 => rS fun k6 c0 => sMi rfl (sV (evSub (((xd : Int)) - 1) rfl rfl wI) (sMi rfl (sK c0 (wp_block ?_)))))))))));refine lLoop (fun m e w_ => ∃ (i : Nat) (Aa : Option Addr) (na : Nat) (ca : Nat) (da : List Nat) (Ab : Option Addr) (nb : Nat) (cb : Nat) (db : List Nat) (Ae : Option Addr) (ne : Nat) (ce : Nat) (de : List Nat), m = xd - i ∧ e 1 = (.slice Af nf cf) ∧ e 3 = (.int .u32 xp) ∧ e 9 = (.slice Aa na ca) ∧ e 10 = (.slice Ab nb cb) ∧ e 11 = (.slice Ae ne ce) ∧ e 19 = (.int .i64 (((xd : Int)) - 1)) ∧ e 20 = (.int .i64 i) ∧ Frm (fun b => False) w4 w_ ∧ (i ≤ xd - 1) ∧ (NatR w_ (fun b => w.heap.size ≤ b) Aa na ca da) ∧ (NatR w_ (fun b => w.heap.size ≤ b) Ab nb cb db) ∧ (NatR w_ (fun b => w.heap.size ≤ b) Ae ne ce de) ∧ (CanP xp da) ∧ (CanP xp db) ∧ (CanP xp de) ∧ (na < nf ∧ nb < nf ∧ ne < nf) ∧ (SepI xp df dt i da db de)) (xd - (0)) ?_ ?_
 ·refine ⟨(0), (l), (n), (o), (p), (l), (n), (o), (p), (l), (n), (o), (p), rfl, rfl, rfl, rfl, rfl, rfl, rfl, cI, (Frm.refl _ _), ?_, ?_, ?_, ?_, ?_, ?_, ?_, ?_, ?_⟩
  ·omega
  ·exact NatR.sub g q5
  ·exact NatR.sub g q5
  ·exact NatR.sub g q5
  ·exact q
  ·exact q
  ·exact q
  ·omega
  ·exact SepI.start (rem_eqF k e3)
 ·rintro k7 k8 k9 ⟨i, Aa, na, ca, da, Ab, nb, cb, db, Ae, ne, ce, de, j3, c1, c2, c3, c4, c5, c6, c7, a, hi, ha, hb, he, hca, hcb, hce, hnn, hI⟩
  obtain ⟨l0, rfl⟩ := sq7 c1 c2 c3 c4 c5 c6 c7;have j4 := a.size;have ⟨la, ka, ma⟩ := ha.lkm; have ⟨lb, kb, mb⟩ := hb.lkm; have ⟨le, ke, me⟩ := he.lkm;refine rS fun l1 P => ?_
  by_cases Q : ((i : Int)) < (((xd : Int)) - 1)
  ·refine sV (evLss true rfl rfl (dT Q)) (sK P (wp_seq_k fun l2 c8 => cT rfl (wp_skip (xN (c8 _ _ (wp_seq_k fun l3 R => wp_block (rS fun l4 c9 => sMs rfl (sMi rfl (sV (evConv ((xp : Int)) underlying26 underlying100 rfl (wU64 Qo)) (sMs rfl (sMi rfl ?_)))))))))))
   have d0 := u.trans a;have b6 := (hf.ext d0);refine sO (oCall rfl call114 (modpoly_powMod ha (xn := xp) Qo b6 (xp := xp) Qo Qo Qo hp hca hcf Qo) rfl ?_);rintro _ l5 ⟨x, y, z, A, rfl, h, c, S, B, f6⟩;have j5 := h.size;have ⟨f7, f8, f9⟩ := c.lkm;refine sAs rfl (sK c9 (rS fun l6 d1 => sMs rfl (sMs rfl (sMi rfl ?_))));have e6 := (hb.ext h);refine sO (oCall rfl call154 (modpoly_Add e6 c (xm := xp) Qo Qo Qo Qo) rfl ?_);rintro _ l7 ⟨C, D, E, F, rfl, f, j, T, g0, G⟩;have j6 := f.size;have ⟨g1, g2, g3⟩ := j.lkm;refine sAs rfl (sK d1 (rS fun l8 U => sMi rfl ?_))
   by_cases V : ((xp : Int)) ≠ 2
   ·refine sV (evNeq true rfl rfl (dT V)) (sK U (cT rfl (wp_region_lit (sMs rfl (sMs rfl (sMi rfl ?_))))))
    have W := h.trans f;have e7 := (he.ext W);have b7 := (c.ext f);refine sO (oCall rfl call57 (modpoly_Mul e7 b7 (xm := xp) Qo Qo Qo Qo) rfl ?_);rintro _ l9 ⟨g4, g5, g6, g7, rfl, r, H, d2, g8, a7⟩;have j7 := r.size;have ⟨g9, h0, h1⟩ := H.lkm;refine sMs rfl (sMi rfl ?_);have X := W.trans r;have e8 := (b6.ext X);refine sO (oCall rfl call113 (modpoly_remainder H e8 (xp := xp) Qo Qo Qo hp a7 hcf Qo) rfl ?_);rintro _ m0 ⟨a8, a9, b0, b1, rfl, s, I, d3, b2, h2, b3⟩;have j8 := s.size;have ⟨b3, h3, h4⟩ := I.lkm;refine sAs rfl (sDone (bN (xN (R _ _ (wp_region_lit (sV (evAdd (((i : Int)) + 1) rfl rfl wI) (sMi rfl (sDone ?_))))))));have d4 := X.trans s;have Y := r.trans s;have e9 := (b7.ext Y);have f0 := (j.ext Y);refine again (xd - (i + 1)) Qo ⟨(i + 1), (x), (y), (z), (A), (C), (D), (E), (F), (a8), (a9), (b0), (b1), rfl, rfl, rfl, rfl, rfl, rfl, rfl, cI, (a.trans d4), ?_, ?_, ?_, ?_, ?_, ?_, ?_, ?_, ?_⟩
    ·omega
    ·exact NatR.sub e9 q5
    ·exact NatR.sub f0 q5
    ·exact NatR.sub I q5
    ·exact B
    ·exact G
    ·exact b2
    ·omega
    ·exact hI.next k S T (fun _ => mulrem k d2 d3)
   ·refine sV (evNeq false rfl rfl (dF V)) (sK U (cF rfl (wp_skip (bN (xN (R _ _ (wp_region_lit (sV (evAdd (((i : Int)) + 1) rfl rfl wI) (sMi rfl (sDone ?_))))))))))
    have Z := h.trans f;have f1 := (c.ext f);have f2 := (he.ext Z);refine again (xd - (i + 1)) Qo ⟨(i + 1), (x), (y), (z), (A), (C), (D), (E), (F), (Ae), (ne), (ce), (de), rfl, rfl, rfl, rfl, rfl, rfl, rfl, cI, (a.trans Z), ?_, ?_, ?_, ?_, ?_, ?_, ?_, ?_, ?_⟩
    ·omega
    ·exact NatR.sub f1 q5
    ·exact NatR.sub j q5
    ·exact NatR.sub f2 q5
    ·exact B
    ·exact G
    ·exact hce
    ·omega
    ·exact hI.next k S T (fun h9 => absurd Qo h9)
  ·refine sV (evLss false rfl rfl (dF Q)) (sK P (wp_seq_k fun m1 k0 => cF rfl (wp_exit (xE (xE (bE (xN (e5 _ _ (wp_seq_k fun m2 d5 => rS fun m3 a0 => sMi rfl ?_)))))))))
   by_cases a1 : ((xp : Int)) = 2
   ·refine sV (evEql true rfl rfl (dT a1)) (sK a0 (cT rfl (rS fun m4 d6 => sMs rfl (sAs rfl (sK d6 (wp_ret (xR (ret1 (.slice Ab nb cb) results130 (resT rfl) ?_))))))))
    have d7 := u.trans a;exact ⟨Ab, nb, cb, db, rfl, d7, (NatR.sub hb q5), (hI.two Qo Qo hcb), hcb, Qo⟩
   ·refine sV (evEql false rfl rfl (dF a1)) (sK a0 (cF rfl (wp_skip (xN (d5 _ _ (rS fun m5 d8 => sMs rfl (sMi rfl (sV (evSub (((xp - 1 : Nat) : Int)) rfl rfl (wU32 Qo)) (sV (evConv (((xp - 1 : Nat) : Int)) underlying26 underlying100 rfl (wU64 Qo)) (sV (evQuo ((((xp - 1) / 2 : Nat) : Int)) rfl rfl Qo (quoEu64 Qo Qo Qo)) (sMs rfl (sMi rfl ?_))))))))))))
    have a2 := u.trans a;have f3 := (hf.ext a2);refine sO (oCall rfl call114 (modpoly_powMod he (xn := (xp - 1) / 2) Qo f3 (xp := xp) Qo Qo Qo hp hce hcf Qo) rfl ?_);rintro _ m6 ⟨h5, h6, h7, h8, rfl, a3, J, d9, i0, i1⟩;have k1 := a3.size;have ⟨i2, i3, i4⟩ := J.lkm;refine sO (oBuildSlice [(.int .u32 (1))] [[(.int .u32 (1))]] underlying46 inf26 rfl rfl rfl rfl rfl (fun a4 b8 k2 a5 k3 t => ?_));replace t : Blk b8 a4 26 [(.int .u32 (1))] := t;have m7 : CanP xp [1] := ⟨fun d hd => by rw [List.mem_singleton.1 hd]; omega, fun _ => (by decide : 0 < [1].getD ([1].length - 1) 0)⟩;refine sMi rfl ?_;have f4 := (J.ext a5);have f5 : NatR b8 (fun b => b = a4) (some ⟨a4, 0, none⟩) 1 1 ([1]) := NatR.of_blk t rfl (by decide) (by exact lq) Qo (by unfold CapMax; omega);refine sO (oCall rfl call115 (modpoly_Sub f4 f5 (xm := xp) Qo Qo Qo Qo) rfl ?_);rintro _ m8 ⟨K, L, M, b4, rfl, a6, N, e0, i5, O⟩;have k4 := a6.size;have ⟨i6, i7, i8⟩ := N.lkm;refine sAs rfl (sK d8 (wp_ret (ret1 (.slice K L M) results130 (resT rfl) ?_)));have b5 := ((a2.trans a3).trans a5).trans a6;exact ⟨K, L, M, b4, rfl, b5, (NatR.sub N q5), (hI.odd Qo Qo k d9 e0 O), O, Qo⟩
end Go.Proofs.YtneolcopompkaaaGreatDoor
