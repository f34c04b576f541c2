/-
  Walks of package division: quotients of integers, greatest common divisors.
-/
import Derived.Test.YtneolcopompkaaaGreatDoorDiv2
import Derived.Test.YtneolcopompkaaaGreatDoorInt1
namespace Go.Proofs.YtneolcopompkaaaGreatDoor
open Go.RowKit Go.Gx Tryz
theorem division_isZero {w : World} {ga : Bool} {Sa : Nat → Prop} {Aa : Option Addr} {na ca : Nat} {da : List Nat} (ha : NatR w Sa Aa na ca da)  : Calls Tryz.prog 108 #[(.agg #[(.bool ga), (.slice Aa na ca)])] w (Ret fun v w' => ∃ (gr : Bool), v = (.bool gr) ∧ Ext w w' ∧ (gr = decide (zval ga da = 0))) := by
 have ⟨la, ka, ma⟩ := ha.lkm
 replace ha := ha.low
 refine enter func108 rfl ntmps108 rfl (rS fun n e => sO (oBox [(.bool ga), (.slice Aa na ca)] rfl rfl (fun o p k b l f => sAb rfl (sK e (rS fun q g => sV (evLoadAB [(.bool ga), (.slice Aa na ca)] agg25 sz25 rfl f rfl) ?_)))))
 have i := (ha.ext b)
 refine sO (oCall rfl call29 (integer_Sign i) rfl ?_)
 rintro _ m ⟨h, rfl, a, c⟩
 have j := a.size
 refine sV (evEql (decide (zval ga da = 0)) rfl rfl (sgn0 c)) (sAb rfl (sK g (wp_ret (ret1 (.bool (decide (zval ga da = 0))) results108 (resT rfl) ?_))))
 have d := b.trans a
 exact ⟨(decide (zval ga da = 0)), rfl, d, rfl⟩
theorem division_Quo {w : World} {ga : Bool} {Sa : Nat → Prop} {Aa : Option Addr} {na ca : Nat} {da : List Nat} {gb : Bool} {Sb : Nat → Prop} {Ab : Option Addr} {nb cb : Nat} {db : List Nat} (ha : NatR w Sa Aa na ca da) (hb : NatR w Sb Ab nb cb db) (hna : na ≤ 137438953472) (hnb : nb ≤ 137438953472) (hb0 : zval gb db ≠ 0) : Calls Tryz.prog 109 #[(.agg #[(.bool ga), (.slice Aa na ca)]), (.agg #[(.bool gb), (.slice Ab nb cb)])] w (Ret fun v w' => ∃ (gq : Bool) (Aq : Option Addr) (nq : Nat) (cq : Nat) (dq : List Nat) (gr : Bool) (Ar : Option Addr) (nr : Nat) (cr : Nat) (dr : List Nat) (xe : Int), v = (.tuple #[(.agg #[(.bool gq), (.slice Aq nq cq)]), (.agg #[(.bool gr), (.slice Ar nr cr)]), (.int .i64 (xe))]) ∧ Ext w w' ∧ NatR w' (fun b => w.heap.size ≤ b) Aq nq cq dq ∧ NatR w' (fun b => w.heap.size ≤ b) Ar nr cr dr ∧ (zval gq dq = (zval ga da).tdiv (zval gb db)) ∧ (zval gr dr = (zval ga da).tmod (zval gb db)) ∧ (ICan gq dq) ∧ (ICan gr dr) ∧ (xe = 0) ∧ (nq ≤ na + 1) ∧ (nr ≤ nb)) := by
 have ⟨la, ka, ma⟩ := ha.lkm
 replace ha := ha.low
 have ⟨lb, kb, mb⟩ := hb.lkm
 replace hb := hb.low
 refine enter func109 rfl ntmps109 rfl (rS fun K1 c1 => sO (oBox [(.bool ga), (.slice Aa na ca)] rfl rfl (fun g2 w3 g7 c2 g9 c3 => sO (oBox [(.bool gb), (.slice Ab nb cb)] rfl rfl (fun g8 w9 f2 I f3 Z => sO (oAlloc [(.bool false), (.slice none 0 0)] zero25 rfl (fun W h0 f4 s f5 a0 => sO (oAlloc [(.bool false), (.slice none 0 0)] zero25 rfl (fun X h1 f6 r f7 a1 => sAi rfl (sK c1 (wp_seq_k fun h2 a2 => rS fun h3 a3 => ?_)))))))))))
 have a4 := s.trans r
 have J := (Z.ext a4)
 refine sV (evLoadAB [(.bool gb), (.slice Ab nb cb)] agg25 sz25 rfl J rfl) ?_
 have K := ((c2.trans I).trans s).trans r
 have Y := (hb.ext K)
 refine sO (oCall rfl call108 (division_isZero Y) rfl ?_)
 rintro _ h4 ⟨R, rfl, a, a5⟩
 have f8 := a.size
 obtain rfl : R = false := by rw [a5]; exact decide_eq_false hb0
 refine sK a3 (cF rfl (wp_skip (xN (a2 _ _ (wp_seq_k fun h5 a6 => ?_)))))
 have f9 : 0 < val db := by have h := natAbs_val gb db; omega
 refine wp_region_lit (sV (evFA 1 fa25_1 rfl rfl) ?_)
 have a7 := ((I.trans s).trans r).trans a
 have L := (c3.ext a7)
 refine sV (evLoadB one23 rfl L rfl) (sV (evFA 1 fa25_1 rfl rfl) ?_)
 have M := (J.ext a)
 refine sV (evLoadB one23 rfl M rfl) ?_
 have N := K.trans a
 have c4 := (ha.ext N)
 have c5 := (Y.ext a)
 refine sO (oCall rfl call125 (division_divide c4 c5 Qo Qo Qo) rfl ?_)
 rintro _ h6 ⟨x, y, z, d6, A, B, C, d7, rfl, o, D, E, O, F, c6, c7, c8, c9⟩
 have g0 := o.size
 have ⟨d8, d9, e0⟩ := D.lkm
 have ⟨e1, e2, e3⟩ := E.lkm
 refine sV (v := (.tuple #[(.slice x y z), (.slice A B C)])) (rfl) (sV (v := (.slice x y z)) (rfl) (sV (v := (.slice A B C)) (rfl) (sAs rfl (sAs rfl (sK a6 (wp_seq_k fun h7 a8 => dBegin (fun b => b = W ∨ b = X) mixed (fun h8 l g1 => dV 0 rfl (fun _ _ => evFA 0 fa25_0 rfl rfl) ?_)))))))
 have P := o.trans l
 have Q := (L.ext P)
 refine dV 1 rfl (fun _ hf => evLoadB one4 rfl (Q.frm hf q1) rfl) (dV 2 rfl (fun _ _ => evFA 0 fa25_0 rfl rfl) ?_)
 have a9 := (M.ext P)
 refine dV 3 rfl (fun _ hf => evLoadB one4 rfl (a9.frm hf q1) rfl) (dV 4 rfl (fun _ _ => evNeqB _ underlying4 rfl rfl rfl) (dMs 5 rfl rfl (dV 7 rfl (fun _ _ => evFA 0 fa25_0 rfl rfl) (dV 8 rfl (fun _ hf => evLoadB one4 rfl (Q.frm hf q1) rfl) (dMs 9 rfl rfl ?_)))))
 have d0 := (D.ext l)
 refine dOp 6 rfl rfl (by kernel_rfl) (oCall rfl call44 (integer_From d0 Qo) rfl ?_)
 rintro _ h9 ⟨c, d, e, f, S, rfl, m, G, b0, T, e4⟩
 refine ⟨(Frm.of_ext m), ?_⟩
 have g3 := m.size
 have ⟨e5, e6, e7⟩ := G.lkm
 have b1 := l.trans m
 have d1 := (E.ext b1)
 refine dOp 10 rfl rfl (by kernel_rfl) (oCall rfl call44 (integer_From d1 Qo) rfl ?_)
 rintro _ i0 ⟨g, i, j, k, U, rfl, n, H, b2, V, e8⟩
 refine ⟨(Frm.of_ext n), ?_⟩
 have g4 := n.size
 have ⟨e9, f0, f1⟩ := H.lkm
 have b3 := ((((r.trans a).trans o).trans l).trans m).trans n
 have b4 := (a0.ext b3)
 refine dOp 11 rfl rfl (by kernel_rfl) (oStore [(.bool c), (.slice d e f)] rfl rfl rfl sz25 rfl b4 Qn (fun d2 p g5 t => ?_))
 replace t : Blk d2 W 25 [(.bool c), (.slice d e f)] := t
 refine ⟨(p.mono q4), ?_⟩
 have b5 := ((((a.trans o).trans l).trans m).trans n).rx p
 have b6 := (a1.frm b5 q1)
 refine dOp 12 rfl rfl (by kernel_rfl) (oStore [(.bool g), (.slice i j k)] rfl rfl rfl sz25 rfl b6 Qn (fun d3 q g6 u => ?_))
 replace u : Blk d3 X 25 [(.bool g), (.slice i j k)] := u
 refine ⟨(q.mono q4), dAi 13 rfl rfl (dDone (by kernel_rfl) (xN (a8 _ _ (wp_ret ?_))))⟩
 have b7 := (t.frm q q1)
 refine ret3 (.agg #[(.bool c), (.slice d e f)]) (.agg #[(.bool g), (.slice i j k)]) (.int .i64 (0)) results109 (resB [(.bool c), (.slice d e f)] agg25 sz25 rfl b7) (resB [(.bool g), (.slice i j k)] agg25 sz25 rfl u) (resT rfl) ?_
 have b8 := (n.rx p).tr q
 have d4 := (G.frmB b8 q3)
 have b9 := p.tr q
 have d5 := (H.frmB b9 q3)
 have c0 := (((((N.trans o).trans l).trans m).trans n).rx p).tr q
 exact ⟨c, d, e, f, S, g, i, j, k, U, (0), rfl, (Frm.mono c0 q4), (NatR.sub d4 q5), (NatR.sub d5 q5), (by rw [b0]; exact quo_val O F), (by rw [b2]; exact rem_val O F), T, V, rfl, (by omega), (by omega)⟩
end Go.Proofs.YtneolcopompkaaaGreatDoor
