/-
  Walks of package natural: division by a digit; of math/bits: Div32, Len32, LeadingZeros32.
-/
import Derived.Test.YtneolcopompkaaaGreatDoorNat4
import Derived.Test.YtneolcopompkaaaGreatDoorLibA
namespace Go.Proofs.YtneolcopompkaaaGreatDoor
open Go.RowKit Go.Gx Tryz
theorem bits_Div32 {w : World} {x1 : Nat} {x2 : Nat} {x3 : Nat} (b1 : x1 < 4294967296) (b2 : x2 < 4294967296) (b3 : x3 < 4294967296) (hlt : x1 < x3) : Calls Tryz.prog 104 #[(.int .u32 x1), (.int .u32 x2), (.int .u32 x3)] w (Ret fun v w' => ∃ (xq : Nat) (xm : Nat), v = (.tuple #[(.int .u32 xq), (.int .u32 xm)]) ∧ Ext w w' ∧ xq < 4294967296 ∧ xm < 4294967296 ∧ (xq * x3 + xm = x1 * 4294967296 + x2) ∧ (xm < x3)) := by
 refine enter func104 rfl ntmps104 rfl ?_
 have hq := div32_lt hlt b2; have hm := Nat.mod_lt (x1 * 4294967296 + x2) (show 0 < x3 by omega)
 refine rS fun h a => sAi rfl (sAi rfl (sK a (wp_seq_k fun i b => rS fun j c => sMi rfl (sV (evNeq true rfl rfl (dT Qo)) (sMb rfl (sEv (v := (.int .u32 x3)) (rfl) rfl rfl (sEv (v := (.int .u32 x1)) (rfl) rfl rfl (sEv (v := (.bool false)) (evLeq false rfl rfl (dF Qo)) rfl rfl (sV (v := (.bool false)) (rfl) (sK c (cF rfl (wp_skip (xN (b _ _ (rS fun k d => sMi rfl (sV (evConv ((x1 : Int)) underlying26 underlying100 rfl (wU64 Qo)) (sV (evShl (((x1 * 4294967296 : Nat) : Int)) rfl rfl Qo (shlE64u (x := x1) (s := 32) Qo Qo Qo Qo)) (sMi rfl (sV (evConv ((x2 : Int)) underlying26 underlying100 rfl (wU64 Qo)) ?_)))))))))))))))))))
 refine sV (v := (.int .u64 (((x1 * 4294967296 + x2 : Nat) : Int)))) (evOr64 rfl rfl (by omega) (by omega) (by rw [Nat.mul_comm x1]; exact or_nat x1 x2 32 (by omega))) (sAi rfl (sK d (wp_seq_k fun l e => dBegin (fun _ => False) mixed (fun m f g => dMi 0 rfl rfl (dMi 1 rfl rfl (dV 2 rfl (fun _ _ => evConv ((x3 : Int)) underlying26 underlying100 rfl (wU64 (by omega))) (dV 3 rfl (fun _ _ => evQuo ((((x1 * 4294967296 + x2) / x3 : Nat) : Int)) rfl rfl (by omega) (quoEu64 (by omega) (by omega) (by omega))) (dV 4 rfl (fun _ _ => evConv (((((x1 * 4294967296 + x2) / x3) % 4294967296 : Nat) : Int)) underlying100 underlying26 rfl (wU32m (by omega))) (dMi 5 rfl rfl (dMi 6 rfl rfl (dV 7 rfl (fun _ _ => evConv ((x3 : Int)) underlying26 underlying100 rfl (wU64 (by omega))) ?_)))))))))))
 refine dV 8 rfl (fun _ _ => evRem ((((x1 * 4294967296 + x2) % x3 : Nat) : Int)) rfl rfl Qo (remE Qo Qo)) (dV 9 rfl (fun _ _ => evConv (((((x1 * 4294967296 + x2) % x3) % 4294967296 : Nat) : Int)) underlying100 underlying26 rfl (wU32m Qo)) (dAi 10 rfl rfl (dAi 11 rfl rfl (dDone (by kernel_rfl) (xN (e _ _ (wp_ret (ret2 (.int .u32 (((((x1 * 4294967296 + x2) / x3) % 4294967296 : Nat) : Int))) (.int .u32 (((((x1 * 4294967296 + x2) % x3) % 4294967296 : Nat) : Int))) results104 (resT rfl) (resT rfl) ?_))))))))
 have hde := div32_e (X := x1 * 4294967296 + x2) (z := x3) Qo b3 hq rfl rfl
 exact ⟨(((x1 * 4294967296 + x2) / x3) % 4294967296), (((x1 * 4294967296 + x2) % x3) % 4294967296), rfl, f, Qo, Qo, hde.1, hde.2⟩
theorem bits_Len32 {w : World} {x1 : Nat} (b1 : x1 < 4294967296)  : Calls Tryz.prog 140 #[(.int .u32 x1)] w (Ret fun v w' => ∃ (xr : Nat), v = (.int .i64 xr) ∧ Ext w w' ∧ xr ≤ 9223372036854775807 ∧ (x1 < 2 ^ xr) ∧ (x1 = 0 ∨ 2 ^ (xr - 1) ≤ x1) ∧ (xr ≤ 32)) := by
 refine enter func140 rfl ntmps140 rfl (rS fun F q => sAi rfl (sK q (wp_seq_k fun G e => rS fun H f => sMi rfl ?_)))
 by_cases g : ((x1 : Int)) ≥ 65536
 ·refine sV (evGeq true rfl rfl (dT g)) (sK f (cT rfl (rS fun I r => sMi rfl (sV (evShr (((x1 / 2 ^ 16 : Nat) : Int)) rfl rfl Qo (shrE (x := x1) (s := 16) Qo Qo (by show _ ≤ 32; omega))) (sAi rfl (sK r (wp_region_lit (sAi rfl (sK e (wp_seq_k fun J h => rS fun K i => sMi rfl ?_))))))))))
  by_cases j : (((x1 / 2 ^ 16 : Nat) : Int)) ≥ 256
  ·refine sV (evGeq true rfl rfl (dT j)) (sK i (cT rfl (rS fun L t => sMi rfl (sV (evShr ((((x1 / 2 ^ 16) / 2 ^ 8 : Nat) : Int)) rfl rfl Qo (shrE (x := x1 / 2 ^ 16) (s := 8) Qo Qo (by show _ ≤ 32; omega))) (sAi rfl (sK t (wp_region_lit (sMi rfl (sV (evAdd 24 rfl rfl wI) (sAi rfl (sK h (rS fun u k => sMi rfl (sMi rfl (sV (evConv ((((x1 / 2 ^ 16) / 2 ^ 8 : Nat) : Int)) underlying26 underlying5 rfl (wU8 Qo)) (sV (v := (.int .u8 (((bl8 ((x1 / 2 ^ 16) / 2 ^ 8) : Nat) : Int)))) (evTab ((x1 / 2 ^ 16) / 2 ^ 8) underlying9 rfl (by kernel_rfl) rfl Qo Qo) ?_)))))))))))))))
   have a := (bl8_spec (x := (x1 / 2 ^ 16) / 2 ^ 8) Qo).2.2.1
   refine sV (evConv (((bl8 ((x1 / 2 ^ 16) / 2 ^ 8) : Nat) : Int)) underlying5 underlying3 rfl (wI64 Qo)) (sV (evAdd (24 + (((bl8 ((x1 / 2 ^ 16) / 2 ^ 8) : Nat) : Int))) rfl rfl wI) (sAi rfl (sK k (wp_ret (ret1 (.int .i64 (((24 + (bl8 ((x1 / 2 ^ 16) / 2 ^ 8)) : Nat) : Int))) results140 (resT cI) ?_)))))
   have hls := len_sh (x := x1) (s := 24) (y := (x1 / 2 ^ 16) / 2 ^ 8) (n := 24 + (bl8 ((x1 / 2 ^ 16) / 2 ^ 8))) (by rw [Nat.div_div_eq_div_mul]) (by omega) (by omega) (by omega)
   exact ⟨(24 + (bl8 ((x1 / 2 ^ 16) / 2 ^ 8))), rfl, (Frm.refl _ _), Qo, hls.1, hls.2.1, Qo⟩
  ·refine sV (evGeq false rfl rfl (dF j)) (sK i (cF rfl (wp_skip (xN (h _ _ (rS fun z l => sMi rfl (sMi rfl (sV (evConv (((x1 / 2 ^ 16 : Nat) : Int)) underlying26 underlying5 rfl (wU8 Qo)) (sV (v := (.int .u8 (((bl8 (x1 / 2 ^ 16) : Nat) : Int)))) (evTab (x1 / 2 ^ 16) underlying9 rfl (by kernel_rfl) rfl Qo Qo) ?_)))))))))
   have a := (bl8_spec (x := x1 / 2 ^ 16) Qo).2.2.1
   refine sV (evConv (((bl8 (x1 / 2 ^ 16) : Nat) : Int)) underlying5 underlying3 rfl (wI64 Qo)) (sV (evAdd (16 + (((bl8 (x1 / 2 ^ 16) : Nat) : Int))) rfl rfl wI) (sAi rfl (sK l (wp_ret (ret1 (.int .i64 (((16 + (bl8 (x1 / 2 ^ 16)) : Nat) : Int))) results140 (resT cI) ?_)))))
   have hls := len_sh (x := x1) (s := 16) (y := x1 / 2 ^ 16) (n := 16 + (bl8 (x1 / 2 ^ 16))) rfl Qo Qo Qo
   exact ⟨(16 + (bl8 (x1 / 2 ^ 16))), rfl, (Frm.refl _ _), Qo, hls.1, hls.2.1, Qo⟩
 ·refine sV (evGeq false rfl rfl (dF g)) (sK f (cF rfl (wp_skip (xN (e _ _ (wp_seq_k fun A b => rS fun B c => sMi rfl ?_))))))
  by_cases d : ((x1 : Int)) ≥ 256
  ·refine sV (evGeq true rfl rfl (dT d)) (sK c (cT rfl (rS fun C m => sMi rfl (sV (evShr (((x1 / 2 ^ 8 : Nat) : Int)) rfl rfl Qo (shrE (x := x1) (s := 8) Qo Qo (by show _ ≤ 32; omega))) (sAi rfl (sK m (wp_region_lit (sMi rfl (sV (evAdd 8 rfl rfl wI) (sAi rfl (sK b (rS fun D o => sMi rfl (sMi rfl (sV (evConv (((x1 / 2 ^ 8 : Nat) : Int)) underlying26 underlying5 rfl (wU8 Qo)) (sV (v := (.int .u8 (((bl8 (x1 / 2 ^ 8) : Nat) : Int)))) (evTab (x1 / 2 ^ 8) underlying9 rfl (by kernel_rfl) rfl Qo Qo) ?_)))))))))))))))
   have a := (bl8_spec (x := x1 / 2 ^ 8) Qo).2.2.1
   refine sV (evConv (((bl8 (x1 / 2 ^ 8) : Nat) : Int)) underlying5 underlying3 rfl (wI64 Qo)) (sV (evAdd (8 + (((bl8 (x1 / 2 ^ 8) : Nat) : Int))) rfl rfl wI) (sAi rfl (sK o (wp_ret (ret1 (.int .i64 (((8 + (bl8 (x1 / 2 ^ 8)) : Nat) : Int))) results140 (resT cI) ?_)))))
   have hls := len_sh (x := x1) (s := 8) (y := x1 / 2 ^ 8) (n := 8 + (bl8 (x1 / 2 ^ 8))) rfl Qo Qo Qo
   exact ⟨(8 + (bl8 (x1 / 2 ^ 8))), rfl, (Frm.refl _ _), Qo, hls.1, hls.2.1, Qo⟩
  ·refine sV (evGeq false rfl rfl (dF d)) (sK c (cF rfl (wp_skip (xN (b _ _ (rS fun E p => sMi rfl (sMi rfl (sV (evConv ((x1 : Int)) underlying26 underlying5 rfl (wU8 Qo)) (sV (v := (.int .u8 (((bl8 x1 : Nat) : Int)))) (evTab x1 underlying9 rfl (by kernel_rfl) rfl Qo Qo) ?_)))))))))
   have a := (bl8_spec (x := x1) Qo).2.2.1
   refine sV (evConv (((bl8 x1 : Nat) : Int)) underlying5 underlying3 rfl (wI64 Qo)) (sV (evAdd (0 + (((bl8 x1 : Nat) : Int))) rfl rfl wI) (sAi rfl (sK p (wp_ret (ret1 (.int .i64 (((0 + (bl8 x1) : Nat) : Int))) results140 (resT cI) ?_)))))
   have hls := len_sh (x := x1) (s := 0) (y := x1) (n := 0 + (bl8 x1)) (by simp) (by omega) (by omega) (by omega)
   exact ⟨(0 + (bl8 x1)), rfl, (Frm.refl _ _), Qo, hls.1, hls.2.1, Qo⟩
theorem bits_LeadingZeros32 {w : World} {x1 : Nat} (b1 : x1 < 4294967296) (h0 : x1 ≠ 0) : Calls Tryz.prog 142 #[(.int .u32 x1)] w (Ret fun v w' => ∃ (xr : Nat), v = (.int .i64 xr) ∧ Ext w w' ∧ xr ≤ 9223372036854775807 ∧ (x1 * 2 ^ xr < 4294967296) ∧ (2147483648 ≤ x1 * 2 ^ xr) ∧ (xr ≤ 31)) := by
 refine enter func142 rfl ntmps142 rfl (rS fun j f => sAi rfl (sK f (rS fun k g => sMi rfl (sO (oCall rfl call140 (bits_Len32 (x1 := x1) Qo) rfl ?_)))))
 rintro _ l ⟨a, rfl, b, h, c, d, e⟩
 have i := b.size
 refine sV (evSub (32 - ((a : Int))) rfl rfl wI) (sAi rfl (sK g (wp_ret (ret1 (.int .i64 (((32 - a : Nat) : Int))) results142 (resT cI) ?_))))
 have hlz := lead_zeros h0 c d e (show 32 - a = 32 - a by omega)
 exact ⟨(32 - a), rfl, b, Qo, hlz.1, hlz.2.1, hlz.2.2⟩
theorem natural_DivSmall {w : World} {Sa : Nat → Prop} {Aa : Option Addr} {na ca : Nat} {da : List Nat} {xd : Nat} (ha : NatR w Sa Aa na ca da) (bd : xd < 4294967296) (hna : na ≤ 1099511627776) (hd : 0 < xd) : Calls Tryz.prog 64 #[(.slice Aa na ca), (.int .u32 xd)] w (Ret fun v w' => ∃ (Aq : Option Addr) (nq : Nat) (cq : Nat) (dq : List Nat) (xm : Nat) (gk : Bool), v = (.tuple #[(.slice Aq nq cq), (.int .u32 xm), (.bool gk)]) ∧ Ext w w' ∧ NatR w' (fun b => w.heap.size ≤ b) Aq nq cq dq ∧ xm < 4294967296 ∧ (val da = xd * val dq + xm) ∧ (xm < xd) ∧ (Canon isZ dq) ∧ (nq ≤ na)) := by
 have ⟨la, ka, ma⟩ := ha.lkm
 replace ha := ha.low
 refine enter func64 rfl ntmps64 rfl (rS fun K1 a1 => sAs rfl (sAi rfl (sAb rfl (sK a1 (wp_seq_k fun K2 a2 => rS fun K3 a3 => sMi rfl (sV (evEql false rfl rfl (dF Qo)) (sK a3 (cF rfl (wp_skip (xN (a2 _ _ (rS fun K4 a4 => sMs rfl (sO (oCall rfl call87 (natural_trim ha) rfl ?_))))))))))))))
 rintro _ w6 ⟨E, a, F, q, rfl, C, r, a5, b7⟩
 have c9 := C.size
 have ⟨b8, b9, c0⟩ := r.lkm
 refine sAs rfl (sK a4 (rS fun d0 G => sMs rfl (sV (evLen underlying23 rfl) (sO (oMake1 a underlying23 inf26 rfl cI cI Qo Qo (fun f D c1 s c2 H => ?_))))))
 have I : Blk D f 26 (((List.replicate a 0)).map u32) := by rw [List.map_replicate]; exact H
 refine sAs rfl (sK G (rS fun d1 J => sAi rfl (sK J (wp_seq_k fun d2 K => rS fun d3 L => sMs rfl (sV (evLen underlying23 rfl) (sV (evSub (((a : Int)) - 1) rfl rfl wI) (sAi rfl (sK L (wp_block ?_)))))))))
 refine lLoop (fun m e w_ => ∃ (k : Nat) (Q : List Nat) (rs : Nat), m = k ∧ e 0 = (.slice E a F) ∧ e 1 = (.int .u32 xd) ∧ e 7 = (.slice (some ⟨f, 0, none⟩) a a) ∧ e 8 = (.int .u32 rs) ∧ e 9 = (.int .i64 ((k : Int) - 1)) ∧ Frm (fun b => b = f) D w_ ∧ Blk w_ f 26 ((List.replicate k 0 ++ Q).map u32) ∧ (k ≤ a) ∧ (Q.length = a - k) ∧ (∀ d ∈ Q, d < BS) ∧ (rs < xd) ∧ (val (q.drop k) = xd * val Q + rs)) ((a)) ?_ ?_
 ·refine ⟨(a), ([]), (0), rfl, rfl, rfl, rfl, cI, cI, (Frm.refl _ _), ?_, ?_, ?_, ?_, ?_, ?_⟩
  ·simpa using I
  ·omega
  ·simp
  ·simp
  ·omega
  ·rw [List.drop_of_length_le (by omega)]; rfl
 ·rintro d4 d5 a6 ⟨k, Q, rs, c3, M, N, O, P, R, g, t, hk, hQ, hQt, hrs, hv⟩
  obtain ⟨d6, rfl⟩ := sq5 M N O P R
  have c4 := g.size
  refine wp_seq_k fun d7 S => rS fun d8 u => sMi rfl ?_
  by_cases x : ((k : Int) - 1) ≥ 0
  ·refine sV (evGeq true rfl rfl (dT x)) (sK u (cT rfl (wp_skip (xN (S _ _ (wp_seq_k fun d9 T => wp_block (wp_region_lit (sMs rfl (sMi rfl (sMi rfl (sMs rfl (sMi rfl ?_))))))))))))
   have U := s.rx g
   have y := (r.frmB U q3)
   obtain ⟨e0, a7, rfl⟩ := y.base Qo
   refine sV (evIx (k - 1) underlying23 sz26 rfl rfl (a7 + (k - 1))) ?_
   have c5 := y.lt (k - 1)
   refine sV (evLoad one26 rfl (y.cell Qo)) (sMi rfl (sO (oCall rfl call104 (bits_Div32 (x1 := rs) Qo (x2 := q.getD (k - 1) 0) Qo (x3 := xd) Qo Qo) rfl ?_)))
   rintro _ e1 ⟨c, h, rfl, i, b0, b1, V, b2⟩
   have c6 := i.size
   refine sV (v := (.tuple #[(.int .u32 c), (.int .u32 h)])) (rfl) (sV (v := (.int .u32 c)) (rfl) (sV (v := (.int .u32 h)) (rfl) (sV (evIx (k - 1) underlying23 sz26 rfl rfl (k - 1)) ?_)))
   have W := (t.ext i)
   refine sO (oStore1 rfl rfl rfl sz26 W (by exact lq) (fun a8 X c7 j => ?_))
   replace j : Blk a8 f 26 ((List.replicate (k - 1) 0 ++ (c :: Q)).map u32) := by rw [← (revN_set (by omega) (by omega) : (List.replicate k 0 ++ Q).set (k - 1) c = List.replicate (k - 1) 0 ++ (c :: Q)), List.map_set]; exact j
   refine sAi rfl (sDone (bN (xN (T _ _ (wp_region_lit (sMi rfl (sV (evSub (((k : Int) - 1) - 1) rfl rfl wI) (sAi rfl (sDone ?_)))))))))
   have Y := i.rx X
   refine again ((k - 1)) Qo ⟨(k - 1), (c :: Q), (h), rfl, rfl, rfl, rfl, cI, cI, (g.trans Y), ?_, ?_, ?_, ?_, ?_, ?_⟩
   ·exact j
   ·omega
   ·simp [hQ]; omega
   ·exact lt_cons hQt Qo
   ·omega
   ·exact divs_step Qo Qo hv V
  ·refine sV (evGeq false rfl rfl (dF x)) (sK u (cF rfl (wp_exit (xE (xE (bE (xN (K _ _ (rS fun e2 Z => sMs rfl ?_)))))))))
   have a9 : NatR a6 (fun b => b = f) (some ⟨f, 0, none⟩) a a (List.replicate k 0 ++ Q) := NatR.of_blk t rfl (lt_revfill hQt) (by exact lq) Qo (by unfold CapMax; omega)
   refine sO (oCall rfl call87 (natural_trim a9) rfl ?_)
   rintro _ e3 ⟨l, n, o, B, rfl, z, p, A, b3⟩
   have c8 := z.size
   have ⟨b4, b5, b6⟩ := p.lkm
   refine sMi rfl (sAs rfl (sAi rfl (sAb rfl (sK Z (wp_ret (ret3 (.slice l n o) (.int .u32 rs) (.bool true) results64 (resT rfl) (resT rfl) (resT rfl) ?_))))))
   have a0 := ((C.trans s).rx g).xr z
   exact ⟨l, n, o, B, (rs), (true), rfl, (Frm.mono a0 q4), (NatR.sub p q5), (by omega), (by rw [A, val_trim, show k = 0 by omega, List.replicate_zero, List.nil_append, ← val_trim da, ← a5, ← hv, show k = 0 by omega, List.drop_zero]), (by omega), (by rw [A]; exact canon_trim _ _), (by omega)⟩
end Go.Proofs.YtneolcopompkaaaGreatDoor
