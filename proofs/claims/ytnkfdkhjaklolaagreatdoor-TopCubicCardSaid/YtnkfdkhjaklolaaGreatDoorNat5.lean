/-
  Walks of package natural: division by a digit; of math/bits: Div32, Len32, LeadingZeros32.
-/
import Derived.Test.YtnkfdkhjaklolaaGreatDoorNat4
import Derived.Test.YtnkfdkhjaklolaaGreatDoorLibA
open Nat renaming mul_comm→UC
namespace Go.Proofs.YtnkfdkhjaklolaaGreatDoor
open Go.RowKit Go.Gx Tryz
open Go renaming wp_seq_k→Xs,wp_skip→Xk,wp_ret→Xt,wp_region_lit→Xr,wp_block→Xb,wp_exit→Xe
open List renaming replicate→Xl
variable{Aa:Option Addr}{Sa:Nat→Prop}{ca na x1 x2 x3 xd:Nat}{da:List Nat}{w:World}
theorem QhR(b1:x1<4294967296)(b2:x2<4294967296)(b3:x3<4294967296)(hlt:x1<x3):Calls prog 289 #[.int .u32 x1,.int .u32 x2,.int .u32 x3] w (Ret fun v w'=> ∃(xq xm:Nat),v=(.tuple #[.int .u32 xq,.int .u32 xm])∧Ext w w'∧xq<4294967296∧xm<4294967296∧(xq*x3+xm=x1*4294967296+x2)∧(xm<x3)):=by
 refine enter func289 E ntmps289 E ?_;have hq:=QqU hlt b2;have hm:=Nat.mod_lt (x1*4294967296+x2) (show 0<x3 by omega);refine rS fun g a=>sAi E (sAi E (sK a (Xs fun h b=>rS fun i c=>sMi E (sV (ZI true E E (dT Qo)) (sMb E (sEv (v:= .int .u32 x3) (E) E E (sEv (v:= .int .u32 x1) (E) E E (sEv (v:= .bool false) (QaM false E E (dF Qo)) E E (sV (v:= .bool false) (E) (sK c (cF E (Xk (xM b (rS fun j d=>sMi E (sV (XY ((x1:Int)) underlying123 underlying75 E (Qbm Qo)) (sV (Qq2 (((x1*4294967296:Nat):Int)) E E Qo (Qjk (x:=x1) (s:=32) Qo Qo Qo Qo)) (sMi E (sV (XY ((x2:Int)) underlying123 underlying75 E (Qbm Qo)) ?_))))))))))))))))));refine sV (v:= .int .u64 (((x1*4294967296+x2:Nat):Int))) (Qo1 E E (by omega) (by omega) (by rw[UC x1];exact Qmv x1 x2 32 (by omega))) (sAi E (sK d (Xs fun k e=>XA (fun _=>False) mixed fun l f _=>dMi 0 E E (dMi 1 E E (dV 2 E (fun _ _=>XY ((x3:Int)) underlying123 underlying75 E (Qbm (by omega))) (dV 3 E (fun _ _=>Qj6 ((((x1*4294967296+x2)/x3:Nat):Int)) E E (by omega) (QuO (by omega) (by omega) (by omega))) (dV 4 E (fun _ _=>XY (((((x1*4294967296+x2)/x3) % 4294967296:Nat):Int)) underlying75 underlying123 E (QeD (by omega))) (dMi 5 E E (dMi 6 E E (dV 7 E (fun _ _=>XY ((x3:Int)) underlying123 underlying75 E (Qbm (by omega))) ?_))))))))));refine dV 8 E (fun _ _=>QbK ((((x1*4294967296+x2) % x3:Nat):Int)) E E Qo (Qjd Qo Qo)) (dV 9 E (fun _ _=>XY (((((x1*4294967296+x2) % x3) % 4294967296:Nat):Int)) underlying75 underlying123 E (QeD Qo)) (dAi 10 E E (dAi 11 E E (XG (by kernel_rfl) (xM e (Xt (Qbl (.int .u32 (((((x1*4294967296+x2)/x3) % 4294967296:Nat):Int))) (.int .u32 (((((x1*4294967296+x2) % x3) % 4294967296:Nat):Int))) results289 (XK E) (XK E) ?_)))))));have hde:=Qua (X:=x1*4294967296+x2) (z:=x3) Qo b3 hq E E;exact⟨((x1*4294967296+x2)/x3) % 4294967296,((x1*4294967296+x2) % x3) % 4294967296,E,f,Qo,Qo,hde.1,hde.2⟩
theorem bits_Len32(b1:x1<4294967296):Calls prog 172 #[.int .u32 x1] w (Ret fun v w'=> ∃(xr:Nat),v=(.int .i64 xr)∧Ext w w'∧xr≤9223372036854775807∧(x1<2^xr)∧(x1=0∨2^ (xr -1)≤x1)∧(xr≤32)):=by
 refine enter func172 E ntmps172 E (rS fun G q=>sAi E (sK q (Xs fun I e=>rS fun J f=>sMi E ?_)))
 by_cases g:((x1:Int))≥65536
 ·refine sV (Zi true E E (dT g)) (sK f (cT E (rS fun K r=>sMi E (sV (QeM (((x1/2^16:Nat):Int)) E E Qo (QqA (x:=x1) (s:=16) Qo Qo (by show _≤32;omega))) (sAi E (sK r (Xr (sAi E (sK e (Xs fun L h=>rS fun M i=>sMi E ?_))))))))))
  by_cases j:(((x1/2^16:Nat):Int))≥256
  ·refine sV (Zi true E E (dT j)) (sK i (cT E (rS fun N t=>sMi E (sV (QeM ((((x1/2^16)/2^8:Nat):Int)) E E Qo (QqA (x:=x1/2^16) (s:=8) Qo Qo (by show _≤32;omega))) (sAi E (sK t (Xr (sMi E (sV (XF 24 E E wI) (sAi E (sK h (rS fun u k=>sMi E (sMi E (sV (XY ((((x1/2^16)/2^8:Nat):Int)) underlying123 underlying5 E (wU8 Qo)) (sV (v:= .int .u8 (((bl8 ((x1/2^16)/2^8):Nat):Int))) (Qq3 ((x1/2^16)/2^8) underlying9 E (by kernel_rfl) E Qo Qo) ?_)))))))))))))))
   have a:=(QeH (x:=(x1/2^16)/2^8) Qo).2.2.1;refine sV (XY (((bl8 ((x1/2^16)/2^8):Nat):Int)) underlying5 underlying3 E (QaZ Qo)) (sV (XF (24+(((bl8 ((x1/2^16)/2^8):Nat):Int))) E E wI) (sAi E (sK k (Xt (XL (.int .i64 (((24+(bl8 ((x1/2^16)/2^8)):Nat):Int))) results172 (XK cI) ?_)))));have hls:=Qmn (x:=x1) (s:=24) (y:=(x1/2^16)/2^8) (n:=24+(bl8 ((x1/2^16)/2^8))) (by rw[Nat.div_div_eq_div_mul]) (by omega) (by omega) (by omega);exact⟨24+(bl8 ((x1/2^16)/2^8)),E,Frm.refl _ _,Qo,hls.1,hls.2.1,Qo⟩
  ·refine sV (Zi false E E (dF j)) (sK i (cF E (Xk (xM h (rS fun z l=>sMi E (sMi E (sV (XY (((x1/2^16:Nat):Int)) underlying123 underlying5 E (wU8 Qo)) (sV (v:= .int .u8 (((bl8 (x1/2^16):Nat):Int))) (Qq3 (x1/2^16) underlying9 E (by kernel_rfl) E Qo Qo) ?_))))))))
   have a:=(QeH (x:=x1/2^16) Qo).2.2.1;refine sV (XY (((bl8 (x1/2^16):Nat):Int)) underlying5 underlying3 E (QaZ Qo)) (sV (XF (16+(((bl8 (x1/2^16):Nat):Int))) E E wI) (sAi E (sK l (Xt (XL (.int .i64 (((16+(bl8 (x1/2^16)):Nat):Int))) results172 (XK cI) ?_)))));have hls:=Qmn (x:=x1) (s:=16) (y:=x1/2^16) (n:=16+(bl8 (x1/2^16))) E Qo Qo Qo;exact⟨16+(bl8 (x1/2^16)),E,Frm.refl _ _,Qo,hls.1,hls.2.1,Qo⟩
 ·refine sV (Zi false E E (dF g)) (sK f (cF E (Xk (xM e (Xs fun A b=>rS fun B c=>sMi E ?_)))))
  by_cases d:((x1:Int))≥256
  ·refine sV (Zi true E E (dT d)) (sK c (cT E (rS fun C m=>sMi E (sV (QeM (((x1/2^8:Nat):Int)) E E Qo (QqA (x:=x1) (s:=8) Qo Qo (by show _≤32;omega))) (sAi E (sK m (Xr (sMi E (sV (XF 8 E E wI) (sAi E (sK b (rS fun D o=>sMi E (sMi E (sV (XY (((x1/2^8:Nat):Int)) underlying123 underlying5 E (wU8 Qo)) (sV (v:= .int .u8 (((bl8 (x1/2^8):Nat):Int))) (Qq3 (x1/2^8) underlying9 E (by kernel_rfl) E Qo Qo) ?_)))))))))))))))
   have a:=(QeH (x:=x1/2^8) Qo).2.2.1;refine sV (XY (((bl8 (x1/2^8):Nat):Int)) underlying5 underlying3 E (QaZ Qo)) (sV (XF (8+(((bl8 (x1/2^8):Nat):Int))) E E wI) (sAi E (sK o (Xt (XL (.int .i64 (((8+(bl8 (x1/2^8)):Nat):Int))) results172 (XK cI) ?_)))));have hls:=Qmn (x:=x1) (s:=8) (y:=x1/2^8) (n:=8+(bl8 (x1/2^8))) E Qo Qo Qo;exact⟨8+(bl8 (x1/2^8)),E,Frm.refl _ _,Qo,hls.1,hls.2.1,Qo⟩
  ·refine sV (Zi false E E (dF d)) (sK c (cF E (Xk (xM b (rS fun F p=>sMi E (sMi E (sV (XY ((x1:Int)) underlying123 underlying5 E (wU8 Qo)) (sV (v:= .int .u8 (((bl8 x1:Nat):Int))) (Qq3 x1 underlying9 E (by kernel_rfl) E Qo Qo) ?_))))))))
   have a:=(QeH (x:=x1) Qo).2.2.1;refine sV (XY (((bl8 x1:Nat):Int)) underlying5 underlying3 E (QaZ Qo)) (sV (XF (0+(((bl8 x1:Nat):Int))) E E wI) (sAi E (sK p (Xt (XL (.int .i64 (((0+(bl8 x1):Nat):Int))) results172 (XK cI) ?_)))));have hls:=Qmn (x:=x1) (s:=0) (y:=x1) (n:=0+(bl8 x1)) (by simp) (by omega) (by omega) (by omega);exact⟨0+(bl8 x1),E,Frm.refl _ _,Qo,hls.1,hls.2.1,Qo⟩
theorem bits_LeadingZeros32(b1:x1<4294967296)(h0:x1≠0):Calls prog 241 #[.int .u32 x1] w (Ret fun v w'=> ∃(xr:Nat),v=(.int .i64 xr)∧Ext w w'∧xr≤9223372036854775807∧(x1*2^xr<4294967296)∧(2147483648≤x1*2^xr)∧(xr≤31)):=by
 refine enter func241 E ntmps241 E (rS fun i e=>sAi E (sK e (rS fun j f=>sMi E (sO (Xc E Qto (bits_Len32 (x1:=x1) Qo) E ?_)))));rintro _ k ⟨a,rfl,g,h,b,c,d⟩;refine sV (XQ (32 -((a:Int))) E E wI) (sAi E (sK f (Xt (XL (.int .i64 (((32 -a:Nat):Int))) results241 (XK cI) ?_))));have hlz:=Qni h0 b c d (show 32 -a=32 -a by omega);exact⟨32 -a,E,g,Qo,hlz.1,hlz.2.1,hlz.2.2⟩
theorem Qd9(ha:Xn w Sa Aa na ca da):Calls prog 192 #[.slice Aa na ca] w (Ret fun v w'=> ∃(xr:Nat)(gk:_),v=(.tuple #[.int .u64 xr,.bool gk])∧Ext w w'∧xr<18446744073709551616∧(na≤2→xr=val da)):=by
 have⟨la,ka,ma⟩:=ha.lkm;replace ha:=ha.low;refine enter func192 E ntmps192 E (rS fun U u=>sAi E (sAb E (sK u (rS fun W y=>sMs E (sO (Xc E Qae (Ya ha) E ?_))))));rintro _ X ⟨C,d,D,a,rfl,f,b,g,F⟩;have⟨e,_,_⟩:=b.lkm;refine sAs E (sK y (Xs fun Y z=>rS fun Z A=>sMs E (sV (Xw underlying28 E) (sK A (Xb (rS fun K h=> ?_))))))
 by_cases i:((d:Int))=0
 ·refine sV (XD true E E (dT i)) (sAb E (sK h (cT E (rS fun L p=>sAi E (sAb E (sK p (Xt (bR (xR (Qbl (.int .u64 (0)) (.bool true) results192 (XK E) (XK E) ?_))))))))))
  exact⟨0,true,E,f,(by omega),(fun _=>by rw[←XX,←g];exact((Qw2 e).1 (by omega)).symm)⟩
 ·refine sV (XD false E E (dF i)) (sAb E (sK h (cF E (rS fun M j=> ?_))))
  by_cases k:((d:Int))=1
  ·refine sV (XD true E E (dT k)) (sAb E (sK j (cT E (rS fun N q=>sMs E ?_))))
   obtain⟨O,B,rfl⟩:=b.base Qo;refine sV (XU 0 underlying28 Xz E E (B+0)) ?_;have G:=b.lt 0;refine sV (XR XV E (b.cell Qo)) (sV (XY (((a.getD 0 0:Nat):Int)) underlying123 underlying75 E (Qbm Qo)) (sAi E (sAb E (sK q (Xt (bR (xR (Qbl (.int .u64 (((a.getD 0 0:Nat):Int))) (.bool true) results192 (XK E) (XK E) ?_))))))));exact⟨a.getD 0 0,true,E,f,(by omega),(fun _=>by rw[←XX,←g];exact((Qw2 e).2.1 (by omega)).symm)⟩
  ·refine sV (XD false E E (dF k)) (sAb E (sK j (cF E (rS fun P l=> ?_))))
   by_cases m:((d:Int))=2
   ·refine sV (XD true E E (dT m)) (sAb E (sK l (cT E (Xs fun Q r=>XA (fun _=>False) mixed fun R n _=>dMs 0 E E ?_))))
    have c:=b.ext n;obtain⟨S,o,rfl⟩:=c.base Qo;refine dV 1 E (fun _ _=>XU 1 underlying28 Xz E E (o+1)) ?_;have I:=c.lt 1;refine dV 2 E (fun _ hf=>XR XV E ((c.ext hf).cell Qo)) (dV 3 E (fun _ _=>XY (((a.getD 1 0:Nat):Int)) underlying123 underlying75 E (Qbm Qo)) (dV 4 E (fun _ _=>Qq2 (((a.getD 1 0*4294967296:Nat):Int)) E E Qo (Qjk (x:=a.getD 1 0) (s:=32) Qo Qo Qo Qo)) (dMs 5 E E (dV 6 E (fun _ _=>XU 0 underlying28 Xz E E (o+0)) ?_))));have J:=c.lt 0;refine dV 7 E (fun _ hf=>XR XV E ((c.ext hf).cell (by omega))) (dV 8 E (fun _ _=>XY (((a.getD 0 0:Nat):Int)) underlying123 underlying75 E (Qbm (by omega))) (dV 9 E (v:= .int .u64 (((a.getD 1 0*4294967296+a.getD 0 0:Nat):Int))) (fun _ _=>Qo1 E E (by omega) (by omega) (by rw[UC (a.getD 1 0)];exact Qmv _ _ 32 (by omega))) (dAi 10 E E (dAb 11 E E (XG (by kernel_rfl) (xM r (Xt (bR (xR (Qbl (.int .u64 (((a.getD 1 0*4294967296+a.getD 0 0:Nat):Int))) (.bool true) results192 (XK E) (XK E) ?_))))))))));exact⟨a.getD 1 0*4294967296+a.getD 0 0,true,E,f.trans n,(by omega),(fun _=>by rw[←XX,←g];exact((Qw2 e).2.2 (by omega)).symm)⟩
   ·refine sV (XD false E E (dF m)) (sAb E (sK l (cF E (Xk (bN (xM z (rS fun T t=>sAi E (sAb E (sK t (Xt (Qbl (.int .u64 (0)) (.bool false) results192 (XK E) (XK E) ?_)))))))))))
    exact⟨0,false,E,f,Qo,Qo⟩
theorem QcW(ha:Xn w Sa Aa na ca da)(bd:xd<4294967296)(hna:na≤1099511627776)(hd:0<xd):Calls prog 240 #[.slice Aa na ca,.int .u32 xd] w (Ret fun v w'=> ∃(Aq nq cq dq:_)(xm:Nat)(gk:_),v=(.tuple #[.slice Aq nq cq,.int .u32 xm,.bool gk])∧Ext w w'∧Xn w' (fun b=>w.heap.size≤b) Aq nq cq dq∧xm<4294967296∧(val da=xd*val dq+xm)∧(xm<xd)∧(Canon isZ dq)∧(nq≤na)):=by
 have⟨la,ka,ma⟩:=ha.lkm;replace ha:=ha.low;refine enter func240 E ntmps240 E (rS fun K1 a0=>sAs E (sAi E (sAb E (sK a0 (Xs fun K2 a1=>rS fun K3 a2=>sMi E (sV (XD false E E (dF Qo)) (sK a2 (cF E (Xk (xM a1 (rS fun K4 a3=>sMs E (sO (Xc E Qae (Ya ha) E ?_)))))))))))));rintro _ w6 ⟨D,a,F,p,rfl,B,q,a4,b3⟩;have c1:=B.size;have⟨b4,b5,b6⟩:=q.lkm;refine sAs E (sK a3 (rS fun c2 G=>sMs E (sV (Xw underlying28 E) (sO (Qaw a underlying28 Qai E cI cI Qo Qo fun f C b7 r b8 I=> ?_)))));have J:Blk C f 123 (((Xl a 0)).map u32):=by rw[List.map_replicate];exact I
 refine sAs E (sK G (rS fun c3 K=>sAi E (sK K (Xs fun c4 L=>rS fun c5 M=>sMs E (sV (Xw underlying28 E) (sV (XQ (((a:Int)) -1) E E wI) (sAi E (sK M (Xb ?_)))))))));refine Ym (fun m e w_=> ∃(k:Nat)(Q:List Nat)(rs:Nat),m=k∧e 0=(.slice D a F)∧e 1=(.int .u32 xd)∧e 7=(.slice (some ⟨f,0,none⟩) a a)∧e 8=(.int .u32 rs)∧e 9=(.int .i64 ((k:Int) -1))∧Frm (fun b=>b=f) C w_∧Blk w_ f 123 ((Xl k 0++Q).map u32)∧(k≤a)∧(Q.length=a -k)∧(∀d∈Q,d<BS)∧(rs<xd)∧(val (p.drop k)=xd*val Q+rs)) ((a)) ?_ ?_
 ·refine⟨a,[],0,E,E,E,E,cI,cI,Frm.refl _ _,?_,?_,?_,?_,?_,?_⟩
  ·simpa using J
  ·omega
  ·simp
  ·simp
  ·omega
  ·rw[List.drop_of_length_le (by omega)];rfl
 ·rintro c6 c7 a5 ⟨k,Q,rs,b9,N,O,P,R,S,h,s,hk,hQ,hQt,hrs,hv⟩
  obtain⟨c8,rfl⟩:=Qjz N O P R S;refine Xs fun c9 T=>rS fun d0 t=>sMi E ?_
  by_cases u:((k:Int) -1)≥0
  ·refine sV (Zi true E E (dT u)) (sK t (cT E (Xk (xM T (Xs fun d1 U=>Xb (Xr (sMs E (sMi E (sMi E (sMs E (sMi E ?_)))))))))))
   have x:=q.frmB (r.rx h) q3;obtain⟨d2,a6,rfl⟩:=x.base Qo;refine sV (XU (k -1) underlying28 Xz E E (a6+(k -1))) ?_;have c0:=x.lt (k -1);refine sV (XR XV E (x.cell Qo)) (sMi E (sO (Xc E Qon (QhR (x1:=rs) Qo (x2:=p.getD (k -1) 0) Qo (x3:=xd) Qo Qo) E ?_)));rintro _ d3 ⟨c,g,rfl,y,a9,_,W,b0⟩;refine sV (v:= .tuple #[.int .u32 c,.int .u32 g]) (E) (sV (v:= .int .u32 c) (E) (sV (v:= .int .u32 g) (E) (sV (XU (k -1) underlying28 Xz E E (k -1)) ?_)));refine sO (YH E E E Xz (s.ext y) (by exact lq) fun a7 X _ i=> ?_);replace i:Blk a7 f 123 ((Xl (k -1) 0++(c::Q)).map u32):=by rw[← (QmG (by omega) (by omega):(Xl k 0++Q).set (k -1) c=Xl (k -1) 0++(c::Q)),List.map_set];exact i
   refine sAi E (XB (bN (xM U (Xr (sMi E (sV (XQ (((k:Int) -1) -1) E E wI) (sAi E (XB ?_))))))));refine again ((k -1)) Qo ⟨k -1,(c::Q),g,E,E,E,E,cI,cI,h.trans (y.rx X),?_,?_,?_,?_,?_,?_⟩
   ·exact i
   ·omega
   ·simp [hQ];omega
   ·exact Qg0 hQt Qo
   ·omega
   ·exact QoW Qo Qo hv W
  ·refine sV (Zi false E E (dF u)) (sK t (cF E (Xe (xE (xE (bE (xM L (rS fun d4 Y=>sMs E ?_))))))))
   have a8:Xn a5 (fun b=>b=f) (some ⟨f,0,none⟩) a a (Xl k 0++Q):=Xn.of_blk s E (QdI hQt) (by exact lq) Qo (by unfold Yc;omega);refine sO (Xc E Qae (Ya a8) E ?_);rintro _ d5 ⟨j,l,n,A,rfl,Z,o,z,b1⟩;have⟨b2,_,_⟩:=o.lkm;refine sMi E (sAs E (sAi E (sAb E (sK Y (Xt (Qnv (.slice j l n) (.int .u32 rs) (.bool true) results240 (XK E) (XK E) (XK E) ?_))))));exact⟨j,l,n,A,rs,true,E,Frm.mono (((B.trans r).rx h).xr Z) q4,Xn.sub o q5,(by omega),(by rw[z,XX,show k=0 by omega,List.replicate_zero,List.nil_append,←XX da,←a4,←hv,show k=0 by omega,List.drop_zero]),(by omega),(by rw[z];exact XJ _ _),(by omega)⟩
end Go.Proofs.YtnkfdkhjaklolaaGreatDoor
