/-
  Walk of package pseudo: pseudo-division of lists of constants.
-/
import Derived.Test.YtnkfdkhjaklolaaGreatDoorTcr4
import Derived.Test.YtnkfdkhjaklolaaGreatDoorLibC
import Derived.Test.YtnkfdkhjaklolaaGreatDoorFacts
open List renaming length_set→UF,mem_of_getElem?→Ub
open Nat renaming le_refl→Ug
namespace Go.Proofs.YtnkfdkhjaklolaaGreatDoor
open Go.RowKit Go.Gx Tryz
open Go renaming wp_seq_k→Xs,wp_block→Xb,wp_skip→Xk,wp_region_lit→Xr,wp_exit→Xe,wp_ret→Xt
open List renaming replicate→Xl
variable{Al Av:Option Addr}{Sa Sl:Nat→Prop}{cl cv na nv qa:Nat}{la ll lv:List TT}{w:World}
theorem Qe1(hl:Xu TK w (Sl) Al 1 cl ll)(hcn: ∀t∈ll,Yi t)(hnz: ∀t∈ll,t.val≠QbA):Calls prog 82 #[.slice Al 1 cl] w (Ret fun v w'=>v=(.int .i64 (0))∧Ext w w'):=by
 replace hl:=hl.low;refine enter func82 E ntmps82 E (rS fun K1 I=>sAi E (sK I (Xs fun K2 J=>rS fun K3 K=>sMs E (sV (Xw underlying48 E) (sMi E (sK K (Xb (wp_loop_rounds 2 (XN 1 fun K4 L=>rS fun K5 M=>sV (Xq true E E (dT (by decide))) (sK M (Xs fun K6 N=>cT E (Xk (xM N (Xs fun K7 O=>Xb (rS fun K8 P=> ?_)))))))))))))));obtain⟨b9,q,rfl⟩:=hl.base Qo;refine sV (XU 0 underlying48 XC E E (q+(0*4))) ?_;obtain⟨⟨e,f,g,h,j,u,a,c,d,s⟩,n,l,m,_,_⟩:=Xu.get (k:=4) (i:=0) (p:=q+(0*4)) hl Qo E Qo;replace l:XP w _ (q+(0*4)) (Yt e f g h j a c d):=l;replace m:TreeR w (fun b=>b<w.heap.size) (TT.mk e f g h j u a c d s):=m;refine sV (XO (Yt e f g h j a c d) Xy XC E l) (sO (Xj (Yt 0 false none 0 0 none 0 0) Yh E fun U W R x S y=>sO (Xd (Yt e f g h j a c d) E E E XC E y E fun X z T A=> ?_)));refine sK P (rS fun Y B=>sV (Xa (Yt e f g h j a c d) Xy XC E A E) ?_);have r:=x.rx z;have Q:=m.frmB r q3;refine sO (Xc E QhW (ZV (TreeR.sub (S':=(fun b=>b<w.heap.size)) Q q5) (hcn _ (Ub n))) E ?_);rintro _ Z ⟨o,rfl,C,D⟩;obtain rfl:o=false:=by cases o with |false=>rfl|true=>exact absurd (D.1 rfl) (hnz _ (Ub n))
 refine sK B (cF E (Xk (bN (xM O (Xr (sV (XF 1 E E wI) (sMi E (sK L (XN 0 fun a0 _=>rS fun a1 F=>sV (Xq false E E (dF (by decide))) (sK F (Xs fun a2 _=>cF E (Xe (xE (xE (bE (xM J (rS fun a3 G=>sAi E (sK G (Xt (XL (.int .i64 (0)) results82 (XK E) ?_))))))))))))))))))));exact⟨E,Frm.mono (r.xr C) q4⟩
set_option maxHeartbeats 2000000 in
theorem Qi4(Ba:Blk w qa 50 (TK.flat la))(aa:YO TK w (fun b=>Sa b∧b≠qa) la)(ka:la.length=na)(ma:na≤256)(ya:(∀t∈la,Yi t))(hv:Xu TK w (fun b=>b≠qa) Av nv cv lv)(cvn: ∀t∈lv,Yi t)(F:List Int)(G:List Int)(hF:la.map TT.val=F.map kT)(hG:lv.map TT.val=G.map kT)(hGF:1≤G.length∧G.length≤F.length)(C:Nat)(hC:1≤C)(hCG: ∀x∈G,x.natAbs≤C)(hBF:BdF F.length C (F.length -(G.length -1)) (fn F)):Calls prog 279 #[.slice (some ⟨qa,0,none⟩) na na,.slice Av nv cv] w (Ret fun v w'=> ∃(At nt ct Ar nr cr:_)(lr:List TT),v=(.tuple #[.slice At nt ct,.slice Ar nr cr])∧Frm (fun b=>b=qa) w w'∧Xu TK w' (fun _=>True) Ar nr cr lr∧(lr.map TT.val=(QrL F G).map kT)∧(nr=G.length -1)∧(∀t∈lr,Yi t)):=by
 have lta:=Ba.lt;replace aa:=aa.sub (S':=fun b=>b≠qa∧b<w.heap.size) fun _ hb hs=>⟨hs.2,hb⟩;have⟨kv,jv,mv⟩:=hv.lkm;replace hv:=hv.sub (S':=fun b=>b≠qa∧b<w.heap.size) fun _ hb hs=>⟨hs,hb⟩;refine enter func279 E ntmps279 E ?_;have hlF:=Qa9 hF;have hlG:=Qa9 hG;obtain⟨n,hn⟩: ∃n,n=G.length -1:=⟨_,E⟩;obtain⟨s,hs⟩: ∃s,s=F.length -n:=⟨_,E⟩;have hnC:=Qmc (n:=n) hCG (by omega);rw[←hn,←hs] at hBF;refine rS fun K2 x7=>sAs E (sAs E (sK x7 (rS fun K3 x8=>sMs E (sV (Xw underlying48 E) (sV (XQ ((n:Int)) E E (QaZ Qo)) (sAi E (sK x8 (rS fun K4 x9=>sMs E (sV (Xw underlying48 E) (sMi E (sV (XQ ((s:Int)) E E (QaZ Qo)) (sV (Qer ((s:Int)) E E (by split<;>omega)) (sAi E (sK x9 (rS fun K5 y0=>sMi E (sO (Qeb (L:=TK) TT.zero s underlying48 Qfs E cI cI Qo Qo fun M w7 C9 k6 A4 s3=>sAs E (sK y0 (Xs fun D0 s4=>rS fun D1 s5=>sMi E (sMi E (sK s5 (Xb ?_))))))))))))))))))))));refine Ym (fun m e w_=> ∃(i:Nat)(L:Nat)(D:List TT)(T:List TT)(R:Nat→Int),m=s -i∧e 0=(.slice (some ⟨qa,0,none⟩) L na)∧e 1=(.slice Av nv cv)∧e 4=(.slice (some ⟨M,0,none⟩) s s)∧e 6=(.int .i64 n)∧e 7=(.int .i64 s)∧e 22=(.int .i64 s)∧e 23=(.int .i64 i)∧Frm (fun b=>b=qa∨b=M) w7 w_∧Blk w_ qa 50 (TK.flat D)∧Blk w_ M 50 (TK.flat T)∧(YO TK w_ (fun b=>b≠qa∧b≠M) D)∧(∀t∈D,Yi t)∧(D.length=na)∧(T.length=s)∧(VL D L R)∧(rdF n (fn G) (s -i) R=rdF n (fn G) s (fn F))∧(BdF (n+(s -i)) C (s -i) R)∧(L=n+(s -i))∧(i≤s)) (s -(0)) ?_ ?_
 ·refine⟨0,na,la,Xl s TT.zero,fn F,E,E,E,E,E,E,E,cI,Frm.refl _ _,?_,?_,?_,?_,?_,?_,?_,?_,?_,?_,?_⟩
  ·exact(Ba.ext k6)
  ·exact s3
  ·exact YO.sub (aa.ext k6) (fun b h8 h9=>by(try dsimp only at h9⊢);omega)
  ·exact ya
  ·exact ka
  ·exact List.length_replicate
  ·rw[←ka,hlF];exact VL.of hF
  ·rfl
  ·rw[Nat.sub_zero,show n+s=F.length by omega];exact hBF
  ·omega
  ·omega
 ·rintro D3 D4 s1 ⟨i,L,D,T,R,A5,s6,s7,s8,s9,t0,t1,t2,g0,k0,t3,hAD,hDc,hDl,hTl,hDv,hR,hBd,hL,hi⟩
  obtain⟨D5,rfl⟩:=Qu1 s6 s7 s8 s9 t0 t1 t2;have A6:=g0.size;obtain⟨k,hk⟩: ∃k,k=s -1 -i:=⟨_,E⟩;refine rS fun D6 m1=> ?_
  by_cases m2:((i:Int))<((s:Int))
  ·refine sV (Xq true E E (dT m2)) (sK m1 (Xs fun D7 t4=>cT E (Xk (xM t4 (Xs fun D8 t5=>Xb (rS fun D9 t6=>sMi E (sAi E (sK t6 (rS fun E0 t7=>sMi E (sV (XQ (((s -1:Nat):Int)) E E (QaZ Qo)) (sMi E (sV (XQ ((k:Int)) E E (QaZ Qo)) (sAi E (sK t7 (rS fun E1 t8=>sMs E (sMi E (sMi E (sV (XF (((n+k:Nat):Int)) E E (QaZ Qo)) (sV (XU (n+k) underlying48 XC E E ((n+k)*4)) ?_)))))))))))))))))))
   obtain⟨⟨O,P,Q,S,U,k1,z,A,B,g1⟩,c2,g2,g3⟩:=QeF.get (k:=4) (p:=(n+k)*4) k0 hAD (i:=n+k) (by first |omega| exact lq) E Qo;replace g2:XP s1 _ ((n+k)*4) (Yt O P Q S U z A B):=g2;replace g3:TreeR s1 (fun b=>b≠qa∧b≠M) (TT.mk O P Q S U k1 z A B g1):=g3;refine sV (XO (Yt O P Q S U z A B) Xy XC E g2) ?_;have htv:=hDv _ _ Qo c2;have htc:=hDc _ (Ub c2);refine sO (Xj (Yt 0 false none 0 0 none 0 0) Yh E fun s2 E2 A7 m3 A8 t9=>sO (Xd (Yt O P Q S U z A B) E E E XC E t9 E fun E3 m4 A9 m5=> ?_));refine sK t8 (rS fun E4 u0=>sMs E (sMi E (sV (Xa (Yt O P Q S U z A B) Xy XC E m5 E) (sV (XU k underlying48 XC E E (k*4)) ?_))));have m6:=m3.rx m4;have u1:=t3.frm m6 q1;refine sO (QbU (L:=TK) (i:=k) (l:=T) (TT.mk O P Q S U k1 z A B g1) E E E E XC u1 (by exact lq) fun y2 k2 B0 u2=>sK u0 (rS fun E5 u3=>sMs E (sMi E (sMi E (sV (XF (((n+k:Nat):Int)) E E (QaZ Qo)) (sV (YJ (n+k) underlying48 XC E E Qo Qo) (sAs E (sK u3 (rS fun E6 u4=>sMs E (sV (Xw underlying48 E) (sMi E (sK u4 (Xb ?_)))))))))))));have e4:=m6.tr k2;have y3:=hAD.frmB e4 q3;have hBk:BdF (n+k+1) C (k+1) R:=by rw[show n+k+1=n+(s -i) by omega,show k+1=s -i by omega];exact hBd
   have u5:=k0.frm e4 q1;refine Ym (fun m e w_=> ∃(j:Nat)(D2:List TT),m=n+k -j∧e 0=(.slice (some ⟨qa,0,none⟩) (n+k) na)∧e 1=(.slice Av nv cv)∧e 4=(.slice (some ⟨M,0,none⟩) s s)∧e 6=(.int .i64 n)∧e 7=(.int .i64 s)∧e 9=(.int .i64 k)∧e 10=(.pointer (some ⟨s2,0,none⟩))∧e 22=(.int .i64 s)∧e 23=(.int .i64 i)∧e 46=(.int .i64 (((n+k:Nat):Int)))∧e 47=(.int .i64 j)∧Frm (fun b=>b=qa) y2 w_∧Blk w_ qa 50 (TK.flat D2)∧(YO TK w_ (fun b=>b≠qa∧b≠M) D2)∧(∀t∈D2,Yi t)∧(D2.length=na)∧(VL D2 (n+k) (QnJ j (stF n k (fn G) R) R))∧(j≤n+k)) (n+k -(0)) ?_ ?_
   ·refine⟨0,D,E,E,E,E,E,E,E,E,E,E,E,cI,Frm.refl _ _,?_,?_,?_,?_,?_,?_⟩
    ·exact u5
    ·exact y3
    ·exact hDc
    ·exact hDl
    ·exact Qpy (hDv.le Qo)
    ·omega
   ·rintro E7 E8 E9 ⟨j,D2,B1,u6,u7,u8,u9,v0,v1,v2,v3,v4,v5,v6,N,m7,m8,k3,k4,g4,hj⟩
    obtain⟨F0,rfl⟩:=Qqd u6 u7 u8 u9 v0 v1 v2 v3 v4 v5 v6;have z6:=N.size;refine rS fun B2 k7=> ?_
    by_cases k8:((j:Int))<(((n+k:Nat):Int))
    ·refine sV (Xq true E E (dT k8)) (sK k7 (Xs fun B3 p0=>cT E (Xk (xM p0 (Xs fun B4 k9=>Xb (rS fun B5 p1=>sMi E (sAi E (sK p1 (Xs fun B6 p2=>XA (fun b=>b=qa) mixed fun g5 I z7=>dMs 0 E E (dMi 1 E E (dMs 2 E E (dMi 3 E E (dV 4 E (fun _ _=>XU j underlying48 XC E E (j*4)) (dMs 6 E E (dMi 7 E E ?_)))))))))))))))
     have k5:=hv.frmB ((((((k6.rx g0).xr m3).tr m4).tr k2).tr N).xr I) q3;obtain⟨v7,Z,rfl⟩:=k5.base Qo;refine dV 8 E (fun _ _=>XU n underlying48 XC E E (Z+(n*4))) ?_;obtain⟨⟨c3,c4,c5,c6,c7,l0,a0,a1,a2,i1⟩,i2,e5,g7,m9,n0⟩:=Xu.get (k:=4) (i:=n) (p:=Z+(n*4)) k5 Qo E Qo;replace e5:XP g5 _ (Z+(n*4)) (Yt c3 c4 c5 c6 c7 a0 a1 a2):=e5;replace g7:TreeR g5 (fun b=>b≠qa∧b<w.heap.size) (TT.mk c3 c4 c5 c6 c7 l0 a0 a1 a2 i1):=g7;have m0:(TT.mk c3 c4 c5 c6 c7 l0 a0 a1 a2 i1).val=kT (fn G n):=(QdO hG i2).1;refine dV 9 E (fun _ hf=>XO (Yt c3 c4 c5 c6 c7 a0 a1 a2) Xy XC E (e5.frm hf n0 (by(try dsimp only at m9⊢);omega))) ?_;have l1:=m7.ext I;have n1:=m8.ext I;obtain⟨⟨c8,c9,d0,d1,d2,p3,a3,a4,a5,n2⟩,i3,e6,g8⟩:=QeF.get (k:=4) (p:=j*4) l1 n1 (i:=j) (by first |omega| exact lq) E Qo;replace e6:XP g5 _ (j*4) (Yt c8 c9 d0 d1 d2 a3 a4 a5):=e6;replace g8:TreeR g5 (fun b=>b≠qa∧b≠M) (TT.mk c8 c9 d0 d1 d2 p3 a3 a4 a5 n2):=g8;refine dOk 5 E E (oEv (v:=Zt c8 c9 d0 d1 d2 a3 a4 a5) (XO (Yt c8 c9 d0 d1 d2 a3 a4 a5) Xy XC E e6) E ⟨Frm.refl _ _,dOk 10 E E (Xc E Qgy (QbN (TreeR.sub (S':=(fun b=>b≠qa∧b≠M)) g8 q5) (k3 _ (Ub i3)) (TreeR.sub (S':=(fun b=>b≠qa∧b<w.heap.size)) g7 q5) (cvn _ (Ub i2)) _ _ (Qwq g4 Qo i3) m0 (by have h9:=hBk.mul1 hC (show j<n+k+1 by omega) (hnC n (Ug _));omega)) E ?_)⟩);rintro _ B7 ⟨h,o,q,r,u,y,a,c,d,f,rfl,g,n3,n4,p4⟩;refine⟨Frm.of_ext g,?_⟩;have z8:=g.size;refine dV 11 E (fun _ _=>XU j underlying48 XC E E (j*4)) ?_;refine dOk 12 E E (QbU (L:=TK) (i:=j) (l:=D2) (TT.mk h o q r u y a c d f) E E E E XC (l1.ext g) (by exact lq) fun v8 J z9 g9=>⟨J,XG (by kernel_rfl) (xM p2 (Xs fun B8 l2=> ?_))⟩);have v9:=n3.frmB J q3;have n5:(TT.mk h o q r u y a c d f).val=kT (R j*fn G n):=p4;have l3:=g.rx J;have w0:=n1.frmB l3 q3;have a6:=YO.set (i:=j) w0 (TreeR.sub v9 q5);have a7:=Qdc (i:=j) k3 n4;refine Xr (sMi E (sMi E ?_))
     by_cases l4:((j:Int))≥((k:Int))
     ·refine sV (Zi true E E (dT l4)) ?_
      have hge:k≤j:=by omega
      refine sK l2 (cT E ?_);have p5:=m5.frm ((((k2.tr N).xr I).xr g).tr J) q1;refine Qqs (dfs:=[]) (n:=85) (fun e w_=> ∃(rt:TT),e 0=(.slice (some ⟨qa,0,none⟩) (n+k) na)∧e 1=(.slice (some ⟨v7,Z,none⟩) nv cv)∧e 4=(.slice (some ⟨M,0,none⟩) s s)∧e 6=(.int .i64 n)∧e 7=(.int .i64 s)∧e 9=(.int .i64 k)∧e 10=(.pointer (some ⟨s2,0,none⟩))∧e 22=(.int .i64 s)∧e 23=(.int .i64 i)∧e 46=(.int .i64 (((n+k:Nat):Int)))∧e 47=(.int .i64 j)∧Frm (fun b=>b=qa) v8 w_∧Blk w_ qa 50 (TK.flat ((D2.set j (TT.mk h o q r u y a c d f)).set j rt))∧(TreeR w_ (fun b=>b≠qa∧b≠M) rt)∧(Yi rt)∧(rt.val=kT (R j*fn G n -R (n+k)*fn G (j -k)))) ?_ ?_
      ·refine XA (fun b=>b=qa) mixed (fun c1 K A0=>dMs 0 E E (dMi 1 E E (dMs 2 E E (dMi 3 E E (dV 4 E (fun _ _=>XU j underlying48 XC E E (j*4)) ?_)))))
       refine dV 6 E (fun _ hf=>Xa (Yt O P Q S U z A B) Xy XC E ((p5.ext K).frm hf q1) E) (dMs 7 E E (dMi 8 E E (dMi 9 E E (dV 10 E (fun _ _=>XQ (((j -k:Nat):Int)) E E (QaZ Qo)) (dV 11 E (fun _ _=>XU (j -k) underlying48 XC E E (Z+((j -k)*4))) ?_)))));have w1:=k5.frmB (l3.xr K) q3;obtain⟨⟨d3,d4,d5,d6,d7,l5,a8,a9,b0,i4⟩,e7,e8,d8,n6,n7⟩:=Xu.get (k:=4) (i:=j -k) (p:=Z+((j -k)*4)) w1 Qo E Qo;replace e8:XP c1 _ (Z+((j -k)*4)) (Yt d3 d4 d5 d6 d7 a8 a9 b0):=e8;replace d8:TreeR c1 (fun b=>b≠qa∧b<w.heap.size) (TT.mk d3 d4 d5 d6 d7 l5 a8 a9 b0 i4):=d8;have f1:(TT.mk d3 d4 d5 d6 d7 l5 a8 a9 b0 i4).val=kT (fn G (j -k)):=(QdO hG e7).1;refine dV 12 E (fun _ hf=>XO (Yt d3 d4 d5 d6 d7 a8 a9 b0) Xy XC E (e8.frm hf n7 (by(try dsimp only at n6⊢);omega))) (QdN 5 13 (by kernel_rfl) ?_ ?_)
       ·have l6:=g9.ext K
        obtain⟨⟨b1,b2,b3,b4,b5,l7,W,X,Y,i5⟩,i6,e9,h0⟩:=QeF.get (k:=4) (p:=j*4) l6 (a6.ext K) (i:=j) (by first |omega| exact lq) E Qo;replace e9:XP c1 _ (j*4) (Yt b1 b2 b3 b4 b5 W X Y):=e9;replace h0:TreeR c1 (fun b=>b≠qa∧b≠M) (TT.mk b1 b2 b3 b4 b5 l7 W X Y i5):=h0;refine dWp (i:=5) E E (oEv (v:=Zt b1 b2 b3 b4 b5 W X Y) (XO (Yt b1 b2 b3 b4 b5 W X Y) Xy XC E e9) E ⟨Frm.refl _ _,?_⟩);have w2:=g3.frmB (((((e4.tr N).xr I).xr g).tr J).xr K) q3;refine dOk 13 E E (Xc E Qgy (QbN (TreeR.sub (S':=(fun b=>b≠qa∧b≠M)) w2 q5) (hDc _ (Ub c2)) (TreeR.sub (S':=(fun b=>b≠qa∧b<w.heap.size)) d8 q5) (cvn _ (Ub e7)) _ _ htv f1 (by have h9:=hBk.mul1 hC (show n+k<n+k+1 by omega) (hnC (j -k) Qo);omega)) E ?_);rintro _ w3 ⟨y4,y5,y6,y7,y8,y9,w9,x0,x1,x2,rfl,b6,n8,n9,p6⟩;refine⟨Frm.of_ext b6,?_⟩;have A1:=b6.size;refine dOk 14 E E (Xc E Qn2 (Qhi (show TreeR w3 (fun b=>b≠qa∧b≠M) (TT.mk b1 b2 b3 b4 b5 l7 W X Y i5) from(TreeR.sub (h0.ext b6) q5)) (a7 _ (Ub i6)) (TreeR.sub (S':=(fun b=>c1.heap.size≤b)) n8 q5) n9 _ _ (by rw[QsS i6];exact n5) p6 (by have h9:=hBk.mul1 hC (show n+k<n+k+1 by omega) (hnC (j -k) (by omega));omega) (by have h8:=hBk.mul1 hC (show j<n+k+1 by omega) (hnC n (Ug _));have h9:=hBk.mul1 hC (show n+k<n+k+1 by omega) (hnC (j -k) (by omega));omega)) E ?_);rintro _ B9 ⟨i7,i8,i9,j0,j1,j2,f2,f3,f4,f5,rfl,h1,o0,o1,p7⟩;refine⟨Frm.of_ext h1,?_⟩;refine dV 15 E (fun _ _=>XU j underlying48 XC E E (j*4)) ?_;refine dOk 16 E E (QbU (L:=TK) (i:=j) (l:=(D2).set j (TT.mk h o q r u y a c d f)) (TT.mk i7 i8 i9 j0 j1 j2 f2 f3 f4 f5) E E E E XC (l6.ext (b6.trans h1)) (by exact lq) fun C0 h2 _ p8=>⟨h2,XG (by kernel_rfl) ?_⟩);have w4:=o0.frmB h2 q3;exact⟨E,_,E,(TT.mk i7 i8 i9 j0 j1 j2 f2 f3 f4 f5),E,E,E,E,E,E,E,E,E,E,E,Frm.mono (((K.trans b6).trans h1).rx h2) q4,p8,(TreeR.sub w4 q5),o1,p7⟩
       ·have w5:=g3.frmB (((((e4.tr N).xr I).xr g).tr J).xr K) q3
        refine dWp (i:=13) E E (Xc E Qgy (QbN (TreeR.sub (S':=(fun b=>b≠qa∧b≠M)) w5 q5) (hDc _ (Ub c2)) (TreeR.sub (S':=(fun b=>b≠qa∧b<w.heap.size)) d8 q5) (cvn _ (Ub e7)) _ _ htv f1 (by have h9:=hBk.mul1 hC (show n+k<n+k+1 by omega) (hnC (j -k) Qo);omega)) E ?_);rintro _ o2 ⟨z0,z1,z2,z3,z4,z5,x3,x4,x5,x6,rfl,h3,o3,o4,p9⟩;refine⟨Frm.of_ext h3,?_⟩;have A2:=h3.size;have h4:=K.trans h3;have l8:=g9.ext h4;obtain⟨⟨d9,e0,e1,e2,e3,q0,b7,b8,b9,o5⟩,j3,f0,h5⟩:=QeF.get (k:=4) (p:=j*4) l8 (a6.ext h4) (i:=j) (by first |omega| exact lq) E Qo;replace f0:XP o2 _ (j*4) (Yt d9 e0 e1 e2 e3 b7 b8 b9):=f0;replace h5:TreeR o2 (fun b=>b≠qa∧b≠M) (TT.mk d9 e0 e1 e2 e3 q0 b7 b8 b9 o5):=h5;refine dOk 5 E E (oEv (v:=Zt d9 e0 e1 e2 e3 b7 b8 b9) (XO (Yt d9 e0 e1 e2 e3 b7 b8 b9) Xy XC E f0) E ⟨Frm.refl _ _,dOk 14 E E (Xc E Qn2 (Qhi (TreeR.sub (S':=(fun b=>b≠qa∧b≠M)) h5 q5) (a7 _ (Ub j3)) (TreeR.sub (S':=(fun b=>c1.heap.size≤b)) o3 q5) o4 _ _ (by rw[QsS j3];exact n5) p9 (by have h9:=hBk.mul1 hC (show n+k<n+k+1 by omega) (hnC (j -k) (by omega));omega) (by have h8:=hBk.mul1 hC (show j<n+k+1 by omega) (hnC n (Ug _));have h9:=hBk.mul1 hC (show n+k<n+k+1 by omega) (hnC (j -k) (by omega));omega)) E ?_)⟩);rintro _ C1 ⟨j4,j5,j6,j7,j8,j9,f6,f7,f8,f9,rfl,h6,o6,o7,q2⟩;refine⟨Frm.of_ext h6,?_⟩;refine dV 15 E (fun _ _=>XU j underlying48 XC E E (j*4)) ?_;refine dOk 16 E E (QbU (L:=TK) (i:=j) (l:=(D2).set j (TT.mk h o q r u y a c d f)) (TT.mk j4 j5 j6 j7 j8 j9 f6 f7 f8 f9) E E E E XC (l8.ext h6) (by exact lq) fun C2 h7 _ q6=>⟨h7,XG (by kernel_rfl) ?_⟩);have w6:=o6.frmB h7 q3;exact⟨E,_,E,(TT.mk j4 j5 j6 j7 j8 j9 f6 f7 f8 f9),E,E,E,E,E,E,E,E,E,E,E,Frm.mono ((h4.trans h6).rx h7) q4,q6,(TreeR.sub w6 q5),o7,q2⟩
      ·rintro C3 C4 ⟨rt,q7,q8,q9,r0,r1,r2,r3,r4,r5,r6,r7,l9,r8,hRt,hRc,hRv⟩
       obtain⟨C5,rfl⟩:=Qqd q7 q8 q9 r0 r1 r2 r3 r4 r5 r6 r7;have w8:=a6.frmB l9 q3;have o8:=YO.set (i:=j) w8 hRt;have o9:=Qdc (i:=j) a7 hRc;refine bN (xM k9 (Xr (sV (XF (((j:Int))+1) E E wI) (sMi E (XB ?_)))));refine again (n+k -(j+1)) Qo ⟨j+1,(D2.set j (TT.mk h o q r u y a c d f)).set j rt,E,E,E,E,E,E,E,E,E,E,E,cI,N.trans (((I.trans g).rx J).trans l9),?_,?_,?_,?_,?_,?_⟩
       ·exact r8
       ·exact o8
       ·exact o9
       ·rw[UF,UF];exact k4
       ·exact Qro g4 (hRv.trans (congrArg kT (QwI hge)))
       ·omega
     ·refine sV (Zi false E E (dF l4)) (sK l2 (cF E (Xk (bN (xM k9 (Xr (sV (XF (((j:Int))+1) E E wI) (sMi E (XB ?_)))))))))
      refine again (n+k -(j+1)) Qo ⟨j+1,(D2).set j (TT.mk h o q r u y a c d f),E,E,E,E,E,E,E,E,E,E,E,cI,N.trans ((I.trans g).rx J),?_,?_,?_,?_,?_,?_⟩
      ·exact g9
      ·exact a6
      ·exact a7
      ·rw[UF];exact k4
      ·exact Qmp g4 (n5.trans (congrArg kT (QwJ Qo)))
      ·omega
    ·refine sV (Xq false E E (dF k8)) (sK k7 (Xs fun C6 _=>cF E (Xe (xE (xE (bE (bN (xM t5 (Xr (sV (XF (((i:Int))+1) E E wI) (sMi E (XB ?_))))))))))))
     have r9:=u2.frm N q1;refine again (s -(i+1)) Qo ⟨i+1,n+k,D2,(T).set k (TT.mk O P Q S U k1 z A B g1),stF n k (fn G) R,E,E,E,E,E,E,E,cI,Frm.mono (g0.tr (e4.tr N)) q4,?_,?_,?_,?_,?_,?_,?_,?_,?_,?_,?_⟩
     ·exact m7
     ·exact r9
     ·exact m8
     ·exact k3
     ·exact k4
     ·rw[UF];exact hTl
     ·exact QuD g4 Qo
     ·rw[←hR,show s -i=k+1 by omega,show s -(i+1)=k by omega];rfl
     ·rw[show s -(i+1)=k by omega];exact BdF.next (by rw[show n+k+1=n+(s -i) by omega,show k+1=s -i by omega];exact hBd) hC hnC
     ·omega
     ·omega
  ·refine sV (Xq false E E (dF m2)) (sK m1 (Xs fun C7 _=>cF E (Xe (xE (xE (bE (xM s4 (rS fun C8 s0=>sMs E (sMs E (sAs E (sAs E (sK s0 (Xt (Qbl (.slice (some ⟨M,0,none⟩) s s) (.slice (some ⟨qa,0,none⟩) L na) results279 (XK E) (XK E) ?_))))))))))))))
   have hse:i=s:=(by omega);have hfl:=(YO.list (S':=fun _=>True) hAD k0 (fun _ _ _=>trivial) trivial hDl (by unfold Yc;omega)).take (m:=L) (by omega);rw[hse,Nat.sub_self] at hR;have hLn:L=n:=by omega
   exact⟨some ⟨M,0,none⟩,s,s,some ⟨qa,0,none⟩,L,na,D.take L,E,Frm.mono (k6.rx g0) q4,hfl,(by rw[hDv.out (by omega),QrL,←hn,←hs,←hR,hLn];rfl),(by omega),fun t ht=>hDc t (List.mem_of_mem_take ht)⟩
end Go.Proofs.YtnkfdkhjaklolaaGreatDoor
