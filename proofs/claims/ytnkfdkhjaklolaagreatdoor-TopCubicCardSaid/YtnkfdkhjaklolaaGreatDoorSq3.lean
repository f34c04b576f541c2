/-
  Walk of package unidiv: pseudo-division.
-/
import Derived.Test.YtnkfdkhjaklolaaGreatDoorUni6
import Derived.Test.YtnkfdkhjaklolaaGreatDoorLibB
open List renaming getElem?_set_self→Qyz,length_cons→Um,length_nil→Uv,length_set→UF,mem_of_getElem?→Ub
open Nat renaming le_refl→Ug
namespace Go.Proofs.YtnkfdkhjaklolaaGreatDoor
open Go.RowKit Go.Gx Tryz
open Go renaming wp_seq_k→Xs,wp_skip→Xk,wp_ret→Xt,wp_block→Xb,wp_region_lit→Xr,wp_exit→Xe
open List renaming replicate→Xl
variable{Af Ag:Option Addr}{Mf Mg cf cg nf ng:Nat}{Sf Sg:Nat→Prop}{lf lg:List RI}{w:World}
set_option maxHeartbeats 4000000 in
theorem Qfd(hf:Xh w Sf Af nf cf lf Mf)(hg:Xh w Sg Ag ng cg lg Mg)(hnf:nf≤128)(hMf:Mf≤4194304)(hng:ng≤64)(hMg:Mg≤4194304)(hg0:ldP (zs lg)≠0):Calls prog 144 #[.slice Af nf cf,.slice Ag ng cg] w (Ret fun v w'=> ∃Aq nq cq lq Ar nr cr lr xe,v=(.tuple #[.slice Aq nq cq,.slice Ar nr cr,.int .i64 (xe)])∧Ext w w'∧Xh w' (fun b=>w.heap.size≤b) Aq nq cq lq (psM Mf Mg ((Xi (zs lf)).length -((Xi (zs lg)).length -1)))∧Xh w' (fun b=>w.heap.size≤b) Ar nr cr lr (psM Mf Mg ((Xi (zs lf)).length -((Xi (zs lg)).length -1)))∧(xe=0)∧(∀x:Rat,evQ (zs lf) x*((ldP (zs lg):Int):Rat)^ ((Xi (zs lf)).length -((Xi (zs lg)).length -1))=evQ (zs lq) x*evQ (zs lg) x+evQ (zs lr) x)∧(nr+1≤(Xi (zs lg)).length)∧(Xi (zs lr)=zs lr)∧(nq≤nf)∧(nr≤nf)):=by
 have⟨kf,jf,mf⟩:=hf.lkm;replace hf:=hf.low;have⟨kg,jg,mg⟩:=hg.lkm;replace hg:=hg.low;refine enter func144 E ntmps144 E (rS fun K1 B3=>sAs E (sAs E (sAi E (sK B3 (rS fun K2 B4=>sMs E (sO (Xc E QaI (XW hg Qo Qo) E ?_)))))));rintro _ w4 ⟨v6,rfl,h1,N3⟩;have N4:=h1.size;obtain⟨d,hd⟩:=QeP hg0;obtain rfl:v6=(d:Int):=by omega
 have⟨hdL,hdz,_⟩:=Qpo hd;have hdn:d+1≤ng:=by have h:=Qbf (zs lg);rw[Za] at h;omega
 refine sAi E (sK B4 (Xs fun K7 B5=>rS fun K8 B6=>sMi E (sV (Xq false E E (dF Qo)) (sK B6 (cF E (Xk (xM B5 (rS fun K9 B7=>sMs E ?_))))))));refine sO (Xc E Qdb (YF (hf.ext h1) Qo Qo) E ?_);rintro _ l5 ⟨g,a,d1,rfl,l6,B8,d2,l7,F4,F5,d3,F6,_⟩;have B9:=d2.lt;have u7:=l7.sub (S':=fun b=>(g<b)∧b<l5.heap.size) fun _ hb hs=>⟨hs,hb⟩;have hFl:(Xi (zs lf)).length=a:=by rw[←d3,Za];omega
 refine sAs E (sK B7 (Xs fun N5 v7=>rS fun N6 l8=>sMs E (sV (Xw underlying25 E) (sMi E ?_))))
 by_cases l9:((a:Int))≤((d:Int))
 ·refine sV (QaM true E E (dT l9)) (sK l8 (cT E (rS fun N7 v8=>sMs E (sAs E (sAs E (sAi E (sK v8 (Xt (xR (Qnv (.slice none 0 0) (.slice (some ⟨g,0,none⟩) a a) (.int .i64 (0)) results144 (XK E) (XK E) (XK E) ?_))))))))))
  have hBE:Mf≤psM Mf Mg ((Xi (zs lf)).length -((Xi (zs lg)).length -1)):=Nat.le_add_right _ _;have C0:Xh l5 (fun b=>g≤b) (some ⟨g,0,none⟩) a a (d1) ((Mf)):=Xh.of_blk d2 (YC.sub u7 q5) (by(try dsimp only);omega) (by exact lq) (by omega) (by unfold Yc;omega);exact⟨none,0,0,[],some ⟨g,0,none⟩,a,a,d1,0,E,h1.trans l6,Xh.nil,Xh.le (Xh.sub C0 q5) (by omega),E,(by intro x;rw[hFl,hd,show a -(d+1 -1)=0 by omega,d3,Qat];simp [evQ];grind),(by omega),(by rw[d3];exact XJ Qa6 _),(by omega),(by omega)⟩
 ·refine sV (QaM false E E (dF l9)) (sK l8 (cF E (Xk (xM v7 (rS fun N8 v9=>sMs E ?_)))))
  have m0:=h1.trans l6;have u8:=hg.ext m0;refine sO (Xc E QcU (YR u8 Qo Qo) E ?_);rintro _ C1 ⟨b5,d4,d5,d6,p3,rfl,g6,h2,w0,_,F7⟩;have I1:=g6.size;have⟨F8,_,_⟩:=h2.lkm;have u9:=h2.sub (S':=fun b=>(l5.heap.size≤b)∧b<C1.heap.size) fun _ hb hs=>⟨hs,hb⟩;have hLd:Xx b5 p3=ldP (zs lg):=w0;refine sO (Xj (Yb false none 0 0) XE E fun W N9 I2 d7 I3 w1=>sO (Xd (Yb b5 d4 d5 d6) E E E Xp E w1 E fun O0 d8 I4 m1=> ?_));refine sK v9 (rS fun O1 w2=>sMs E (sV (Xw underlying25 E) (sMi E (sV (XQ (((a:Int)) -((d:Int))) E E wI) (sO (Qea (a -d) underlying25 QgT cI cI Qo Qo fun q v0 I5 b2 I6 w3=> ?_))))));have w5:Blk v0 q 30 (Ye (Xl (a -d) RI.zero)):=w3;refine sAs E (sK w2 (Xs fun O2 w6=>rS fun O3 w7=>sMs E (sV (Xw underlying25 E) (sV (XQ (((a:Int)) -1) E E wI) (sAi E (sK w7 (Xb ?_)))))));have g7:=((g6.trans d7).rx d8).xr b2;have w8:=d2.frm g7 q1;have C2:=u7.frmB g7 q3;refine Ym (fun m e w_=> ∃(t:Nat)(LR:List RI)(LQ:List RI)(B:Nat),m=t∧e 1=(.slice Ag ng cg)∧e 4=(.slice (some ⟨q,0,none⟩) (a -d) (a -d))∧e 5=(.slice (some ⟨g,0,none⟩) t a)∧e 7=(.int .i64 d)∧e 8=(.pointer (some ⟨W,0,none⟩))∧e 9=(.int .i64 ((t:Int) -1))∧Frm (fun b=>b=g∨b=q) v0 w_∧Blk w_ g 30 (Ye LR)∧Blk w_ q 30 (Ye LQ)∧(d≤t∧t≤a)∧(B+(Mg+6)*t≤Mf+(Mg+6)*a)∧(LR.length=a)∧(LQ.length=a -d)∧(YC w_ (fun b=>w.heap.size≤b∧b≠g∧b≠q∧b≠W) (B) LR)∧(YC w_ (fun b=>w.heap.size≤b∧b≠g∧b≠q∧b≠W) (B) LQ)∧(∀i,i<t -d→co (zs LQ) i=0)∧(∀x:Rat,evQ (zs lf) x*((ldP (zs lg):Int):Rat)^ (a -t)=evQ (zs LQ) x*evQ (zs lg) x+evQ ((zs LR).take t) x)) ((a)) ?_ ?_
  ·refine⟨a,d1,Xl (a -d) RI.zero,Mf,E,E,E,E,E,E,cI,Frm.refl _ _,?_,?_,?_,?_,?_,?_,?_,?_,?_,?_⟩
   ·exact w8
   ·exact w5
   ·omega
   ·exact Ug _
   ·omega
   ·simp
   ·exact YC.le (YC.sub C2 q5) Qo
   ·exact YC.zeros _
   ·intro i _;exact Qiz _ i
   ·intro x;rw[Nat.sub_self,Qj5,List.take_of_length_le (by rw[Za];omega),d3,Qat];simp;grind
  ·rintro O4 O5 m2 ⟨t,LR,LQ,B,I7,w9,x0,x6,x7,x8,x9,X,g8,m3,ht,hB,hLR,hLQ,hAR,hAQ,m4,hI⟩
   obtain⟨O6,rfl⟩:=Qid w9 x0 x6 x7 x8 x9;have I8:=X.size;have hBK:(Mg+6)*a≤(Mg+6)*128:=Nat.mul_le_mul_left _ Qo;refine Xs fun O7 y0=>rS fun O8 m5=>sMi E (sMi E ?_)
   by_cases m6:((t:Int) -1)≥((d:Int))
   ·refine sV (Zi true E E (dT m6)) (sK m5 (cT E (Xk (xM y0 (Xs fun O9 y1=>Xb (Xs fun P0 y2=> ?_))))))
    obtain⟨low,hlow⟩: ∃low,t=low+d+1:=⟨t -1 -d,by omega⟩;refine Xr (sMi E (sMi E (sV (XQ ((low:Int)) E E (QaZ Qo)) (sAi E (sK y2 (Xs fun P1 y3=> ?_))))));have v1:=hAR.sub (S':=fun b=>(w.heap.size≤b∧b≠g∧b≠q∧b≠W)∧b<m2.heap.size) fun _ hb hs=>⟨hs,hb⟩;have C3:=hAQ.sub (S':=fun b=>(w.heap.size≤b∧b≠g∧b≠q∧b≠W)∧b<m2.heap.size) fun _ hb hs=>⟨hs,hb⟩;refine Xr (sMs E (sMi E (sV (XU (t -1) underlying25 Xp E E ((t -1)*2)) ?_)));obtain⟨G,Y,Z,a0,c4,p4,p5,p6,y4⟩:=g8.int (i:=t -1) (by exact lq);have h3:=v1 _ (Ub p4)
    dsimp only at h3
    have m7:=h3.1;have⟨I9,_,_⟩:=m7.lkm;refine sV (XO (Yb G Y Z a0) Xo Xp E (Qcj p5 p6)) ?_;have hfa:=y4;refine sO (Xj (Yb false none 0 0) XE E fun d0 P2 J0 b3 J1 y5=>sO (Xd (Yb G Y Z a0) E E E Xp E y5 E fun C4 b4 J2 y6=> ?_));refine sK y3 (Xs fun P3 y7=>rS fun P4 y8=>sMi E (sV (XF (((low:Int))+1) E E wI) (sAi E (sK y8 (Xb ?_)))));have g9:=b3.rx b4;have y9:=m3.frm g9 q1;have m8:=C3.frmB g9 q3;refine Ym (fun m e w_=> ∃(j:Nat)(L1:List RI),m=a -d -j∧e 1=(.slice Ag ng cg)∧e 4=(.slice (some ⟨q,0,none⟩) (a -d) (a -d))∧e 5=(.slice (some ⟨g,0,none⟩) t a)∧e 7=(.int .i64 d)∧e 8=(.pointer (some ⟨W,0,none⟩))∧e 9=(.int .i64 ((t:Int) -1))∧e 10=(.int .i64 low)∧e 11=(.pointer (some ⟨d0,0,none⟩))∧e 12=(.int .i64 j)∧Frm (fun b=>b=q) C4 w_∧Blk w_ q 30 (Ye L1)∧(low+1≤j∧j≤a -d)∧(L1.length=a -d)∧(YC w_ (fun b=>w.heap.size≤b∧b≠g∧b≠q∧b≠W∧b≠d0) (B+Mg+4) L1)∧(∀i r,j≤i→L1[i]? =some r→r.n≤B)∧(∀i,co (zs L1) i=if i<j then co (zs LQ) i*ldP (zs lg) else co (zs LQ) i)) (a -d -(low+1)) ?_ ?_
    ·refine⟨low+1,LQ,E,E,E,E,E,E,E,E,E,cI,Frm.refl _ _,?_,?_,?_,?_,?_,?_⟩
     ·exact y9
     ·omega
     ·exact hLQ
     ·exact YC.le (YC.sub m8 q5) Qo
     ·exact fun i r _ hr=>(m8 r (Ub hr)).2
     ·exact Qnk fun i hi=>m4 i Qo
    ·rintro P5 J3 J4 ⟨j,L1,F9,p7,p8,p9,q0,q2,q6,q7,q8,q9,D,h4,hj,v2,v3,v4,m9⟩
     obtain⟨J5,rfl⟩:=QxQ p7 p8 p9 q0 q2 q6 q7 q8 q9;have G0:=D.size;refine Xs fun J6 r0=>rS fun J7 h5=>sMi E (sMs E (sV (Xw underlying25 E) ?_))
     by_cases h6:((j:Int))<(((a -d:Nat):Int))
     ·refine sV (Xq true E E (dT h6)) (sK h5 (cT E (Xk (xM r0 (Xs fun J8 r1=>Xb (XA (fun b=>b=q) mixed fun J9 a5 G1=>dMs 0 E E (dMi 1 E E (dMs 2 E E (dMi 3 E E (dV 4 E (fun _ _=>XU j underlying25 Xp E E (j*2)) ?_))))))))))
      have r2:=m1.frm (((((b2.rx X).xr b3).tr b4).tr D).xr a5) q1;refine dV 6 E (fun _ hf=>Xa (Yb b5 d4 d5 d6) Xo Xp E (r2.frm hf q1) E) ?_;have h7:=h4.ext a5;have n0:=v3.ext a5;obtain⟨h8,h9,i0,i1,G2,e8,n1,n2,r3⟩:=h7.int (i:=j) (by exact lq);have e9:=n0 _ (Ub e8)
      dsimp only at e9
      have i2:=e9.1;have⟨G3,_,_⟩:=i2.lkm;refine dOk 5 E E (oEv (v:=Zb h8 h9 i0 i1) (XO (Yb h8 h9 i0 i1) Xo Xp E (Qcj n1 n2)) E ⟨Frm.refl _ _,?_⟩);have C5:=v4 j _ (Ug _) e8
      dsimp only at C5
      have z0:=u9.frmB (((((((d7.rx d8).xr b2).tr X).xr b3).tr b4).tr D).xr a5) q3;refine dOk 7 E E (Xc E Zg (XM i2 z0 Qo) E ?_);rintro _ K0 ⟨c6,c7,c8,c9,f0,rfl,b6,f1,r4,_,C6⟩;refine⟨Frm.of_ext b6,?_⟩;have⟨C7,_,_⟩:=f1.lkm;refine dV 8 E (fun _ _=>XU j underlying25 Xp E E (j*2)) ?_;refine dOk 9 E E (YK (Yb c6 c7 c8 c9) E E E Xp E (h7.ext b6) (by rw[Yo];simp only[Um,Uv];exact lq) fun K3 b7 _ d9=> ?_);replace d9:=(YD (l:=L1) (i:=j) ⟨c6,c7,c8,c9,f0⟩ (by exact lq))▸d9;refine⟨b7,XG (by kernel_rfl) (bN (xM r1 (Xr (sMi E (sV (XF (((j:Int))+1) E E wI) (sAi E (XB ?_)))))))⟩;have z1:=n0.frmB (b6.rx b7) q3;have z2:=f1.frmB b7 q3;refine again (a -d -(j+1)) Qo ⟨j+1,(L1).set j ⟨c6,c7,c8,c9,f0⟩,E,E,E,E,E,E,E,E,E,cI,D.trans ((a5.trans b6).rx b7),?_,?_,?_,?_,?_,?_⟩
      ·exact d9
      ·omega
      ·rw[UF];exact v2
      ·exact YC.set z1 (Xn.sub z2 q5) (by(try dsimp only);omega)
      ·exact QbS v4
      ·rw[QcB];exact QpC m9 (by rw[Za];omega) (by show Xx _ _=_;rw[r4,r3,hLd])
     ·refine sV (Xq false E E (dF h6)) (sK h5 (cF E (Xe (xE (xE (bE (xM y7 (rS fun K4 r5=>sMs E (sMi E ?_)))))))))
      have i3:=y6.frm D q1;refine sV (Xa (Yb G Y Z a0) Xo Xp E i3 E) (sV (XU low underlying25 Xp E E (low*2)) (sO (YK (Yb G Y Z a0) E E E Xp E h4 (by rw[Yo];simp only[Um,Uv];exact lq) fun n3 a3 G4 e0=> ?_)));replace e0:=(YD (l:=L1) (i:=low) ⟨G,Y,Z,a0,c4⟩ (by exact lq))▸e0;refine sK r5 (Xs fun K5 r6=> ?_);have z3:=v3.frmB a3 q3;have b8:=(g9.tr D).tr a3;have h0:=m7.frmB b8 q3;have n4:YC n3 (fun b=>w.heap.size≤b∧b≠g∧b≠q∧b≠W∧b≠d0) (B+Mg+4) (L1.set low ⟨G,Y,Z,a0,c4⟩):=YC.set z3 (Xn.sub h0 q5) (by(try dsimp only);omega);refine Xr (sMs E (sMi E (sV (YJ (t -1) underlying25 Xp E E Qo Qo) (sAs E (sK r6 (rS fun K6 r7=>sMs E (sV (Xw underlying25 E) (sMi E (sK r7 (Xb ?_))))))))));have r8:=g8.frm b8 q1;have n5:=v1.frmB b8 q3;refine Ym (fun m e w_=> ∃(j:Nat)(I:List RI),m=t -1 -j∧e 1=(.slice Ag ng cg)∧e 4=(.slice (some ⟨q,0,none⟩) (a -d) (a -d))∧e 5=(.slice (some ⟨g,0,none⟩) (t -1) a)∧e 7=(.int .i64 d)∧e 8=(.pointer (some ⟨W,0,none⟩))∧e 9=(.int .i64 ((t:Int) -1))∧e 10=(.int .i64 low)∧e 11=(.pointer (some ⟨d0,0,none⟩))∧e 72=(.int .i64 (((t -1:Nat):Int)))∧e 73=(.int .i64 j)∧Frm (fun b=>b=g) n3 w_∧Blk w_ g 30 (Ye I)∧(j≤t -1)∧(I.length=a)∧(YC w_ (fun b=>w.heap.size≤b∧b≠g∧b≠q∧b≠W∧b≠d0) (B+Mg+4) I)∧(∀i r,j≤i→I[i]? =some r→r.n≤B)∧(∀i,co (zs I) i=if i<j then co (zs LR) i*ldP (zs lg) -Xx G c4*cs (zs lg) low i else co (zs LR) i)) (t -1 -(0)) ?_ ?_
      ·refine⟨0,LR,E,E,E,E,E,E,E,E,E,E,cI,Frm.refl _ _,?_,?_,?_,?_,?_,?_⟩
       ·exact r8
       ·omega
       ·exact hLR
       ·exact YC.le (YC.sub n5 q5) Qo
       ·exact fun i r _ hr=>(n5 r (Ub hr)).2
       ·intro i;rw[if_neg (by omega)]
      ·rintro L0 L3 L4 ⟨j,I,G5,r9,s0,s1,s2,s3,s4,s5,s6,s7,s8,k,i4,P6,i5,v5,i6,i7⟩
       obtain⟨L5,rfl⟩:=Qxy r9 s0 s1 s2 s3 s4 s5 s6 s7 s8;have G6:=k.size;refine rS fun L6 i8=> ?_
       by_cases i9:((j:Int))<(((t -1:Nat):Int))
       ·refine sV (Xq true E E (dT i9)) (sK i8 (Xs fun L7 s9=>cT E (Xk (xM s9 (Xs fun L8 e1=>Xb (rS fun L9 t0=>sMi E (sAi E (sK t0 (Xs fun M0 t1=>XA (fun b=>b=g) mixed fun M1 o G7=>dMs 0 E E (dMi 1 E E (dMs 2 E E (dMi 3 E E (dV 4 E (fun _ _=>XU j underlying25 Xp E E (j*2)) ?_)))))))))))))
        have t2:=m1.frm (((((((b2.rx X).xr b3).tr b4).tr D).tr a3).tr k).xr o) q1;refine dV 6 E (fun _ hf=>Xa (Yb b5 d4 d5 d6) Xo Xp E (t2.frm hf q1) E) ?_;have j0:=i4.ext o;have n6:=v5.ext o;obtain⟨j1,j2,j3,j4,G8,f2,n7,n8,e2⟩:=j0.int (i:=j) (by exact lq);have f3:=n6 _ (Ub f2)
        dsimp only at f3
        have j5:=f3.1;have⟨G9,_,_⟩:=j5.lkm;refine dOk 5 E E (oEv (v:=Zb j1 j2 j3 j4) (XO (Yb j1 j2 j3 j4) Xo Xp E (Qcj n7 n8)) E ⟨Frm.refl _ _,?_⟩);have C8:=i6 j _ (Ug _) f2
        dsimp only at C8
        have z4:=u9.frmB (((((((((d7.rx d8).xr b2).tr X).xr b3).tr b4).tr D).tr a3).tr k).xr o) q3;refine dOk 7 E E (Xc E Zg (XM j5 z4 Qo) E ?_);rintro _ M2 ⟨y,z,A,C,F,rfl,p,f4,e3,_,f5⟩;refine⟨Frm.of_ext p,?_⟩;have H0:=p.size;have⟨C9,_,_⟩:=f4.lkm;refine dV 8 E (fun _ _=>XU j underlying25 Xp E E (j*2)) ?_;refine dOk 9 E E (YK (Yb y z A C) E E E Xp E (j0.ext p) (by rw[Yo];simp only[Um,Uv];exact lq) fun z5 s H1 a6=> ?_);replace a6:=(YD (l:=I) (i:=j) ⟨y,z,A,C,F⟩ (by exact lq))▸a6;refine⟨s,XG (by kernel_rfl) (xM t1 (Xs fun M3 j6=> ?_))⟩;have e4:=n6.frmB (p.rx s) q3;have n9:=f4.frmB s q3;have f6:YC z5 (fun b=>w.heap.size≤b∧b≠g∧b≠q∧b≠W∧b≠d0) (B+Mg+4) (I.set j ⟨y,z,A,C,F⟩):=YC.set e4 (Xn.sub n9 q5) (by(try dsimp only);omega);refine Xr (sMi E (sMi E ?_))
        by_cases j7:((j:Int))≥((low:Int))
        ·refine sV (Zi true E E (dT j7)) (sK j6 (cT E (XA (fun b=>b=g) mixed fun M4 u H2=>dMs 0 E E (dMi 1 E E (dMs 2 E E (dMi 3 E E (dV 4 E (fun _ _=>XU j underlying25 Xp E E (j*2)) ?_)))))))
         have t3:=i3.frm (((((a3.tr k).xr o).xr p).tr s).xr u) q1;refine dV 6 E (fun _ hf=>Xa (Yb G Y Z a0) Xo Xp E (t3.frm hf q1) E) (dMs 7 E E (dMi 8 E E (dMi 9 E E (dV 10 E (fun _ _=>XQ (((j -low:Nat):Int)) E E (QaZ Qo)) ?_))));have o0:=u8.frmB ((((((((((g7.tr X).xr b3).tr b4).tr D).tr a3).tr k).xr o).xr p).tr s).xr u) q3;obtain⟨M5,z6,rfl⟩:=o0.base Qo;refine dV 11 E (fun _ _=>XU (j -low) underlying25 Xp E E (z6+((j -low)*2))) ?_;obtain⟨t4,t5,t6,t7,H3,_,o1,o2,e5,D0,o3,o4,j8⟩:=o0.at_ (i:=j -low) Qo;have⟨H4,_,_⟩:=e5.lkm;refine dV 12 E (fun _ hf=>XO (Yb t4 t5 t6 t7) Xo Xp E (QdZ o1 o2 hf o4 (by(try dsimp only at o3⊢);omega))) (QdN 5 13 (by kernel_rfl) ?_ ?_)
         ·have j9:=a6.ext u
          obtain⟨k0,k1,k2,k3,H5,f7,o5,o6,t8⟩:=j9.int (i:=j) (by exact lq);have f8:=(f6.ext u) _ (Ub f7)
          dsimp only at f8
          have k4:=f8.1;have⟨H6,_,_⟩:=k4.lkm;refine dWp (i:=5) E E (oEv (v:=Zb k0 k1 k2 k3) (XO (Yb k0 k1 k2 k3) Xo Xp E (Qcj o5 o6)) E ⟨Frm.refl _ _,?_⟩);have a7:=f7;rw[Qyz (by omega)] at a7;injection a7 with a7;injection a7 with x1 x2 x3 x4 x5;have D1:=f5;have z7:=h0.frmB ((((k.xr o).xr p).trans s).xr u) q3;refine dOk 13 E E (Xc E Zg (XM z7 e5 Qo) E ?_);rintro _ M6 ⟨D2,D3,D4,D5,D6,rfl,a4,f9,t9,_,D7⟩;refine⟨Frm.of_ext a4,?_⟩;have H7:=a4.size;have⟨D8,_,_⟩:=f9.lkm;refine dOk 14 E E (Xc E Qbh (Ze (k4.ext a4) f9 Qo Qo) E ?_);rintro _ M7 ⟨J,K,L,N,a1,rfl,b9,o7,u0,_,D9⟩;refine⟨Frm.of_ext b9,?_⟩;refine dV 15 E (fun _ _=>XU j underlying25 Xp E E (j*2)) ?_;refine dOk 16 E E (YK (Yb J K L N) E E E Xp E (j9.ext (a4.trans b9)) (by rw[Yo];simp only[Um,Uv];exact lq) fun z8 c0 _ a8=> ?_);replace a8:=(YD (l:=(I).set j ⟨y,z,A,C,F⟩) (i:=j) ⟨J,K,L,N,a1⟩ (by exact lq))▸a8;replace a8:Blk z8 g 30 (Ye (I.set j ⟨J,K,L,N,a1⟩)):=(by simp :((I).set j ⟨y,z,A,C,F⟩).set j ⟨J,K,L,N,a1⟩=I.set j ⟨J,K,L,N,a1⟩)▸a8;refine⟨c0,XG (by kernel_rfl) (bN (xM e1 (Xr (sV (XF (((j:Int))+1) E E wI) (sMi E (XB ?_))))))⟩;have z9:=e4.frmB (((u.trans a4).trans b9).rx c0) q3;have A0:=o7.frmB c0 q3;refine again (t -1 -(j+1)) Qo ⟨j+1,I.set j ⟨J,K,L,N,a1⟩,E,E,E,E,E,E,E,E,E,E,cI,k.trans ((((((o.trans p).rx s).xr u).xr a4).xr b9).trans c0),?_,?_,?_,?_,?_,?_⟩
          ·exact a8
          ·omega
          ·rw[UF];exact i5
          ·exact YC.set z9 (Xn.sub A0 q5) (by(try dsimp only);omega)
          ·exact QbS i6
          ·rw[QcB];exact Qje i7 (by rw[Za];omega) (by show Xx _ _=_;rw[u0,t9,t8,j8,QcB,Qdg (by rw[Za];omega),if_pos E];show Xx _ _ -_=_;rw[e3,e2,hLd];unfold cs;rw[if_pos (show low≤j by omega)])
         ·have A1:=h0.frmB ((((k.xr o).xr p).trans s).xr u) q3
          refine dWp (i:=13) E E (Xc E Zg (XM A1 e5 Qo) E ?_);rintro _ M8 ⟨E0,E1,E2,E3,E4,rfl,c1,g0,u1,_,E5⟩;refine⟨Frm.of_ext c1,?_⟩;have H8:=c1.size;have⟨E6,_,_⟩:=g0.lkm;have e6:=u.trans c1;have k5:=a6.ext e6;obtain⟨k6,k7,k8,k9,H9,g1,o8,o9,u2⟩:=k5.int (i:=j) (by exact lq);have g2:=(f6.ext e6) _ (Ub g1)
          dsimp only at g2
          have l0:=g2.1;have⟨I0,_,_⟩:=l0.lkm;refine dOk 5 E E (oEv (v:=Zb k6 k7 k8 k9) (XO (Yb k6 k7 k8 k9) Xo Xp E (Qcj o8 o9)) E ⟨Frm.refl _ _,?_⟩);have a7:=g1;rw[Qyz (by omega)] at a7;injection a7 with a7;injection a7 with x1 x2 x3 x4 x5;have D1:=f5;refine dOk 14 E E (Xc E Qbh (Ze l0 g0 Qo Qo) E ?_);rintro _ M9 ⟨O,P,Q,R,a2,rfl,c2,p0,u3,_,E7⟩;refine⟨Frm.of_ext c2,?_⟩;refine dV 15 E (fun _ _=>XU j underlying25 Xp E E (j*2)) ?_;refine dOk 16 E E (YK (Yb O P Q R) E E E Xp E (k5.ext c2) (by rw[Yo];simp only[Um,Uv];exact lq) fun A2 c3 _ a9=> ?_);replace a9:=(YD (l:=(I).set j ⟨y,z,A,C,F⟩) (i:=j) ⟨O,P,Q,R,a2⟩ (by exact lq))▸a9;replace a9:Blk A2 g 30 (Ye (I.set j ⟨O,P,Q,R,a2⟩)):=(by simp :((I).set j ⟨y,z,A,C,F⟩).set j ⟨O,P,Q,R,a2⟩=I.set j ⟨O,P,Q,R,a2⟩)▸a9;refine⟨c3,XG (by kernel_rfl) (bN (xM e1 (Xr (sV (XF (((j:Int))+1) E E wI) (sMi E (XB ?_))))))⟩;have A3:=e4.frmB ((e6.trans c2).rx c3) q3;have A4:=p0.frmB c3 q3;refine again (t -1 -(j+1)) Qo ⟨j+1,I.set j ⟨O,P,Q,R,a2⟩,E,E,E,E,E,E,E,E,E,E,cI,k.trans ((((((o.trans p).rx s).xr u).xr c1).xr c2).trans c3),?_,?_,?_,?_,?_,?_⟩
          ·exact a9
          ·omega
          ·rw[UF];exact i5
          ·exact YC.set A3 (Xn.sub A4 q5) (by(try dsimp only);omega)
          ·exact QbS i6
          ·rw[QcB];exact Qje i7 (by rw[Za];omega) (by show Xx _ _=_;rw[u3,u1,u2,j8,QcB,Qdg (by rw[Za];omega),if_pos E];show Xx _ _ -_=_;rw[e3,e2,hLd];unfold cs;rw[if_pos (show low≤j by omega)])
        ·refine sV (Zi false E E (dF j7)) (sK j6 (cF E (Xk (bN (xM e1 (Xr (sV (XF (((j:Int))+1) E E wI) (sMi E (XB ?_)))))))))
         refine again (t -1 -(j+1)) Qo ⟨j+1,(I).set j ⟨y,z,A,C,F⟩,E,E,E,E,E,E,E,E,E,E,cI,k.trans ((o.trans p).rx s),?_,?_,?_,?_,?_,?_⟩
         ·exact a6
         ·omega
         ·rw[UF];exact i5
         ·exact YC.set e4 (Xn.sub n9 q5) (by(try dsimp only);omega)
         ·exact QbS i6
         ·rw[QcB];exact Qje i7 (by rw[Za];omega) (by show Xx _ _=_;rw[e3,e2,hLd];unfold cs;rw[if_neg (show ¬low≤j by omega)];simp)
       ·refine sV (Xq false E E (dF i9)) (sK i8 (Xs fun N0 _=>cF E (Xe (xE (xE (bE (bN (xM y1 (Xr (sMi E (sV (XQ (((t:Int) -1) -1) E E wI) (sAi E (XB ?_)))))))))))))
        have u4:=e0.frm k q1;have A5:=n4.frmB k q3;refine again ((t -1)) Qo ⟨t -1,I,(L1).set low ⟨G,Y,Z,a0,c4⟩,B+(Mg+6),E,E,E,E,E,E,cI,Frm.mono (X.tr (b8.tr k)) q4,?_,?_,?_,?_,?_,?_,?_,?_,?_,?_⟩
        ·exact i4
        ·exact u4
        ·omega
        ·exact QlU hB Qo
        ·exact i5
        ·rw[UF];exact v2
        ·exact YC.le (YC.sub v5 q5) Qo
        ·exact YC.le (YC.sub A5 q5) Qo
        ·intro i hi;rw[QcB,pq2 m9 (by rw[Za];omega) (by rw[Za];omega),if_neg (by omega),m4 i (by omega),Int.zero_mul]
        ·rw[show a -(t -1)=a -t+1 by omega,QcB];exact Qlx (f:=Xx G c4) hI (m4 low (by omega)) (pq2 m9 (by rw[Za];omega) (by rw[Za];omega)) (fun i hi=>by rw[i7 i,if_pos (by omega)]) hfa hdL hdz (by omega)
   ·refine sV (Zi false E E (dF m6)) (sK m5 (cF E (Xe (xE (xE (bE (xM w6 (Xs fun N1 u5=> ?_))))))))
    have A6:=(Xh.of_blk (S:=fun b=>w.heap.size≤b) (M:=B) (n:=a) (c:=a) g8 (YC.sub hAR q5) (by(try dsimp only);omega) (by omega) (Ug _) (by unfold Yc;omega)).take (m:=t) (by omega);refine Xr (sMs E ?_);have A7:Xh m2 (fun b=>w.heap.size≤b) (some ⟨q,0,none⟩) (a -d) (a -d) (LQ) (B):=Xh.of_blk m3 (YC.sub hAQ q5) (by(try dsimp only);omega) (by exact lq) (by omega) (by unfold Yc;omega);refine sO (Xc E Qdb (YF A7 Qo Qo) E ?_);rintro _ N2 ⟨b0,T,g3,rfl,l1,B0,g4,l3,E8,E9,u6,F0,_⟩;have B1:=g4.lt;refine sMs E ?_;refine sO (Xc E Qdb (YF (A6.ext l1) Qo Qo) E ?_);rintro _ p1 ⟨b1,U,g5,rfl,e7,B2,p2,l4,F1,F2,l2,F3,_⟩;refine sAs E (sAs E (sAi E (sK u5 (Xt (Qnv (.slice (some ⟨b0,0,none⟩) T T) (.slice (some ⟨b1,0,none⟩) U U) (.int .i64 (0)) results144 (XK E) (XK E) (XK E) ?_)))));have hBE:B≤psM Mf Mg ((Xi (zs lf)).length -((Xi (zs lg)).length -1)):=QwA hB Qo;have A8:Xh p1 (fun b=>b0≤b) (some ⟨b0,0,none⟩) T T (g3) ((B)):=Xh.of_blk (g4.ext e7) (YC.sub (l3.ext e7) q5) (by(try dsimp only);omega) (by exact lq) (by omega) (by unfold Yc;omega);have A9:Xh p1 (fun b=>b1≤b) (some ⟨b1,0,none⟩) U U (g5) ((B)):=Xh.of_blk p2 (YC.sub l4 q5) (by(try dsimp only);omega) (by exact lq) (by omega) (by unfold Yc;omega);exact⟨some ⟨b0,0,none⟩,T,T,g3,some ⟨b1,0,none⟩,U,U,g5,0,E,Frm.mono (((((((m0.trans g6).trans d7).rx d8).xr b2).tr X).xr l1).xr e7) q4,Xh.le (Xh.sub A8 q5) (by omega),Xh.le (Xh.sub A9 q5) (by omega),E,(by intro x;rw[hFl,hd,u6,l2,Qat,Qat,show a -(d+1 -1)=a -t by omega,hI x,show zs (LR.take t)=(zs LR).take t from List.map_take]),(by omega),(by rw[l2];exact XJ Qa6 _),(by omega),(by omega)⟩
end Go.Proofs.YtnkfdkhjaklolaaGreatDoor
