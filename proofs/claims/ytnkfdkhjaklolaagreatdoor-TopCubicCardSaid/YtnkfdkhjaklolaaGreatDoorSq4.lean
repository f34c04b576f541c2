/-
  Walk of package unidiv: exact division.
-/
import Derived.Test.YtnkfdkhjaklolaaGreatDoorUni6
import Derived.Test.YtnkfdkhjaklolaaGreatDoorLibB
open List renaming length_cons→Um,length_nil→Uv,length_set→UF,mem_of_getElem?→Ub
open Nat renaming le_refl→Ug
namespace Go.Proofs.YtnkfdkhjaklolaaGreatDoor
open Go.RowKit Go.Gx Tryz
open Go renaming wp_seq_k→Xs,wp_skip→Xk,wp_block→Xb,wp_ret→Xt,wp_region_lit→Xr,wp_exit→Xe
open List renaming replicate→Xl
variable{Af Ag:Option Addr}{Mf Mg cf cg nf ng:Nat}{Sf Sg:Nat→Prop}{lf lg:List RI}{w:World}
set_option maxHeartbeats 4000000 in
theorem QkI(hf:Xh w Sf Af nf cf lf Mf)(hg:Xh w Sg Ag ng cg lg Mg)(hnf:nf≤64)(hMf:Mf≤268435456)(hng:ng≤64)(hMg:Mg≤1048576)(hg0:ldP (zs lg)≠0):Calls prog 101 #[.slice Af nf cf,.slice Ag ng cg] w (Ret fun v w'=> ∃Aq nq cq lq xe,v=(.tuple #[.slice Aq nq cq,.int .i64 (xe)])∧Ext w w'∧Xh w' (fun b=>w.heap.size≤b) Aq nq cq lq (exM Mf Mg ((Xi (zs lf)).length -((Xi (zs lg)).length -1)))∧((xe=0∧ ∀x:Rat,evQ (zs lf) x=evQ (zs lq) x*evQ (zs lg) x)∨(xe=3∧QsB (zs lf) (zs lg)))∧(ZB lq)∧(nq≤nf)∧(xe=0→nq=(Xi (zs lf)).length -((Xi (zs lg)).length -1))):=by
 have⟨kf,jf,mf⟩:=hf.lkm;replace hf:=hf.low;have⟨kg,jg,mg⟩:=hg.lkm;replace hg:=hg.low;refine enter func101 E ntmps101 E (rS fun K1 s1=>sAs E (sAi E (sK s1 (rS fun K2 s2=>sMs E (sO (Xc E QaI (XW hg Qo Qo) E ?_))))));rintro _ w4 ⟨o0,rfl,g9,C5⟩;have C6:=g9.size;obtain⟨d,hd⟩:=QeP hg0;obtain rfl:o0=(d:Int):=by omega
 have⟨hdL,hdz,_⟩:=Qpo hd;have hdn:d+1≤ng:=by have h:=Qbf (zs lg);rw[Za] at h;omega
 refine sAi E (sK s2 (Xs fun K7 s3=>rS fun K8 s4=>sMi E (sV (Xq false E E (dF Qo)) (sK s4 (cF E (Xk (xM s3 (rS fun K9 s5=>sMs E ?_))))))));have n5:=hg.ext g9;refine sO (Xc E QcU (YR n5 Qo Qo) E ?_);rintro _ s6 ⟨a4,d1,d2,d3,j8,rfl,c5,d4,o1,_,v6⟩;have y4:=c5.size;have⟨v7,_,_⟩:=d4.lkm;have s7:=d4.sub (S':=fun b=>(w4.heap.size≤b)∧b<s6.heap.size) fun _ hb hs=>⟨hs,hb⟩;have hLd:Xx a4 j8=ldP (zs lg):=o1;refine sO (Xj (Yb false none 0 0) XE E fun M C7 y5 c6 y6 o2=>sO (Xd (Yb a4 d1 d2 d3) E E E Xp E o2 E fun C8 c7 y7 o3=> ?_));refine sK s5 (rS fun C9 o4=>sMs E ?_);have a5:=((g9.trans c5).trans c6).rx c7;have s8:=hf.frmB a5 q3;refine sO (Xc E Qdb (YF s8 Qo Qo) E ?_);rintro _ s9 ⟨c,a,j9,rfl,D,t0,d5,h0,v8,v9,a6,w0,_⟩;have y8:=D.size;have t1:=d5.lt;have t2:=h0.sub (S':=fun b=>(c<b)∧b<s9.heap.size) fun _ hb hs=>⟨hs,hb⟩;refine sAs E (sK o4 (rS fun D0 o5=>sMs E (sV (Xw underlying25 E) (sMi E (sV (XQ (((a:Int)) -((d:Int))) E E wI) (sV (Qer (((a -d:Nat):Int)) E E (by split<;>omega)) (sO (Qea (a -d) underlying25 QgT cI cI Qo Qo fun t n6 y9 z z0 o6=> ?_))))))));have o7:Blk n6 t 30 (Ye (Xl (a -d) RI.zero)):=o6;refine sAs E (sK o5 (Xs fun D1 o8=>rS fun D2 o9=>sMs E (sV (Xw underlying25 E) (sV (XQ ((((a -d:Nat):Int)) -1) E E wI) (sAi E (sK o9 (Xb ?_)))))));refine Ym (fun m e w_=> ∃(s:Nat)(LR:List RI)(LQ:List RI)(B:Nat),m=s∧e 1=(.slice Ag ng cg)∧e 6=(.int .i64 d)∧e 7=(.pointer (some ⟨M,0,none⟩))∧e 8=(.slice (some ⟨c,0,none⟩) a a)∧e 9=(.slice (some ⟨t,0,none⟩) (a -d) (a -d))∧e 10=(.int .i64 ((s:Int) -1))∧Frm (fun b=>b=c∨b=t) n6 w_∧Blk w_ c 30 (Ye LR)∧Blk w_ t 30 (Ye LQ)∧(s≤(a -d))∧(B+(Mg+14)*s≤Mf+(Mg+14)*(a -d))∧(LR.length=a)∧(LQ.length=(a -d))∧(YC w_ (fun b=>w.heap.size≤b∧b≠c∧b≠t∧b≠M) (B) LR)∧(YC w_ (fun b=>w.heap.size≤b∧b≠c∧b≠t∧b≠M) (B+2) LQ)∧(ZB LQ)∧(∀i,i<s→co (zs LQ) i=0)∧(∀i,s+d≤i→co (zs LR) i=0)∧(∀x:Rat,evQ (zs lf) x=evQ (zs LQ) x*evQ (zs lg) x+evQ (zs LR) x)) (((a -d))) ?_ ?_
 ·refine⟨(a -d),j9,Xl (a -d) RI.zero,Mf,E,E,E,E,E,E,cI,Frm.refl _ _,?_,?_,?_,?_,?_,?_,?_,?_,?_,?_,?_,?_⟩
  ·exact(d5.ext z)
  ·exact o7
  ·omega
  ·exact Ug _
  ·omega
  ·simp
  ·exact YC.le (YC.sub (t2.ext z) q5) Qo
  ·exact YC.zeros _
  ·exact ZB.zeros _
  ·intro i _;exact Qiz _ i
  ·intro i hi;exact Qhv (n:=a) (by rw[Za];omega) i (by omega)
  ·intro x;rw[Qj5,a6,Qat];grind
 ·rintro D3 D4 d6 ⟨s,LR,LQ,B,z1,p0,p1,p2,p3,p4,p5,A,h1,h2,hs,hB,hLR,hLQ,hAR,hAQ,hCQ,n7,h4,hI⟩
  obtain⟨D5,rfl⟩:=Qid p0 p1 p2 p3 p4 p5;have z2:=A.size;have hBK:(Mg+14)*(a -d)≤(Mg+14)*64:=Nat.mul_le_mul_left _ Qo;refine Xs fun D6 p6=>rS fun D7 h5=>sMi E ?_
  by_cases h6:((s:Int) -1)≥0
  ·refine sV (Zi true E E (dT h6)) (sK h5 (cT E (Xk (xM p6 (Xs fun D8 p7=>Xb (Xs fun D9 p8=> ?_))))))
   obtain⟨low,hlow⟩: ∃low,s=low+1:=⟨s -1,by omega⟩;have t3:=hAR.sub (S':=fun b=>(w.heap.size≤b∧b≠c∧b≠t∧b≠M)∧b<d6.heap.size) fun _ hb hs=>⟨hs,hb⟩;have t4:=hAQ.sub (S':=fun b=>(w.heap.size≤b∧b≠c∧b≠t∧b≠M)∧b<d6.heap.size) fun _ hb hs=>⟨hs,hb⟩;refine XA (fun b=>d6.heap.size≤b) mixed fun E0 F z3=>dMs 0 E E (dMi 1 E E (dMi 2 E E (dV 3 E (fun _ _=>XF (((s:Int) -1)+((d:Int))) E E wI) (dV 4 E (fun _ _=>XU ((s -1)+d) underlying25 Xp E E (((s -1)+d)*2)) ?_))));have c8:=h1.ext F;have n8:=t3.ext F;obtain⟨p9,q0,q2,q6,z4,k0,k1,k2,h7⟩:=c8.int (i:=(s -1)+d) (by exact lq);have d7:=n8 _ (Ub k0)
   dsimp only at d7
   have h8:=d7.1;have⟨z5,z6,z7⟩:=h8.lkm;refine dV 5 E (fun _ hf=>XO (Yb p9 q0 q2 q6) Xo Xp E (QdZ k1 k2 hf c8.lt (by(try dsimp only);omega))) ?_;have q7:=o3.frm (((D.trans z).rx A).xr F) q1;refine dV 6 E (fun _ hf=>Xa (Yb a4 d1 d2 d3) Xo Xp E (q7.frm hf q1) E) (QqB (fun _=>(11,30,(Yb false none 0 0))) 11 (QhQ E E XE E) fun n9=>wOp n9 7 (by kernel_rfl) fun z8 h9 G=> ?_);have z9:=G.size;have t5:=s7.frmB ((((((c6.rx c7).xr D).xr z).tr A).xr F).xr G) q3;refine dWp (i:=7) E E (Xc E Qn1 (Qd1 (h8.ext G) t5 Qo Qo Qo) E ?_);rintro _ i0 ⟨f,g,o,p,u,a7,rfl,T,d8,d9,k3,w1⟩;refine⟨T,QaV E ?_⟩;have⟨w2,_,_⟩:=d8.lkm;have t6:=d8.sub (S':=fun b=>h9.heap.size≤b∧b<i0.heap.size) fun _ hb hs=>⟨hs,hb⟩;refine wEv 8 E (v:= .tuple #[Zb f g o p,.int .i64 (a7)]) (fun _=>(fun _ _=>rfl)) E (fun _=>rfl) (by kernel_rfl) (wEv 9 E (v:=Zb f g o p) (fun _=>(fun _ _=>rfl)) E (fun _=>rfl) (by kernel_rfl) (wEv 10 E (v:= .int .i64 (a7)) (fun _=>(fun _ _=>rfl)) E (fun _=>rfl) (by kernel_rfl) (QhP n9 #[true,true,true,true,true,true,true,true,true,true,true,true,false,false] (by kernel_rfl) fun e0 E1 I w3 e1 k4=> ?_)));have w5:=e1.lt;have q8:=(t6.ext I).sub (S':=fun b=>(h9.heap.size≤b∧b<i0.heap.size)∧b≠e0) fun b _ hs=>⟨hs,k4.ne h9.heap.size i0.heap.size (by simp) b hs.1 hs.2⟩;refine dOk 12 E E (Xd (Yb f g o p) E E E Xp E e1 E fun A0 C w6 e2=> ?_);refine⟨C.mono q4,dAi 13 E E (XG (by kernel_rfl) (xM p8 (Xs fun A1 k5=>rS fun A2 e3=>sMi E ?_)))⟩
   by_cases N:a7≠0
   ·refine sV (ZI true E E (dT N)) ?_
    have hbad:=(d9.resolve_left fun hh=>N hh.1);refine sK e3 (cT E (rS fun A3 k6=>sAs E (sAi E (sK k6 (Xt (xR (bR (xR (xR (bR (xR (Qbl (.slice none 0 0) (.int .i64 (3)) results101 (XK E) (XK E) ?_))))))))))));have hFl:(Xi (zs lf)).length=a:=by rw[←a6,Za];omega
    exact⟨none,0,0,[],3,E,Frm.mono ((((((((a5.xr D).xr z).tr A).xr F).xr G).xr T).xr I).tr C) q4,Xh.nil,.inr ⟨E,zs LQ,zs LR,s,hI,fun i hi=>h4 i (by omega),.inl ⟨by omega,by have h:=hbad.2;rw[hLd,h7] at h;rw[hd,show s -1+(d+1 -1)=s -1+d by omega];exact h⟩⟩,ZB.nil,(by omega),(fun h=>absurd h (by decide))⟩
   ·refine sV (ZI false E E (dF N)) ?_
    have hgood:=(d9.resolve_right fun hh=>N (by have h3:=hh.1;omega)).2;have hfe:co (zs LR) (low+d)=ldP (zs lg)*Xx f u:=by rw[←hLd,←hgood,h7];congr 1;omega
    refine sK e3 (cF E (Xk (xM k5 (rS fun A4 k7=>sMs E (sMi E (sV (Xa (Yb f g o p) Xo Xp E e2 E) (sV (XU (s -1) underlying25 Xp E E ((s -1)*2)) ?_)))))));have e4:=(((F.trans G).trans T).trans I).rx C;have k8:=h2.frm e4 q1;refine sO (YK (Yb f g o p) E E E Xp E k8 (by rw[Yo];simp only[Um,Uv];exact lq) fun c9 J w7 K=> ?_);replace K:=(YD (l:=LQ) (i:=s -1) ⟨f,g,o,p,u⟩ (by exact lq))▸K;replace K:Blk c9 t 30 (Ye (LQ.set low ⟨f,g,o,p,u⟩)):=(by rw[show s -1=low by omega]:(LQ).set (s -1) ⟨f,g,o,p,u⟩=LQ.set low ⟨f,g,o,p,u⟩)▸K;refine sK k7 (Xs fun A5 k9=> ?_);have e5:=e4.tr J;have q9:=t4.frmB e5 q3;have d0:=q8.frmB (C.tr J) q3;have i1:YC c9 (fun b=>w.heap.size≤b∧b≠c∧b≠t∧b≠M∧b≠e0) (B+2) (LQ.set low ⟨f,g,o,p,u⟩):=YC.set (YC.sub q9 q5) (Xn.sub d0 q5) (by(try dsimp only);omega);refine Xr (sAi E (sK k9 (Xb ?_)));have e6:=(((G.trans T).trans I).rx C).tr J;have l0:=c8.frm e6 q1;have i2:=n8.frmB e6 q3;refine Ym (fun m e w_=> ∃(j:Nat)(U:List RI),m=d+1 -j∧e 1=(.slice Ag ng cg)∧e 6=(.int .i64 d)∧e 7=(.pointer (some ⟨M,0,none⟩))∧e 8=(.slice (some ⟨c,0,none⟩) a a)∧e 9=(.slice (some ⟨t,0,none⟩) (a -d) (a -d))∧e 10=(.int .i64 ((s:Int) -1))∧e 11=(.pointer (some ⟨e0,0,none⟩))∧e 13=(.int .i64 j)∧Frm (fun b=>b=c) c9 w_∧Blk w_ c 30 (Ye U)∧(j≤d+1)∧(U.length=a)∧(YC w_ (fun b=>w.heap.size≤b∧b≠c∧b≠t∧b≠M∧b≠e0) (B+Mg+13) U)∧(∀i r,low+j≤i→U[i]? =some r→r.n≤B)∧(∀i,co (zs U) i=if i<low+j then co (zs LR) i -Xx f u*cs (zs lg) low i else co (zs LR) i)) (d+1 -(0)) ?_ ?_
    ·refine⟨0,LR,E,E,E,E,E,E,E,E,cI,Frm.refl _ _,?_,?_,?_,?_,?_,?_⟩
     ·exact l0
     ·omega
     ·exact hLR
     ·exact YC.le (YC.sub i2 q5) Qo
     ·exact fun i r _ hr=>(i2 r (Ub hr)).2
     ·exact QnE
    ·rintro A6 A7 A8 ⟨j,U,w8,l1,l2,l3,l4,l5,l6,l7,l8,q,a8,E2,i3,i4,e7,e8⟩
     obtain⟨A9,rfl⟩:=QsU l1 l2 l3 l4 l5 l6 l7 l8;have w9:=q.size;refine Xs fun B0 l9=>rS fun B1 e9=>sMi E (sMi E ?_)
     by_cases f0:((j:Int))≤((d:Int))
     ·refine sV (QaM true E E (dT f0)) (sK e9 (cT E (Xk (xM l9 (Xs fun B2 f1=>Xb (XA (fun b=>b=c) mixed fun B3 y x0=>dMs 0 E E (dMi 1 E E (dMi 2 E E (dV 3 E (fun _ _=>XF (((low+j:Nat):Int)) E E (QaZ Qo)) (dMs 4 E E (dMi 5 E E (dMi 6 E E (dV 7 E (fun _ _=>XF (((low+j:Nat):Int)) E E (QaZ Qo)) (dV 8 E (fun _ _=>XU (low+j) underlying25 Xp E E ((low+j)*2)) ?_))))))))))))))
      have m0:=e2.frm ((J.tr q).xr y) q1;refine dV 10 E (fun _ hf=>Xa (Yb f g o p) Xo Xp E (m0.frm hf q1) E) (dMs 11 E E (dMi 12 E E ?_));have i5:=n5.frmB (((((((((((((c5.trans c6).rx c7).xr D).xr z).tr A).xr F).xr G).xr T).xr I).tr C).tr J).tr q).xr y) q3;obtain⟨B4,r0,rfl⟩:=i5.base Qo;refine dV 13 E (fun _ _=>XU j underlying25 Xp E E (r0+(j*2))) ?_;obtain⟨m1,m2,m3,m4,x1,_,i6,i7,a9,t7,i8,i9,f2⟩:=i5.at_ (i:=j) Qo;have⟨x2,_,_⟩:=a9.lkm;refine dV 14 E (fun _ hf=>XO (Yb m1 m2 m3 m4) Xo Xp E (QdZ i6 i7 hf i9 (by(try dsimp only at i8⊢);omega))) (QdN 9 15 (by kernel_rfl) ?_ ?_)
      ·have f3:=a8.ext y
       have j0:=i4.ext y;obtain⟨f4,f5,f6,f7,x3,b5,j1,j2,m5⟩:=f3.int (i:=low+j) (by exact lq);have b6:=j0 _ (Ub b5)
       dsimp only at b6
       have f8:=b6.1;have⟨x4,x5,x6⟩:=f8.lkm;refine dWp (i:=9) E E (oEv (v:=Zb f4 f5 f6 f7) (XO (Yb f4 f5 f6 f7) Xo Xp E (Qcj j1 j2)) E ⟨Frm.refl _ _,?_⟩);have j3:=e7 (low+j) _ (Ug _) b5
       dsimp only at j3
       have r1:=d0.frmB (q.xr y) q3;refine dOk 15 E E (Xc E Zg (XM r1 a9 Qo) E ?_);rintro _ B5 ⟨t8,t9,u0,u1,u2,rfl,L,b7,m6,_,u3⟩;refine⟨Frm.of_ext L,?_⟩;have x7:=L.size;have⟨u4,_,_⟩:=b7.lkm;refine dOk 16 E E (Xc E Qbh (Ze (f8.ext L) b7 Qo Qo) E ?_);rintro _ B6 ⟨W,X,Y,Z,b8,rfl,b0,b9,m7,_,u5⟩;refine⟨Frm.of_ext b0,?_⟩;have⟨u6,_,_⟩:=b9.lkm;refine dV 17 E (fun _ _=>XU (low+j) underlying25 Xp E E ((low+j)*2)) ?_;have f9:=L.trans b0;refine dOk 18 E E (YK (Yb W X Y Z) E E E Xp E (f3.ext f9) (by rw[Yo];simp only[Um,Uv];exact lq) fun B7 O _ b1=> ?_);replace b1:=(YD (l:=U) (i:=low+j) ⟨W,X,Y,Z,b8⟩ (by exact lq))▸b1;refine⟨O,XG (by kernel_rfl) (bN (xM f1 (Xr (sMi E (sV (XF (((j:Int))+1) E E wI) (sAi E (XB ?_)))))))⟩;have r2:=j0.frmB (f9.rx O) q3;have r3:=b9.frmB O q3;refine again (d+1 -(j+1)) Qo ⟨j+1,(U).set (low+j) ⟨W,X,Y,Z,b8⟩,E,E,E,E,E,E,E,E,cI,q.trans (((y.trans L).trans b0).rx O),?_,?_,?_,?_,?_,?_⟩
       ·exact b1
       ·omega
       ·rw[UF];exact i3
       ·exact YC.set r2 (Xn.sub r3 q5) (by(try dsimp only);omega)
       ·exact QbS (k:=low+j) e7
       ·rw[QcB];exact QkL e8 (by rw[Za];omega) (by show Xx _ _=_;rw[m7,m6,m5,f2])
      ·have r4:=d0.frmB (q.xr y) q3
       refine dWp (i:=15) E E (Xc E Zg (XM r4 a9 Qo) E ?_);rintro _ B8 ⟨u7,u8,u9,v0,v1,rfl,b2,c0,m8,_,v2⟩;refine⟨Frm.of_ext b2,?_⟩;have x8:=b2.size;have⟨v3,_,_⟩:=c0.lkm;have b3:=y.trans b2;have g0:=a8.ext b3;have j4:=i4.ext b3;obtain⟨g1,g2,g3,g4,x9,c1,j5,j6,m9⟩:=g0.int (i:=low+j) (by exact lq);have c2:=j4 _ (Ub c1)
       dsimp only at c2
       have g5:=c2.1;have⟨y0,y1,y2⟩:=g5.lkm;refine dOk 9 E E (oEv (v:=Zb g1 g2 g3 g4) (XO (Yb g1 g2 g3 g4) Xo Xp E (Qcj j5 j6)) E ⟨Frm.refl _ _,?_⟩);have j3:=e7 (low+j) _ (Ug _) c1
       dsimp only at j3
       refine dOk 16 E E (Xc E Qbh (Ze g5 c0 Qo Qo) E ?_);rintro _ B9 ⟨a0,a1,a2,a3,c3,rfl,P,c4,n0,_,v4⟩;refine⟨Frm.of_ext P,?_⟩;have⟨v5,_,_⟩:=c4.lkm;refine dV 17 E (fun _ _=>XU (low+j) underlying25 Xp E E ((low+j)*2)) ?_;refine dOk 18 E E (YK (Yb a0 a1 a2 a3) E E E Xp E (g0.ext P) (by rw[Yo];simp only[Um,Uv];exact lq) fun C0 Q _ b4=> ?_);replace b4:=(YD (l:=U) (i:=low+j) ⟨a0,a1,a2,a3,c3⟩ (by exact lq))▸b4;refine⟨Q,XG (by kernel_rfl) (bN (xM f1 (Xr (sMi E (sV (XF (((j:Int))+1) E E wI) (sAi E (XB ?_)))))))⟩;have r5:=j4.frmB (P.rx Q) q3;have r6:=c4.frmB Q q3;refine again (d+1 -(j+1)) Qo ⟨j+1,(U).set (low+j) ⟨a0,a1,a2,a3,c3⟩,E,E,E,E,E,E,E,E,cI,q.trans ((b3.trans P).rx Q),?_,?_,?_,?_,?_,?_⟩
       ·exact b4
       ·omega
       ·rw[UF];exact i3
       ·exact YC.set r5 (Xn.sub r6 q5) (by(try dsimp only);omega)
       ·exact QbS (k:=low+j) e7
       ·rw[QcB];exact QkL e8 (by rw[Za];omega) (by show Xx _ _=_;rw[n0,m8,m9,f2])
     ·refine sV (QaM false E E (dF f0)) (sK e9 (cF E (Xe (xE (xE (bE (bN (xM p7 (Xr (sMi E (sV (XQ (((s:Int) -1) -1) E E wI) (sAi E (XB ?_)))))))))))))
      have n1:=K.frm q q1;have r7:=i1.frmB q q3;refine again ((s -1)) Qo ⟨s -1,U,LQ.set low ⟨f,g,o,p,u⟩,B+(Mg+14),E,E,E,E,E,E,cI,Frm.mono (A.tr (e5.tr q)) q4,?_,?_,?_,?_,?_,?_,?_,?_,?_,?_,?_,?_⟩
      ·exact a8
      ·exact n1
      ·omega
      ·exact QlU hB Qo
      ·exact i3
      ·rw[UF];exact hLQ
      ·exact YC.le (YC.sub i4 q5) Qo
      ·exact YC.le (YC.sub r7 q5) Qo
      ·exact ZB.set hCQ k3
      ·intro i hi;rw[QcB,Qdg (by rw[Za];omega),if_neg (by omega)];exact n7 i (by omega)
      ·exact Qr4 (QmT e8 Qo hdz) hlow h4 hdL hdz hfe
      ·rw[QcB];exact Qm9 hI (n7 low (by omega)) (Qdg (by rw[Za];omega)) (QmT e8 (by omega) hdz)
  ·refine sV (Zi false E E (dF h6)) (sK h5 (cF E (Xe (xE (xE (bE (xM o8 (Xs fun C1 n2=>rS fun C2 g6=>sMs E ?_))))))))
   have r8:Xh d6 (fun b=>w.heap.size≤b) (some ⟨c,0,none⟩) a a (LR) (B):=Xh.of_blk h1 (YC.sub hAR q5) (by(try dsimp only);omega) (by exact lq) (by omega) (by unfold Yc;omega);refine sO (Xc E QaI (XW r8 Qo Qo) E ?_);rintro _ r9 ⟨j7,rfl,S,g7⟩
   by_cases g8:j7≥0
   ·refine sV (Zi true E E (dT g8)) (sK g6 (cT E (rS fun C3 n3=>sAs E (sAi E (sK n3 (Xt (xR (Qbl (.slice none 0 0) (.int .i64 (3)) results101 (XK E) (XK E) ?_))))))))
    have hFl:(Xi (zs lf)).length=a:=by rw[←a6,Za];omega
    exact⟨none,0,0,[],3,E,Frm.mono ((((a5.xr D).xr z).tr A).xr S) q4,Xh.nil,.inr ⟨E,zs LQ,zs LR,0,hI,fun i hi=>h4 i Qo,.inr ⟨E,QqJ (R:=zs LR) (by have h:=g7;omega)⟩⟩,ZB.nil,Qo,(fun h=>absurd h (by decide))⟩
   ·refine sV (Zi false E E (dF g8)) (sK g6 (cF E (Xk (xM n2 (rS fun C4 n4=>sMs E (sAs E (sAi E (sK n4 (Xt (Qbl (.slice (some ⟨t,0,none⟩) (a -d) (a -d)) (.int .i64 (0)) results101 (XK E) (XK E) ?_))))))))))
    have hFl:(Xi (zs lf)).length=a:=by rw[←a6,Za];omega
    have hBE:B+2≤exM Mf Mg ((Xi (zs lf)).length -((Xi (zs lg)).length -1)):=Qv4 hB Qo;have s0:Xh r9 (fun b=>w.heap.size≤b) (some ⟨t,0,none⟩) (a -d) (a -d) (LQ) (B+2):=Xh.of_blk (h2.ext S) (YC.sub (hAQ.ext S) q5) (by(try dsimp only);omega) (by exact lq) (by omega) (by unfold Yc;omega);exact⟨some ⟨t,0,none⟩,a -d,a -d,LQ,0,E,Frm.mono ((((a5.xr D).xr z).tr A).xr S) q4,Xh.le (Xh.sub s0 q5) (by omega),.inl ⟨E,fun x=>by rw[hI x,Qm7 (R:=zs LR) (by have h:=g7;omega)];grind⟩,hCQ,(by omega),(fun _=>by omega)⟩
end Go.Proofs.YtnkfdkhjaklolaaGreatDoor
