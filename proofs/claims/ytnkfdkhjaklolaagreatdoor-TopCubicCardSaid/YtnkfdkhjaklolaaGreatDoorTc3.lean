/-
  Walks of packages unidiv and squarefree: greatest common divisors of a polynomial and its derivative, by a known sequence of remainders.
-/
import Derived.Test.YtnkfdkhjaklolaaGreatDoorSq3
import Derived.Test.YtnkfdkhjaklolaaGreatDoorSq4
import Derived.Test.YtnkfdkhjaklolaaGreatDoorLibF
import Derived.Test.YtnkfdkhjaklolaaGreatDoorUni6
import Derived.Test.YtnkfdkhjaklolaaGreatDoorLibB
import Derived.Test.YtnkfdkhjaklolaaGreatDoorFacts
open Int renaming mul_ne_zero→UE,natAbs_neg→Qzz,pow_succ→Qyv,pow_zero→Qy3
open List renaming length→Wq
namespace Go.Proofs.YtnkfdkhjaklolaaGreatDoor
open Go.RowKit Go.Gx Tryz
open Go renaming wp_seq_k→Xs,wp_ret→Xt,wp_skip→Xk,wp_block→Xb,wp_region_lit→Xr
variable{Af Ag:Option Addr}{D Mf Mg b8 cf cg l nf ng pf pg:Nat}{lf lg:List RI}{rc:Bool→Loop}{v8:Value}{w:World}
set_option maxHeartbeats 4000000 in
theorem Qfe(hl:w.heap[l]? =some (.loop (rc false)))(hD:w.heap[D]? =some (.deferred (some [])))(B8:Blk w b8 25 [v8])(hY: ∀(W:World)(A:Option Addr)(n c:Nat)(ll:List RI)(v:Value),Frm (fun b=>b=l∨b=b8) w W→W.heap[l]? =some (.loop (rc false))→W.heap[D]? =some (.deferred (some []))→Blk W b8 25 [v]→Xh W (fun b=>w.heap.size≤b) A n c ll 60000→n≤11→1≤(Xi (zs ll)).length→Yd prog l #[.slice A n c] W (Ret fun r W2=> ∃y:Bool,r= .bool y∧(y=false↔(Xi (zs ll)).length=1)∧Frm (fun b=>b=l∨b=b8) W W2∧W2.heap[l]? =some (.loop (rc (!y)))∧W2.heap[D]? =some (.deferred (some []))∧Blk W2 b8 25 [.slice A n c]))(Bf:Blk w pf 25 [.slice Af nf cf])(hf:Xh w (fun b=>b≠l∧b≠b8) Af nf cf lf Mf)(df:pf≠b8)(Bg:Blk w pg 25 [.slice Ag ng cg])(hg:Xh w (fun b=>b≠l∧b≠b8) Ag ng cg lg Mg)(dg:pg≠b8)(hnf:nf≤4∧ng+1=nf∧2≤ng)(hMf:Mf≤60∧Mg≤60)(htf:Xi (zs lf)=zs lf∧Xi (zs lg)=zs lg)(lz:List Int)(hTq:Tr (zs lf) (zs lg) 1 lz):Calls prog 148 #[.func (.yield l) #[] #[],.pointer (some ⟨pf,0,none⟩),.pointer (some ⟨pg,0,none⟩)] w (Ret fun v w'=> ∃(Al:Option Addr)(nl cl:Nat)(ll:_)(dn:Bool),v=(.tuple #[])∧Frm (fun b=>b=l∨b=b8) w w'∧(w'.heap[l]? =some (.loop (rc dn)))∧(w'.heap[D]? =some (.deferred (some [])))∧(Blk w' b8 25 [.slice Al nl cl])∧(Xh w' (fun b=>w.heap.size≤b) Al nl cl ll 60000)∧(nl≤11)∧(zs ll=lz)):=by
 have ltl:=(Array.getElem?_eq_some_iff.1 hl).1;have ltD:=(Array.getElem?_eq_some_iff.1 hD).1;have U4:=B8.lt;have⟨kf,jf,mf⟩:=hf.lkm;replace hf:=hf.sub (S':=fun b=>b≠l∧b≠b8∧b<w.heap.size) fun _ hb hs=>⟨hs.1,hs.2,hb⟩;have⟨kg,jg,mg⟩:=hg.lkm;replace hg:=hg.sub (S':=fun b=>b≠l∧b≠b8∧b<w.heap.size) fun _ hb hs=>⟨hs.1,hs.2,hb⟩;refine enter func148 E ntmps148 E (Xs fun K1 D8=>XA (fun _=>False) mixed fun w2 m2 U5=> ?_);refine dV 0 E (fun _ hf=>Xg QcZ E ((Bf.ext m2).ext hf) E) ?_;refine dV 2 E (fun _ hf=>Xg QcZ E ((Bg.ext m2).ext hf) E) ?_;refine dOk 1 E E (Xc E Qdb (YF (hf.ext m2) Qo Qo) E ?_);rintro _ w9 ⟨e8,a4,d8,rfl,p9,L8,q0,t8,P0,P1,D9,_,_⟩;refine⟨Frm.of_ext p9,?_⟩;have L9:=q0.lt;have q2:=m2.trans p9;refine dOk 3 E E (Xc E Qdb (YF (hg.ext q2) Qo Qo) E ?_);rintro _ e7 ⟨d2,s,a8,rfl,d9,E0,m3,q6,M0,M3,z0,_,_⟩;refine⟨Frm.of_ext d9,?_⟩;have P2:=d9.size;have E1:=m3.lt;refine dAs 4 E E (dAs 5 E E (XG (by kernel_rfl) (xM D8 (Xs fun U6 z1=>Xs fun U7 q7=> ?_))));have E2:=(t8.ext d9).sub (S':=fun b=>(e8<b)∧b<e7.heap.size) fun _ hb hs=>⟨hs,hb⟩;have y5:Xh e7 (fun b=>w.heap.size≤b∧b<e7.heap.size) (some ⟨e8,0,none⟩) a4 a4 (d8) ((Mf)):=Xh.of_blk (q0.ext d9) (YC.sub E2 q5) (by(try dsimp only);omega) (by exact lq) (by omega) (by unfold Yc;omega);have hza:zs d8=zs lf:=D9.trans htf.1;have hta:Xi (zs d8)=zs d8:=(by rw[hza];exact htf.1);have hna:a4=nf:=by have h:=congrArg Wq hza;rw[Za,Za] at h;omega
 have E3:=q6.sub (S':=fun b=>(d2<b)∧b<e7.heap.size) fun _ hb hs=>⟨hs,hb⟩;have E4:Xh e7 (fun b=>w.heap.size≤b∧b<e7.heap.size) (some ⟨d2,0,none⟩) s s (a8) ((Mg)):=Xh.of_blk m3 (YC.sub E3 q5) (by(try dsimp only);omega) (by exact lq) (by omega) (by unfold Yc;omega);have hzb:zs a8=zs lg:=z0.trans htf.2;have htb:Xi (zs a8)=zs a8:=(by rw[hzb];exact htf.2);have hnb:s=ng:=by have h:=congrArg Wq hzb;rw[Za,Za] at h;omega
 refine QiT (iEv (v:= .func (.yield l) #[] #[]) (by intro c h;cases h) (rfl) rfl rfl (iEv (v:= .slice (some ⟨e8,0,none⟩) a4 a4) (by intro c h;cases h) (rfl) rfl rfl ?_));have e0:=q2.trans d9;have z2:=(e0.block l (Array.getElem?_eq_some_iff.1 hl).1 fun h=>h).trans hl;have z3:=(e0.block D (Array.getElem?_eq_some_iff.1 hD).1 fun h=>h).trans hD;refine Qkd E E E (hY _ _ _ _ _ _ (Frm.of_ext e0) z2 z3 (B8.ext e0) (Xh.le (Xh.sub y5 q5) (by omega)) (by omega) (by rw[hta,Za];omega)) ?_;rintro _ U8 ⟨q8,rfl,q9,e9,z4,z5,z6⟩;rw[hta,Za] at q9;have P3:=e9.size;refine iEv (v:= .bool (!q8)) (by intro c h;cases h) (Qas _ rfl rfl) rfl rfl (iEv (v:= .bool (!q8)) (by intro c h;cases h) (rfl) rfl rfl ?_)
 cases q8
 ·refine QiU E E (QiU E E (QiU E E (QiU E E (iEv (v:= .bool true) (by intro c h;cases h) (rfl) rfl rfl (Qa4 (xM q7 (cT rfl (Xt (xR (Qp1 results148 ?_))))))))))
  exact absurd (q9.1 E) Qo
 ·refine iEv (v:= .func (.yield l) #[] #[]) (by intro c h;cases h) (rfl) rfl rfl (iEv (v:= .slice (some ⟨d2,0,none⟩) s s) (by intro c h;cases h) (rfl) rfl rfl ?_)
  have l5:=e0.rx e9;have y6:=E4.frmB e9 q3;refine Qkd E E E (hY _ _ _ _ _ _ l5 z4 z5 z6 (Xh.le (Xh.sub y6 q5) (by omega)) (by omega) (by rw[htb,Za];omega)) ?_;rintro _ E5 ⟨r0,rfl,r1,e1,r2,r3,z7⟩;rw[htb,Za] at r1;have P4:=e1.size;refine iEv (v:= .bool (!r0)) (by intro c h;cases h) (Qas _ rfl rfl) rfl rfl (iEv (v:= .bool (!r0)) (by intro c h;cases h) (rfl) rfl rfl (Qa4 (xM q7 ?_)))
  cases r0
  ·refine cT E (Xt (xR (Qp1 results148 ?_)))
   exact absurd (r1.1 E) Qo
  ·refine cF E (Xk (xM z1 (rS fun U9 z8=>sMs E (sV (Xw underlying25 E) (sMs E (sV (Xw underlying25 E) (sV (XQ 1 E E (QaZ Qo)) (sAi E (sK z8 (rS fun V0 z9=>sO (Xc E Qaz (Yv Qo) E ?_)))))))))))
   rintro _ E6 ⟨f0,f1,f2,f3,t9,rfl,c8,m4,r4,_,M4⟩;have P5:=c8.size;have⟨M5,_,_⟩:=m4.lkm;have E7:=m4.sub (S':=fun b=>(E5.heap.size≤b)∧b<E6.heap.size) fun _ hb hs=>⟨hs,hb⟩;refine sO (Xj (Yb false none 0 0) XE E fun d1 V1 P6 c9 P7 A0=>sO (Xd (Yb f0 f1 f2 f3) E E E Xp E A0 E fun E8 d0 P8 r5=> ?_));refine sK z9 (rS fun V2 A5=>sV (Xa (Yb f0 f1 f2 f3) Xo Xp E r5 E) (sMi E (sV (XF 2 E E wI) ?_)));have y7:=E7.frmB (c9.rx d0) q3;refine sO (Xc E Qek (Qan y7 (xn:=2) Qo Qo Qo) E ?_);rintro _ E9 ⟨m5,m6,m7,m8,u0,rfl,a5,m9,r6,_,M6⟩;have P9:=a5.size;have⟨M7,_,_⟩:=m9.lkm;have F0:=m9.sub (S':=fun b=>(E8.heap.size≤b)∧b<E9.heap.size) fun _ hb hs=>⟨hs,hb⟩;refine sO (Xj (Yb false none 0 0) XE E fun a9 V3 Q0 a6 Q1 A6=>sO (Xd (Yb m5 m6 m7 m8) E E E Xp E A6 E fun F1 a7 Q2 A7=> ?_));refine sK A5 (Xb ?_);have r7:=(a5.trans a6).rx a7;have A8:=r5.frm r7 q1;have l6:=((((c8.trans c9).rx d0).xr a5).xr a6).tr a7;have A9:=(l6.block l (Array.getElem?_eq_some_iff.1 r2).1 (by(try dsimp only);omega)).trans r2;have B0:=(l6.block D (Array.getElem?_eq_some_iff.1 r3).1 (by(try dsimp only);omega)).trans r3;have B1:=z7.frm l6 q1;have F2:=y5.frmB (((((((e9.trans e1).xr c8).xr c9).tr d0).xr a5).xr a6).tr a7) q3;have F3:=y6.frmB ((((((e1.xr c8).xr c9).tr d0).xr a5).xr a6).tr a7) q3;have F4:=y7.frmB r7 q3;have F5:=F0.frmB (a6.rx a7) q3;refine Ym (fun m e w_=> ∃(A1:Option Addr)(n1:Nat)(c1:Nat)(l1:List RI)(M1:Nat)(A2:Option Addr)(n2:Nat)(c2:Nat)(a:List RI)(M2:Nat)(g3:Bool)(A3:Option Addr)(n3:Nat)(c3:Nat)(d3:List Nat)(g4:Bool)(A4:Option Addr)(n4:Nat)(c4:Nat)(d4:List Nat),m=n2∧e 0=(.func (.yield l) #[] #[])∧e 4=(.slice A1 n1 c1)∧e 5=(.slice A2 n2 c2)∧e 6=(.int .i64 (1))∧e 7=(.pointer (some ⟨d1,0,none⟩))∧e 8=(.pointer (some ⟨a9,0,none⟩))∧Frm (fun b=>b=l∨b=b8∨b=d1∨b=a9) F1 w_∧Blk w_ d1 30 ([.bool g3,.slice A3 n3 c3])∧Blk w_ a9 30 ([.bool g4,.slice A4 n4 c4])∧(w_.heap[l]? =some (.loop (rc false)))∧(w_.heap[D]? =some (.deferred (some [])))∧(Blk w_ b8 25 [.slice A2 n2 c2])∧(Xh w_ (fun b=>w.heap.size≤b∧b≠d1∧b≠a9) A1 n1 c1 l1 M1)∧(Xh w_ (fun b=>w.heap.size≤b∧b≠d1∧b≠a9) A2 n2 c2 a M2)∧(Xn w_ (fun b=>w.heap.size≤b∧b≠d1∧b≠a9) A3 n3 c3 d3)∧(Xn w_ (fun b=>w.heap.size≤b∧b≠d1∧b≠a9) A4 n4 c4 d4)∧(Xi (zs l1)=zs l1)∧(Xi (zs a)=zs a)∧(Tr (zs l1) (zs a) (Xx g4 d4) lz)∧(2≤n2∧n2≤n1∧n1≤n2+1∧n2≤3)∧((n2=3→M1≤100∧M2≤100)∧M1≤1000∧M2≤1000)∧(n3≤2000)∧(Xx g4 d4≠0)∧(n4≤67108864)) ((s)) ?_ ?_
   ·refine⟨(some ⟨e8,0,none⟩),a4,a4,d8,(Mf),(some ⟨d2,0,none⟩),s,s,a8,(Mg),f0,f1,f2,f3,t9,m5,m6,m7,m8,u0,E,E,E,E,E,E,E,Frm.refl _ _,?_,?_,?_,?_,?_,?_,?_,?_,?_,?_,?_,?_,?_,?_,?_,?_,?_⟩
    ·exact A8
    ·exact A7
    ·exact A9
    ·exact B0
    ·exact B1
    ·exact Xh.sub F2 q5
    ·exact Xh.sub F3 q5
    ·exact Xn.sub F4 q5
    ·exact Xn.sub F5 q5
    ·exact hta
    ·exact htb
    ·rw[hza,hzb,r6,r4];exact hTq
    ·omega
    ·omega
    ·omega
    ·rw[r6,r4];decide
    ·omega
   ·rintro V4 Q3 V5 ⟨A1,n1,c1,l1,M1,A2,n2,c2,a,M2,g3,A3,n3,c3,d3,g4,A4,n4,c4,d4,Q4,B4,B5,B6,B7,B9,C0,e2,s1,C1,hl_,hD_,hB_,y8,n0,s2,y9,hta,htb,hTr,hnn,hM,h3,V6,h4⟩
    obtain⟨Q5,rfl⟩:=Qid B4 B5 B6 B7 B9 C0;have M8:=e2.size;have⟨k1_,_,_⟩:=y8.lkm;have⟨k2_,_,_⟩:=n0.lkm;have hgl:ldP (zs a)≠0:=QiX htb (by rw[Za];omega);have⟨V7,V8,V9⟩:=s2.lkm;have⟨W0,W1,W3⟩:=y9.lkm;refine Xb (rS fun Q6 u4=>sMs E (sMs E (sO (Xc E Qn3 (Qfd y8 n0 Qo Qo Qo Qo (by assumption)) E ?_))));rintro _ C2 ⟨g6,g7,g8,F7,g9,b1,h0,e3,h1,rfl,f,F8,h2,_,s3,h5,h6,_,_⟩;have M9:=f.size;have⟨F9,_,_⟩:=h2.lkm;have hps:PsR (zs l1) (zs a) (zs e3):=⟨⟨_,s3⟩,(by rw[Za];have h:=h5;omega),h6⟩;have hK:psM M1 M2 ((Xi (zs l1)).length -((Xi (zs a)).length -1))≤M1+(M2+6)*2:=QmA (L:=2) (by rw[hta,htb,Za,Za];omega);have hrl:b1+1≤n2:=(by have h:=h5;rw[htb,Za] at h;omega);refine sV (v:= .tuple #[.slice g6 g7 g8,.slice g9 b1 h0,.int .i64 (h1)]) (E) (sV (v:= .slice g6 g7 g8) (E) (sV (v:= .slice g9 b1 h0) (E) (sV (v:= .int .i64 (h1)) (E) (sAs E (sAs E (sAi E (sK u4 (Xs fun Q7 u5=>rS fun Q8 n5=>sMs E (sV (Xw underlying25 E) ?_)))))))))
    by_cases n6:((b1:Int))=0
    ·refine sV (XD true E E (dT n6)) ?_
     have s4:zs e3=[]:=List.eq_nil_of_length_eq_zero (by rw[Za];omega);refine sK n5 (cT E (Xt (xR (bR (xR (bR (Qp1 results148 ?_)))))));have u6:=(f.block l (Array.getElem?_eq_some_iff.1 hl_).1 fun h=>h).trans hl_;have u7:=(f.block D (Array.getElem?_eq_some_iff.1 hD_).1 fun h=>h).trans hD_;exact⟨A2,n2,c2,a,false,E,Frm.mono (((((((((l5.trans e1).xr c8).xr c9).tr d0).xr a5).xr a6).tr a7).tr e2).xr f) q4,u6,u7,hB_.ext f,Xh.le (Xh.sub (n0.ext f) q5) Qo,Qo,(hTr.inv0 hps s4).symm⟩
    ·refine sV (XD false E E (dF n6)) ?_
     have s4:zs e3≠ []:=fun h9=>by have h8:=congrArg Wq h9;rw[Za,List.length_nil] at h8;omega
     refine sK n5 (cF E (Xk (xM u5 (rS fun R1 u8=>sMs E ?_))));have f5:=C1.ext f;refine sV (Xa (Yb g4 A4 n4 c4) Xo Xp E f5 E) ?_;refine sO (Xc E QkO (Qez h2 (y9.ext f) Qo Qo Qo Qo) E ?_);rintro _ C3 ⟨b2,k,b3,F,rfl,b4,h7,u9,_,_⟩;have N0:=b4.size;have⟨G0,_,_⟩:=h7.lkm;have hin:=hTr.inv1 hps s4 (show zs F=_ by rw[u9,h6]);have hil:(1≤k∧k≤2):=(by have h:=hin.1.2;rw[Za] at h;omega);have f6:=h7.sub (S':=fun b=>(C2.heap.size≤b)∧b<C3.heap.size) fun _ hb hs=>⟨hs,hb⟩;refine sAs E (sK u8 (Xs fun R2 v0=>Xs fun R3 v1=>QiT (iEv (v:= .func (.yield l) #[] #[]) (by intro c h;cases h) (rfl) rfl rfl (iEv (v:= .slice b2 k b3) (by intro c h;cases h) (rfl) rfl rfl ?_))));have d5:=f.trans b4;have v2:=(d5.block l (Array.getElem?_eq_some_iff.1 hl_).1 fun h=>h).trans hl_;have v3:=(d5.block D (Array.getElem?_eq_some_iff.1 hD_).1 fun h=>h).trans hD_;have n7:=(((((((((l5.trans e1).xr c8).xr c9).tr d0).xr a5).xr a6).tr a7).tr e2).xr f).xr b4;refine Qkd E E E (hY _ _ _ _ _ _ (Frm.mono n7 q4) v2 v3 (hB_.ext d5) (Xh.le (Xh.sub f6 q5) (by omega)) (by omega) (by rw[hin.1.1,Za];omega)) ?_;rintro _ R4 ⟨s5,rfl,f7,t,b5,b6,f8⟩;rw[hin.1.1,Za] at f7;have N1:=t.size;refine iEv (v:= .bool (!s5)) (by intro c h;cases h) (Qas _ rfl rfl) rfl rfl (Qa4 (xM v1 ?_))
     cases s5
     ·refine cT E (Xt (xR (bR (xR (bR (Qp1 results148 ?_))))))
      have C4:=f6.frmB t q3;exact⟨b2,k,b3,F,true,E,Frm.mono (n7.tr t) q4,b5,b6,f8,Xh.le (Xh.sub C4 q5) (by omega),(by omega),hin.2.1 (by rw[Za];exact f7.1 E)⟩
     ·refine cF E (Xk (xM v0 (Xs fun R5 v4=> ?_)))
      have G1:F.length≠1:=fun h=>nomatch f7.2 h;have hne:(zs F).length≠1:=(by rw[Za];exact G1);have G2:=(hin.2.2 hne).1;have G3:=(hin.2.2 hne).2.1;rw[Za] at G2 G3;refine Xr (sMs E ?_);have f9:=d5.rx t;have m1:=n0.frmB f9 q3;refine sO (Xc E QcU (YR m1 Qo Qo) E ?_);rintro _ R6 ⟨b7,G4,i0,G5,i1,rfl,o,b9,u,_,G6⟩;have N2:=o.size;have⟨i2,_,_⟩:=b9.lkm;refine sO (Xc E QhU (Qa5 b9 Qo) E ?_);rintro _ R7 ⟨c0,c5,c6,c7,G7,rfl,p,e4,Z,_,G8⟩;have N3:=p.size;have⟨G9,_,_⟩:=e4.lkm;refine sO (Xj (Yb false none 0 0) XE E fun R8 R9 N4 g N5 v5=>sO (Xd (Yb c0 c5 c6 c7) E E E Xp E v5 E fun S0 j N6 v6=> ?_));refine sK v4 (Xs fun S1 n8=>rS fun S2 v7=>sMi E (sV (Yu true E E (dT (by decide))) (sK v7 (cT E (XA (fun b=>b=d1) mixed fun S3 d N7=> ?_)))));have g0:=v6.ext d;refine dV 0 E (fun _ hf=>Xa (Yb c0 c5 c6 c7) Xo Xp E (g0.frm hf q1) E) (dMi 1 E E (dMi 4 E E (dV 5 E (fun _ _=>XQ 0 E E wI) (QdN 2 3 (by kernel_rfl) ?_ ?_))))
      ·have s6:=e4.frmB ((g.rx j).xr d) q3
       refine dWp (i:=2) E E (Xc E Qek (Qan s6 (xn:=1) Qo Qo Qo) E ?_);rintro _ S4 ⟨H0,H1,H2,H3,H4,rfl,J,i3,v9,_,H5⟩;refine⟨Frm.of_ext J,?_⟩;have N8:=J.size;have⟨H6,_,_⟩:=i3.lkm;have g1:=(((((f9.xr o).xr p).xr g).tr j).xr d).xr J;have n9:=s1.frm g1 q1;refine dOk 3 E E (oEv (v:=Zb g3 A3 n3 c3) (Xa (Yb g3 A3 n3 c3) Xo Xp E n9 E) E ⟨Frm.refl _ _,?_⟩);have C5:=s2.frmB g1 q3;refine dOk 6 E E (Xc E Qek (Qan C5 (xn:=0) Qo Qo Qo) E ?_);rintro _ S5 ⟨s7,H7,H8,H9,s8,rfl,q,i4,o0,_,I0⟩;refine⟨Frm.of_ext q,?_⟩;have N9:=q.size;have⟨I1,_,_⟩:=i4.lkm;have C6:Xx s7 s8≠0:=by rw[o0,Qy3];decide
       refine dOk 7 E E (Xc E Qej (Qaf (i3.ext q) i4 Qo Qo Qo) E ?_);rintro _ S6 ⟨G,R,S,T,i5,i6,i7,i8,i9,I2,j0,rfl,x,j1,I3,w0,_,p7,_,_,_,_⟩;refine⟨Frm.of_ext x,?_⟩;have O0:=x.size;have⟨s9,_,_⟩:=j1.lkm;have e5:Xx G i5= -ldP (zs a):=by rw[w0,v9,o0,Z,show Xx _ _=ldP (zs a) from u];simp [Qyv]
       have I4:=Qpg (g':=b7) (n':=i0) p7 s9 b9.2 i2 (by rw[e5,show Xx b7 i1=ldP (zs a) from u,Qzz]);refine dV 8 E (v:= .tuple #[Zb G R S T,Zb i6 i7 i8 i9,.int .i64 (j0)]) (fun _ _=>rfl) (dV 9 E (v:=Zb G R S T) (fun _ _=>rfl) (dV 10 E (v:=Zb i6 i7 i8 i9) (fun _ _=>rfl) (dV 11 E (v:= .int .i64 (j0)) (fun _ _=>rfl) ?_)));refine dOk 12 E E (Xd (Yb G R S T) E E E Xp E (n9.ext (q.trans x)) E fun S7 K O1 w1=> ?_);refine⟨K,XG (by kernel_rfl) (xM n8 (rS fun S8 w3=>sMs E (sMs E (sAs E (sAs E (sK w3 (rS fun S9 w4=>sMs E (sV (Xw underlying25 E) (sMs E (sV (Xw underlying25 E) (sV (XQ 1 E E (QaZ Qo)) (sAi E (sK w4 (XA (fun b=>b=a9) mixed fun T0 M O2=> ?_))))))))))))))⟩;have o1:=(((J.trans q).trans x).rx K).xr M;have w5:=g0.frm o1 q1;refine dV 0 E (fun _ hf=>Xa (Yb c0 c5 c6 c7) Xo Xp E (w5.frm hf q1) E) ?_;have o2:=w1.ext M;refine dV 1 E (fun _ hf=>Xa (Yb G R S T) Xo Xp E (o2.frm hf q1) E) (dMi 2 E E ?_);have t0:=j1.frmB (K.xr M) q3;refine dOk 3 E E (Xc E Qek (Qan t0 (xn:=1) Qo Qo Qo) E ?_);rintro _ T1 ⟨I5,I6,I7,I8,I9,rfl,z,j2,o3,_,J0⟩;refine⟨Frm.of_ext z,?_⟩;have O3:=z.size;have⟨J1,_,_⟩:=j2.lkm;have C7:=s6.frmB (o1.xr z) q3;refine dOk 4 E E (Xc E Zg (XM C7 j2 Qo) E ?_);rintro _ T2 ⟨j3,j4,j5,j6,t1,rfl,a0,j7,o4,_,J2⟩;refine⟨Frm.of_ext a0,?_⟩;have⟨J3,_,_⟩:=j7.lkm;have w6:=f5.frm (((((((((((((b4.rx t).xr o).xr p).xr g).tr j).xr d).xr J).xr q).xr x).tr K).xr M).xr z).xr a0) q1;refine dOk 5 E E (Xd (Yb j3 j4 j5 j6) E E E Xp E w6 E fun T3 a1 _ w7=> ?_);refine⟨a1,XG (by kernel_rfl) (bN ?_)⟩;have o5:=(z.trans a0).rx a1;have w8:=o2.frm o5 q1;have d6:=(((((((((((o.trans p).trans g).rx j).xr d).xr J).xr q).xr x).tr K).xr M).xr z).xr a0).tr a1;have x0:=(d6.block l (Array.getElem?_eq_some_iff.1 b5).1 (by(try dsimp only);omega)).trans b5;have x1:=(d6.block D (Array.getElem?_eq_some_iff.1 b6).1 (by(try dsimp only);omega)).trans b6;have x2:=f8.frm d6 q1;have C8:=m1.frmB d6 q3;have C9:=f6.frmB (((((((((((((t.xr o).xr p).xr g).tr j).xr d).xr J).xr q).xr x).tr K).xr M).xr z).xr a0).tr a1) q3;have D0:=t0.frmB o5 q3;have D1:=j7.frmB a1 q3;refine again ((k)) Qo ⟨A2,n2,c2,a,M2,b2,k,b3,F,(psM (M1) (M2) ((Xi (zs (l1))).length -((Xi (zs (a))).length -1)))+1,G,R,S,T,i5,j3,j4,j5,j6,t1,E,E,E,E,E,E,E,Frm.mono (e2.tr (((((((g1.xr q).xr x).tr K).xr M).xr z).xr a0).tr a1)) q4,?_,?_,?_,?_,?_,?_,?_,?_,?_,?_,?_,?_,?_,?_,?_,?_,?_⟩
       ·exact w8
       ·exact w7
       ·exact x0
       ·exact x1
       ·exact x2
       ·exact Xh.sub C8 q5
       ·exact Xh.sub C9 q5
       ·exact Xn.sub D0 q5
       ·exact Xn.sub D1 q5
       ·exact htb
       ·exact hin.1.1
       ·rw[o4,Z,o3,e5,show Xx _ _=ldP (zs a) from u,show -ldP (zs a)*(-ldP (zs a))^1=ldP (zs a)*ldP (zs a) by rw[Qyv,Qy3];grind];exact(hin.2.2 hne).2.2
       ·omega
       ·omega
       ·omega
       ·rw[o4,Z,o3,e5,show Xx _ _=ldP (zs a) from u,show -ldP (zs a)*(-ldP (zs a))^1=ldP (zs a)*ldP (zs a) by rw[Qyv,Qy3];grind];exact UE hgl hgl
       ·omega
      ·have o6:=((((f9.xr o).xr p).xr g).tr j).xr d
       have o7:=s1.frm o6 q1;refine dWp (i:=3) E E (oEv (v:=Zb g3 A3 n3 c3) (Xa (Yb g3 A3 n3 c3) Xo Xp E o7 E) E ⟨Frm.refl _ _,?_⟩);have t2:=e4.frmB ((g.rx j).xr d) q3;refine dOk 2 E E (Xc E Qek (Qan t2 (xn:=1) Qo Qo Qo) E ?_);rintro _ T4 ⟨J4,J5,J6,J7,J8,rfl,N,j8,x3,_,J9⟩;refine⟨Frm.of_ext N,?_⟩;have O4:=N.size;have⟨K0,_,_⟩:=j8.lkm;have o8:=o6.xr N;have D2:=s2.frmB o8 q3;refine dOk 6 E E (Xc E Qek (Qan D2 (xn:=0) Qo Qo Qo) E ?_);rintro _ T5 ⟨t3,K2,K3,K4,t4,rfl,B,j9,o9,_,K5⟩;refine⟨Frm.of_ext B,?_⟩;have O5:=B.size;have⟨K6,_,_⟩:=j9.lkm;have C6:Xx t3 t4≠0:=by rw[o9,Qy3];decide
       refine dOk 7 E E (Xc E Qej (Qaf (j8.ext B) j9 Qo Qo Qo) E ?_);rintro _ T6 ⟨I,U,X,Y,k0,k1,k2,k3,k4,K7,k5,rfl,O,k6,K8,x4,_,p8,_,_,_,_⟩;refine⟨Frm.of_ext O,?_⟩;have O6:=O.size;have⟨t5,_,_⟩:=k6.lkm;have e5:Xx I k0= -ldP (zs a):=by rw[x4,x3,o9,Z,show Xx _ _=ldP (zs a) from u];simp [Qyv]
       have I4:=Qpg (g':=b7) (n':=i0) p8 t5 b9.2 i2 (by rw[e5,show Xx b7 i1=ldP (zs a) from u,Qzz]);refine dV 8 E (v:= .tuple #[Zb I U X Y,Zb k1 k2 k3 k4,.int .i64 (k5)]) (fun _ _=>rfl) (dV 9 E (v:=Zb I U X Y) (fun _ _=>rfl) (dV 10 E (v:=Zb k1 k2 k3 k4) (fun _ _=>rfl) (dV 11 E (v:= .int .i64 (k5)) (fun _ _=>rfl) ?_)));have p0:=(N.trans B).trans O;refine dOk 12 E E (Xd (Yb I U X Y) E E E Xp E (o7.ext p0) E fun T7 P O7 x5=> ?_);refine⟨P,XG (by kernel_rfl) (xM n8 (rS fun T8 x6=>sMs E (sMs E (sAs E (sAs E (sK x6 (rS fun T9 x7=>sMs E (sV (Xw underlying25 E) (sMs E (sV (Xw underlying25 E) (sV (XQ 1 E E (QaZ Qo)) (sAi E (sK x7 (XA (fun b=>b=a9) mixed fun U0 Q O8=> ?_))))))))))))))⟩;have p1:=(p0.rx P).xr Q;have x8:=g0.frm p1 q1;refine dV 0 E (fun _ hf=>Xa (Yb c0 c5 c6 c7) Xo Xp E (x8.frm hf q1) E) ?_;have p2:=x5.ext Q;refine dV 1 E (fun _ hf=>Xa (Yb I U X Y) Xo Xp E (p2.frm hf q1) E) (dMi 2 E E ?_);have t6:=k6.frmB (P.xr Q) q3;refine dOk 3 E E (Xc E Qek (Qan t6 (xn:=1) Qo Qo Qo) E ?_);rintro _ U1 ⟨K9,L0,L1,L2,L3,rfl,C,k7,p3,_,L4⟩;refine⟨Frm.of_ext C,?_⟩;have O9:=C.size;have⟨L5,_,_⟩:=k7.lkm;have D3:=t2.frmB (p1.xr C) q3;refine dOk 4 E E (Xc E Zg (XM D3 k7 Qo) E ?_);rintro _ U2 ⟨k8,k9,l0,l3,t7,rfl,a2,l4,p4,_,L6⟩;refine⟨Frm.of_ext a2,?_⟩;have⟨L7,_,_⟩:=l4.lkm;have x9:=f5.frm (((((((((((((b4.rx t).xr o).xr p).xr g).tr j).xr d).xr N).xr B).xr O).tr P).xr Q).xr C).xr a2) q1;refine dOk 5 E E (Xd (Yb k8 k9 l0 l3) E E E Xp E x9 E fun U3 a3 _ y0=> ?_);refine⟨a3,XG (by kernel_rfl) (bN ?_)⟩;have p5:=(C.trans a2).rx a3;have y1:=p2.frm p5 q1;have d7:=(((((((((((o.trans p).trans g).rx j).xr d).xr N).xr B).xr O).tr P).xr Q).xr C).xr a2).tr a3;have y2:=(d7.block l (Array.getElem?_eq_some_iff.1 b5).1 (by(try dsimp only);omega)).trans b5;have y3:=(d7.block D (Array.getElem?_eq_some_iff.1 b6).1 (by(try dsimp only);omega)).trans b6;have y4:=f8.frm d7 q1;have D4:=m1.frmB d7 q3;have D5:=f6.frmB (((((((((((((t.xr o).xr p).xr g).tr j).xr d).xr N).xr B).xr O).tr P).xr Q).xr C).xr a2).tr a3) q3;have D6:=t6.frmB p5 q3;have D7:=l4.frmB a3 q3;refine again ((k)) Qo ⟨A2,n2,c2,a,M2,b2,k,b3,F,(psM (M1) (M2) ((Xi (zs (l1))).length -((Xi (zs (a))).length -1)))+1,I,U,X,Y,k0,k8,k9,l0,l3,t7,E,E,E,E,E,E,E,Frm.mono (e2.tr (((((((o8.xr B).xr O).tr P).xr Q).xr C).xr a2).tr a3)) q4,?_,?_,?_,?_,?_,?_,?_,?_,?_,?_,?_,?_,?_,?_,?_,?_,?_⟩
       ·exact y1
       ·exact y0
       ·exact y2
       ·exact y3
       ·exact y4
       ·exact Xh.sub D4 q5
       ·exact Xh.sub D5 q5
       ·exact Xn.sub D6 q5
       ·exact Xn.sub D7 q5
       ·exact htb
       ·exact hin.1.1
       ·rw[p4,Z,p3,e5,show Xx _ _=ldP (zs a) from u,show -ldP (zs a)*(-ldP (zs a))^1=ldP (zs a)*ldP (zs a) by rw[Qyv,Qy3];grind];exact(hin.2.2 hne).2.2
       ·omega
       ·omega
       ·omega
       ·rw[p4,Z,p3,e5,show Xx _ _=ldP (zs a) from u,show -ldP (zs a)*(-ldP (zs a))^1=ldP (zs a)*ldP (zs a) by rw[Qyv,Qy3];grind];exact UE hgl hgl
       ·omega
end Go.Proofs.YtnkfdkhjaklolaaGreatDoor
