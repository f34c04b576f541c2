/-
  Walk of package division: long division.
-/
import Derived.Test.YtnkfdkhjaklolaaGreatDoorDiv1
import Derived.Test.YtnkfdkhjaklolaaGreatDoorNat6
import Derived.Test.YtnkfdkhjaklolaaGreatDoorLibA
open List renaming map_append→Uo,map_replicate→Uw,map_set→UA,take_append_drop→Ux
namespace Go.Proofs.YtnkfdkhjaklolaaGreatDoor
open Go.RowKit Go.Gx Tryz
open Go renaming wp_seq_k→Xs,wp_ret→Xt,wp_skip→Xk,wp_block→Xb,wp_exit→Xe,wp_region_lit→Xr
open List renaming replicate→Xl
variable{Aa Ab:Option Addr}{Sa Sb:Nat→Prop}{ca cb na nb:Nat}{da db:List Nat}{w:World}
set_option maxHeartbeats 2000000 in
theorem QbJ(ha:Xn w Sa Aa na ca da)(hb:Xn w Sb Ab nb cb db)(hna:na≤274877906944)(hnb:nb≤274877906944)(hb0:0<val db):Calls prog 191 #[.slice Aa na ca,.slice Ab nb cb] w (Ret fun v w'=> ∃Aq nq cq dq Ar nr cr dr,v=(.tuple #[.slice Aq nq cq,.slice Ar nr cr])∧Ext w w'∧Xn w' (fun b=>w.heap.size≤b) Aq nq cq dq∧Xn w' (fun b=>w.heap.size≤b) Ar nr cr dr∧(val da=val db*val dq+val dr)∧(val dr<val db)∧(Canon isZ dq)∧(Canon isZ dr)∧(nq≤na+1)∧(nr≤nb)):=by
 have⟨la,ka,ma⟩:=ha.lkm;replace ha:=ha.low;have⟨lb,kb,mb⟩:=hb.lkm;replace hb:=hb.low;refine enter func191 E ntmps191 E (rS fun K1 p4=>sAs E (sAs E (sK p4 (wp_scope_straight (rS fun K2 p5=>sMs E (sO (Xc E QfK (Zm hb Qo) E ?_)))))));rintro _ w4 ⟨t7,l,t8,p,rfl,b1,O,m3,t9⟩;have x8:=b1.size;have⟨U,u0,u1⟩:=O.lkm;have hvb:val p=val db:=by rw[m3,XX]
 have hcb:Canon isZ p:=by rw[m3];exact XJ _ _
 have p6:l≠0:=by intro h;rw[show p=[] from List.eq_nil_of_length_eq_zero (by omega)] at hvb;simp [val] at hvb;omega
 refine sAs E (sK p5 (Xs fun K8 p7=>rS fun K9 m4=>sMs E (sMs E ?_)));have c9:=ha.ext b1;refine sO (Xc E Qfk (Qa7 c9 O) E ?_);rintro _ x9 ⟨i6,rfl,r,f7⟩;have u2:=r.size
 by_cases W:i6<0
 ·refine sV (Xq true E E (dT W)) (sK m4 (cT E (rS fun y0 m8=>sMs E ?_)))
  refine sO (Xc E QfK (Zm (c9.ext r) Qo) E ?_);rintro _ y1 ⟨d0,d1,d2,X,rfl,m9,d3,c2,_⟩;have⟨i7,_,_⟩:=d3.lkm;refine sAs E (sAs E (sK m8 (Xt (xR (nR (Qbl (.slice none 0 0) (.slice d0 d1 d2) results191 (XK E) (XK E) ?_))))));have hlt:val X<val db:=by rw[c2,XX,←hvb];exact Ql1 f7 W
  have hcr:Canon isZ X:=by rw[c2];exact XJ _ _
  exact⟨none,0,0,[],d0,d1,d2,X,E,(b1.trans r).trans m9,Xn.nil,Xn.sub d3 q5,(by rw[c2,XX];simp [val]),hlt,Qci _,hcr,(by omega),QlE hcr hlt hb.2 lb i7⟩
 ·refine sV (Xq false E E (dF W)) (sK m4 (cF E (Xk (xM p7 (Xs fun y2 n0=>rS fun y3 f8=>sMs E (sV (Xw underlying28 E) ?_))))))
  by_cases f9:((l:Int))=1
  ·refine sV (XD true E E (dT f9)) (sK f8 (cT E (rS fun y4 n1=>sMs E (sMs E ?_))))
   have g0:=O.ext r;obtain⟨y5,p8,rfl⟩:=g0.base Qo;refine sV (XU 0 underlying28 Xz E E (p8+0)) ?_;have u3:=g0.lt 0;refine sV (XR XV E (g0.cell Qo)) ?_;have g1:val p=p.getD 0 0:=(Qw2 U).2.1 Qo;refine sO (Xc E Qoh (QcW (c9.ext r) (xd:=p.getD 0 0) Qo Qo Qo) E ?_);rintro _ y6 ⟨D,F,G,i8,I,d4,rfl,g2,d5,r4,n2,d6,i9,r5⟩;have u4:=g2.size;have⟨r6,_,_⟩:=d5.lkm;refine sV (v:= .tuple #[.slice D F G,.int .u32 I,.bool d4]) (E) (sV (v:= .slice D F G) (E) (sV (v:= .int .u32 I) (E) (sV (v:= .bool d4) (E) (sAs E (sAi E (sAb E (sK n1 (rS fun y7 n3=>sMs E (sMi E (sV (XY ((I:Int)) underlying123 underlying75 E (Qbm Qo)) (sO (Xc E QjF (Qcp (x1:=I) Qo) E ?_))))))))))));rintro _ y8 ⟨d7,d8,d9,j0,rfl,g3,e0,c3,e1,_⟩;have⟨j1,_,_⟩:=e0.lkm;refine sAs E (sAs E (sK n3 (Xt (xR (nR (Qbl (.slice D F G) (.slice d7 d8 d9) results191 (XK E) (XK E) ?_))))));exact⟨D,F,G,i8,d7,d8,d9,j0,E,((b1.trans r).trans g2).trans g3,Xn.sub (d5.ext g3) q5,Xn.sub e0 q5,(by rw[c3,←hvb,g1];exact n2),(by rw[c3,←hvb,g1];exact d6),i9,e1,(by omega),QlE e1 (by rw[c3,←hvb,g1];exact d6) hb.2 lb j1⟩
  ·refine sV (XD false E E (dF f9)) (sK f8 (cF E (Xk (xM n0 (rS fun y9 n4=>sMs E (sMs E (sV (Xw underlying28 E) (sV (XQ (((l:Int)) -1) E E wI) ?_))))))))
   have e2:=O.ext r;obtain⟨z0,p9,rfl⟩:=e2.base Qo;refine sV (XU (l -1) underlying28 Xz E E (p9+(l -1))) ?_;have u5:=e2.lt (l -1);refine sV (XR XV E (e2.cell Qo)) ?_;have htop:p.getD (l -1) 0≠0:=QjM hcb U p6;refine sO (Xc E QtF (bits_LeadingZeros32 (x1:=p.getD (l -1) 0) Qo Qo) E ?_);rintro _ q0 ⟨t,rfl,Y,r7,j2,j3,Z⟩;have u6:=Y.size;refine sAi E (sK n4 (rS fun z1 n5=>sMs E (sMi E ?_)));refine sO (Xc E QkY (Qev (e2.ext Y) (xn:=t) Qo Qo Qo) E ?_);rintro _ q6 ⟨j4,a,j5,j,rfl,c4,a0,g4,j6,_⟩;have u7:=c4.size;have⟨J,_,_⟩:=a0.lkm;have q7:=a0.sub (S':=fun b=>(q0.heap.size≤b)∧b<q6.heap.size) fun _ hb hs=>⟨hs,hb⟩;have hnl:=Qrv O.2 U Qo j2 j3 Z g4 a0.2 j6;have hnv:a=l:=by rw[←J];exact hnl.1
   rw[←hnv] at hnl;refine sAs E (sK n5 (rS fun z2 n6=>sMs E (sV (Xw underlying28 E) (sAi E (sK n6 (rS fun z3 n7=>sMs E ?_))))));have m5:=c9.ext ((r.trans Y).trans c4);refine sO (Xc E QfK (Zm m5 Qo) E ?_);rintro _ z4 ⟨r8,f,r9,j7,rfl,c5,K,n8,s0⟩;have u8:=c5.size;have⟨a1,s1,s2⟩:=K.lkm;refine sV (Xw underlying28 E) (sV (XF (((f:Int))+1) E E wI) (sO (Qaw (f+1) underlying28 Qai E cI cI Qo Qo fun P q8 u9 g5 v0 n9=> ?_)));have o0:Blk q8 P 123 (((Xl (f+1) 0)).map u32):=by rw[Uw];exact n9
   refine sAs E (sK n7 (rS fun z5 o1=>sMs E (sMs E (sMi E ?_))));have g6:=c5.trans g5;refine sO (Xc E QkY (Qev (m5.ext g6) (xn:=t) Qo Qo Qo) E ?_);rintro _ z6 ⟨s3,u,s4,L,rfl,a2,a3,g7,j8,_⟩;have v1:=a2.size;have⟨e3,_,_⟩:=a3.lkm;have hva:val j7=val da:=by rw[n8,XX]
   have hcmp:=QoE f7 W;have hul:u≤f+1:=by rw[←e3];exact YA j8 (QuY K.2 a1 hva g7 Z)
   have hab:l≤f:=by rw[←a1,←U];exact QfM K.2 hcb (by rw[hva,hvb];rw[hvb] at hcmp;exact hcmp)
   refine sO (QhG underlying28 Xz E E a3.1 (Qba _) (o0.ext a2) Qo (by exact lq) fun q9 g8 v2 c6=> ?_);replace c6:Blk q9 P 123 ((L++Xl (f+1 -u) 0).map u32):=by rw[← (Qcl e3 (by omega):(Xl (f+1) 0).take 0++L++(Xl (f+1) 0).drop (0+u)=L++Xl (f+1 -u) 0),Uo,Uo,List.map_take,List.map_drop];exact c6
   rw[YM];refine sK o1 (rS fun z7 o2=>sMs E (sV (Xw underlying28 E) (sMi E (sV (XQ ((((f+1:Nat):Int)) -((a:Int))) E E wI) (sO (Qaw ((f+1) -a) underlying28 Qai E cI cI Qo Qo fun x m6 v3 c7 v4 o3=> ?_))))));have o4:Blk m6 x 123 (((Xl ((f+1) -a) 0)).map u32):=by rw[Uw];exact o3
   refine sAs E (sK o2 (Xs fun v5 j9=>wp_label (xM j9 (Xs fun v6 k0=>rS fun v7 k1=>sMs E (sV (Xw underlying28 E) (sV (XQ (((((f+1) -a:Nat):Int)) -1) E E wI) (sAi E (sK k1 (Xb ?_)))))))));refine Ym (fun m e w_=> ∃(k:Nat)(Du:List Nat)(Q:List Nat),m=k∧e 4=(.slice (some ⟨x,0,none⟩) ((f+1) -a) ((f+1) -a))∧e 9=(.int .i64 t)∧e 10=(.slice j4 a j5)∧e 11=(.int .i64 a)∧e 12=(.slice (some ⟨P,0,none⟩) (f+1) (f+1))∧e 13=(.int .i64 ((k:Int) -1))∧Frm (fun b=>b=P∨b=x) m6 w_∧Blk w_ P 123 (Du.map u32)∧Blk w_ x 123 ((Xl k 0++Q).map u32)∧(k≤(f+1) -a)∧(Du.length=f+1)∧(∀d∈Du,d<BS)∧(Q.length=(f+1) -a -k)∧(∀d∈Q,d<BS)∧(QnF Du j Q k (val da*2^t))) (((f+1) -a)) ?_ ?_
   ·refine⟨(f+1) -a,L++Xl (f+1 -u) 0,[],E,E,E,E,E,E,cI,Frm.refl _ _,?_,?_,?_,?_,?_,?_,?_,?_⟩
    ·exact(c6.ext c7)
    ·simpa using o4
    ·omega
    ·simp;omega
    ·exact QbM a3.2
    ·simp
    ·simp
    ·exact QnF.start (m:=f+1) (n:=a) (s:=t) (va:=val da) (by rw[QdK,g7]) E (by rw[←hva];have h:=QaU _ K.2;rw[a1] at h;simpa using h) Z (by have h:=QwN (d:=j) (n:=a) J (by omega);have h2:BS^ (a -1)*2147483648≤BS^ (a -1)*j.getD (a -1) 0:=Nat.mul_le_mul_left _ hnl.2;omega) (by omega) E (by omega)
   ·rintro v8 v9 o6 ⟨k,Du,Q,s5,k2,k3,k4,k5,k6,k7,y,e4,e5,hk,hDl,hDt,hQl,hQt,hI⟩
    obtain⟨w0,rfl⟩:=Qid k2 k3 k4 k5 k6 k7;have s6:=y.size;refine Xs fun w1 k8=>rS fun w2 e6=>sMi E ?_
    by_cases e7:((k:Int) -1)≥0
    ·refine sV (Zi true E E (dT e7)) (sK e6 (cT E (Xk (xM k8 (Xs fun w3 e8=>Xb (rS fun w5 k9=>sMs E (sMi E (sMi E (sMi E (sV (XF (((k:Int) -1)+((a:Int))) E E wI) (sV (XF ((((k:Int) -1)+((a:Int)))+1) E E wI) (sV (Qdl (k -1) (((k -1)+a)+1) underlying28 Xz E E E Qo Qo Qo Qo Qo (k -1) Qo) (sAs E (sK k9 (Xs fun w6 l0=> ?_)))))))))))))))
     have a4:=q7.frmB ((((g6.trans a2).rx g8).xr c7).tr y) q3;have hvlt:val j<BS^a:=by have h:=QaU _ a4.2;rw[J] at h;exact h
     have hpt:=hI.part (n:=a) Qo Qo hvlt;have hpd: ∀d∈(Du.drop (k -1)).take (a+1),d<BS:=fun d hd=>hDt d (List.mem_of_mem_drop (List.mem_of_mem_take hd));have m7:=Qm6 (d:=(Du.drop (k -1)).take (a+1)) (n:=a) (by omega) (by simp;omega);rw[Qhc (by omega),Qhc (by omega),Qhc (by omega)] at m7;have g9:=QxS (k:=0) hpd (show 2≤a by omega) (by simp;omega) m7;have h0:=QxS (k:=0) a4.2 (show 2≤a by omega) Qo (QqY Qo J);have hE:0<BS^ (a -2):=Nat.pow_pos (by decide);have hut:=QwO hE h0.2 g9.1 hpt.2.1 E E (a4.lt (a -2));refine XA (fun b=>b=x) mixed fun w7 a5 _=>dMs 0 E E (dMi 1 E E (dMs 2 E E (dMi 3 E E (dV 4 E (fun _ _=>XU a underlying28 Xz E E (k -1+a)) ?_))));have M:=e4.ext a5;have s7:=getD_lt (ds:=Du) (i:=k -1+a) hDt;refine dV 5 E (fun _ hf=>XR XV E ((M.frm hf q1).dig (by exact lq))) (dMs 6 E E (dMi 7 E E (dV 8 E (fun _ _=>XQ (((a:Int)) -1) E E wI) (dV 9 E (fun _ _=>XU (a -1) underlying28 Xz E E (k -1+(a -1))) ?_))));have s8:=getD_lt (ds:=Du) (i:=k -1+(a -1)) hDt;refine dV 10 E (fun _ hf=>XR XV E ((M.frm hf q1).dig (by exact lq))) (dMs 11 E E (dMi 12 E E (dV 13 E (fun _ _=>XQ (((a:Int)) -2) E E wI) (dV 14 E (fun _ _=>XU (a -2) underlying28 Xz E E (k -1+(a -2))) ?_))));have s9:=getD_lt (ds:=Du) (i:=k -1+(a -2)) hDt;refine dV 15 E (fun _ hf=>XR XV E ((M.frm hf q1).dig (by exact lq))) (dMs 16 E E (dMi 17 E E (dV 18 E (fun _ _=>XQ (((a:Int)) -1) E E wI) ?_)));have C:=a4.ext a5;obtain⟨w8,h1,rfl⟩:=C.base Qo;refine dV 19 E (fun _ _=>XU (a -1) underlying28 Xz E E (h1+(a -1))) ?_;have t0:=C.lt (a -1);refine dV 20 E (fun _ hf=>XR XV E ((C.frm hf q2).cell Qo)) (dMs 21 E E (dMi 22 E E (dV 23 E (fun _ _=>XQ (((a:Int)) -2) E E wI) (dV 24 E (fun _ _=>XU (a -2) underlying28 Xz E E (h1+(a -2))) ?_))));have t1:=C.lt (a -2);refine dV 25 E (fun _ hf=>XR XV E ((C.frm hf q2).cell Qo)) (dOk 26 E E (Xc E QtG (Qfp (xa:=Du.getD (k -1+a) 0) Qo (xb:=Du.getD (k -1+(a -1)) 0) Qo (xc:=Du.getD (k -1+(a -2)) 0) Qo (xd:=j.getD (a -1) 0) Qo (xe:=j.getD (a -2) 0) Qo Qo Qo) E ?_));rintro _ w9 ⟨c,rfl,a6,r0,h3,h4⟩;refine⟨Frm.of_ext a6,?_⟩;have hbd:=QoY hE h0.1 h0.2 g9.1 g9.2 h3 h4 Qo hpt.2.1 (by unfold Qj2;have h:=hnl.2;omega);refine dV 27 E (fun _ _=>XU (k -1) underlying28 Xz E E (k -1)) ?_;have a7:=a5.trans a6;refine dOk 28 E E (YH E E E Xz (e5.ext a7) (by exact lq) fun o7 N _ z=> ?_);replace z:Blk o7 x 123 ((Xl (k -1) 0++(c::Q)).map u32):=by rw[← (QmG (by omega) (by omega):(Xl k 0++Q).set (k -1) c=Xl (k -1) 0++(c::Q)),UA];exact z
     refine⟨N,XG (by kernel_rfl) (xM l0 (Xs fun x0 l1=>rS fun x2 l2=>sMs E (sMs E (sMs E (sMi E (sV (XU (k -1) underlying28 Xz E E (k -1)) ?_))))))⟩;have t2:=getD_lt (ds:=Xl (k -1) 0++(c::Q)) (i:=k -1) (QdI (Qg0 hQt Qo));refine sV (XR XV E (z.dig (by exact lq))) ?_;have hqg:(Xl (k -1) 0++(c::Q)).getD (k -1) 0=c:=QmF
     generalize t3:(Xl (k -1) 0++(c::Q)).getD (k -1) 0=q113 at *
     obtain rfl:=hqg.symm;have e9:=a6.rx N;have l3:=M.frm e9 q1;have h5:=C.frmB e9 q3;refine sO (Xc E QtH (Qcb (Uz:=(Du).take (k -1)) (Zz:=(Du).drop (k -1)) (by rw[Ux];exact l3) (by exact lq) (by exact lq) (by rw[Ux];exact hDt) (by omega) (by omega) (Xn.sub h5 q5) (xd:=c) (by omega) (by omega)) E ?_);rintro _ x3 ⟨h6,g,R,rfl,A,f0,B,S,b2,l4,l5,f1⟩;have hzl:val (g.take (a+1))<BS^ (a+1):=Qhu fun d hd=>S d (by simp [hd]);have ex:val (g.take (a+1))+c*val j=val ((Du.drop (k -1)).take (a+1))+BS^ (a+1)*R:=by have h:=l4;rwa [show k -1+a+1 -(k -1)=a+1 by omega] at h
     have h7:=Qf7 ex hzl;have lnz:g.length=Du.length -(k -1):=by rw[B,List.length_drop]
     refine sV (Qas _ E E) (sK l2 ?_)
     cases h6
     ·refine cT E (Xe (xE (bE (xM e8 ?_))))
      have hdl:g.drop (a+1)=(Du.drop (k -1)).drop (a+1):=by have h:=b2;rwa [show k -1+a+1 -(k -1)=a+1 by omega] at h
      have h8:R=0:=by simpa using f1.symm
      have hqv:=h7.1 h8;rw[h8,Nat.mul_zero,Nat.add_zero] at ex;have hstep:=hI.step (n:=a) (q:=c) Qo Qo hvlt hDt B hdl ex (by have h:=hbd.2.2 hqv;omega);have c8:(Du.take (k -1)++g).length=f+1:=by simp [B];omega
      refine Xr (sMi E (sV (XQ (((k:Int) -1) -1) E E wI) (sAi E (XB ?_))));have l6:=z.frm A q1;refine again ((k -1)) Qo ⟨k -1,(Du).take (k -1)++g,((c)::Q),E,E,E,E,E,E,cI,Frm.mono (y.tr ((a7.rx N).tr A)) q4,?_,?_,?_,?_,?_,?_,?_,?_⟩
      ·exact f0
      ·exact l6
      ·omega
      ·exact c8
      ·exact S
      ·simp [hQl];omega
      ·exact Qg0 hQt Qo
      ·exact hstep
     ·refine cF E (Xk (xM l1 (Xs fun x4 l7=> ?_)))
      have h9:R≠0:=by simpa using f1.symm
      have hnq: ¬c*val j≤val ((Du.drop (k -1)).take (a+1)):=fun h=>h9 (h7.2 h);have hpos:0<c:=by rcases Nat.eq_zero_or_pos c with h|h;rw[h,Nat.zero_mul] at hnq;omega;exact h
      refine Xr (sMs E (sMi E (sV (XU (k -1) underlying28 Xz E E (k -1)) ?_)));have f2:=z.frm A q1;have t4:=getD_lt (ds:=Xl (k -1) 0++(c::Q)) (i:=k -1) (QdI (Qg0 hQt Qo));refine sV (XR XV E (f2.dig (by exact lq))) ?_;have o8:(Xl (k -1) 0++(c::Q)).getD (k -1) 0=c:=QmF
      generalize t5:(Xl (k -1) 0++(c::Q)).getD (k -1) 0=q119 at *
      obtain rfl:=o8.symm;refine sV (XQ (((c -1:Nat):Int)) E E (Qju Qo)) (sV (XU (k -1) underlying28 Xz E E (k -1)) (sO (YH E E E Xz f2 (by exact lq) fun o9 a8 _ a9=> ?_)));replace a9:Blk o9 x 123 ((Xl (k -1) 0++((c -1)::Q)).map u32):=by rw[← (Qp2:(Xl (k -1) 0++(c::Q)).set (k -1) (c -1)=Xl (k -1) 0++((c -1)::Q)),UA];exact a9
      refine sK l7 (Xr (sMs E (sMs E ?_)));have l8:=f0.frm a8 q1;have p0:=h5.frmB (A.tr a8) q3;refine sO (Xc E QtI (Qf2 (Uz:=((Du).take (k -1)++g).take (k -1)) (Zz:=((Du).take (k -1)++g).drop (k -1)) (by rw[Ux];exact l8) (by exact lq) (by exact lq) (by rw[Ux];exact S) (by omega) (by omega) (Xn.sub p0 q5) (by omega)) E ?_);rintro _ x5 ⟨o,i0,rfl,f3,f4,i1,T,i2,l9⟩;refine XB (bN (xM e8 ?_));have hta:(Du.take (k -1)++g).drop (k -1)=g:=Qr0 Qo;have htb:(Du.take (k -1)++g).take (k -1)=Du.take (k -1):=Qqg Qo;have hdl:o.drop (a+1)=(Du.drop (k -1)).drop (a+1):=by have h:=i2;have h2:=b2;rw[hta] at h;rw[show k -1+a+1 -(k -1)=a+1 by omega] at h h2;rw[h,h2]
      have hln:o.length=(Du.drop (k -1)).length:=by have h:=i1;rw[hta] at h;rw[h];exact B
      have ez:val (o.take (a+1))+BS^ (a+1)*i0=val (g.take (a+1))+val j:=by have h:=l9;rw[hta] at h;rwa [show k -1+a+1 -(k -1)=a+1 by omega] at h
      have r1:val (o.take (a+1))<BS^ (a+1):=Qhu fun d hd=>T d (by simp [hd]);have hvB:val j<BS^ (a+1):=Nat.lt_of_lt_of_le hvlt (Nat.pow_le_pow_right (by decide) Qo);have hbk:=Qs0 (q:=c -1) (by rw[show c -1+1=c by omega];exact ex) h9 l5 ez r1 (hbd.2.1 hpos) (by rw[show c -1+1=c by omega];omega) hvB;have hstep:=hI.step (n:=a) (q:=c -1) Qo Qo hvlt hDt hln hdl hbk.1 hbk.2;rw[htb] at f4 T;have c8:(Du.take (k -1)++o).length=f+1:=by simp [hln];omega
      refine Xr (sMi E (sV (XQ (((k:Int) -1) -1) E E wI) (sAi E (XB ?_))));have m0:=a9.frm f3 q1;refine again ((k -1)) Qo ⟨k -1,(Du).take (k -1)++o,((c -1)::Q),E,E,E,E,E,E,cI,Frm.mono (y.tr ((((a7.rx N).tr A).tr a8).tr f3)) q4,?_,?_,?_,?_,?_,?_,?_,?_⟩
      ·exact f4
      ·exact m0
      ·omega
      ·exact c8
      ·exact T
      ·simp [hQl];omega
      ·exact Qg0 hQt Qo
      ·exact hstep
    ·refine sV (Zi false E E (dF e7)) (sK e6 (cF E (Xe (xE (xE (bE (xM k0 (rS fun x6 m1=>sMs E ?_))))))))
     have p1:Xn o6 (fun b=>b=x) (some ⟨x,0,none⟩) ((f+1) -a) ((f+1) -a) (Xl k 0++Q):=Xn.of_blk e5 E (QdI hQt) (by exact lq) Qo (by unfold Yc;omega);refine sO (Xc E QfK (Zm p1 Qo) E ?_);rintro _ p2 ⟨b3,b4,b5,i3,rfl,b0,b6,f5,r2⟩;have t6:=b0.size;have⟨r3,_,_⟩:=b6.lkm;refine sMs E (sMi E ?_);have p3:Xn p2 (fun b=>b=P) (some ⟨P,0,none⟩) (f+1) (f+1) (Du):=Xn.of_blk (e4.ext b0) E hDt (by exact lq) Qo (by unfold Yc;omega);refine sO (Xc E QtJ (Qls p3 (xn:=t) Qo Qo) E ?_);rintro _ x7 ⟨b7,b8,b9,i4,rfl,f6,c0,m2,c1,_⟩;have⟨i5,_,_⟩:=c0.lkm;refine sAs E (sAs E (sK m1 (Xt (nR (Qbl (.slice b3 b4 b5) (.slice b7 b8 b9) results191 (XK E) (XK E) ?_)))));have hfin:=QnF.fin (b:=p) (by have h:=hI;rw[show k=0 by omega] at h;exact h) E g4 m2;rw[hvb] at hfin;exact⟨b3,b4,b5,i3,b7,b8,b9,i4,E,Frm.mono (((((((((((b1.trans r).trans Y).trans c4).trans c5).trans g5).trans a2).rx g8).xr c7).tr y).xr b0).xr f6) q4,Xn.sub (b6.ext f6) q5,Xn.sub c0 q5,(by rw[f5,XX,show k=0 by omega,List.replicate_zero,List.nil_append];exact hfin.1),hfin.2,(by rw[f5];exact XJ _ _),c1,(by omega),QlE c1 hfin.2 hb.2 lb i5⟩
end Go.Proofs.YtnkfdkhjaklolaaGreatDoor
