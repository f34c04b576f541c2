/-
  Walk of package recpoly: the recursive form.
-/
import Derived.Test.YtnkfdkhjaklolaaGreatDoorShelf
import Derived.Test.YtnkfdkhjaklolaaGreatDoorLibB
open List renaming eq_of_mem_replicate→Uu,length_replicate→Wp,length_set→UF,map_replicate→Uw,mem_of_getElem?→Ub
namespace Go.Proofs.YtnkfdkhjaklolaaGreatDoor
open Go.RowKit Go.Gx Tryz
open Go renaming wp_ret→Xt,wp_seq_k→Xs,wp_skip→Xk,wp_block→Xb,wp_region_lit→Xr,wp_exit→Xe
open List renaming replicate→Xl
variable{Akp Ap:Option Addr}{Sp:Nat→Prop}{ckp cp nkp np xv:Nat}{dp:List Nat}{gp:Bool}{kdp:List TT}{lp:List TD}{w:World}{xa xp:Int}
theorem QbQ(ha:1≤xa∧xa≤4):Calls prog 84 #[.int .i64 (xa)] w (Ret fun v w'=> ∃gr,v=(.bool gr)∧Ext w w'∧(gr=true)):=by
 refine enter func84 E ntmps84 E (rS fun c a=>sAb E (sK a (rS fun d b=>sMi E (sV (Zi true E E (dT Qo)) (sMb E (sEv (v:= .int .i64 (xa)) (E) E E (sEv (v:= .bool true) (QaM true E E (dT Qo)) E E (sV (v:= .bool true) (E) (sAb E (sK b (Xt (XL (.bool true) results84 (XK E) ?_))))))))))));exact⟨true,E,Frm.refl _ _,E⟩
theorem Zo(hp:TreeR w (Sp) (TT.mk xp gp Ap np cp dp Akp nkp ckp kdp))(qp:Yi (TT.mk xp gp Ap np cp dp Akp nkp ckp kdp)):Calls prog 133 #[Zt xp gp Ap np cp Akp nkp ckp] w (Ret fun v w'=> ∃gr,v=(.bool gr)∧Ext w w'∧(gr=true↔(TT.mk xp gp Ap np cp dp Akp nkp ckp kdp).val=QbA)):=by
 replace hp:=TreeR.low hp;have⟨lap,lbp,lcp⟩:=hp.nat.lkm;refine enter func133 E ntmps133 E (rS fun j f=>sO (Ys (Yt xp gp Ap np cp Akp nkp ckp) E E fun g k _ b _ c=>sAb E (sK f (rS fun i a=>sV (XZ 0 YQ E E) (sV (Xg Qax E c E) ?_)))))
 by_cases d:xp=0
 ·refine sV (XD true E E (dT d)) (sMb E (sEv (v:= .pointer (some ⟨g,1,none⟩)) (XZ 1 Qbo E E) E E (sEv (v:= .pointer (some ⟨g,2,none⟩)) (XZ 2 Zk E E) E E (sEv (v:= .slice Ap np cp) (Xg Qam E c E) E E (sEv (v:= .int .i64 np) (Xw underlying28 E) E E ?_)))))
  by_cases e:((np:Int))=0
  ·refine sEv (v:= .bool true) (XD true E E (dT e)) E E (sV (v:= .bool true) (E) (sAb E (sK a (Xt (XL (.bool true) results133 (XK E) ?_)))))
   exact⟨true,E,b,⟨fun _=>(qp.isZero lap).2 ⟨by omega,by omega⟩,fun _=>rfl⟩⟩
  ·refine sEv (v:= .bool false) (XD false E E (dF e)) E E (sV (v:= .bool false) (E) (sAb E (sK a (Xt (XL (.bool false) results133 (XK E) ?_)))))
   exact⟨false,E,b,⟨fun h=>(by cases h),fun h=>(by have :=(qp.isZero lap).1 h;omega)⟩⟩
 ·refine sV (XD false E E (dF d)) (sMb E (XH E E (XH E E (XH E E (XH E E (XH E E (sV (v:= .bool false) (E) (sAb E (sK a (Xt (XL (.bool false) results133 (XK E) ?_)))))))))))
  exact⟨false,E,b,⟨fun h=>(by cases h),fun h=>(by have :=(qp.isZero lap).1 h;omega)⟩⟩
set_option maxHeartbeats 2000000 in
theorem Qb3(N:Nat)(ih: ∀{w:World}{Sp:Nat→Prop}{Ap:Option Addr}{np cp:Nat}{lp:List TD}{xv:Nat}(hp:Xu TMK w (Sp) Ap np cp lp)(bv:xv≤9223372036854775807)(hN:xv+1≤N)(h4:xv≤4)(hc:QdU (tms lp))(hh:Qgt xv (tms lp))(hnp:np≤1048576),Calls prog 89 #[.slice Ap np cp,.int .i64 xv] w (Ret fun v w'=> ∃(xr gr Ar nr cr dr Akr nkr ckr:_)(kdr:List TT),v=(Zt xr gr Ar nr cr Akr nkr ckr)∧Ext w w'∧TreeR w' (fun b=>Sp b∨w.heap.size≤b) (TT.mk xr gr Ar nr cr dr Akr nkr ckr kdr)∧Yi (TT.mk xr gr Ar nr cr dr Akr nkr ckr kdr)∧((TT.mk xr gr Ar nr cr dr Akr nkr ckr kdr).val=QdF xv (tms lp))))(hp:Xu TMK w (Sp) Ap np cp lp)(bv:xv≤9223372036854775807)(hN:xv≤N)(h4:xv≤4)(hc:QdU (tms lp))(hh:Qgt xv (tms lp))(hnp:np≤1048576):Calls prog 89 #[.slice Ap np cp,.int .i64 xv] w (Ret fun v w'=> ∃(xr gr Ar nr cr dr Akr nkr ckr:_)(kdr:List TT),v=(Zt xr gr Ar nr cr Akr nkr ckr)∧Ext w w'∧TreeR w' (fun b=>Sp b∨w.heap.size≤b) (TT.mk xr gr Ar nr cr dr Akr nkr ckr kdr)∧Yi (TT.mk xr gr Ar nr cr dr Akr nkr ckr kdr)∧((TT.mk xr gr Ar nr cr dr Akr nkr ckr kdr).val=QdF xv (tms lp))):=by
 have⟨kp,jp,mp⟩:=hp.lkm;replace hp:=hp.sub (S':=fun b=>Sp b∧b<w.heap.size) fun _ hb hs=>⟨hs,hb⟩;refine enter func89 E ntmps89 E ?_;have hok: ∀x∈lp,x.ok:=fun x hx=>(hp.2 x hx).2;refine rS fun K1 z5=>sO (Xj (Yt 0 false none 0 0 none 0 0) Yh E fun g2 w3 G7 h9 G8 e5=>sK z5 (Xs fun K8 z6=>rS fun K9 u0=>sMs E (sV (Xw underlying136 E) ?_)))
 by_cases k4:((np:Int))=0
 ·refine sV (XD true E E (dT k4)) (sK u0 (cT E (rS fun G9 u2=>sV (v:=Zt 0 false none 0 0 none 0 0) (evK (by kernel_rfl)) (sO (Xd (Yt 0 false none 0 0 none 0 0) E E E XC E e5 E fun H0 u3 B3 u4=> ?_)))))
  refine sK u2 (Xt (xR (XL (Zt 0 false none 0 0 none 0 0) results89 (YE (Yt 0 false none 0 0 none 0 0) Xy XC E u4) ?_)));exact⟨0,false,none,0,0,[],none,0,0,[],E,Frm.mono (h9.rx u3) q4,TreeR.make Xn.nil Xu.nil,Yi.zero,(by rw[List.eq_nil_of_length_eq_zero (show lp.length=0 by omega)];exact(QlR xv).symm▸TT.zero_val)⟩
 ·refine sV (XD false E E (dF k4)) (sK u0 (cF E (Xk (xM z6 (Xs fun H1 k5=>Xb ?_)))))
  obtain⟨a,G,rfl⟩: ∃f r,lp=f::r:=by cases lp with |nil=>simp at kp;omega|cons f r=>exact⟨f,r,E⟩
  have u1:=fun j=>M4.get_range (hok a (List.mem_cons_self ..)) j;refine Ym (fun m e w_=> ∃(L:Nat),m=L∧e 0=(.slice Ap np cp)∧e 1=(.int .i64 L)∧e 4=(.pointer (some ⟨g2,0,none⟩))∧Frm (fun b=>False) w3 w_∧(L≤xv)∧(Qgt L (tms (a::G)))∧(QdF xv (tms (a::G))=QdF L (tms (a::G)))) ((xv)) ?_ ?_
  ·refine⟨xv,E,E,cI,E,Frm.refl _ _,?_,?_,?_⟩
   ·omega
   ·exact hh
   ·rfl
  ·rintro H2 H3 b4 ⟨L,B4,u5,u6,u7,I,hLv,hhL,hbL⟩
   obtain⟨H4,rfl⟩:=Qqe u5 u6 u7;have B5:=I.size;refine Xs fun H5 u8=>rS fun H6 h3=>sMi E ?_
   by_cases k6:((L:Int))>0
   ·refine sV (Yu true E E (dT k6)) (sMb E (sEv (v:= .slice Ap np cp) (E) E E (sEv (v:= .int .i64 L) (E) E E (sEv (v:= .int .i64 (((L:Int)) -1)) (XQ (((L:Int)) -1) E E wI) E E ?_))))
    have h5:=h9.trans I;have b5:=hp.ext h5;obtain⟨R,c,rfl⟩:=b5.base Qo;refine sEv (v:= .pointer (some ⟨R,c+(0*6),none⟩)) (XU 0 underlying136 Qby E E (c+(0*6))) E E (sEv (v:= .pointer (some ⟨R,c+(0*6)+2,none⟩)) (XZ (c+(0*6)+2) Qbj E E) E E (sEv (v:= .pointer (some ⟨R,c+(0*6)+2+(L -1),none⟩)) (QcG (L -1) underlying140 sz3 E E (c+(0*6)+2+(L -1))) E E ?_));obtain⟨u9,n4,n5,B6,_,_⟩:=Xu.get (k:=6) (i:=0) (p:=c+(0*6)) b5 Qo E Qo;obtain rfl:a=u9:=Option.some.inj n4;refine sEv (v:= .int .i64 (a.m.get L)) (XR Qax E (XP.one n5 (TD.exp (x:=a) (j:=L -1) (k:=L) Qo Qo) Qo)) E E ?_
    by_cases d2:(a.m.get L)=0
    ·refine sEv (v:= .bool true) (XD true E E (dT d2)) E E (sV (v:= .bool true) (E) (sK h3 (cT E (Xk (xM u8 (Xb (Xr (sMi E (sV (XQ (((L:Int)) -1) E E wI) (sAi E (XB (bN (again ((L -1)) Qo ⟨L -1,E,E,cI,E,I,?_,?_,?_⟩)))))))))))))
     ·omega
     ·exact(Qkb hc hhL Qo hok Qo d2).1
     ·exact hbL.trans (Qkb hc hhL Qo hok Qo d2).2
    ·refine sEv (v:= .bool false) (XD false E E (dF d2)) E E (sV (v:= .bool false) (E) (sK h3 (cF E (Xe (xE (xE (bE (xM k5 (Xs fun H7 v0=>rS fun H8 k7=>sMi E ?_)))))))))
     by_cases k8:((L:Int))=0
     ·refine sV (XD true E E (dT k8)) (sK k7 (cT E (rS fun H9 v1=>sMs E (sV (XU 0 underlying136 Qby E E (c+(0*6))) (sV (XZ (c+(0*6)) Qfq E E) ?_)))))
      obtain⟨⟨D,z,A,B,a9,⟨a5,a6,a7,a8⟩⟩,n6,d3,a2,_,_⟩:=Xu.get (k:=6) (i:=0) (p:=c+(0*6)) b5 Qo E Qo;replace d3:XP b4 _ (c+(0*6)) [.bool D,.slice z A B,.int .i64 (a5),.int .i64 (a6),.int .i64 (a7),.int .i64 (a8)]:=d3;replace a2:TMR b4 (fun b=>Sp b∧b<w.heap.size) (⟨D,z,A,B,a9,⟨a5,a6,a7,a8⟩⟩:TD):=a2;have i0:Xn b4 (fun b=>Sp b∧b<w.heap.size) z A B a9:=a2.1;have⟨A5,A6,A7⟩:=i0.lkm;have n7:=TD.len a2;dsimp only at n7;refine sV (XO (Yb D z A B) Xo Xp E (XP.part d3 (o:=0) E Qo)) (sV (v:=Zt 0 D z A B none 0 0) (evK (by kernel_rfl)) ?_);refine sO (Xd (Yt 0 D z A B none 0 0) E E E XC E (e5.ext I) E fun I0 k9 _ v2=> ?_);refine sK v1 (Xt (xR (XL (Zt 0 D z A B none 0 0) results89 (YE (Yt 0 D z A B none 0 0) Xy XC E v2) ?_)));have z7:=i0.frmB k9 q3;exact⟨0,D,z,A,B,a9,none,0,0,[],E,Frm.mono (h5.rx k9) q4,TreeR.make (Xn.sub z7 (fun b hb hs=>by(try dsimp only at hs⊢);first | exact .inl hs.1| exact .inr (by omega)| (rcases hs with hs|hs;exact .inl hs.1;exact .inr (by omega)))) Xu.nil,Yi.const ⟨a2.2.1,a2.2.2.1⟩,(by rw[hbL,TT.val_mk];obtain rfl:(⟨D,z,A,B,a9,⟨a5,a6,a7,a8⟩⟩:TD)=a:=(Option.some.inj n6).symm;exact(QlS (t:=TD.t ⟨D,z,A,B,a9,⟨a5,a6,a7,a8⟩⟩) (r:=tms G) L (by omega)).symm)⟩
     ·refine sV (XD false E E (dF k8)) ?_
      obtain⟨M,rfl⟩: ∃M,L=M+1:=⟨L -1,by omega⟩;have hgM:=u1 (M+1);have hne:a.m.get (M+1)≠0:=by first |assumption|omega
      refine sK k7 (cF E (Xk (xM v0 (Xs fun I1 v3=>rS fun I2 v4=>sMs E (sMi E (sV (XQ (((M:Nat):Int)) E E (wI)) (sV (XU 0 underlying136 Qby E E (c+(0*6))) (sV (XZ (c+(0*6)+2) Qbj E E) (sV (QcG M underlying140 sz3 E E (c+(0*6)+2+M)) ?_)))))))));obtain⟨v5,n8,n9,B7,_,_⟩:=Xu.get (k:=6) (i:=0) (p:=c+(0*6)) b5 Qo E Qo;obtain rfl:a=v5:=Option.some.inj n8;refine sV (XR Qax E (XP.one n9 (TD.exp (x:=a) (j:=M) (k:=M+1) Qo Qo) Qo)) (sV (Yu false E E (dF Qo)) (sK v4 (cF E (Xk (xM v3 (rS fun I3 v6=>sMs E (sMi E (sV (XQ (((M:Nat):Int)) E E (wI)) (sV (XU 0 underlying136 Qby E E (c+(0*6))) (sV (XZ (c+(0*6)+2) Qbj E E) (sV (QcG M underlying140 sz3 E E (c+(0*6)+2+M)) ?_)))))))))));obtain⟨v7,o0,o1,B8,_,_⟩:=Xu.get (k:=6) (i:=0) (p:=c+(0*6)) b5 Qo E Qo;obtain rfl:a=v7:=Option.some.inj o0;refine sV (XR Qax E (XP.one o1 (TD.exp (x:=a) (j:=M) (k:=M+1) Qo Qo) Qo)) (sV (XF ((a.m.get (M+1))+1) E E wI) (sO (Qeb (L:=TK) TT.zero ((a.m.get (M+1)+1).toNat) underlying48 Qfs E cI cI Qo Qo fun Q z8 B9 h6 C0 v8=>sAs E (sK v6 (Xs fun I4 v9=>rS fun I5 w0=>sAi E (sK w0 (Xb ?_)))))));refine Ym (fun m e w_=> ∃(s:Nat)(K:List TT),m=np -s∧e 0=(.slice (some ⟨R,c,none⟩) np cp)∧e 1=(.int .i64 (((M+1):Int)))∧e 4=(.pointer (some ⟨g2,0,none⟩))∧e 5=(.slice (some ⟨Q,0,none⟩) ((a.m.get (M+1)+1).toNat) ((a.m.get (M+1)+1).toNat))∧e 6=(.int .i64 s)∧Frm (fun b=>b=Q) z8 w_∧Blk w_ Q 50 (TK.flat K)∧(YO TK w_ (fun b=>(Sp b∧b<w.heap.size)∨Q<b) K)∧(K.map TT.val=Qb5 M (tms (a::G)) s (a.m.get (M+1)+1).toNat)∧(∀k∈K,Yi k)∧(AtB (M+1) (tms (a::G)) s)∧(s≤np)∧(K.length=(a.m.get (M+1)+1).toNat)) (np -(0)) ?_ ?_
      ·refine⟨0,Xl (a.m.get (M+1)+1).toNat TT.zero,E,E,E,E,E,cI,Frm.refl _ _,?_,?_,?_,?_,?_,?_,?_⟩
       ·exact v8
       ·exact YO.reps TreeR.zero
       ·rw[Uw,TT.zero_val,Qb5.start]
       ·exact fun k hk=>(by rw[Uu hk];exact Yi.zero)
       ·exact AtB.start _ _
       ·omega
       ·exact Wp
      ·rintro I6 I7 z9 ⟨s,K,C1,w1,w2,w4,w5,w6,a3,h7,hAll,hKv,hKc,hat,hsn,hKl⟩
       obtain⟨I8,rfl⟩:=Qjz w1 w2 w4 w5 w6;have C2:=a3.size;refine Xs fun I9 w7=>rS fun J0 l0=>sMi E (sMs E (sV (Xw underlying136 E) ?_))
       by_cases l1:((s:Int))<((np:Int))
       ·refine sV (Xq true E E (dT l1)) (sK l0 (cT E (Xk (xM w7 (Xb (rS fun J1 w8=>sMs E (sMi E (sMi E (sV (XQ (((M:Nat):Int)) E E (wI)) (sV (XU s underlying136 Qby E E (c+(s*6))) (sV (XZ (c+(s*6)+2) Qbj E E) (sV (QcG M underlying140 sz3 E E (c+(s*6)+2+M)) ?_))))))))))))
        have l2:=b5.frmB (h6.rx a3) q3;obtain⟨h,J,o2,_,_,_⟩:=Xu.get (k:=6) (i:=s) (p:=c+(s*6)) l2 Qo E Qo;have d4:=fun j=>M4.get_range (hok h (Ub J)) j;refine sV (XR Qax E (XP.one o2 (TD.exp (x:=h) (j:=M) (k:=M+1) Qo Qo) Qo)) ?_;have A0:=QsF hc hhL Qo J;have A1:=d4 (M+1);refine sAi E (sK w8 (rS fun J2 w9=>sMi E (sAi E (sK w9 (Xs fun J3 l3=>Xb ?_)))));refine Ym (fun m e w_=> ∃(t:Nat),m=np -t∧e 0=(.slice (some ⟨R,c,none⟩) np cp)∧e 1=(.int .i64 (((M+1):Int)))∧e 4=(.pointer (some ⟨g2,0,none⟩))∧e 5=(.slice (some ⟨Q,0,none⟩) ((a.m.get (M+1)+1).toNat) ((a.m.get (M+1)+1).toNat))∧e 6=(.int .i64 s)∧e 7=(.int .i64 (h.m.get (M+1)))∧e 8=(.int .i64 t)∧Frm (fun b=>False) z9 w_∧(Qbn (M+1) (tms (a::G)) s t (h.m.get (M+1)))∧(t≤np)) (np -(s)) ?_ ?_
        ·refine⟨s,E,E,E,E,E,E,E,cI,Frm.refl _ _,?_,?_⟩
         ·exact Qbn.start (by rw[Qey];omega)
         ·omega
        ·rintro J4 C3 J5 ⟨t,A8,x0,x1,x2,x3,x4,x5,o3,O,hpc,htn⟩
         obtain⟨C4,rfl⟩:=Qu1 x0 x1 x2 x3 x4 x5 o3;have A9:=O.size;refine Xs fun C5 o4=>rS fun C6 d5=>sMi E (sMs E (sV (Xw underlying136 E) ?_))
         by_cases i1:((t:Int))<((np:Int))
         ·refine sV (Xq true E E (dT i1)) (sMb E (sEv (v:= .slice (some ⟨R,c,none⟩) np cp) (E) E E (sEv (v:= .int .i64 t) (E) E E (sEv (v:= .int .i64 (((M+1):Int))) (E) E E (sEv (v:= .int .i64 (((M:Nat):Int))) (XQ (((M:Nat):Int)) E E (wI)) E E (sEv (v:= .pointer (some ⟨R,c+(t*6),none⟩)) (XU t underlying136 Qby E E (c+(t*6))) E E (sEv (v:= .pointer (some ⟨R,c+(t*6)+2,none⟩)) (XZ (c+(t*6)+2) Qbj E E) E E (sEv (v:= .pointer (some ⟨R,c+(t*6)+2+M,none⟩)) (QcG M underlying140 sz3 E E (c+(t*6)+2+M)) E E ?_))))))))
          have l4:=l2.ext O;obtain⟨d6,b0,l5,_,_,_⟩:=Xu.get (k:=6) (i:=t) (p:=c+(t*6)) l4 Qo E Qo;refine sEv (v:= .int .i64 (d6.m.get (M+1))) (XR Qax E (XP.one l5 (TD.exp (x:=d6) (j:=M) (k:=M+1) Qo Qo) Qo)) E E (sEv (v:= .int .i64 (h.m.get (M+1))) (E) E E ?_)
          by_cases S:(d6.m.get (M+1))=(h.m.get (M+1))
          ·refine sEv (v:= .bool true) (XD true E E (dT S)) E E (sV (v:= .bool true) (E) (sK d5 (cT E (Xk (xM o4 (Xb (Xr (sMi E (sV (XF (((t:Int))+1) E E wI) (sAi E (XB (bN (again (np -(t+1)) Qo ⟨t+1,E,E,E,E,E,E,E,cI,O,?_,?_⟩)))))))))))))
           ·exact Qh8 hpc b0 S
           ·omega
          ·refine sEv (v:= .bool false) (XD false E E (dF S)) E E (sV (v:= .bool false) (E) (sK d5 (cF E (Xe (xE (xE (bE (xM l3 (Xs fun C7 o5=> ?_)))))))))
           have hst:s<t:=Qmx hpc.le J b0 S;have hend:=Qkr (l:=a::G) b0 S;refine Xr (sMs E (sMi E (sMs E (sMi E (sMi E ?_)))));have x6:=Xu.part (k:=6) (p:=c+s*6) (lo:=s) (hi:=t) l4 Qo Qo Qo E E;refine sV (Qdl s t underlying136 Qby E E E (by omega) (by omega) (by omega) (by omega) (by omega) (c+s*6) (by omega)) (sMi E (sV (XQ (((M:Nat):Int)) E E (wI)) (sO (Xc E QjJ (ih x6 (xv:=M) (by omega) (by omega) (by omega) (Qgp hc) (Qi2 hhL hpc) (by omega)) (by rw[show(((M:Nat):Int):Int)=((M:Nat):Int) by omega];rfl) ?_))));rintro _ C8 ⟨e6,e7,e8,e9,f1,f2,b6,b7,b8,b9,rfl,o6,l6,l7,o7⟩;refine sV (XU ((h.m.get (M+1)).toNat) underlying48 XC E E (((h.m.get (M+1)).toNat)*4)) ?_;have i2:=O.trans o6;refine sO (QbU (L:=TK) (i:=(h.m.get (M+1)).toNat) (l:=K) (TT.mk e6 e7 e8 e9 f1 f2 b6 b7 b8 b9) E E E E XC (h7.ext i2) (by exact lq) fun C9 i3 _ o8=>sK o5 (Xr (sMi E (sAi E (XB (bN ?_))))));have i4:=i2.rx i3;have x7:=hAll.frmB i4 q3;have x8:=l6.frmB i3 q3;refine again (np -(t)) Qo ⟨t,(K).set ((h.m.get (M+1)).toNat) (TT.mk e6 e7 e8 e9 f1 f2 b6 b7 b8 b9),E,E,E,E,E,cI,a3.trans i4,?_,?_,?_,?_,?_,?_,?_⟩
           ·exact o8
           ·exact YO.set x7 (TreeR.sub x8 fun b hb hs=>(by(try dsimp only at hs);rcases hs with hs|hs;exact .inl hs;exact .inr (by omega)))
           ·exact Qgm hKv hat hpc J (d4 _).1 Qo o7
           ·exact Qdc hKc l7
           ·exact Qik hc hhL Qo hat hpc J hend
           ·omega
           ·rw[UF];exact hKl
         ·refine sV (Xq false E E (dF i1)) (sMb E (XH E E (XH E E (XH E E (XH E E (XH E E (XH E E (XH E E (XH E E (XH E E (XH E E (sV (v:= .bool false) (E) (sK d5 (cF E (Xe (xE (xE (bE (xM l3 (Xs fun D0 o9=> ?_))))))))))))))))))))
          have hst:s<t:=Qo;have hend:=Qh7 (l:=a::G) (L:=M+1) (x:=h) (t:=t) Qo;refine Xr (sMs E (sMi E (sMs E (sMi E (sMi E ?_)))));have x9:=Xu.part (k:=6) (p:=c+s*6) (lo:=s) (hi:=t) (l2.ext O) Qo Qo Qo E E;refine sV (Qdl s t underlying136 Qby E E E (by omega) (by omega) (by omega) (by omega) (by omega) (c+s*6) (by omega)) (sMi E (sV (XQ (((M:Nat):Int)) E E (wI)) (sO (Xc E QjJ (ih x9 (xv:=M) (by omega) (by omega) (by omega) (Qgp hc) (Qi2 hhL hpc) (by omega)) (by rw[show(((M:Nat):Int):Int)=((M:Nat):Int) by omega];rfl) ?_))));rintro _ D1 ⟨f3,f4,f5,f6,f7,f8,c0,c1,c2,c3,rfl,p0,l8,l9,p1⟩;refine sV (XU ((h.m.get (M+1)).toNat) underlying48 XC E E (((h.m.get (M+1)).toNat)*4)) ?_;have i5:=O.trans p0;refine sO (QbU (L:=TK) (i:=(h.m.get (M+1)).toNat) (l:=K) (TT.mk f3 f4 f5 f6 f7 f8 c0 c1 c2 c3) E E E E XC (h7.ext i5) (by exact lq) fun D2 i6 _ p2=>sK o9 (Xr (sMi E (sAi E (XB (bN ?_))))));have i7:=i5.rx i6;have y0:=hAll.frmB i7 q3;have y1:=l8.frmB i6 q3;refine again (np -(t)) Qo ⟨t,(K).set ((h.m.get (M+1)).toNat) (TT.mk f3 f4 f5 f6 f7 f8 c0 c1 c2 c3),E,E,E,E,E,cI,a3.trans i7,?_,?_,?_,?_,?_,?_,?_⟩
          ·exact p2
          ·exact YO.set y0 (TreeR.sub y1 fun b hb hs=>(by(try dsimp only at hs);rcases hs with hs|hs;exact .inl hs;exact .inr (by omega)))
          ·exact Qgm hKv hat hpc J (d4 _).1 Qo p1
          ·exact Qdc hKc l9
          ·exact Qik hc hhL Qo hat hpc J hend
          ·omega
          ·rw[UF];exact hKl
       ·refine sV (Xq false E E (dF l1)) (sK l0 (cF E (Xe (xE (xE (bE (xM v9 (rS fun D3 p3=>sMi E (sMs E (sV (v:=Zt (((M+1):Int)) false none 0 0 (some ⟨Q,0,none⟩) ((a.m.get (M+1)+1).toNat) ((a.m.get (M+1)+1).toNat)) (evK (by kernel_rfl)) ?_))))))))))
        have p4:=e5.frm ((I.trans h6).rx a3) q1;refine sO (Xd (Yt (((M+1):Int)) false none 0 0 (some ⟨Q,0,none⟩) ((a.m.get (M+1)+1).toNat) ((a.m.get (M+1)+1).toNat)) E E E XC E p4 E fun D4 d7 _ p5=> ?_);refine sK p3 (Xt (XL (Zt (((M+1):Int)) false none 0 0 (some ⟨Q,0,none⟩) ((a.m.get (M+1)+1).toNat) ((a.m.get (M+1)+1).toNat)) results89 (YE (Yt (((M+1):Int)) false none 0 0 (some ⟨Q,0,none⟩) ((a.m.get (M+1)+1).toNat) ((a.m.get (M+1)+1).toNat)) Xy XC E p5) ?_));have y2:=hAll.frmB d7 q3;have p6:=h7.frm d7 q1;exact⟨((M+1):Int),false,none,0,0,[],some ⟨Q,0,none⟩,(a.m.get (M+1)+1).toNat,(a.m.get (M+1)+1).toNat,K,E,Frm.mono (((h5.trans h6).rx a3).tr d7) q4,TreeR.make Xn.nil (YO.list y2 p6 (fun b hb hs=>by rcases hs with hs|hs;exact .inl hs.1;exact .inr (by omega)) (.inr (by omega)) (by omega) (by unfold Yc;omega)),(Yi.built (by omega) hc (QpI hok) hgM.2 hne (by rw[hKv,show s=(tms (a::G)).length by rw[Qey];omega];rfl) hKc).1,(by rw[hbL];exact(Yi.built (by omega) hc (QpI hok) hgM.2 hne (by rw[hKv,show s=(tms (a::G)).length by rw[Qey];omega];rfl) hKc).2)⟩
   ·refine sV (Yu false E E (dF k6)) (sMb E (XH E E (XH E E (XH E E (XH E E (XH E E (XH E E (XH E E (XH E E (sV (v:= .bool false) (E) (sK h3 (cF E (Xe (xE (xE (bE (xM k5 (Xs fun D5 p7=>rS fun D6 i8=>sMi E ?_))))))))))))))))))
    by_cases i9:((L:Int))=0
    ·refine sV (XD true E E (dT i9)) (sK i8 (cT E (rS fun D7 p8=>sMs E ?_)))
     have j0:=h9.trans I;have m0:=hp.ext j0;obtain⟨D8,d8,rfl⟩:=m0.base Qo;refine sV (XU 0 underlying136 Qby E E (d8+(0*6))) (sV (XZ (d8+(0*6)) Qfq E E) ?_);obtain⟨⟨y,n,q,u,T,⟨U,W,X,Y⟩⟩,m1,b1,P,_,_⟩:=Xu.get (k:=6) (i:=0) (p:=d8+(0*6)) m0 Qo E Qo;replace b1:XP b4 _ (d8+(0*6)) [.bool y,.slice n q u,.int .i64 (U),.int .i64 (W),.int .i64 (X),.int .i64 (Y)]:=b1;replace P:TMR b4 (fun b=>Sp b∧b<w.heap.size) (⟨y,n,q,u,T,⟨U,W,X,Y⟩⟩:TD):=P;have f9:Xn b4 (fun b=>Sp b∧b<w.heap.size) n q u T:=P.1;have⟨A2,A3,A4⟩:=f9.lkm;have m2:=TD.len P;dsimp only at m2;refine sV (XO (Yb y n q u) Xo Xp E (XP.part b1 (o:=0) E Qo)) (sV (v:=Zt 0 y n q u none 0 0) (evK (by kernel_rfl)) ?_);refine sO (Xd (Yt 0 y n q u none 0 0) E E E XC E (e5.ext I) E fun D9 j1 _ p9=> ?_);refine sK p8 (Xt (xR (XL (Zt 0 y n q u none 0 0) results89 (YE (Yt 0 y n q u none 0 0) Xy XC E p9) ?_)));have y3:=f9.frmB j1 q3;exact⟨0,y,n,q,u,T,none,0,0,[],E,Frm.mono (j0.rx j1) q4,TreeR.make (Xn.sub y3 (fun b hb hs=>by(try dsimp only at hs⊢);first | exact .inl hs.1| exact .inr (by omega)| (rcases hs with hs|hs;exact .inl hs.1;exact .inr (by omega)))) Xu.nil,Yi.const ⟨P.2.1,P.2.2.1⟩,(by rw[hbL,TT.val_mk];obtain rfl:(⟨y,n,q,u,T,⟨U,W,X,Y⟩⟩:TD)=a:=(Option.some.inj m1).symm;exact(QlS (t:=TD.t ⟨y,n,q,u,T,⟨U,W,X,Y⟩⟩) (r:=tms G) L (by omega)).symm)⟩
    ·refine sV (XD false E E (dF i9)) ?_
     obtain⟨M,rfl⟩: ∃M,L=M+1:=⟨L -1,by omega⟩;have hgM:=u1 (M+1);have hne:a.m.get (M+1)≠0:=by first |assumption|omega
     refine sK i8 (cF E (Xk (xM p7 (Xs fun E0 q0=>rS fun E1 q2=>sMs E (sMi E (sV (XQ (((M:Nat):Int)) E E (wI)) ?_))))));have j2:=h9.trans I;have d9:=hp.ext j2;obtain⟨a4,d,rfl⟩:=d9.base Qo;refine sV (XU 0 underlying136 Qby E E (d+(0*6))) (sV (XZ (d+(0*6)+2) Qbj E E) (sV (QcG M underlying140 sz3 E E (d+(0*6)+2+M)) ?_));obtain⟨q5,m3,m4,B0,_,_⟩:=Xu.get (k:=6) (i:=0) (p:=d+(0*6)) d9 Qo E Qo;obtain rfl:a=q5:=Option.some.inj m3;refine sV (XR Qax E (XP.one m4 (TD.exp (x:=a) (j:=M) (k:=M+1) Qo Qo) Qo)) (sV (Yu false E E (dF Qo)) (sK q2 (cF E (Xk (xM q0 (rS fun E2 q6=>sMs E (sMi E (sV (XQ (((M:Nat):Int)) E E (wI)) (sV (XU 0 underlying136 Qby E E (d+(0*6))) (sV (XZ (d+(0*6)+2) Qbj E E) (sV (QcG M underlying140 sz3 E E (d+(0*6)+2+M)) ?_)))))))))));obtain⟨q7,m5,m6,B1,_,_⟩:=Xu.get (k:=6) (i:=0) (p:=d+(0*6)) d9 Qo E Qo;obtain rfl:a=q7:=Option.some.inj m5;refine sV (XR Qax E (XP.one m6 (TD.exp (x:=a) (j:=M) (k:=M+1) Qo Qo) Qo)) (sV (XF ((a.m.get (M+1))+1) E E wI) (sO (Qeb (L:=TK) TT.zero ((a.m.get (M+1)+1).toNat) underlying48 Qfs E cI cI Qo Qo fun F y4 _ e0 _ q8=>sAs E (sK q6 (Xs fun E3 q9=>rS fun E4 r1=>sAi E (sK r1 (Xb ?_)))))));refine Ym (fun m e w_=> ∃(s:Nat)(K:List TT),m=np -s∧e 0=(.slice (some ⟨a4,d,none⟩) np cp)∧e 1=(.int .i64 (((M+1):Int)))∧e 4=(.pointer (some ⟨g2,0,none⟩))∧e 5=(.slice (some ⟨F,0,none⟩) ((a.m.get (M+1)+1).toNat) ((a.m.get (M+1)+1).toNat))∧e 6=(.int .i64 s)∧Frm (fun b=>b=F) y4 w_∧Blk w_ F 50 (TK.flat K)∧(YO TK w_ (fun b=>(Sp b∧b<w.heap.size)∨F<b) K)∧(K.map TT.val=Qb5 M (tms (a::G)) s (a.m.get (M+1)+1).toNat)∧(∀k∈K,Yi k)∧(AtB (M+1) (tms (a::G)) s)∧(s≤np)∧(K.length=(a.m.get (M+1)+1).toNat)) (np -(0)) ?_ ?_
     ·refine⟨0,Xl (a.m.get (M+1)+1).toNat TT.zero,E,E,E,E,E,cI,Frm.refl _ _,?_,?_,?_,?_,?_,?_,?_⟩
      ·exact q8
      ·exact YO.reps TreeR.zero
      ·rw[Uw,TT.zero_val,Qb5.start]
      ·exact fun k hk=>(by rw[Uu hk];exact Yi.zero)
      ·exact AtB.start _ _
      ·omega
      ·exact Wp
     ·rintro E5 E6 y5 ⟨s,K,_,r2,r3,r4,r5,r6,Z,e1,hAll,hKv,hKc,hat,hsn,hKl⟩
      obtain⟨E7,rfl⟩:=Qjz r2 r3 r4 r5 r6;refine Xs fun E8 r7=>rS fun E9 j3=>sMi E (sMs E (sV (Xw underlying136 E) ?_))
      by_cases j4:((s:Int))<((np:Int))
      ·refine sV (Xq true E E (dT j4)) (sK j3 (cT E (Xk (xM r7 (Xb (rS fun F0 r8=>sMs E (sMi E (sMi E (sV (XQ (((M:Nat):Int)) E E (wI)) (sV (XU s underlying136 Qby E E (d+(s*6))) (sV (XZ (d+(s*6)+2) Qbj E E) (sV (QcG M underlying140 sz3 E E (d+(s*6)+2+M)) ?_))))))))))))
       have h8:=d9.frmB (e0.rx Z) q3;obtain⟨g,C,m7,_,_,_⟩:=Xu.get (k:=6) (i:=s) (p:=d+(s*6)) h8 Qo E Qo;have b2:=fun j=>M4.get_range (hok g (Ub C)) j;refine sV (XR Qax E (XP.one m7 (TD.exp (x:=g) (j:=M) (k:=M+1) Qo Qo) Qo)) ?_;have z3:=QsF hc hhL Qo C;have z4:=b2 (M+1);refine sAi E (sK r8 (rS fun F1 r9=>sMi E (sAi E (sK r9 (Xs fun F2 j5=>Xb ?_)))));refine Ym (fun m e w_=> ∃(t:Nat),m=np -t∧e 0=(.slice (some ⟨a4,d,none⟩) np cp)∧e 1=(.int .i64 (((M+1):Int)))∧e 4=(.pointer (some ⟨g2,0,none⟩))∧e 5=(.slice (some ⟨F,0,none⟩) ((a.m.get (M+1)+1).toNat) ((a.m.get (M+1)+1).toNat))∧e 6=(.int .i64 s)∧e 7=(.int .i64 (g.m.get (M+1)))∧e 8=(.int .i64 t)∧Frm (fun b=>False) y5 w_∧(Qbn (M+1) (tms (a::G)) s t (g.m.get (M+1)))∧(t≤np)) (np -(s)) ?_ ?_
       ·refine⟨s,E,E,E,E,E,E,E,cI,Frm.refl _ _,?_,?_⟩
        ·exact Qbn.start (by rw[Qey];omega)
        ·omega
       ·rintro F3 F4 F5 ⟨t,_,s0,s1,s2,s3,s4,s5,s6,a0,hpc,htn⟩
        obtain⟨F6,rfl⟩:=Qu1 s0 s1 s2 s3 s4 s5 s6;refine Xs fun F7 s7=>rS fun F8 e2=>sMi E (sMs E (sV (Xw underlying136 E) ?_))
        by_cases j6:((t:Int))<((np:Int))
        ·refine sV (Xq true E E (dT j6)) (sMb E (sEv (v:= .slice (some ⟨a4,d,none⟩) np cp) (E) E E (sEv (v:= .int .i64 t) (E) E E (sEv (v:= .int .i64 (((M+1):Int))) (E) E E (sEv (v:= .int .i64 (((M:Nat):Int))) (XQ (((M:Nat):Int)) E E (wI)) E E (sEv (v:= .pointer (some ⟨a4,d+(t*6),none⟩)) (XU t underlying136 Qby E E (d+(t*6))) E E (sEv (v:= .pointer (some ⟨a4,d+(t*6)+2,none⟩)) (XZ (d+(t*6)+2) Qbj E E) E E (sEv (v:= .pointer (some ⟨a4,d+(t*6)+2+M,none⟩)) (QcG M underlying140 sz3 E E (d+(t*6)+2+M)) E E ?_))))))))
         have m8:=h8.ext a0;obtain⟨e3,b3,m9,_,_,_⟩:=Xu.get (k:=6) (i:=t) (p:=d+(t*6)) m8 Qo E Qo;refine sEv (v:= .int .i64 (e3.m.get (M+1))) (XR Qax E (XP.one m9 (TD.exp (x:=e3) (j:=M) (k:=M+1) Qo Qo) Qo)) E E (sEv (v:= .int .i64 (g.m.get (M+1))) (E) E E ?_)
         by_cases a1:(e3.m.get (M+1))=(g.m.get (M+1))
         ·refine sEv (v:= .bool true) (XD true E E (dT a1)) E E (sV (v:= .bool true) (E) (sK e2 (cT E (Xk (xM s7 (Xb (Xr (sMi E (sV (XF (((t:Int))+1) E E wI) (sAi E (XB (bN (again (np -(t+1)) Qo ⟨t+1,E,E,E,E,E,E,E,cI,a0,?_,?_⟩)))))))))))))
          ·exact Qh8 hpc b3 a1
          ·omega
         ·refine sEv (v:= .bool false) (XD false E E (dF a1)) E E (sV (v:= .bool false) (E) (sK e2 (cF E (Xe (xE (xE (bE (xM j5 (Xs fun F9 s8=> ?_)))))))))
          have hst:s<t:=Qmx hpc.le C b3 a1;have hend:=Qkr (l:=a::G) b3 a1;refine Xr (sMs E (sMi E (sMs E (sMi E (sMi E ?_)))));have y6:=Xu.part (k:=6) (p:=d+s*6) (lo:=s) (hi:=t) m8 Qo Qo Qo E E;refine sV (Qdl s t underlying136 Qby E E E (by omega) (by omega) (by omega) (by omega) (by omega) (d+s*6) (by omega)) (sMi E (sV (XQ (((M:Nat):Int)) E E (wI)) (sO (Xc E QjJ (ih y6 (xv:=M) (by omega) (by omega) (by omega) (Qgp hc) (Qi2 hhL hpc) (by omega)) (by rw[show(((M:Nat):Int):Int)=((M:Nat):Int) by omega];rfl) ?_))));rintro _ G0 ⟨g0,g1,g3,g4,g5,g6,c4,c5,c6,c7,rfl,s9,n0,n1,t0⟩;refine sV (XU ((g.m.get (M+1)).toNat) underlying48 XC E E (((g.m.get (M+1)).toNat)*4)) ?_;have j7:=a0.trans s9;refine sO (QbU (L:=TK) (i:=(g.m.get (M+1)).toNat) (l:=K) (TT.mk g0 g1 g3 g4 g5 g6 c4 c5 c6 c7) E E E E XC (e1.ext j7) (by exact lq) fun G1 j8 _ t1=>sK s8 (Xr (sMi E (sAi E (XB (bN ?_))))));have j9:=j7.rx j8;have y7:=hAll.frmB j9 q3;have y8:=n0.frmB j8 q3;refine again (np -(t)) Qo ⟨t,(K).set ((g.m.get (M+1)).toNat) (TT.mk g0 g1 g3 g4 g5 g6 c4 c5 c6 c7),E,E,E,E,E,cI,Z.trans j9,?_,?_,?_,?_,?_,?_,?_⟩
          ·exact t1
          ·exact YO.set y7 (TreeR.sub y8 fun b hb hs=>(by(try dsimp only at hs);rcases hs with hs|hs;exact .inl hs;exact .inr (by omega)))
          ·exact Qgm hKv hat hpc C (b2 _).1 Qo t0
          ·exact Qdc hKc n1
          ·exact Qik hc hhL Qo hat hpc C hend
          ·omega
          ·rw[UF];exact hKl
        ·refine sV (Xq false E E (dF j6)) (sMb E (XH E E (XH E E (XH E E (XH E E (XH E E (XH E E (XH E E (XH E E (XH E E (XH E E (sV (v:= .bool false) (E) (sK e2 (cF E (Xe (xE (xE (bE (xM j5 (Xs fun G2 t2=> ?_))))))))))))))))))))
         have hst:s<t:=Qo;have hend:=Qh7 (l:=a::G) (L:=M+1) (x:=g) (t:=t) Qo;refine Xr (sMs E (sMi E (sMs E (sMi E (sMi E ?_)))));have y9:=Xu.part (k:=6) (p:=d+s*6) (lo:=s) (hi:=t) (h8.ext a0) Qo Qo Qo E E;refine sV (Qdl s t underlying136 Qby E E E (by omega) (by omega) (by omega) (by omega) (by omega) (d+s*6) (by omega)) (sMi E (sV (XQ (((M:Nat):Int)) E E (wI)) (sO (Xc E QjJ (ih y9 (xv:=M) (by omega) (by omega) (by omega) (Qgp hc) (Qi2 hhL hpc) (by omega)) (by rw[show(((M:Nat):Int):Int)=((M:Nat):Int) by omega];rfl) ?_))));rintro _ G3 ⟨g7,g8,g9,h0,h1,h2,c8,c9,d0,d1,rfl,t3,n2,n3,t4⟩;refine sV (XU ((g.m.get (M+1)).toNat) underlying48 XC E E (((g.m.get (M+1)).toNat)*4)) ?_;have k0:=a0.trans t3;refine sO (QbU (L:=TK) (i:=(g.m.get (M+1)).toNat) (l:=K) (TT.mk g7 g8 g9 h0 h1 h2 c8 c9 d0 d1) E E E E XC (e1.ext k0) (by exact lq) fun G4 k1 _ t5=>sK t2 (Xr (sMi E (sAi E (XB (bN ?_))))));have k2:=k0.rx k1;have z0:=hAll.frmB k2 q3;have z1:=n2.frmB k1 q3;refine again (np -(t)) Qo ⟨t,(K).set ((g.m.get (M+1)).toNat) (TT.mk g7 g8 g9 h0 h1 h2 c8 c9 d0 d1),E,E,E,E,E,cI,Z.trans k2,?_,?_,?_,?_,?_,?_,?_⟩
         ·exact t5
         ·exact YO.set z0 (TreeR.sub z1 fun b hb hs=>(by(try dsimp only at hs);rcases hs with hs|hs;exact .inl hs;exact .inr (by omega)))
         ·exact Qgm hKv hat hpc C (b2 _).1 Qo t4
         ·exact Qdc hKc n3
         ·exact Qik hc hhL Qo hat hpc C hend
         ·omega
         ·rw[UF];exact hKl
      ·refine sV (Xq false E E (dF j4)) (sK j3 (cF E (Xe (xE (xE (bE (xM q9 (rS fun G5 t6=>sMi E (sMs E (sV (v:=Zt (((M+1):Int)) false none 0 0 (some ⟨F,0,none⟩) ((a.m.get (M+1)+1).toNat) ((a.m.get (M+1)+1).toNat)) (evK (by kernel_rfl)) ?_))))))))))
       have t7:=e5.frm ((I.trans e0).rx Z) q1;refine sO (Xd (Yt (((M+1):Int)) false none 0 0 (some ⟨F,0,none⟩) ((a.m.get (M+1)+1).toNat) ((a.m.get (M+1)+1).toNat)) E E E XC E t7 E fun G6 e4 _ t8=> ?_);refine sK t6 (Xt (XL (Zt (((M+1):Int)) false none 0 0 (some ⟨F,0,none⟩) ((a.m.get (M+1)+1).toNat) ((a.m.get (M+1)+1).toNat)) results89 (YE (Yt (((M+1):Int)) false none 0 0 (some ⟨F,0,none⟩) ((a.m.get (M+1)+1).toNat) ((a.m.get (M+1)+1).toNat)) Xy XC E t8) ?_));have z2:=hAll.frmB e4 q3;have t9:=e1.frm e4 q1;exact⟨((M+1):Int),false,none,0,0,[],some ⟨F,0,none⟩,(a.m.get (M+1)+1).toNat,(a.m.get (M+1)+1).toNat,K,E,Frm.mono (((j2.trans e0).rx Z).tr e4) q4,TreeR.make Xn.nil (YO.list z2 t9 (fun b hb hs=>by rcases hs with hs|hs;exact .inl hs.1;exact .inr (by omega)) (.inr (by omega)) (by omega) (by unfold Yc;omega)),(Yi.built (by omega) hc (QpI hok) hgM.2 hne (by rw[hKv,show s=(tms (a::G)).length by rw[Qey];omega];rfl) hKc).1,(by rw[hbL];exact(Yi.built (by omega) hc (QpI hok) hgM.2 hne (by rw[hKv,show s=(tms (a::G)).length by rw[Qey];omega];rfl) hKc).2)⟩
theorem Qfy(N:Nat): ∀{w:World}{Sp:Nat→Prop}{Ap:Option Addr}{np cp:Nat}{lp:List TD}{xv:Nat}(hp:Xu TMK w (Sp) Ap np cp lp)(bv:xv≤9223372036854775807)(hN:xv≤N)(h4:xv≤4)(hc:QdU (tms lp))(hh:Qgt xv (tms lp))(hnp:np≤1048576),Calls prog 89 #[.slice Ap np cp,.int .i64 xv] w (Ret fun v w'=> ∃(xr gr Ar nr cr dr Akr nkr ckr:_)(kdr:List TT),v=(Zt xr gr Ar nr cr Akr nkr ckr)∧Ext w w'∧TreeR w' (fun b=>Sp b∨w.heap.size≤b) (TT.mk xr gr Ar nr cr dr Akr nkr ckr kdr)∧Yi (TT.mk xr gr Ar nr cr dr Akr nkr ckr kdr)∧((TT.mk xr gr Ar nr cr dr Akr nkr ckr kdr).val=QdF xv (tms lp))):=by
 induction N with
 |zero=>intros;exact Qb3 0 (by intros;omega) (by assumption) (by assumption) (by first |omega|assumption) (by first |omega|assumption) (by first |omega|assumption) (by first |omega|assumption) (by first |omega|assumption)
 |succ N ih=>intros;exact Qb3 (N+1) (by intros;exact ih (by assumption) (by assumption) (by first |omega|assumption) (by first |omega|assumption) (by first |omega|assumption) (by first |omega|assumption) (by first |omega|assumption)) (by assumption) (by assumption) (by first |omega|assumption) (by first |omega|assumption) (by first |omega|assumption) (by first |omega|assumption) (by first |omega|assumption)
theorem Qi8(hp:Xu TMK w (Sp) Ap np cp lp)(bv:xv≤9223372036854775807)(h4:xv≤4)(hc:QdU (tms lp))(hh:Qgt xv (tms lp))(hnp:np≤1048576):Calls prog 89 #[.slice Ap np cp,.int .i64 xv] w (Ret fun v w'=> ∃(xr gr Ar nr cr dr Akr nkr ckr:_)(kdr:List TT),v=(Zt xr gr Ar nr cr Akr nkr ckr)∧Ext w w'∧TreeR w' (fun b=>Sp b∨w.heap.size≤b) (TT.mk xr gr Ar nr cr dr Akr nkr ckr kdr)∧Yi (TT.mk xr gr Ar nr cr dr Akr nkr ckr kdr)∧((TT.mk xr gr Ar nr cr dr Akr nkr ckr kdr).val=QdF xv (tms lp))):=Qfy xv hp bv (Nat.le_refl _) h4 hc hh hnp
end Go.Proofs.YtnkfdkhjaklolaaGreatDoor
