/-
  Walks of package unipoly: height.
-/
import Derived.Test.YtnkfdkhjaklolaaGreatDoorUni4
import Derived.Test.YtnkfdkhjaklolaaGreatDoorDiv3
import Derived.Test.YtnkfdkhjaklolaaGreatDoorLibB
open Int renaming ofNat→QzH
open List renaming drop_zero→QyK
open Nat renaming gcd→UK,le_refl→Ug
namespace Go.Proofs.YtnkfdkhjaklolaaGreatDoor
open Go.RowKit Go.Gx Tryz
open Go renaming wp_seq_k→Xs,wp_block→Xb,wp_skip→Xk,wp_region_lit→Xr,wp_exit→Xe,wp_ret→Xt
variable{Af:Option Addr}{Mf cf nf:Nat}{Sf:Nat→Prop}{lf:List RI}{w:World}
theorem QhM(hf:Xh w Sf Af nf cf lf Mf)(hnf:nf≤1048576)(hMf:Mf≤1073741824):Calls prog 112 #[.slice Af nf cf] w (Ret fun v w'=> ∃gr Ar nr cr dr,v=(Zb gr Ar nr cr)∧Ext w w'∧Xn w' (fun b=>w.heap.size≤b) Ar nr cr dr∧(Xx gr dr=(hgt (zs lf):Int))∧(Qay gr dr)∧(nr≤Mf)):=by
 have⟨kf,jf,mf⟩:=hf.lkm;replace hf:=hf.low;refine enter func112 E ntmps112 E (rS fun K1 b6=>sO (Xj (Yb false none 0 0) XE E fun g2 w3 d8 S d9 b7=>sK b6 (rS fun K8 b8=>sV (v:=Zb false none 0 0) (evK (by kernel_rfl)) (sO (Xj (Yb false none 0 0) XE E fun M e0 c7 g c8 X=>sO (Xd (Yb false none 0 0) E E E Xp E X E fun b9 h c9 Y=> ?_))))));refine sK b8 (Xs fun e1 Z=>rS fun e2 a0=>sMs E (sV (Xw underlying25 E) (sMi E (sK a0 (Xb ?_)))));refine Ym (fun m e w_=> ∃(k:Nat)(gh:Bool)(Ah:Option Addr)(nh:Nat)(ch:Nat)(dh:List Nat),m=nf -k∧e 2=(.pointer (some ⟨g2,0,none⟩))∧e 3=(.pointer (some ⟨M,0,none⟩))∧e 7=(.slice Af nf cf)∧e 8=(.int .i64 nf)∧e 9=(.int .i64 k)∧Frm (fun b=>b=M) b9 w_∧Blk w_ M 30 ([.bool gh,.slice Ah nh ch])∧(k≤nf)∧(nh≤Mf)∧(Xn w_ (fun b=>M<b) Ah nh ch dh)∧(Xx gh dh=(hgt ((zs lf).take k):Int))∧(Qay gh dh)) (nf -(0)) ?_ ?_
 ·refine⟨0,false,none,0,0,[],E,E,E,E,E,cI,Frm.refl _ _,?_,?_,?_,?_,?_,?_⟩
  ·exact Y
  ·omega
  ·omega
  ·exact Xn.nil
  ·rfl
  ·exact Qay.zero
 ·rintro e3 e4 e5 ⟨k,gh,Ah,nh,ch,dh,d0,a1,a2,a3,a4,a5,c,x,hk,hnh,hN,hvh,hcn⟩
  obtain⟨e6,rfl⟩:=Qjz a1 a2 a3 a4 a5;have d1:=c.size;have y:val dh=hgt ((zs lf).take k):=by have :=XI gh dh;omega
  refine rS fun e7 z=> ?_
  by_cases A:((k:Int))<((nf:Int))
  ·refine sV (Xq true E E (dT A)) (sK z (Xs fun e8 a6=>cT E (Xk (xM a6 (Xs fun e9 B=>Xb (rS fun f0 a7=> ?_))))))
   have T:=hf.frmB (((S.trans g).rx h).trans c) q3;obtain⟨f1,c0,rfl⟩:=T.base Qo;refine sV (XU k underlying25 Xp E E (c0+(k*2))) ?_;obtain⟨j,l,n,o,d2,_,N,O,C,c3,_,_,D⟩:=T.at_ (i:=k) Qo;have⟨d3,_,_⟩:=C.lkm;refine sV (XO (Yb j l n o) Xo Xp E (Qcj N O)) (sO (Xj (Yb false none 0 0) XE E fun f2 f3 d4 a8 d5 a9=>sO (Xd (Yb j l n o) E E E Xp E a9 E fun f4 b0 d6 F=> ?_)));refine sK a7 (rS fun f5 G=>sV (XZ 1 Zk E E) (sV (Xg Qam E F E) (sV (XZ 1 Zk E E) ?_)));have d:=a8.rx b0;have p:=x.frm d q1;refine sV (Xg Qam E p E) ?_;have U:=C.frmB d q3;have W:=hN.frmB d q3;refine sO (Xc E Qfk (Qa7 U W) E ?_);rintro _ f6 ⟨P,rfl,a,I⟩;have d7:=a.size
   by_cases f:P>0
   ·refine sV (Yu true E E (dT f)) (sK G (cT E (Xr ?_)))
    refine sV (Xa (Yb j l n o) Xo Xp E (F.ext a) E) ?_;refine sO (Xc E Qil (QcK (U.ext a) Qo) E ?_);rintro _ f7 ⟨q,r,s,t,Q,rfl,J,u,b1,R,c4⟩;have⟨c5,_,_⟩:=u.lkm;refine sO (Xd (Yb q r s t) E E E Xp E (p.ext (a.trans J)) E fun f8 K _ b2=> ?_);refine XB (bN (xM B (Xr (sV (XF (((k:Int))+1) E E wI) (sMi E (XB ?_))))));have c1:=u.frmB K q3;refine again (nf -(k+1)) Qo ⟨k+1,q,r,s,t,Q,E,E,E,E,E,cI,Frm.mono (c.tr (((d.xr a).xr J).tr K)) q4,?_,?_,?_,?_,?_,?_⟩
    ·exact b2
    ·omega
    ·omega
    ·exact Xn.sub c1 q5
    ·rw[b1,(Qmf y (by rw[Za];omega) D (XI _ _) I).1 f]
    ·exact R
   ·refine sV (Yu false E E (dF f)) (sK G (cF E (Xk (bN (xM B (Xr (sV (XF (((k:Int))+1) E E wI) (sMi E (XB ?_)))))))))
    refine again (nf -(k+1)) Qo ⟨k+1,gh,Ah,nh,ch,dh,E,E,E,E,E,cI,Frm.mono (c.tr (d.xr a)) q4,?_,?_,?_,?_,?_,?_⟩
    ·exact(p.ext a)
    ·omega
    ·omega
    ·exact Xn.sub (W.ext a) q5
    ·exact(Qra hvh ((Qmf y (by rw[Za];omega) D (XI _ _) I).2 f) y)
    ·exact hcn
  ·refine sV (Xq false E E (dF A)) (sK z (Xs fun f9 _=>cF E (Xe (xE (xE (bE (xM Z (rS fun g0 b3=>sV (Xa (Yb gh Ah nh ch) Xo Xp E x E) ?_))))))))
   have b4:=b7.frm ((g.rx h).trans c) q1;refine sO (Xd (Yb gh Ah nh ch) E E E Xp E b4 E fun g1 L _ b5=> ?_);refine sK b3 (Xt (XL (Zb gh Ah nh ch) results112 (YE (Yb gh Ah nh ch) Xo Xp E b5) ?_));have c2:=hN.frmB L q3;exact⟨gh,Ah,nh,ch,dh,E,Frm.mono ((((S.trans g).rx h).trans c).tr L) q4,Xn.sub c2 q5,(by rw[hvh,List.take_of_length_le (by rw[Za];omega)]),hcn,(by omega)⟩
end Go.Proofs.YtnkfdkhjaklolaaGreatDoor

namespace Go.Proofs.YtnkfdkhjaklolaaGreatDoor
open Go.RowKit Go.Gx Tryz
open Go renaming wp_seq_k→Xs,wp_block→Xb,wp_skip→Xk,wp_region_lit→Xr,wp_exit→Xe,wp_ret→Xt
variable{Aa Ab Af Ag:Option Addr}{Mf Mg ca cb cf cg na nb nf ng pl:Nat}{Sa Sb Sf Sg:Nat→Prop}{da db:List Nat}{ga gb:Bool}{lf lg:List RI}{w:World}
theorem Qd1(ha:Xn w Sa Aa na ca da)(hb:Xn w Sb Ab nb cb db)(hna:na≤68719476736)(hnb:nb≤68719476736)(hb0:Xx gb db≠0):Calls prog 136 #[Zb ga Aa na ca,Zb gb Ab nb cb] w (Ret fun v w'=> ∃gr Ar nr cr dr xe,v=(.tuple #[Zb gr Ar nr cr,.int .i64 (xe)])∧Ext w w'∧Xn w' (fun b=>w.heap.size≤b) Ar nr cr dr∧((xe=0∧Xx ga da=Xx gb db*Xx gr dr)∨(xe=3∧ ¬Xx gb db∣Xx ga da))∧(Qay gr dr)∧(nr≤na+1)):=by
 have⟨la,ka,ma⟩:=ha.lkm;replace ha:=ha.low;have⟨lb,kb,mb⟩:=hb.lkm;replace hb:=hb.low;refine enter func136 E ntmps136 E (rS fun K1 a3=>sO (Ys (Yb ga Aa na ca) E E fun g2 w3 c3 a4 c4 a5=>sO (Ys (Yb gb Ab nb cb) E E fun g8 w9 b1 t b2 J=>sO (Xj (Yb false none 0 0) XE E fun c5 c6 b3 r b4 u=>sAi E (sK a3 (rS fun c7 K=> ?_))))));refine sV (Xa (Yb ga Aa na ca) Xo Xp E (a5.ext (t.trans r)) E) ?_;refine sV (Xa (Yb gb Ab nb cb) Xo Xp E (J.ext r) E) ?_;have q:=(a4.trans t).trans r;refine sO (Xc E Qej (Qaf (ha.ext q) (hb.ext q) Qo Qo Qo) E ?_);rintro _ c8 ⟨a,c,d,e,C,k,l,m,n,b0,s,rfl,o,D,F,L,x,y,_,G,a6,_⟩;have b5:=o.size;refine sV (v:= .tuple #[Zb a c d e,Zb k l m n,.int .i64 (s)]) (E) (sV (v:=Zb a c d e) (E) (sV (v:=Zb k l m n) (E) (sV (v:= .int .i64 (s)) (E) (sO (Xj (Yb false none 0 0) XE E fun c9 d0 b6 p b7 M=>sO (Xj (Yb false none 0 0) XE E fun d1 d2 b8 f b9 N=> ?_))))));refine sO (Xd (Yb a c d e) E E E Xp E (M.ext f) E fun d3 g c0 O=> ?_);have P:=N.frm g q1;refine sO (Xd (Yb k l m n) E E E Xp E P E fun d4 i c1 Q=> ?_);refine sAi E (sK K (Xs fun d5 R=>Xb (rS fun d6 S=>sMi E (sV (ZI false E E (dF (by have h:=G;omega))) (sAb E (sK S (cF E (rS fun d7 T=>sV (Xa (Yb k l m n) Xo Xp E Q E) ?_))))))));have z:=((p.trans f).rx g).tr i;have a7:=F.frmB z q3;refine sO (Xc E Qn9 (Qdj a7) E ?_);rintro _ d8 ⟨I,rfl,j,A⟩;refine sV (Qas _ E E) (sAb E (sK T ?_))
 cases I
 ·refine cT E (rS fun d9 U=>sV (v:=Zb false none 0 0) (evK (by kernel_rfl)) ?_)
  have W:=u.frm (((((o.trans p).trans f).rx g).tr i).xr j) q1;refine sO (Xd (Yb false none 0 0) E E E Xp E W E fun e0 X _ Y=> ?_);refine sAi E (sK U (Xt (bR (xR (Qbl (Zb false none 0 0) (.int .i64 (3)) results136 (YE (Yb false none 0 0) Xo Xp E Y) (XK E) ?_)))));exact⟨false,none,0,0,[],3,E,Frm.mono (((((((q.trans o).trans p).trans f).rx g).tr i).xr j).tr X) q4,Xn.nil,.inr ⟨E,fun hd=>(of_decide_eq_false (A.symm.trans (by rfl))) (by rw[x];exact Int.tmod_eq_zero_of_dvd hd)⟩,Qay.zero,(by omega)⟩
 ·refine cF E (Xk (bN (xM R (rS fun e1 Z=> ?_))))
  have a0:=O.frm (i.xr j) q1;refine sV (Xa (Yb a c d e) Xo Xp E a0 E) ?_;have a1:=u.frm (((((o.trans p).trans f).rx g).tr i).xr j) q1;refine sO (Xd (Yb a c d e) E E E Xp E a1 E fun e2 B _ a2=> ?_);refine sAi E (sK Z (Xt (Qbl (Zb a c d e) (.int .i64 (0)) results136 (YE (Yb a c d e) Xo Xp E a2) (XK E) ?_)));have a8:=D.frmB ((z.xr j).tr B) q3;exact⟨a,c,d,e,C,0,E,Frm.mono (((((((q.trans o).trans p).trans f).rx g).tr i).xr j).tr B) q4,Xn.sub a8 q5,.inl ⟨E,by have h1:=Int.mul_tdiv_add_tmod (Xx ga da) (Xx gb db);have h2:=of_decide_eq_true (A.symm.trans (by rfl));rw[L];rw[x] at h2;rw[h2] at h1;omega⟩,y,(by omega)⟩
set_option maxHeartbeats 1000000 in
theorem Qge(Bl:Blk w pl 25 [.slice Af nf cf])(hf:Xh w Sf Af nf cf lf Mf)(hnf:nf≤64)(hMf:Mf≤65536):Calls prog 103 #[.slice (some ⟨pl,0,none⟩) 1 1] w (Ret fun v w'=> ∃gr Ar nr cr dr,v=(Zb gr Ar nr cr)∧Ext w w'∧Xn w' (fun b=>w.heap.size≤b) Ar nr cr dr∧(Xx gr dr=(YW (zs lf):Int))∧(Qay gr dr)∧(nr≤4194624)):=by
 have ltl:=Bl.lt;have⟨kf,jf,mf⟩:=hf.lkm;replace hf:=hf.low;refine enter func103 E ntmps103 E (rS fun K1 f9=>sO (Xj (Yb false none 0 0) XE E fun g2 w3 j6 b9 j7 c0=>sK f9 (rS fun K8 g0=>sO (Xc E Qaz (Yv Qo) E ?_))));rintro _ j8 ⟨O,P,Q,R,h4,rfl,t,c4,c1,_,_⟩;have h5:=t.size;refine sO (Xj (Yb false none 0 0) XE E fun G j9 h6 u h7 c5=>sO (Xd (Yb O P Q R) E E E Xp E c5 E fun k0 x h8 c6=> ?_));refine sK g0 (rS fun k1 c7=>sV (v:=Zb false none 0 0) (evK (by kernel_rfl)) (sO (Xj (Yb false none 0 0) XE E fun q k2 h9 r i0 c8=>sO (Xd (Yb false none 0 0) E E E Xp E c8 E fun g1 s i1 c9=> ?_))));refine sK c7 (Xs fun k3 d0=>rS fun k4 d1=>sMs E (sV (Xw underlying57 E) (sMi E (sK d1 (Xb ?_)))));refine Ym (fun m e w_=> ∃(i:Nat)(gv:Bool)(Av:Option Addr)(nv:Nat)(cv:Nat)(dv:List Nat),m=1 -i∧e 2=(.pointer (some ⟨g2,0,none⟩))∧e 3=(.pointer (some ⟨G,0,none⟩))∧e 4=(.pointer (some ⟨q,0,none⟩))∧e 10=(.slice (some ⟨pl,0,none⟩) 1 1)∧e 11=(.int .i64 (1))∧e 12=(.int .i64 i)∧Frm (fun b=>b=q) g1 w_∧Blk w_ q 30 ([.bool gv,.slice Av nv cv])∧(i≤1)∧(nv≤4194624*i)∧(Xn w_ (fun b=>w.heap.size≤b∧b≠q∧b≠g2∧b≠G) Av nv cv dv)∧(Qay gv dv)∧(Xx gv dv=(cc2 (zs lf) [] i:Int))) (1 -(0)) ?_ ?_
 ·refine⟨0,false,none,0,0,[],E,E,E,E,E,E,cI,Frm.refl _ _,?_,?_,?_,?_,?_,?_⟩
  ·exact c9
  ·omega
  ·omega
  ·exact Xn.nil
  ·exact Qay.zero
  ·rfl
 ·rintro k5 k6 g3 ⟨i,gv,Av,nv,cv,dv,i2,d2,d3,d4,d5,d6,d7,n,S,hi,hnv,hN,hcn,hv⟩
  obtain⟨k7,rfl⟩:=Qid d2 d3 d4 d5 d6 d7;have i3:=n.size;have⟨lV,kV,mV⟩:=hN.lkm;refine rS fun k8 T=> ?_
  by_cases U:((i:Int))<1
  ·refine sV (Xq true E E (dT U)) (sK T (Xs fun k9 d8=>cT E (Xk (xM d8 (Xs fun l0 d9=>Xb (rS fun l1 e0=>sV (XU i underlying57 Qu5 E E i) ?_))))))
   have D:=(((((b9.trans t).trans u).rx x).xr r).tr s).tr n;have e1:=Bl.frm D q1;have g4:=hf.frmB D q3;obtain⟨Ai,ni,ci,li,hci,hPi,hzi,hni⟩:=QrB e1 g4 (k:=i) Qo;have⟨lli,kli,mli⟩:=hPi.lkm;refine sV (XR QcZ E hci) (sAs E (sK e0 (rS fun l2 e2=>sMs E (sV (Xw underlying25 E) (sV (XQ (((ni:Int)) -1) E E wI) (sAi E (sK e2 (Xb ?_))))))));refine Ym (fun m e w_=> ∃(k:Nat)(gw:Bool)(Aw:Option Addr)(nw:Nat)(cw:Nat)(dw:List Nat),m=k∧e 2=(.pointer (some ⟨g2,0,none⟩))∧e 3=(.pointer (some ⟨G,0,none⟩))∧e 4=(.pointer (some ⟨q,0,none⟩))∧e 6=(.slice Ai ni ci)∧e 7=(.int .i64 ((k:Int) -1))∧e 10=(.slice (some ⟨pl,0,none⟩) 1 1)∧e 11=(.int .i64 (1))∧e 12=(.int .i64 i)∧Frm (fun b=>b=q) g3 w_∧Blk w_ q 30 ([.bool gw,.slice Aw nw cw])∧(k≤ni)∧(nw≤4194624*i+65541*(ni -k))∧(Xn w_ (fun b=>w.heap.size≤b∧b≠q∧b≠g2∧b≠G) Aw nw cw dw)∧(Qay gw dw)∧(Xx gw dw=(UK (cc2 (zs lf) [] i) (YW ((zs li).drop k)):Int))) ((ni)) ?_ ?_
   ·refine⟨ni,gv,Av,nv,cv,dv,E,E,E,E,E,cI,E,E,E,Frm.refl _ _,?_,?_,?_,?_,?_,?_⟩
    ·exact S
    ·omega
    ·omega
    ·exact Xn.sub hN q5
    ·exact hcn
    ·rw[hv];exact congrArg QzH (Qh1 (by rw[Za];omega))
   ·rintro l3 l4 l5 ⟨k,gw,Aw,nw,cw,dw,i4,e3,e4,e5,e6,e7,e8,e9,f0,o,W,hk,hnw,hW,f1,g5⟩
    obtain⟨l6,rfl⟩:=QsU e3 e4 e5 e6 e7 e8 e9 f0;have i5:=o.size;have⟨lW,kW,mW⟩:=hW.lkm;refine Xs fun l7 f2=>rS fun l8 X=>sMi E ?_
    by_cases Y:((k:Int) -1)≥0
    ·refine sV (Zi true E E (dT Y)) (sK X (cT E (Xk (xM f2 (Xs fun l9 f3=>Xb (Xs fun m0 f4=>XA (fun b=>b=q) mixed fun m1 p i6=>dMs 1 E E (dMi 2 E E ?_)))))))
     have c2:=hPi.frmB (o.xr p) q3;obtain⟨m2,f5,rfl⟩:=c2.base Qo;refine dV 3 E (fun _ _=>XU (k -1) underlying25 Xp E E (f5+((k -1)*2))) ?_;obtain⟨a5,a6,a7,a8,h0,_,Z,a0,I,g6,a1,a2,a9⟩:=c2.at_ (i:=k -1) Qo;have⟨h3,_,_⟩:=I.lkm;refine dV 4 E (fun _ hf=>XO (Yb a5 a6 a7 a8) Xo Xp E (QdZ Z a0 hf a2 (by(try dsimp only at a1⊢);omega))) ?_;have J:=W.ext p;refine dOk 0 E E (oEv (v:=Zb gw Aw nw cw) (Xa (Yb gw Aw nw cw) Xo Xp E J E) E ⟨Frm.refl _ _,?_⟩);refine dOk 5 E E (Xc E QkT (Qdi (hW.ext p) I Qo Qo) E ?_);rintro _ i7 ⟨a,c,d,f,y,rfl,g,B,b0,C,g7⟩;refine⟨Frm.of_ext g,?_⟩;have⟨g8,_,_⟩:=B.lkm;have c3:Xx a y=(UK (cc2 (zs lf) [] i) (YW ((zs li).drop (k -1))):Int):=by rw[b0];exact congrArg QzH (QgJ (by have h:=XI gw dw;omega) (by omega) (by rw[Za];omega) a9 (XI _ _))
     refine dOk 6 E E (Xd (Yb a c d f) E E E Xp E (J.ext g) E fun i8 j _ z=> ?_);refine⟨j,XG (by kernel_rfl) (xM f4 (rS fun i9 b1=>sV (Xa (Yb a c d f) Xo Xp E z E) ?_))⟩;have b2:=c6.frm ((((((r.rx s).trans n).trans o).xr p).xr g).trans j) q1;refine sV (Xa (Yb O P Q R) Xo Xp E b2 E) ?_;have F:=B.frmB j q3;have f6:=c4.frmB ((((((((u.rx x).xr r).tr s).tr n).tr o).xr p).xr g).tr j) q3;refine sO (Xc E Qn4 (QfP F f6) E ?_);rintro _ j0 ⟨a3,rfl,l,K⟩;refine sK b1 (cB a3 E ?_ ?_)
     ·intro A
      subst A;refine rS fun j1 b3=> ?_;refine sV (Xa (Yb a c d f) Xo Xp E (z.ext l) E) ?_;have b4:=c0.frm ((((((((((t.trans u).rx x).xr r).tr s).tr n).tr o).xr p).xr g).tr j).xr l) q1;refine sO (Xd (Yb a c d f) E E E Xp E b4 E fun j2 L _ b5=> ?_);refine sK b3 (Xt (bR (xR (xR (bR (bR (xR (xR (bR (xR (XL (Zb a c d f) results103 (YE (Yb a c d f) Xo Xp E b5) ?_)))))))))));have M:UK (cc2 (zs lf) [] i) (YW (zs li))=1:=QiB (k -1) (by have h1:=of_decide_eq_true K.symm;rw[c3,c1] at h1;omega);rw[Qgj (by omega) (fun _=>hzi) (fun h=>by omega)] at M;have f7:=F.frmB (l.rx L) q3;exact⟨a,c,d,f,y,E,Frm.mono ((((((D.tr o).xr p).xr g).tr j).xr l).tr L) q4,Xn.sub f7 q5,(by rw[of_decide_eq_true K.symm,c1];have h1:=Qoz (by omega) M;have h2:YW (zs lf)=1:=(by rw[show i=0 by omega] at M;exact M);omega),C,(by omega)⟩
     ·intro A
      subst A;refine Xk (bN (xM f3 (Xr (sMi E (sV (XQ (((k:Int) -1) -1) E E wI) (sAi E (XB ?_)))))));refine again ((k -1)) Qo ⟨k -1,a,c,d,f,y,E,E,E,E,E,cI,E,E,E,o.trans (((p.trans g).rx j).xr l),?_,?_,?_,?_,?_,?_⟩
      ·exact(z.ext l)
      ·omega
      ·omega
      ·exact Xn.sub (F.ext l) q5
      ·exact C
      ·exact c3
    ·refine sV (Zi false E E (dF Y)) (sK X (cF E (Xe (xE (xE (bE (bN (xM d9 (Xr (sV (XF (((i:Int))+1) E E wI) (sMi E (XB (again (1 -(i+1)) Qo ⟨i+1,gw,Aw,nw,cw,dw,E,E,E,E,E,E,cI,n.trans o,?_,?_,?_,?_,?_,?_⟩)))))))))))))
     ·exact W
     ·omega
     ·omega
     ·exact Xn.sub hW q5
     ·exact f1
     ·rw[g5,show k=0 by omega,QyK,Qgj (by omega) (fun _=>hzi) (fun h=>by omega)]
  ·refine sV (Xq false E E (dF U)) (sK T (Xs fun j3 _=>cF E (Xe (xE (xE (bE (xM d0 (rS fun j4 b6=>sV (Xa (Yb gv Av nv cv) Xo Xp E S E) ?_))))))))
   have b7:=c0.frm (((((t.trans u).rx x).xr r).tr s).tr n) q1;refine sO (Xd (Yb gv Av nv cv) E E E Xp E b7 E fun j5 N _ b8=> ?_);refine sK b6 (Xt (XL (Zb gv Av nv cv) results103 (YE (Yb gv Av nv cv) Xo Xp E b8) ?_));have f8:=hN.frmB N q3;exact⟨gv,Av,nv,cv,dv,E,Frm.mono (((((((b9.trans t).trans u).rx x).xr r).tr s).tr n).tr N) q4,Xn.sub f8 q5,(by rw[hv,show i=1 by omega];rfl),hcn,(by omega)⟩
set_option maxHeartbeats 1000000 in
theorem Qgf(Bl:Blk w pl 25 [.slice Af nf cf,.slice Ag ng cg])(hf:Xh w Sf Af nf cf lf Mf)(hg:Xh w Sg Ag ng cg lg Mg)(hnf:nf≤64)(hMf:Mf≤65536)(hng:ng≤64)(hMg:Mg≤65536):Calls prog 103 #[.slice (some ⟨pl,0,none⟩) 2 2] w (Ret fun v w'=> ∃gr Ar nr cr dr,v=(Zb gr Ar nr cr)∧Ext w w'∧Xn w' (fun b=>w.heap.size≤b) Ar nr cr dr∧(Xx gr dr=(UK (YW (zs lf)) (YW (zs lg)):Int))∧(Qay gr dr)∧(nr≤8389248)):=by
 have ltl:=Bl.lt;replace hf:=hf.low;replace hg:=hg.low;refine enter func103 E ntmps103 E (rS fun K1 g3=>sO (Xj (Yb false none 0 0) XE E fun g2 w3 k0 c0 k1 c1=>sK g3 (rS fun K8 g4=>sO (Xc E Qaz (Yv Qo) E ?_))));rintro _ k2 ⟨N,O,P,Q,h7,rfl,t,c6,c2,_,_⟩;have h8:=t.size;refine sO (Xj (Yb false none 0 0) XE E fun G k3 h9 u i0 c7=>sO (Xd (Yb N O P Q) E E E Xp E c7 E fun k4 x i1 c8=> ?_));refine sK g4 (rS fun k5 c9=>sV (v:=Zb false none 0 0) (evK (by kernel_rfl)) (sO (Xj (Yb false none 0 0) XE E fun q k6 i2 r i3 d0=>sO (Xd (Yb false none 0 0) E E E Xp E d0 E fun g5 s i4 d1=> ?_))));refine sK c9 (Xs fun k7 d2=>rS fun k8 d3=>sMs E (sV (Xw underlying57 E) (sMi E (sK d3 (Xb ?_)))));refine Ym (fun m e w_=> ∃(i:Nat)(gv:Bool)(Av:Option Addr)(nv:Nat)(cv:Nat)(dv:List Nat),m=2 -i∧e 2=(.pointer (some ⟨g2,0,none⟩))∧e 3=(.pointer (some ⟨G,0,none⟩))∧e 4=(.pointer (some ⟨q,0,none⟩))∧e 10=(.slice (some ⟨pl,0,none⟩) 2 2)∧e 11=(.int .i64 (2))∧e 12=(.int .i64 i)∧Frm (fun b=>b=q) g5 w_∧Blk w_ q 30 ([.bool gv,.slice Av nv cv])∧(i≤2)∧(nv≤4194624*i)∧(Xn w_ (fun b=>w.heap.size≤b∧b≠q∧b≠g2∧b≠G) Av nv cv dv)∧(Qay gv dv)∧(Xx gv dv=(cc2 (zs lf) (zs lg) i:Int))) (2 -(0)) ?_ ?_
 ·refine⟨0,false,none,0,0,[],E,E,E,E,E,E,cI,Frm.refl _ _,?_,?_,?_,?_,?_,?_⟩
  ·exact d1
  ·omega
  ·omega
  ·exact Xn.nil
  ·exact Qay.zero
  ·rfl
 ·rintro k9 l0 g6 ⟨i,gv,Av,nv,cv,dv,i5,d4,d5,d6,d7,d8,d9,n,R,hi,hnv,hN,hcn,hv⟩
  obtain⟨l1,rfl⟩:=Qid d4 d5 d6 d7 d8 d9;have i6:=n.size;have⟨lV,kV,mV⟩:=hN.lkm;refine rS fun l2 S=> ?_
  by_cases T:((i:Int))<2
  ·refine sV (Xq true E E (dT T)) (sK S (Xs fun l3 e0=>cT E (Xk (xM e0 (Xs fun l4 e1=>Xb (rS fun l5 e2=>sV (XU i underlying57 Qu5 E E i) ?_))))))
   have z:=(((((c0.trans t).trans u).rx x).xr r).tr s).tr n;have e3:=Bl.frm z q1;have g7:=hf.frmB z q3;have g8:=hg.frmB z q3;obtain⟨Ai,ni,ci,li,hci,hPi,U,W⟩:=Qqj e3 g7 g8 (k:=i) Qo;have⟨lli,kli,mli⟩:=hPi.lkm;have hni:ni≤64:=by rcases(show i=0∨i=1 by omega) with h|h;exact(U h).2▸hnf;exact(W h).2▸hng
   refine sV (XR QcZ E hci) (sAs E (sK e2 (rS fun l6 e4=>sMs E (sV (Xw underlying25 E) (sV (XQ (((ni:Int)) -1) E E wI) (sAi E (sK e4 (Xb ?_))))))));refine Ym (fun m e w_=> ∃(k:Nat)(gw:Bool)(Aw:Option Addr)(nw:Nat)(cw:Nat)(dw:List Nat),m=k∧e 2=(.pointer (some ⟨g2,0,none⟩))∧e 3=(.pointer (some ⟨G,0,none⟩))∧e 4=(.pointer (some ⟨q,0,none⟩))∧e 6=(.slice Ai ni ci)∧e 7=(.int .i64 ((k:Int) -1))∧e 10=(.slice (some ⟨pl,0,none⟩) 2 2)∧e 11=(.int .i64 (2))∧e 12=(.int .i64 i)∧Frm (fun b=>b=q) g6 w_∧Blk w_ q 30 ([.bool gw,.slice Aw nw cw])∧(k≤ni)∧(nw≤4194624*i+65541*(ni -k))∧(Xn w_ (fun b=>w.heap.size≤b∧b≠q∧b≠g2∧b≠G) Aw nw cw dw)∧(Qay gw dw)∧(Xx gw dw=(UK (cc2 (zs lf) (zs lg) i) (YW ((zs li).drop k)):Int))) ((ni)) ?_ ?_
   ·refine⟨ni,gv,Av,nv,cv,dv,E,E,E,E,E,cI,E,E,E,Frm.refl _ _,?_,?_,?_,?_,?_,?_⟩
    ·exact R
    ·omega
    ·omega
    ·exact Xn.sub hN q5
    ·exact hcn
    ·rw[hv];exact congrArg QzH (Qh1 (by rw[Za];omega))
   ·rintro l7 l8 l9 ⟨k,gw,Aw,nw,cw,dw,i7,e5,e6,e7,e8,e9,f0,f1,f2,o,X,hk,hnw,hW,f3,g9⟩
    obtain⟨m0,rfl⟩:=QsU e5 e6 e7 e8 e9 f0 f1 f2;have i8:=o.size;have⟨lW,kW,mW⟩:=hW.lkm;refine Xs fun m1 f4=>rS fun m2 Y=>sMi E ?_
    by_cases Z:((k:Int) -1)≥0
    ·refine sV (Zi true E E (dT Z)) (sK Y (cT E (Xk (xM f4 (Xs fun m3 f5=>Xb (Xs fun m4 f6=>XA (fun b=>b=q) mixed fun m5 p i9=>dMs 1 E E (dMi 2 E E ?_)))))))
     have c3:=hPi.frmB (o.xr p) q3;obtain⟨j0,f7,rfl⟩:=c3.base Qo;refine dV 3 E (fun _ _=>XU (k -1) underlying25 Xp E E (f7+((k -1)*2))) ?_;obtain⟨a6,a7,a8,a9,h5,_,a0,a1,I,h0,a2,a3,b0⟩:=c3.at_ (i:=k -1) Qo;have⟨h6,_,_⟩:=I.lkm;refine dV 4 E (fun _ hf=>XO (Yb a6 a7 a8 a9) Xo Xp E (QdZ a0 a1 hf a3 (by(try dsimp only at a2⊢);omega))) ?_;have J:=X.ext p;refine dOk 0 E E (oEv (v:=Zb gw Aw nw cw) (Xa (Yb gw Aw nw cw) Xo Xp E J E) E ⟨Frm.refl _ _,?_⟩);refine dOk 5 E E (Xc E QkT (Qdi (hW.ext p) I Qo Qo) E ?_);rintro _ j1 ⟨a,c,d,f,y,rfl,g,C,b1,D,h3⟩;refine⟨Frm.of_ext g,?_⟩;have⟨h4,_,_⟩:=C.lkm;have c4:Xx a y=(UK (cc2 (zs lf) (zs lg) i) (YW ((zs li).drop (k -1))):Int):=by rw[b1];exact congrArg QzH (QgJ (by have h:=XI gw dw;omega) (by omega) (by rw[Za];omega) b0 (XI _ _))
     refine dOk 6 E E (Xd (Yb a c d f) E E E Xp E (J.ext g) E fun j2 j _ A=> ?_);refine⟨j,XG (by kernel_rfl) (xM f6 (rS fun j3 b2=>sV (Xa (Yb a c d f) Xo Xp E A E) ?_))⟩;have b3:=c8.frm ((((((r.rx s).trans n).trans o).xr p).xr g).trans j) q1;refine sV (Xa (Yb N O P Q) Xo Xp E b3 E) ?_;have F:=C.frmB j q3;have f8:=c6.frmB ((((((((u.rx x).xr r).tr s).tr n).tr o).xr p).xr g).tr j) q3;refine sO (Xc E Qn4 (QfP F f8) E ?_);rintro _ j4 ⟨a4,rfl,l,K⟩;refine sK b2 (cB a4 E ?_ ?_)
     ·intro B
      subst B;refine rS fun j5 b4=> ?_;refine sV (Xa (Yb a c d f) Xo Xp E (A.ext l) E) ?_;have b5:=c1.frm ((((((((((t.trans u).rx x).xr r).tr s).tr n).tr o).xr p).xr g).tr j).xr l) q1;refine sO (Xd (Yb a c d f) E E E Xp E b5 E fun j6 L _ b6=> ?_);refine sK b4 (Xt (bR (xR (xR (bR (bR (xR (xR (bR (xR (XL (Zb a c d f) results103 (YE (Yb a c d f) Xo Xp E b6) ?_)))))))))));have c5:UK (cc2 (zs lf) (zs lg) i) (YW (zs li))=1:=QiB (k -1) (by have h1:=of_decide_eq_true K.symm;rw[c4,c2] at h1;omega);rw[Qgj (by omega) (fun h=>(U h).1) fun h=>(W h).1] at c5;have g0:=F.frmB (l.rx L) q3;exact⟨a,c,d,f,y,E,Frm.mono ((((((z.tr o).xr p).xr g).tr j).xr l).tr L) q4,Xn.sub g0 q5,(by rw[of_decide_eq_true K.symm,c2];have h1:=Qoz (by omega) c5;have h2:UK (YW (zs lf)) (YW (zs lg))=1:=h1;omega),D,(by omega)⟩
     ·intro B
      subst B;refine Xk (bN (xM f5 (Xr (sMi E (sV (XQ (((k:Int) -1) -1) E E wI) (sAi E (XB ?_)))))));refine again ((k -1)) Qo ⟨k -1,a,c,d,f,y,E,E,E,E,E,cI,E,E,E,o.trans (((p.trans g).rx j).xr l),?_,?_,?_,?_,?_,?_⟩
      ·exact(A.ext l)
      ·omega
      ·omega
      ·exact Xn.sub (F.ext l) q5
      ·exact D
      ·exact c4
    ·refine sV (Zi false E E (dF Z)) (sK Y (cF E (Xe (xE (xE (bE (bN (xM e1 (Xr (sV (XF (((i:Int))+1) E E wI) (sMi E (XB (again (2 -(i+1)) Qo ⟨i+1,gw,Aw,nw,cw,dw,E,E,E,E,E,E,cI,n.trans o,?_,?_,?_,?_,?_,?_⟩)))))))))))))
     ·exact X
     ·omega
     ·omega
     ·exact Xn.sub hW q5
     ·exact f3
     ·rw[g9,show k=0 by omega,QyK,Qgj (by omega) (fun h=>(U h).1) fun h=>(W h).1]
  ·refine sV (Xq false E E (dF T)) (sK S (Xs fun j7 _=>cF E (Xe (xE (xE (bE (xM d2 (rS fun j8 b7=>sV (Xa (Yb gv Av nv cv) Xo Xp E R E) ?_))))))))
   have b8:=c1.frm (((((t.trans u).rx x).xr r).tr s).tr n) q1;refine sO (Xd (Yb gv Av nv cv) E E E Xp E b8 E fun j9 M _ b9=> ?_);refine sK b7 (Xt (XL (Zb gv Av nv cv) results103 (YE (Yb gv Av nv cv) Xo Xp E b9) ?_));have g1:=hN.frmB M q3;exact⟨gv,Av,nv,cv,dv,E,Frm.mono (((((((c0.trans t).trans u).rx x).xr r).tr s).tr n).tr M) q4,Xn.sub g1 q5,(by rw[hv,show i=2 by omega];rfl),hcn,(by omega)⟩
theorem Qeh(hf:Xh w Sf Af nf cf lf Mf)(hnf:nf≤64)(hMf:Mf≤65536):Calls prog 98 #[.slice Af nf cf] w (Ret fun v w'=> ∃gr Ar nr cr dr,v=(Zb gr Ar nr cr)∧Ext w w'∧Xn w' (fun b=>w.heap.size≤b) Ar nr cr dr∧(Xx gr dr=(YW (zs lf):Int))∧(Qay gr dr)∧(nr≤4194624)):=by
 replace hf:=hf.low;refine enter func98 E ntmps98 E (rS fun G p=>sO (Xj (Yb false none 0 0) XE E fun I J B q C r=>sK p (rS fun K s=>sMs E (sO (XT [.slice Af nf cf] [[.slice Af nf cf]] underlying57 Qne E E E E E fun y t z g A f=> ?_)))));replace f:Blk t y 25 [.slice Af nf cf]:=f;have h:=q.trans g;refine sO (Xc E QnT (Qge f (hf.ext h) Qo Qo) E ?_);rintro _ D ⟨a,c,d,e,k,rfl,i,l,n,m,x⟩;refine sO (Xd (Yb a c d e) E E E Xp E (r.ext (g.trans i)) E fun F j _ o=> ?_);refine sK s (Xt (XL (Zb a c d e) results98 (YE (Yb a c d e) Xo Xp E o) ?_));have u:=l.frmB j q3;exact⟨a,c,d,e,k,E,Frm.mono ((h.trans i).rx j) q4,Xn.sub u q5,n,m,Qo⟩
end Go.Proofs.YtnkfdkhjaklolaaGreatDoor

namespace Go.Proofs.YtnkfdkhjaklolaaGreatDoor
open Go.RowKit Go.Gx Tryz
open Go renaming wp_seq_k→Xs,wp_block→Xb,wp_skip→Xk,wp_region_lit→Xr,wp_exit→Xe,wp_ret→Xt
variable{Aa Ac Af:Option Addr}{Mf ca cc cf na nc nf xn:Nat}{Sa Sc Sf:Nat→Prop}{da dc:List Nat}{ga gc:Bool}{lf:List RI}{w:World}
set_option maxHeartbeats 1000000 in
theorem Qez(hf:Xh w Sf Af nf cf lf Mf)(hc:Xn w Sc Ac nc cc dc)(hnf:nf≤1024)(hMf:Mf≤67108864)(hnc:nc≤67108864)(hc0:Xx gc dc≠0):Calls prog 100 #[.slice Af nf cf,Zb gc Ac nc cc] w (Ret fun v w'=> ∃Ar nr cr lr,v=(.slice Ar nr cr)∧Ext w w'∧Xh w' (fun b=>w.heap.size≤b) Ar nr cr lr (Mf+1)∧(zs lr=(Xi (zs lf)).map fun x=>x.tdiv (Xx gc dc))∧(nr≤nf)∧(ZB lr)):=by
 have⟨kf,jf,mf⟩:=hf.lkm;replace hf:=hf.low;have⟨lc,kc,mc⟩:=hc.lkm;replace hc:=hc.low;refine enter func100 E ntmps100 E (rS fun K1 b7=>sO (Ys (Yb gc Ac nc cc) E E fun g2 w3 e1 N e2 b8=>sAs E (sK b7 (rS fun K8 b9=>sMs E ?_))));refine sO (Xc E Qdb (YF (hf.ext N) Qo Qo) E ?_);rintro _ c0 ⟨c,a,q,rfl,y,c1,A,u,c9,d0,a3,d1,Z⟩;have c2:=A.lt;refine sAs E (sK b9 (Xs fun e3 a4=>rS fun e4 a5=>sMs E (sV (Xw underlying25 E) (sMi E (sK a5 (Xb ?_))))));refine Ym (fun m e w_=> ∃(k:Nat)(L:List RI),m=a -k∧e 3=(.pointer (some ⟨g2,0,none⟩))∧e 5=(.slice (some ⟨c,0,none⟩) a a)∧e 10=(.int .i64 a)∧e 11=(.int .i64 k)∧Frm (fun b=>b=c) c0 w_∧Blk w_ c 30 (Ye L)∧(k≤a)∧(L.length=a)∧(YC w_ (fun b=>c<b) (Mf+1) L)∧(∀j r,k≤j→L[j]? =some r→r.n≤Mf)∧(∀j,co (zs L) j=if j<k then(co (zs q) j).tdiv (Xx gc dc) else co (zs q) j)∧(ZB L)) (a -(0)) ?_ ?_
 ·refine⟨0,q,E,E,E,E,cI,Frm.refl _ _,?_,?_,?_,?_,?_,?_,?_⟩
  ·exact A
  ·omega
  ·omega
  ·exact YC.le u Qo
  ·exact Qqb u
  ·intro j;rw[if_neg (by omega)]
  ·exact Z
 ·rintro e5 e6 c3 ⟨k,L,d6,a6,a7,a8,a9,o,O,hk,hL,hA,hD,hz,hC⟩
  obtain⟨e7,rfl⟩:=QsT a6 a7 a8 a9;have d7:=o.size;refine rS fun e8 P=> ?_
  by_cases Q:((k:Int))<((a:Int))
  ·refine sV (Xq true E E (dT Q)) (sK P (Xs fun e9 b0=>cT E (Xk (xM b0 (Xs fun f0 b1=>Xb (rS fun f1 b2=>sMi E (sAi E (sK b2 (XA (fun b=>b=c) mixed fun f2 p d8=>dMs 0 E E (dMi 1 E E (dMs 2 E E (dMi 3 E E (dV 4 E (fun _ _=>XU k underlying25 Xp E E (k*2)) ?_)))))))))))))
   have b3:=b8.frm ((y.rx o).xr p) q1;refine dV 6 E (fun _ hf=>Xa (Yb gc Ac nc cc) Xo Xp E (b3.frm hf q1) E) ?_;have R:=O.ext p;have a2:=hA.ext p;obtain⟨S,T,U,W,d9,B,a0,a1,b4⟩:=R.int (i:=k) (by exact lq);have C:=a2 _ (List.mem_of_getElem? B)
   dsimp only at C
   have X:=C.1;have⟨e0,_,_⟩:=X.lkm;refine dOk 5 E E (oEv (v:=Zb S T U W) (XO (Yb S T U W) Xo Xp E (Qcj a0 a1)) E ⟨Frm.refl _ _,?_⟩);have hnn:=hD k _ (Ug _) B
   dsimp only at hnn
   have c4:=hc.frmB (((N.trans y).rx o).xr p) q3;refine dOk 7 E E (Xc E Qej (Qaf X c4 Qo Qo Qo) E ?_);rintro _ f3 ⟨d,f,g,h,D,F,G,I,J,d2,K,rfl,s,M,d3,b5,_,Y,_,_,c5,_⟩;refine⟨Frm.of_ext s,?_⟩;have⟨d4,_,_⟩:=M.lkm;refine dV 8 E (v:= .tuple #[Zb d f g h,Zb F G I J,.int .i64 (K)]) (fun _ _=>rfl) (dV 9 E (v:=Zb d f g h) (fun _ _=>rfl) (dV 10 E (v:=Zb F G I J) (fun _ _=>rfl) (dV 11 E (v:= .int .i64 (K)) (fun _ _=>rfl) (dV 12 E (fun _ _=>XU k underlying25 Xp E E (k*2)) ?_))));refine dOk 13 E E (YK (Yb d f g h) E E E Xp E (R.ext s) (by rw[Yo];simp only[List.length_cons,List.length_nil];exact lq) fun f4 t _ z=> ?_);replace z:=(YD (l:=L) (i:=k) ⟨d,f,g,h,D⟩ (by exact lq))▸z;refine⟨t,XG (by kernel_rfl) (bN (xM b1 (Xr (sV (XF (((k:Int))+1) E E wI) (sMi E (XB ?_))))))⟩;have c6:=a2.frmB (s.rx t) q3;have c7:=M.frmB t q3;refine again (a -(k+1)) Qo ⟨k+1,(L).set k ⟨d,f,g,h,D⟩,E,E,E,E,cI,o.trans ((p.trans s).rx t),?_,?_,?_,?_,?_,?_,?_⟩
   ·exact z
   ·omega
   ·rw[List.length_set];exact hL
   ·exact YC.set c6 (Xn.sub c7 q5) (by(try dsimp only);omega)
   ·exact QbS hD
   ·rw[QcB];exact QuK hz (by rw[Za];omega) (by show Xx _ _=_;rw[b5,b4])
   ·exact ZB.set hC Y
  ·refine sV (Xq false E E (dF Q)) (sK P (Xs fun f5 _=>cF E (Xe (xE (xE (bE (xM a4 (rS fun f6 b6=>sMs E (sAs E (sK b6 (Xt (XL (.slice (some ⟨c,0,none⟩) a a) results100 (XK E) ?_))))))))))))
   have c8:Xh c3 (fun b=>c≤b) (some ⟨c,0,none⟩) a a (L) (Mf+1):=Xh.of_blk O (YC.sub hA q5) (by(try dsimp only);omega) (by exact lq) (by omega) (by unfold Yc;omega);exact⟨some ⟨c,0,none⟩,a,a,L,E,Frm.mono ((N.trans y).rx o) q4,Xh.le (Xh.sub c8 q5) (by omega),(by rw[←a3];exact Qwy hz (by rw[Za,Za];omega) (by rw[Za];omega)),(by omega),hC⟩
theorem Zf(hf:Xh w Sf Af nf cf lf Mf)(hnf:nf≤64)(hMf:Mf≤65536):Calls prog 45 #[.slice Af nf cf] w (Ret fun v w'=> ∃Ar nr cr lr,v=(.slice Ar nr cr)∧Ext w w'∧Xh w' (fun b=>w.heap.size≤b) Ar nr cr lr (Mf+1)∧(zs lr=Zy (zs lf))∧(nr≤nf)∧(ZB lr)):=by
 have⟨kf,jf,mf⟩:=hf.lkm;replace hf:=hf.low;refine enter func45 E ntmps45 E (rS fun K1 b5=>sAs E (sK b5 (rS fun K2 b6=>sMs E (sO (Xc E Qso (Qeh hf Qo Qo) E ?_)))));rintro _ w4 ⟨e,j,k,l,I,rfl,a3,J,K,_,d0⟩;have d9:=a3.size;have⟨d1,_,_⟩:=J.lkm;have h8:=J.sub (S':=fun b=>(w.heap.size≤b)∧b<w4.heap.size) fun _ hb hs=>⟨hs,hb⟩;refine sO (Xj (Yb false none 0 0) XE E fun g9 e0 d2 m d3 a4=>sO (Xd (Yb e j k l) E E E Xp E a4 E fun e1 n d4 L=> ?_));refine sK b6 (Xs fun e2 M=>rS fun e3 a5=>sMs E ?_);have f:=(a3.trans m).rx n;have N:=hf.frmB f q3;refine sO (Xc E QcU (YR N Qo Qo) E ?_);rintro _ e4 ⟨q,c2,c3,c4,r,rfl,a,W,a6,_,_⟩;have d5:=a.size;refine sO (Xc E QdM (Yy W) E ?_);rintro _ e5 ⟨s,rfl,c,g⟩;have d6:=c.size;have hsg:=Yr (Xx q r);have hld:Xx q r=ldP (zs lf):=a6;refine sK a5 (Xb (rS fun e6 O=> ?_))
 by_cases o:s=0
 ·refine sV (XD true E E (dT o)) (sAb E (sK O (cT E (rS fun e7 a7=>sAs E (sK a7 (Xt (bR (xR (XL (.slice none 0 0) results45 (XK E) ?_)))))))))
  exact⟨none,0,0,[],E,Frm.mono ((f.xr a).xr c) q4,Xh.nil,Qh9 (by rw[←hld];have he:=g;rcases hsg with h|h|h<;>omega),(by omega),ZB.nil⟩
 ·refine sV (XD false E E (dF o)) ?_
  have hln:ldP (zs lf)≠0:=by intro hh;rw[hld,hh] at hsg;have he:=g;rw[hld,hh] at he;exact o he
  have hcp:=Qgl hln;have e8:Xx e I≠0:=by rw[K];omega
  refine sAb E (sK O (cF E (rS fun e9 P=> ?_)))
  by_cases Q:s=((-1))
  ·refine sV (XD true E E (dT Q)) (sAb E (sK P (cT E (Xr ?_))))
   have R:=a.trans c;have S:=L.ext R;refine sV (Xa (Yb e j k l) Xo Xp E S E) ?_;have b8:=h8.frmB (((m.rx n).xr a).xr c) q3;refine sO (Xc E QhU (Qa5 b8 Qo) E ?_);rintro _ f0 ⟨d,t,u,x,y,rfl,i,z,T,_,c5⟩;have d7:=i.size;have⟨c6,_,_⟩:=z.lkm;have f1:Xx d y≠0:=by rw[T];omega
   refine sO (Xd (Yb d t u x) E E E Xp E (S.ext i) E fun f2 p d8 a8=> ?_);refine XB (bN (xM M (rS fun f3 a9=>sMs E (sV (Xa (Yb d t u x) Xo Xp E a8 E) ?_))));have b9:=N.frmB ((R.trans i).rx p) q3;have c0:=z.frmB p q3;refine sO (Xc E QkO (Qez b9 c0 Qo Qo Qo Qo) E ?_);rintro _ f4 ⟨A,B,C,X,rfl,b0,Y,b1,c7,Z⟩;refine sAs E (sK a9 (Xt (XL (.slice A B C) results45 (XK E) ?_)));have hpc:Xx d y=QeZ (zs lf):=by unfold QeZ;rw[if_pos (by have he:=g;rw[hld] at hsg he;rcases hsg with h|h|h<;>omega)];rw[T,K]
   exact⟨A,B,C,X,E,Frm.mono (((((f.xr a).xr c).xr i).trans p).xr b0) q4,Xh.le (Xh.sub Y q5) (by omega),(by rw[b1,hpc];rfl),(by omega),Z⟩
  ·refine sV (XD false E E (dF Q)) (sAb E (sK P (cF E (Xk (bN (xM M (rS fun f5 b2=>sMs E ?_)))))))
   have U:=a.trans c;refine sV (Xa (Yb e j k l) Xo Xp E (L.ext U) E) ?_;have c1:=h8.frmB (((m.rx n).xr a).xr c) q3;refine sO (Xc E QkO (Qez (N.ext U) c1 Qo Qo Qo Qo) E ?_);rintro _ f6 ⟨D,F,G,a0,rfl,b3,a1,b4,c8,a2⟩;refine sAs E (sK b2 (Xt (XL (.slice D F G) results45 (XK E) ?_)));have hpc:Xx e I=QeZ (zs lf):=by unfold QeZ;rw[if_neg (by have he:=g;rw[hld] at hsg he;rcases hsg with h|h|h<;>omega)];exact K
   exact⟨D,F,G,a0,E,Frm.mono (((f.xr a).xr c).xr b3) q4,Xh.le (Xh.sub a1 q5) (by omega),(by rw[b4,hpc];rfl),(by omega),a2⟩
theorem Qan(ha:Xn w Sa Aa na ca da)(bn:xn≤9223372036854775807)(hna:na≤65536)(hxn:xn≤127):Calls prog 149 #[Zb ga Aa na ca,.int .i64 xn] w (Ret fun v w'=> ∃gr Ar nr cr dr,v=(Zb gr Ar nr cr)∧Ext w w'∧Xn w' (fun b=>w.heap.size≤b) Ar nr cr dr∧(Xx gr dr=Xx ga da^xn)∧(Qay gr dr)∧(nr≤33554432)):=by
 replace ha:=ha.low;refine enter func149 E ntmps149 E (rS fun K1 C=>sO (Ys (Yb ga Aa na ca) E E fun g2 w3 X D Y F=>sO (Xj (Yb false none 0 0) XE E fun g8 w9 R j S x=>sK C (rS fun Z y=> ?_))));refine sV (Xa (Yb ga Aa na ca) Xo Xp E (F.ext j) E) (sO (XT [Zb ga Aa na ca] [Yb ga Aa na ca] underlying25 QgT E E E E E fun t u T k U g=> ?_));replace g:Blk u t 30 (Yb ga Aa na ca):=g;have m:=(D.trans j).trans k;have G:Xh u (fun _=>True) (some ⟨t,0,none⟩) 1 1 [⟨ga,Aa,na,ca,da⟩] 65536:=Xh.of_blk (l:=[⟨ga,Aa,na,ca,da⟩]) (M:=65536) g (fun r hr=>by simp at hr;subst hr;exact⟨(ha.ext m).sub fun _ _ _=>trivial,by(try dsimp only);omega⟩) trivial E (Ug _) (by decide);refine sMi E (sO (Xc E Qtm (QlL G Qo Qo Qo) E ?_));rintro _ a0 ⟨J,K,L,N,rfl,h,i,z,O,_⟩;have W:=h.size;have⟨P,_,_⟩:=i.lkm;refine sO (Xc E QcU (YR i Qo Qo) E ?_);rintro _ a1 ⟨c,d,e,f,p,rfl,n,q,A,s,Q⟩;refine sO (Xd (Yb c d e f) E E E Xp E (x.ext ((k.trans h).trans n)) E fun a2 o _ B=> ?_);refine sK y (Xt (XL (Zb c d e f) results149 (YE (Yb c d e f) Xo Xp E B) ?_));have I:=q.frmB o q3;exact⟨c,d,e,f,p,E,Frm.mono (((m.trans h).trans n).rx o) q4,Xn.sub I q5,A.trans (Quw (a:=Xx ga da) (by rw[z];rfl)),s,(by omega)⟩
end Go.Proofs.YtnkfdkhjaklolaaGreatDoor
