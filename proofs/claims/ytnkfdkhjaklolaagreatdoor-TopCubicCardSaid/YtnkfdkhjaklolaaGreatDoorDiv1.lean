/-
  Walks of package division: the digit of a quotient, its multiple taken off, added back.
-/
import Derived.Test.YtnkfdkhjaklolaaGreatDoorNat5
open List renaming map_set→UA
namespace Go.Proofs.YtnkfdkhjaklolaaGreatDoor
open Go.RowKit Go.Gx Tryz
open Go renaming wp_seq_k→Xs,wp_region_lit→Xr,wp_block→Xb,wp_skip→Xk,wp_exit→Xe,wp_ret→Xt
variable{Av:Option Addr}{Uz Zz dv:List Nat}{cv cz nv nz oz pz xa xb xc xd xe:Nat}{w:World}
set_option maxHeartbeats 1000000 in
theorem Qfp(ba:xa<4294967296)(bb:xb<4294967296)(bc:xc<4294967296)(bd:xd<4294967296)(be:xe<4294967296)(hle:xa≤xd)(hd:0<xd):Calls prog 242 #[.int .u32 xa,.int .u32 xb,.int .u32 xc,.int .u32 xd,.int .u32 xe] w (Ret fun v w'=> ∃(xr:Nat),v=(.int .u32 xr)∧Ext w w'∧xr<4294967296∧(xr*Qj2 xd xe≤Qj1 xa xb xc)∧(QnG xa xb xc xd xe xr)):=by
 refine enter func242 E ntmps242 E (rS fun K1 d3=>sAi E (sK d3 (rS fun K2 d4=>sAi E (sAi E (sAi E (sK d4 (Xs fun K3 a5=>rS fun K4 a6=>sMi E (sMi E ?_))))))))
 by_cases a7:((xa:Int))≥((xd:Int))
 ·refine sV (Zi true E E (dT a7)) (sK a6 (cT E (rS fun K6 d5=>sAi E (sK d5 (Xr (sMi E (sMi E (sO (Xc E Qbi (ZC (x1:=xb) Qo (x2:=xd) Qo (x3:=0) Qo Qo) E ?_)))))))))
  rintro _ w8 ⟨D,F,rfl,K,e9,_,d6,g1⟩;refine sV (v:= .tuple #[.int .u32 D,.int .u32 F]) (E) (sV (v:= .int .u32 D) (E) (sV (v:= .int .u32 F) (E) (sAi E (sAi E (sK a5 (Xs fun g2 G=>Xb ?_))))));refine Ym (fun m e w_=> ∃(dg:Nat)(rs:Nat)(ov:Nat),m=dg∧e 2=(.int .u32 xc)∧e 3=(.int .u32 xd)∧e 4=(.int .u32 xe)∧e 11=(.int .u32 dg)∧e 12=(.int .u32 rs)∧e 13=(.int .u32 ov)∧Frm (fun b=>False) w8 w_∧(dg<4294967296)∧(rs<4294967296)∧(ov≤1)∧(Qfh xa xb xd dg (rs+4294967296*ov))∧(QnG xa xb xc xd xe dg)) ((4294967295)) ?_ ?_
  ·refine⟨4294967295,D,F,E,E,E,E,cI,cI,cI,Frm.refl _ _,?_,?_,?_,?_,?_⟩
   ·omega
   ·omega
   ·omega
   ·exact Qfh.start1 Qo d6
   ·exact QnG.start1 _ _ _ _ _
  ·rintro g3 g4 g5 ⟨dg,rs,ov,f0,a8,a9,b0,b1,b2,b3,j,hdg,hrs,hov,hI,hM⟩
   obtain⟨g6,rfl⟩:=Qid a8 a9 b0 b1 b2 b3;refine Xs fun g7 b4=>rS fun g8 L=>sMi E ?_
   by_cases M:((ov:Int))=0
   ·refine sV (XD true E E (dT M)) (sK L (cT E (Xk (xM b4 (Xb (rS fun g9 b5=>sMi E (sMi E (sO (Xc E Qit (QdE (x1:=dg) Qo (x2:=xe) Qo) E ?_)))))))))
    rintro _ h0 ⟨a,d,rfl,q,_,f,r⟩;refine sV (v:= .tuple #[.int .u32 a,.int .u32 d]) (E) (sV (v:= .int .u32 a) (E) (sV (v:= .int .u32 d) (E) (sAi E (sAi E (sK b5 (Xs fun h1 N=>rS fun h2 s=>sMi E (sMi E ?_)))))))
    by_cases O:((a:Int))<((rs:Int))
    ·refine sV (Xq true E E (dT O)) (sMb E (XH E E (XH E E (XH E E (XH E E (XH E E (XH E E (XH E E (XH E E (sV (v:= .bool true) (E) (sK s (cT E (Xe (xE (bO E (xE (bE (xM G (rS fun h3 b6=>sMi E (sAi E (sK b6 (Xt (XL (.int .u32 dg) results242 (XK E) ?_)))))))))))))))))))))))
     exact⟨dg,E,(K.trans j).trans q,Qo,QiI hI Qo r f bc Qo,hM⟩
    ·refine sV (Xq false E E (dF O)) (sMb E (sEv (v:= .int .u32 a) (E) E E (sEv (v:= .int .u32 rs) (E) E E ?_)))
     by_cases P:((a:Int))=((rs:Int))
     ·refine sEv (v:= .bool true) (XD true E E (dT P)) E E (sEv (v:= .bool true) (E) E E (sEv (v:= .int .u32 d) (E) E E (sEv (v:= .int .u32 xc) (E) E E ?_)))
      by_cases Q:((d:Int))≤((xc:Int))
      ·refine sEv (v:= .bool true) (QaM true E E (dT Q)) E E (sEv (v:= .bool true) (E) E E (sV (v:= .bool true) (E) (sK s (cT E (Xe (xE (bO E (xE (bE (xM G (rS fun h4 b7=>sMi E (sAi E (sK b7 (Xt (XL (.int .u32 dg) results242 (XK E) ?_)))))))))))))))
       exact⟨dg,E,(K.trans j).trans q,Qo,QiI hI Qo r f bc Qo,hM⟩
      ·refine sEv (v:= .bool false) (QaM false E E (dF Q)) E E (sEv (v:= .bool false) (E) E E (sV (v:= .bool false) (E) (sK s (cF E (Xk (xM N (Xs fun h5 b8=> ?_)))))))
       have hno:=QiH hI Qo r f bc Qo;have hpos:=QiJ hno;refine Xr (sMi E (sV (XQ (((dg -1:Nat):Int)) E E (Qju Qo)) (sAi E (sK b8 (Xr (sMi E (sMi E (sO (Xc E Qbi (ZC (x1:=rs) Qo (x2:=xd) Qo (x3:=0) Qo Qo) E ?_)))))))));rintro _ h6 ⟨t,u,rfl,b9,e0,_,f1,f2⟩;refine sV (v:= .tuple #[.int .u32 t,.int .u32 u]) (E) (sV (v:= .int .u32 t) (E) (sV (v:= .int .u32 u) (E) (sAi E (sAi E (XB (bN ?_))))));refine again ((dg -1)) Qo ⟨dg -1,t,u,E,E,E,E,cI,cI,cI,j.trans (q.trans b9),?_,?_,?_,?_,?_⟩
       ·omega
       ·omega
       ·omega
       ·exact hI.next0 Qo hpos Qo
       ·exact hM.next hno
     ·refine sEv (v:= .bool false) (XD false E E (dF P)) E E (sEv (v:= .bool false) (E) E E (XH E E (XH E E (XH E E (sEv (v:= .bool false) (E) E E (sV (v:= .bool false) (E) (sK s (cF E (Xk (xM N (Xs fun h7 c0=> ?_)))))))))))
      have hno:=QiH hI Qo r f bc Qo;have hpos:=QiJ hno;refine Xr (sMi E (sV (XQ (((dg -1:Nat):Int)) E E (Qju Qo)) (sAi E (sK c0 (Xr (sMi E (sMi E (sO (Xc E Qbi (ZC (x1:=rs) Qo (x2:=xd) Qo (x3:=0) Qo Qo) E ?_)))))))));rintro _ h8 ⟨x,y,rfl,c1,e1,_,f3,f4⟩;refine sV (v:= .tuple #[.int .u32 x,.int .u32 y]) (E) (sV (v:= .int .u32 x) (E) (sV (v:= .int .u32 y) (E) (sAi E (sAi E (XB (bN ?_))))));refine again ((dg -1)) Qo ⟨dg -1,x,y,E,E,E,E,cI,cI,cI,j.trans (q.trans c1),?_,?_,?_,?_,?_⟩
      ·omega
      ·omega
      ·omega
      ·exact hI.next0 Qo hpos Qo
      ·exact hM.next hno
   ·refine sV (XD false E E (dF M)) (sK L (cF E (Xe (xE (xE (bE (xM G (rS fun h9 c2=>sMi E (sAi E (sK c2 (Xt (XL (.int .u32 dg) results242 (XK E) ?_))))))))))))
    exact⟨dg,E,K.trans j,Qo,Qj3 hI Qo hdg be,hM⟩
 ·refine sV (Zi false E E (dF a7)) (sK a6 (cF E (Xr (sMi E (sMi E (sMi E (sO (Xc E Qon (QhR (x1:=xa) Qo (x2:=xb) Qo (x3:=xd) Qo Qo) E ?_))))))))
  rintro _ d7 ⟨g,z,rfl,I,e2,e3,R,Z⟩;refine sV (v:= .tuple #[.int .u32 g,.int .u32 z]) (E) (sV (v:= .int .u32 g) (E) (sV (v:= .int .u32 z) (E) (sAi E (sAi E (sK a5 (Xs fun i0 J=>Xb ?_))))));refine Ym (fun m e w_=> ∃(dg:Nat)(rs:Nat)(ov:Nat),m=dg∧e 2=(.int .u32 xc)∧e 3=(.int .u32 xd)∧e 4=(.int .u32 xe)∧e 11=(.int .u32 dg)∧e 12=(.int .u32 rs)∧e 13=(.int .u32 ov)∧Frm (fun b=>False) d7 w_∧(dg<4294967296)∧(rs<4294967296)∧(ov≤1)∧(Qfh xa xb xd dg (rs+4294967296*ov))∧(QnG xa xb xc xd xe dg)) ((g)) ?_ ?_
  ·refine⟨g,z,0,E,E,E,E,cI,cI,cI,Frm.refl _ _,?_,?_,?_,?_,?_⟩
   ·omega
   ·omega
   ·omega
   ·exact Qfh.start2 R
   ·exact QnG.start2 R Z bc
  ·rintro i1 i2 i3 ⟨dg,rs,ov,f5,c3,c4,c5,c6,c7,c8,k,hdg,hrs,hov,hI,hM⟩
   obtain⟨i4,rfl⟩:=Qid c3 c4 c5 c6 c7 c8;refine Xs fun i5 c9=>rS fun i6 S=>sMi E ?_
   by_cases T:((ov:Int))=0
   ·refine sV (XD true E E (dT T)) (sK S (cT E (Xk (xM c9 (Xb (rS fun i7 d0=>sMi E (sMi E (sO (Xc E Qit (QdE (x1:=dg) Qo (x2:=xe) Qo) E ?_)))))))))
    rintro _ i8 ⟨c,h,rfl,A,_,i,B⟩;refine sV (v:= .tuple #[.int .u32 c,.int .u32 h]) (E) (sV (v:= .int .u32 c) (E) (sV (v:= .int .u32 h) (E) (sAi E (sAi E (sK d0 (Xs fun i9 U=>rS fun j0 C=>sMi E (sMi E ?_)))))))
    by_cases W:((c:Int))<((rs:Int))
    ·refine sV (Xq true E E (dT W)) (sMb E (XH E E (XH E E (XH E E (XH E E (XH E E (XH E E (XH E E (XH E E (sV (v:= .bool true) (E) (sK C (cT E (Xe (xE (bO E (xE (bE (xM J (rS fun j1 d1=>sMi E (sAi E (sK d1 (Xt (XL (.int .u32 dg) results242 (XK E) ?_)))))))))))))))))))))))
     exact⟨dg,E,(I.trans k).trans A,Qo,QiI hI Qo B i bc Qo,hM⟩
    ·refine sV (Xq false E E (dF W)) (sMb E (sEv (v:= .int .u32 c) (E) E E (sEv (v:= .int .u32 rs) (E) E E ?_)))
     by_cases X:((c:Int))=((rs:Int))
     ·refine sEv (v:= .bool true) (XD true E E (dT X)) E E (sEv (v:= .bool true) (E) E E (sEv (v:= .int .u32 h) (E) E E (sEv (v:= .int .u32 xc) (E) E E ?_)))
      by_cases Y:((h:Int))≤((xc:Int))
      ·refine sEv (v:= .bool true) (QaM true E E (dT Y)) E E (sEv (v:= .bool true) (E) E E (sV (v:= .bool true) (E) (sK C (cT E (Xe (xE (bO E (xE (bE (xM J (rS fun j2 d2=>sMi E (sAi E (sK d2 (Xt (XL (.int .u32 dg) results242 (XK E) ?_)))))))))))))))
       exact⟨dg,E,(I.trans k).trans A,Qo,QiI hI Qo B i bc Qo,hM⟩
      ·refine sEv (v:= .bool false) (QaM false E E (dF Y)) E E (sEv (v:= .bool false) (E) E E (sV (v:= .bool false) (E) (sK C (cF E (Xk (xM U (Xs fun f6 a0=> ?_)))))))
       have hno:=QiH hI Qo B i bc Qo;have hpos:=QiJ hno;refine Xr (sMi E (sV (XQ (((dg -1:Nat):Int)) E E (Qju Qo)) (sAi E (sK a0 (Xr (sMi E (sMi E (sO (Xc E Qbi (ZC (x1:=rs) Qo (x2:=xd) Qo (x3:=0) Qo Qo) E ?_)))))))));rintro _ f7 ⟨l,n,rfl,a1,d8,_,e4,e5⟩;refine sV (v:= .tuple #[.int .u32 l,.int .u32 n]) (E) (sV (v:= .int .u32 l) (E) (sV (v:= .int .u32 n) (E) (sAi E (sAi E (XB (bN ?_))))));refine again ((dg -1)) Qo ⟨dg -1,l,n,E,E,E,E,cI,cI,cI,k.trans (A.trans a1),?_,?_,?_,?_,?_⟩
       ·omega
       ·omega
       ·omega
       ·exact hI.next0 Qo hpos Qo
       ·exact hM.next hno
     ·refine sEv (v:= .bool false) (XD false E E (dF X)) E E (sEv (v:= .bool false) (E) E E (XH E E (XH E E (XH E E (sEv (v:= .bool false) (E) E E (sV (v:= .bool false) (E) (sK C (cF E (Xk (xM U (Xs fun f8 a2=> ?_)))))))))))
      have hno:=QiH hI Qo B i bc Qo;have hpos:=QiJ hno;refine Xr (sMi E (sV (XQ (((dg -1:Nat):Int)) E E (Qju Qo)) (sAi E (sK a2 (Xr (sMi E (sMi E (sO (Xc E Qbi (ZC (x1:=rs) Qo (x2:=xd) Qo (x3:=0) Qo Qo) E ?_)))))))));rintro _ f9 ⟨o,p,rfl,a3,d9,_,e6,e7⟩;refine sV (v:= .tuple #[.int .u32 o,.int .u32 p]) (E) (sV (v:= .int .u32 o) (E) (sV (v:= .int .u32 p) (E) (sAi E (sAi E (XB (bN ?_))))));refine again ((dg -1)) Qo ⟨dg -1,o,p,E,E,E,E,cI,cI,cI,k.trans (A.trans a3),?_,?_,?_,?_,?_⟩
      ·omega
      ·omega
      ·omega
      ·exact hI.next0 Qo hpos Qo
      ·exact hM.next hno
   ·refine sV (XD false E E (dF T)) (sK S (cF E (Xe (xE (xE (bE (xM J (rS fun g0 a4=>sMi E (sAi E (sK a4 (Xt (XL (.int .u32 dg) results242 (XK E) ?_))))))))))))
    exact⟨dg,E,I.trans k,Qo,Qj3 hI Qo hdg be,hM⟩
set_option maxHeartbeats 1000000 in
theorem Qcb(Bz:Blk w pz 123 ((Uz++Zz).map u32))(luz:Uz.length=oz)(lzz:nz≤Zz.length)(ltz: ∀d∈Uz++Zz,d<BS)(lcz:cz≤9223372036854775807)(lkz:nz≤cz)(hv:Xn w (fun b=>b≠pz) Av nv cv dv)(bd:xd<4294967296)(hnz:nz=nv+1):Calls prog 243 #[.slice (some ⟨pz,oz,none⟩) nz cz,.slice Av nv cv,.int .u32 xd] w (Ret fun v w'=> ∃(gr:_)(Zr:List Nat)(bo:Nat),v=(.bool gr)∧Frm (fun b=>b=pz) w w'∧(Blk w' pz 123 ((Uz++Zr).map u32))∧(Zr.length=Zz.length)∧(∀d∈Uz++Zr,d<BS)∧(Zr.drop nz=Zz.drop nz)∧(val (Zr.take nz)+xd*val dv=val (Zz.take nz)+BS^nz*bo)∧(bo≤1)∧(gr=decide (bo≠0))):=by
 have⟨lv,kv,mv⟩:=hv.lkm;refine enter func243 E ntmps243 E (rS fun K1 a1=>sAb E (sK a1 (rS fun K2 a2=>sAi E (sAi E (sK a2 (Xs fun K3 a3=>rS fun K4 a4=>sMs E (sV (Xw underlying28 E) (sMi E (sK a4 (Xb ?_))))))))));refine Ym (fun m e w_=> ∃(k:Nat)(P:List Nat)(cy:Nat)(bw:Nat),m=nv -k∧e 0=(.slice (some ⟨pz,oz,none⟩) nz cz)∧e 1=(.slice Av nv cv)∧e 2=(.int .u32 xd)∧e 7=(.int .u32 cy)∧e 8=(.int .u32 bw)∧e 15=(.slice Av nv cv)∧e 16=(.int .i64 nv)∧e 17=(.int .i64 k)∧Frm (fun b=>b=pz) w w_∧Blk w_ pz 123 ((Uz++(P++Zz.drop k)).map u32)∧(k≤nv)∧(P.length=k)∧(∀d∈P,d<BS)∧(cy<4294967296)∧(bw≤1)∧(val P+xd*val (dv.take k)=val (Zz.take k)+BS^k*(bw+cy))) (nv -(0)) ?_ ?_
 ·refine⟨0,[],0,0,E,E,E,E,cI,cI,E,E,cI,Frm.refl _ _,?_,?_,?_,?_,?_,?_,?_⟩
  ·simpa using Bz
  ·omega
  ·rfl
  ·simp
  ·omega
  ·omega
  ·simp [val]
 ·rintro m5 c6 w6 ⟨k,P,cy,bw,b6,a5,a6,a7,G,I,J,K,L,p,r,hk,hP,hlt,hcy,hbw,hw⟩
  obtain⟨c7,rfl⟩:=QsU a5 a6 a7 G I J K L;refine rS fun c8 A=> ?_
  by_cases B:((k:Int))<((nv:Int))
  ·refine sV (Xq true E E (dT B)) (sK A (Xs fun c9 M=>cT E (Xk (xM M (Xs fun d0 N=>Xb (rS fun d1 O=>sMi E ?_))))))
   have z:=hv.frmB p q3;obtain⟨d2,a8,rfl⟩:=z.base Qo;refine sV (XU k underlying28 Xz E E (a8+k)) ?_;have b7:=z.lt k;refine sV (XR XV E (z.cell Qo)) (sAi E (sAi E (sK O (rS fun d3 Q=>sMi E (sMi E (sO (Xc E Qit (QdE (x1:=dv.getD k 0) Qo (x2:=xd) Qo) E ?_)))))));rintro _ d4 ⟨h,n,rfl,R,_,b2,b8⟩;refine sV (v:= .tuple #[.int .u32 h,.int .u32 n]) (E) (sV (v:= .int .u32 h) (E) (sV (v:= .int .u32 n) (E) (sAi E (sAi E (sK Q (rS fun d5 S=>sMi E (sMi E (sO (Xc E Qbi (ZC (x1:=n) Qo (x2:=cy) Qo (x3:=0) Qo Qo) E ?_)))))))));rintro _ d6 ⟨l,j,rfl,T,b3,_,b9,_⟩;refine sV (v:= .tuple #[.int .u32 l,.int .u32 j]) (E) (sV (v:= .int .u32 l) (E) (sV (v:= .int .u32 j) (E) (sAi E (sAi E (sK S (Xs fun d7 U=> ?_))))));have hmm:xd*dv.getD k 0=dv.getD k 0*xd:=Nat.mul_comm _ _;have u:=R.trans T;have a9:=z.ext u;have hcc:=Qkl (q:=0) (c:=cy) (s:=l) (c':=h+j) Qo (a9.lt k) bd hcy Qo;refine Xr (sMi E (sMi E (sV (XF (((h+j:Nat):Int)) E E (Qju Qo)) (sAi E (sK U ?_)))));have hq:=QfC luz hP (show k<Zz.length by omega) (t:=oz+k) E;refine Xr (sMs E (sMi E (sMs E (sMi E (sV (XU k underlying28 Xz E E (oz+k)) ?_)))));have C:=r.ext u;have c0:=getD_lt (ds:=Uz++(P++Zz.drop k)) (i:=oz+k) (QeQ ltz hlt);refine sV (XR XV E (C.dig (by exact lq))) (sMi E (sMi E (sO (Xc E Qk0 (Qfj (x1:=(Uz++(P++Zz.drop k)).getD (oz+k) 0) Qo (x2:=l) Qo (x3:=bw) Qo Qo) E ?_))));rintro _ d8 ⟨g,o,rfl,D,b4,_,c1,c2⟩;refine sV (v:= .tuple #[.int .u32 g,.int .u32 o]) (E) (sV (v:= .int .u32 g) (E) (sV (v:= .int .u32 o) (E) (sV (XU k underlying28 Xz E E (oz+k)) ?_)));refine sO (YH E E E Xz (C.ext D) (by exact lq) fun b0 W _ x=> ?_);replace x:Blk b0 pz 123 ((Uz++((P++[g])++Zz.drop (k+1))).map u32):=by rw[← (QfD luz hP (by omega) (by omega):(Uz++(P++Zz.drop k)).set (oz+k) g=Uz++((P++[g])++Zz.drop (k+1))),UA];exact x
   refine sAi E (XB (bN (xM N (Xr (sV (XF (((k:Int))+1) E E wI) (sMi E (XB ?_)))))));refine again (nv -(k+1)) Qo ⟨k+1,P++[g],h+j,o,E,E,E,E,cI,cI,E,E,cI,p.trans ((u.trans D).rx W),?_,?_,?_,?_,?_,?_,?_⟩
   ·exact x
   ·omega
   ·simp [hP]
   ·exact ZL hlt Qo
   ·exact hcc
   ·omega
   ·exact Qqa hw hP Qo
  ·refine sV (Xq false E E (dF B)) (sK A (Xs fun d9 _=>cF E (Xe (xE (xE (bE (xM a3 (rS fun e0 X=>sMs E (sV (Xw underlying28 E) (sAi E (sK X (Xs fun e1 Y=> ?_))))))))))))
   have e2:=QfC luz hP (show k<Zz.length by omega) (t:=oz+nv) Qo;refine Xr (sMs E (sMi E (sMs E (sMi E (sV (XU nv underlying28 Xz E E (oz+nv)) ?_)))));have c3:=getD_lt (ds:=Uz++(P++Zz.drop k)) (i:=oz+nv) (QeQ ltz hlt);refine sV (XR XV E (r.dig (by exact lq))) (sMi E (sMi E (sO (Xc E Qk0 (Qfj (x1:=(Uz++(P++Zz.drop k)).getD (oz+nv) 0) Qo (x2:=cy) Qo (x3:=bw) Qo Qo) E ?_))));rintro _ e3 ⟨a,f,rfl,F,b5,_,c4,c5⟩;refine sV (v:= .tuple #[.int .u32 a,.int .u32 f]) (E) (sV (v:= .int .u32 a) (E) (sV (v:= .int .u32 f) (E) (sV (XU nv underlying28 Xz E E (oz+nv)) ?_)));refine sO (YH E E E Xz (r.ext F) (by exact lq) fun b1 Z _ y=> ?_);replace y:Blk b1 pz 123 ((Uz++((P++[a])++Zz.drop (k+1))).map u32):=by rw[← (QfD luz hP (by omega) (by omega):(Uz++(P++Zz.drop k)).set (oz+nv) a=Uz++((P++[a])++Zz.drop (k+1))),UA];exact y
   refine sAi E (sK Y (rS fun e4 a0=>sMi E (sV (ZI (decide (f≠0)) E E (Qxk _)) (sAb E (sK a0 (Xt (XL (.bool (decide (f≠0))) results243 (XK E) ?_)))))));have hlast:=Qu0 hw hP Qo (show bw+cy+a=Zz.getD k 0+4294967296*f by omega);exact⟨decide (f≠0),(P++[a])++Zz.drop (k+1),f,E,(p.xr F).trans Z,y,(by exact lq),QeQ ltz (ZL hlt (by omega)),(by rw[show nz=k+1 by omega,Qkp (P:=P) hP]),(by rw[show nz=k+1 by omega,Qkq (P:=P) hP];exact hlast),(by omega),E⟩
theorem Qf2(Bz:Blk w pz 123 ((Uz++Zz).map u32))(luz:Uz.length=oz)(lzz:nz≤Zz.length)(ltz: ∀d∈Uz++Zz,d<BS)(lcz:cz≤9223372036854775807)(lkz:nz≤cz)(hv:Xn w (fun b=>b≠pz) Av nv cv dv)(hnz:nz=nv+1):Calls prog 244 #[.slice (some ⟨pz,oz,none⟩) nz cz,.slice Av nv cv] w (Ret fun v w'=> ∃(Zr:List Nat)(cr:Nat),v=(.tuple #[])∧Frm (fun b=>b=pz) w w'∧(Blk w' pz 123 ((Uz++Zr).map u32))∧(Zr.length=Zz.length)∧(∀d∈Uz++Zr,d<BS)∧(Zr.drop nz=Zz.drop nz)∧(val (Zr.take nz)+BS^nz*cr=val (Zz.take nz)+val dv)):=by
 have⟨lv,kv,mv⟩:=hv.lkm;refine enter func244 E ntmps244 E (rS fun K1 C=>sAi E (sK C (Xs fun K2 D=>rS fun K3 F=>sMs E (sV (Xw underlying28 E) (sMi E (sK F (Xb ?_)))))));refine Ym (fun m e w_=> ∃(k:Nat)(P:List Nat)(cy:Nat),m=nv -k∧e 0=(.slice (some ⟨pz,oz,none⟩) nz cz)∧e 1=(.slice Av nv cv)∧e 4=(.int .u32 cy)∧e 7=(.slice Av nv cv)∧e 8=(.int .i64 nv)∧e 9=(.int .i64 k)∧Frm (fun b=>b=pz) w w_∧Blk w_ pz 123 ((Uz++(P++Zz.drop k)).map u32)∧(k≤nv)∧(P.length=k)∧(∀d∈P,d<BS)∧(cy≤1)∧(val P+BS^k*cy=val (Zz.take k)+val (dv.take k))) (nv -(0)) ?_ ?_
 ·refine⟨0,[],0,E,E,E,cI,E,E,cI,Frm.refl _ _,?_,?_,?_,?_,?_,?_⟩
  ·simpa using Bz
  ·omega
  ·rfl
  ·simp
  ·omega
  ·simp [val]
 ·rintro m4 W w5 ⟨k,P,cy,Q,G,I,J,K,r,u,g,c,hk,hP,hlt,hcy,hw⟩
  obtain⟨X,rfl⟩:=Qid G I J K r u;refine rS fun Y l=> ?_
  by_cases o:((k:Int))<((nv:Int))
  ·refine sV (Xq true E E (dT o)) (sK l (Xs fun Z x=>cT E (Xk (xM x (Xs fun a0 y=>Xb (rS fun a1 z=>sMi E ?_))))))
   have p:=hv.frmB g q3;obtain⟨a2,L,rfl⟩:=p.base Qo;refine sV (XU k underlying28 Xz E E (L+k)) ?_;have R:=p.lt k;refine sV (XR XV E (p.cell Qo)) (sAi E (sAi E (sK z ?_)));have hq:=QfC luz hP (show k<Zz.length by omega) (t:=oz+k) E;refine Xr (sMs E (sMi E (sMs E (sMi E (sV (XU k underlying28 Xz E E (oz+k)) ?_)))));have S:=getD_lt (ds:=Uz++(P++Zz.drop k)) (i:=oz+k) (QeQ ltz hlt);refine sV (XR XV E (c.dig (by exact lq))) (sMi E (sMi E (sO (Xc E Qbi (ZC (x1:=(Uz++(P++Zz.drop k)).getD (oz+k) 0) Qo (x2:=dv.getD k 0) Qo (x3:=cy) Qo Qo) E ?_))));rintro _ a3 ⟨a,f,rfl,q,O,_,T,U⟩;refine sV (v:= .tuple #[.int .u32 a,.int .u32 f]) (E) (sV (v:= .int .u32 a) (E) (sV (v:= .int .u32 f) (E) (sV (XU k underlying28 Xz E E (oz+k)) ?_)));refine sO (YH E E E Xz (c.ext q) (by exact lq) fun M A _ h=> ?_);replace h:Blk M pz 123 ((Uz++((P++[a])++Zz.drop (k+1))).map u32):=by rw[← (QfD luz hP (by omega) (by omega):(Uz++(P++Zz.drop k)).set (oz+k) a=Uz++((P++[a])++Zz.drop (k+1))),UA];exact h
   refine sAi E (XB (bN (xM y (Xr (sV (XF (((k:Int))+1) E E wI) (sMi E (XB ?_)))))));refine again (nv -(k+1)) Qo ⟨k+1,P++[a],f,E,E,E,cI,E,E,cI,g.trans (q.rx A),?_,?_,?_,?_,?_,?_⟩
   ·exact h
   ·omega
   ·simp [hP]
   ·exact ZL hlt Qo
   ·omega
   ·exact QbW hw hP Qo
  ·refine sV (Xq false E E (dF o)) (sK l (Xs fun a4 _=>cF E (Xe (xE (xE (bE (xM D ?_)))))))
   have a5:=QfC luz hP (show k<Zz.length by omega) (t:=oz+nv) Qo;refine Xr (sMs E (sMs E (sV (Xw underlying28 E) (sV (XU nv underlying28 Xz E E (oz+nv)) ?_))));refine sV (XR XV E (c.dig (by exact lq))) (sMi E (sV (XF (((((Uz++(P++Zz.drop k)).getD (oz+nv) 0+cy) % 4294967296:Nat):Int)) E E (QeD Qo)) (sV (XU nv underlying28 Xz E E (oz+nv)) (sO (YH E E E Xz c (by exact lq) fun N B _ j=> ?_)))));replace j:Blk N pz 123 ((Uz++((P++[((Uz++(P++Zz.drop k)).getD (oz+nv) 0+cy) % 4294967296])++Zz.drop (k+1))).map u32):=by rw[← (QfD luz hP (by omega) (by omega):(Uz++(P++Zz.drop k)).set (oz+nv) (((Uz++(P++Zz.drop k)).getD (oz+nv) 0+cy) % 4294967296)=Uz++((P++[((Uz++(P++Zz.drop k)).getD (oz+nv) 0+cy) % 4294967296])++Zz.drop (k+1))),UA];exact j
   refine XB (QnI results244 ?_);have hlast:=QbW (s:=((Uz++(P++Zz.drop k)).getD (oz+nv) 0+cy) % 4294967296) (c':=((Uz++(P++Zz.drop k)).getD (oz+nv) 0+cy)/4294967296) hw hP (by rw[Qbk (ds:=dv) (n:=nv) (by omega) k (by omega)];omega);exact⟨(P++[((Uz++(P++Zz.drop k)).getD (oz+nv) 0+cy) % 4294967296])++Zz.drop (k+1),((Uz++(P++Zz.drop k)).getD (oz+nv) 0+cy)/4294967296,E,g.trans B,j,(by exact lq),QeQ ltz (ZL hlt (by omega)),(by rw[show nz=k+1 by omega,Qkp (P:=P) hP]),(by rw[show nz=k+1 by omega,Qkq (P:=P) hP];rw[YS dv (show dv.length≤k+1 by omega)] at hlast;exact hlast)⟩
end Go.Proofs.YtnkfdkhjaklolaaGreatDoor
