/-
  The laying of slices.pdqsortCmpFunc at this program: facts on its functions and types, by the kernel. Written by the kit's lay-plain.mjs.
-/
import Derived.Shelf.SlSortCmp.NoneTotal
import Derived.Test.YtnkfdkhjaklolaaGreatDoorProg
import Derived.Test.YtnkfdkhjaklolaaGreatDoorPt2
import Derived.Test.YtnkfdkhjaklolaaGreatDoorLibE
open List renaming take_of_length_le→Ui
open Nat renaming le_trans→Wj
namespace Go.Proofs
open Go.Shelf
def Tryz.pdqL_ren:Go.Shelf.Ren:=⟨fun |14=>238|20=>280|21=>281|22=>282|23=>283|24=>284|25=>285|26=>286|27=>287|46=>309|47=>222|48=>223|49=>310|50=>311|15=>111|57=>322|28=>172|29=>173|n=>n,fun |24=>181|22=>135|3=>3|25=>236|4=>4|0=>0|46=>212|45=>211|50=>216|66=>266|39=>124|55=>75|70=>270|76=>313|77=>314|53=>123|5=>5|9=>9|n=>n,fun |n=>n⟩
theorem Tryz.pdqL:Go.Proofs.SlLaysF0.n14 prog Tryz.pdqL_ren:={
 mixed:=by kernel_rfl
 f14:=⟨Tryz.f238.name,by decide,Tryz.func238.trans (congrArg some (by kernel_rfl))⟩
 f15:=Tryz.func111.trans (congrArg some (by kernel_rfl))
 f20:=⟨Tryz.f280.name,by decide,Tryz.func280.trans (congrArg some (by kernel_rfl))⟩
 f21:=⟨Tryz.f281.name,by decide,Tryz.func281.trans (congrArg some (by kernel_rfl))⟩
 f22:=⟨Tryz.f282.name,by decide,Tryz.func282.trans (congrArg some (by kernel_rfl))⟩
 f23:=⟨Tryz.f283.name,by decide,Tryz.func283.trans (congrArg some (by kernel_rfl))⟩
 f24:=⟨Tryz.f284.name,by decide,Tryz.func284.trans (congrArg some (by kernel_rfl))⟩
 f25:=⟨Tryz.f285.name,by decide,Tryz.func285.trans (congrArg some (by kernel_rfl))⟩
 f26:=⟨Tryz.f286.name,by decide,Tryz.func286.trans (congrArg some (by kernel_rfl))⟩
 f27:=⟨Tryz.f287.name,by decide,Tryz.func287.trans (congrArg some (by kernel_rfl))⟩
 f28:=Tryz.func172.trans (congrArg some (by kernel_rfl))
 f29:=Tryz.func173.trans (congrArg some (by kernel_rfl))
 f46:=⟨Tryz.f309.name,by decide,Tryz.func309.trans (congrArg some (by kernel_rfl))⟩
 f47:=Tryz.func222.trans (congrArg some (by kernel_rfl))
 f48:=Tryz.func223.trans (congrArg some (by kernel_rfl))
 f49:=⟨Tryz.f310.name,by decide,Tryz.func310.trans (congrArg some (by kernel_rfl))⟩
 f50:=⟨Tryz.f311.name,by decide,Tryz.func311.trans (congrArg some (by kernel_rfl))⟩
 f57:=⟨Tryz.f322.name,by decide,Tryz.func322.trans (congrArg some (by kernel_rfl))⟩
 t0:=Tryz.underlying0
 a0:=Tryz.isAgg0
 z0:=Tryz.sizeOf0
 v0:=Tryz.zeroValue0
 t3:=Tryz.underlying3
 a3:=Tryz.isAgg3
 z3:=Tryz.sizeOf3
 v3:=Tryz.zeroValue3
 t4:=Tryz.underlying4
 a4:=Tryz.isAgg4
 z4:=Tryz.sizeOf4
 v4:=Tryz.zeroValue4
 t5:=Tryz.underlying5
 a5:=Tryz.isAgg5
 z5:=Tryz.sizeOf5
 v5:=Tryz.zeroValue5
 t9:=Tryz.underlying9
 a9:=Tryz.isAgg9
 z9:=Tryz.sizeOf9
 v9:=Tryz.zeroValue9
 t22:=Tryz.underlying135
 a22:=Tryz.isAgg135
 z22:=Tryz.sizeOf135
 v22:=Tryz.zeroValue135
 t25:=Tryz.underlying236
 a25:=Tryz.isAgg236
 z25:=Tryz.sizeOf236
 v25:=Tryz.zeroValue236
 t39:=Tryz.underlying124
 a39:=Tryz.isAgg124
 z39:=Tryz.sizeOf124
 v39:=Tryz.zeroValue124
 t45:=Tryz.underlying211
 a45:=Tryz.isAgg211
 z45:=Tryz.sizeOf211
 v45:=Tryz.zeroValue211
 t46:=Tryz.underlying212
 a46:=Tryz.isAgg212
 z46:=Tryz.sizeOf212
 v46:=Tryz.zeroValue212
 t50:=Tryz.underlying216
 a50:=Tryz.isAgg216
 z50:=Tryz.sizeOf216
 v50:=Tryz.zeroValue216
 t53:=Tryz.underlying123
 a53:=Tryz.isAgg123
 z53:=Tryz.sizeOf123
 v53:=Tryz.zeroValue123
 t55:=Tryz.underlying75
 a55:=Tryz.isAgg75
 z55:=Tryz.sizeOf75
 v55:=Tryz.zeroValue75
 t66:=Tryz.underlying266
 a66:=Tryz.isAgg266
 z66:=Tryz.sizeOf266
 v66:=Tryz.zeroValue266
 t70:=Tryz.underlying270
 a70:=Tryz.isAgg270
 z70:=Tryz.sizeOf270
 v70:=Tryz.zeroValue270
 t76:=Tryz.underlying313
 a76:=Tryz.isAgg313
 z76:=Tryz.sizeOf313
 v76:=Tryz.zeroValue313
 t77:=Tryz.underlying314
 a77:=Tryz.isAgg314
 z77:=Tryz.sizeOf314
 v77:=Tryz.zeroValue314}
def Tryz.lenL_ren:Go.Shelf.Ren:=⟨fun |15=>111|28=>172|29=>173|n=>n,fun |39=>124|3=>3|53=>123|55=>75|4=>4|5=>5|9=>9|n=>n,fun |n=>n⟩
theorem Tryz.lenL:Go.Proofs.SlLaysF0.n15 prog Tryz.lenL_ren:={
 mixed:=by kernel_rfl
 f15:=Tryz.func111.trans (congrArg some (by kernel_rfl))
 f28:=Tryz.func172.trans (congrArg some (by kernel_rfl))
 f29:=Tryz.func173.trans (congrArg some (by kernel_rfl))
 t3:=Tryz.underlying3
 a3:=Tryz.isAgg3
 z3:=Tryz.sizeOf3
 v3:=Tryz.zeroValue3
 t4:=Tryz.underlying4
 a4:=Tryz.isAgg4
 z4:=Tryz.sizeOf4
 v4:=Tryz.zeroValue4
 t5:=Tryz.underlying5
 a5:=Tryz.isAgg5
 z5:=Tryz.sizeOf5
 v5:=Tryz.zeroValue5
 t9:=Tryz.underlying9
 a9:=Tryz.isAgg9
 z9:=Tryz.sizeOf9
 v9:=Tryz.zeroValue9
 t39:=Tryz.underlying124
 a39:=Tryz.isAgg124
 z39:=Tryz.sizeOf124
 v39:=Tryz.zeroValue124
 t53:=Tryz.underlying123
 a53:=Tryz.isAgg123
 z53:=Tryz.sizeOf123
 v53:=Tryz.zeroValue123
 t55:=Tryz.underlying75
 a55:=Tryz.isAgg75
 z55:=Tryz.sizeOf75
 v55:=Tryz.zeroValue75}
end Go.Proofs

namespace Go.Proofs.YtnkfdkhjaklolaaGreatDoor
open Go.RowKit Go.Gx Tryz
open Go renaming wp_ret→Xt,wp_region_lit→Xr,wp_seq_k→Xs,wp_block→Xb,wp_skip→Xk,wp_exit→Xe
variable{A Ap As At:Option Addr}{B Lo c cp cs ct gN n np ns nt pg xa:Nat}{S Sp Ss St:Nat→Prop}{ds dt:List Nat}{eas eat ebs ebt ecs ect eds edt:Int}{gs gt:Bool}{l lp:List TD}{w:World}
theorem bits_Len(ba:xa<18446744073709551616):Calls prog 111 #[.int .u64 xa] w (Ret fun v w'=> ∃(xr:Nat),v=(.int .i64 xr)∧Ext w w'∧xr≤9223372036854775807∧(xr=Lib.bitLen xa)):=by
 have h:=Any.bits_Len (SlLaysF0.n15.bits (P:=prog) (ρ:=Tryz.lenL_ren) Tryz.lenL) (xa:Int) w Qo Qo;rw[Int.toNat_natCast] at h;refine Calls.mono h ?_;rintro e w' ⟨rfl,rfl⟩;exact⟨_,E,Lib.bitLen xa,E,Frm.refl _ _,Wj (Lib.bitLen_le xa 64 Qo Qo) Qo,E⟩
theorem QcD(hs:TMR w (Ss) (⟨gs,As,ns,cs,ds,⟨eas,ebs,ecs,eds⟩⟩:TD))(ht:TMR w (St) (⟨gt,At,nt,ct,dt,⟨eat,ebt,ect,edt⟩⟩:TD)):Calls prog 189 #[.agg #[.bool gs,.slice As ns cs,.int .i64 (eas),.int .i64 (ebs),.int .i64 (ecs),.int .i64 (eds)],.agg #[.bool gt,.slice At nt ct,.int .i64 (eat),.int .i64 (ebt),.int .i64 (ect),.int .i64 (edt)]] w (Ret fun v w'=> ∃xr,v=(.int .i64 (xr))∧Ext w w'∧(xr=Qiw ⟨eat,ebt,ect,edt⟩ ⟨eas,ebs,ecs,eds⟩)):=by
 replace hs:TMR w (fun b=>b<w.heap.size) (⟨gs,As,ns,cs,ds,⟨eas,ebs,ecs,eds⟩⟩:TD):=TMK.sub hs fun _ hb _=>hb;have hns:Xn w (fun b=>b<w.heap.size) As ns cs ds:=hs.1;have⟨las,lbs,lcs⟩:=hns.lkm;have lts:=TD.len hs;dsimp only at lts;replace ht:TMR w (fun b=>b<w.heap.size) (⟨gt,At,nt,ct,dt,⟨eat,ebt,ect,edt⟩⟩:TD):=TMK.sub ht fun _ hb _=>hb;have hnt:Xn w (fun b=>b<w.heap.size) At nt ct dt:=ht.1;have⟨lat,lbt,lct⟩:=hnt.lkm;have ltt:=TD.len ht;dsimp only at ltt;refine enter func189 E ntmps189 E (rS fun t i=>sO (Ys [.bool gs,.slice As ns cs,.int .i64 (eas),.int .i64 (ebs),.int .i64 (ecs),.int .i64 (eds)] E E fun u x o j k e=>sO (Ys [.bool gt,.slice At nt ct,.int .i64 (eat),.int .i64 (ebt),.int .i64 (ect),.int .i64 (edt)] E E fun p q l c m f=>sAi E (sK i (rS fun r g=>sV (XZ 2 Qbj E E) (sV (Xa [.int .i64 (eat),.int .i64 (ebt),.int .i64 (ect),.int .i64 (edt)] QdV QhL E f E) (sV (XZ 2 Qbj E E) ?_)))))));refine sV (Xa [.int .i64 (eas),.int .i64 (ebs),.int .i64 (ecs),.int .i64 (eds)] QdV QhL E (e.ext c) E) (sO (Xc E Qtv (Qe8 (ap:=eat) (bp:=ebt) (cp:=ect) (dp:=edt) (aq:=eas) (bq:=ebs) (cq:=ecs) (dq:=eds)) E ?_));rintro _ s ⟨a,rfl,d,h⟩;have n:=d.size;refine sAi E (sK g (Xt (XL (.int .i64 (a)) results189 (XK E) ?_)));exact⟨a,E,(j.trans c).trans d,h⟩
theorem Qr1(blk:Nat):QnL prog 189 TMK (fun x y=>Qiw y.m x.m) blk:=fun W a b ha hb=>by
 obtain⟨_,_,_,_,_,⟨_,_,_,_⟩⟩:=a
 obtain⟨_,_,_,_,_,⟨_,_,_,_⟩⟩:=b
 exact Ret.mono (QcD ha hb) fun v w' ⟨xr,e,hE,h⟩=>⟨e.trans (by rw[h]),hE⟩
theorem QpM(hO:ZX TMK w B 181 gN A n c l S)(hn:n<4611686018427387904):Calls prog 238 #[.slice A n c,.int .i64 (0),.int .i64 n,.int .i64 (((Lib.bitLen n:Nat):Int)),.func (.func 189) #[] #[]] w (Ret fun v w'=> ∃(qs:List TD),v=(.tuple #[])∧Frm (fun b=>b+1=gN) w w'∧(qs.Perm l)∧((tms qs).Pairwise fun x y=> ¬x.m.lt y.m)∧(ZX TMK w' B 181 gN A n c qs S)):=by
 refine Ret.mono (QuM (P:=prog) (ρ:=Tryz.pdqL_ren) Tryz.pdqL TMK (fun x y=>Qiw y.m x.m) Qr2 Tryz.isAgg181 Tryz.sizeOf181 (g:=189) (enters_of func189 (by kernel_rfl) E) hO hn Qr1) fun v w' ⟨e,hF,qs,h1,h2,h3⟩=>⟨qs,e,hF,h1,?_,h3⟩;rw[tms,List.pairwise_map];exact h2.imp fun h=>by rw[←Qix];exact h
theorem Qnz(hO:ZX TMK w B 181 gN A n c l S)(hn:n<4611686018427387904):Calls prog 188 #[.slice A n c,.func (.func 189) #[] #[]] w (Ret fun v w'=> ∃(qs:List TD),v=(.tuple #[])∧Frm (fun b=>b+1=gN) w w'∧(qs.Perm l)∧((tms qs).Pairwise fun x y=> ¬x.m.lt y.m)∧(ZX TMK w' B 181 gN A n c qs S)):=by
 have⟨kl,jl,ml⟩:=hO.lkm;refine enter func188 E ntmps188 E (rS fun p g=>sMs E (sV (Xw underlying136 E) (sAi E (sK g (Xr (sMs E (sMi E (sMi E (sV (XY ((n:Int)) underlying3 underlying124 E (Qbm Qo)) (sO (Xc E QkP (bits_Len (xa:=n) Qo) E ?_)))))))))));rintro _ q ⟨k,rfl,a,o,h⟩;subst h;refine sV (v:= .func (.func 189) #[] #[]) (E) ?_;refine sO (Xc E QtE (QpM (hO.ext a) Qo) E ?_);rintro _ r ⟨d,rfl,i,e,f,j⟩;refine XB (QnI results188 ?_);exact⟨d,E,a.rx i,e,f,j⟩
theorem Qc6(hG:Qr6 232 181 w Lo B pg l)(hnd:((tms l).map TM.m).Nodup)(hll:l.length<1099511627776)(hlo:Lo≤w.heap.size):Calls prog 142 #[.pointer (some ⟨pg,0,none⟩)] w (Ret fun v w'=> ∃(Ar nr cr:_)(lr:List TD),v=(.slice Ar nr cr)∧Ext w w'∧Xu TMK w' (fun b=>Lo≤b) Ar nr cr lr∧(QdU (tms lr))∧(∀m,QbB (tms lr) m=QbB (tms l) m)∧(nr≤l.length)):=by
 obtain⟨mb,gN,A,n,c,hBk,hMp,hO,f5,f6,f7,f8,f9,g0⟩:=hG;have ltg:=hBk.lt;have ltm:=hMp.lt;have⟨kl,jl,ml⟩:=hO.lkm;have ltO:=hO.lt;have hL:=hO.list (S':=fun b=>Lo≤b∧b<w.heap.size) fun b hb hs=>⟨(by rcases hs with hs|hs<;>omega),hb⟩;refine enter func142 E ntmps142 E (rS fun K1 b9=>sAs E (sK b9 (rS fun K2 c0=>sAs E (sK c0 (Xs fun K3 c1=>rS fun K4 c2=>sMp E (sV (v:= .pointer (some ⟨pg,0,none⟩)) (E) (sV (XZ 1 Qdn E E) (sV (Xg Qhb E hBk E) (sV (Xw underlying136 E) (sMi E (sK c2 (Xb ?_))))))))))));refine Ym (fun m e w_=> ∃(i:Nat)(gO:Nat)(AO:Option Addr)(nO:Nat)(cO:Nat)(lo:List TD),m=n -i∧e 3=(.slice AO nO cO)∧e 9=(.slice A n c)∧e 10=(.int .i64 n)∧e 11=(.int .i64 i)∧Frm (fun b=>w.heap.size≤b) w w_∧(ZX TMK w_ w.heap.size 181 gO AO nO cO lo fun b=>Lo≤b)∧(tms lo=nzT (tms (l.take i)))∧(nO≤i)∧(i≤n)) (n -(0)) ?_ ?_
 ·refine⟨0,0,none,0,0,[],E,E,E,E,cI,Frm.refl _ _,?_,?_,?_,?_⟩
  ·exact ZX.nil
  ·rfl
  ·omega
  ·omega
 ·rintro m5 g1 w6 ⟨i,gO,AO,nO,cO,lo,e1,c3,c4,c5,a7,u,hOo,hac,hno,hi⟩
  obtain⟨g2,rfl⟩:=QsT c3 c4 c5 a7;have e2:=u.size;have⟨kO,jO,mO⟩:=hOo.lkm;have e3:=hOo.lt;refine rS fun g3 N=> ?_
  by_cases O:((i:Int))<((n:Int))
  ·refine sV (Xq true E E (dT O)) (sK N (Xs fun g4 a8=>cT E (Xk (xM a8 (Xs fun g5 P=>Xb (rS fun g6 a9=> ?_))))))
   have a5:=hL.frmB u q3;obtain⟨g7,Q,rfl⟩:=a5.base Qo;refine sV (XU i underlying136 Qby E E (Q+(i*6))) ?_;obtain⟨⟨o,q,r,s,x,⟨d,g,h,j⟩⟩,J,z,y,d2,d3⟩:=Xu.get (k:=6) (i:=i) (p:=Q+(i*6)) a5 Qo E Qo;replace z:XP w6 _ (Q+(i*6)) [.bool o,.slice q r s,.int .i64 (d),.int .i64 (g),.int .i64 (h),.int .i64 (j)]:=z;replace y:TMR w6 (fun b=>Lo≤b∧b<w.heap.size) (⟨o,q,r,s,x,⟨d,g,h,j⟩⟩:TD):=y;have K:Xn w6 (fun b=>Lo≤b∧b<w.heap.size) q r s x:=y.1;have⟨d4,d5,d6⟩:=K.lkm;have a1:=TD.len y;dsimp only at a1;refine sV (XO [.bool o,.slice q r s,.int .i64 (d),.int .i64 (g),.int .i64 (h),.int .i64 (j)] QnQ Qby E z) (sO (Xj [.bool false,.slice none 0 0,.int .i64 (0),.int .i64 (0),.int .i64 (0),.int .i64 (0)] Qqv E fun g8 g9 e4 b0 e5 b1=>sO (Xd [.bool o,.slice q r s,.int .i64 (d),.int .i64 (g),.int .i64 (h),.int .i64 (j)] E E E Qby E b1 E fun h0 b2 e6 R=> ?_)));refine sK a9 (rS fun h1 T=>sV (XZ 0 Qfq E E) (sV (Xa (Yb o q r s) Xo Xp E R E) ?_));have D:=b0.rx b2;have c6:=K.frmB D q3;refine sO (Xc E QdM (Yy c6) E ?_);rintro _ h2 ⟨M,rfl,C,U⟩;have e7:=C.size
   by_cases W:M≠0
   ·refine sV (ZI true E E (dT W)) (sK T (cT E (Xr (sMs E ?_))))
    refine sV (Xa [.bool o,.slice q r s,.int .i64 (d),.int .i64 (g),.int .i64 (h),.int .i64 (j)] QnQ Qby E (R.ext C) E) (sO (XT [.agg #[.bool o,.slice q r s,.int .i64 (d),.int .i64 (g),.int .i64 (h),.int .i64 (j)]] [[.bool o,.slice q r s,.int .i64 (d),.int .i64 (g),.int .i64 (h),.int .i64 (j)]] underlying136 Qd4 E E E E E fun c7 c8 e8 b3 e9 F=> ?_));replace F:Blk c8 c7 181 [.bool o,.slice q r s,.int .i64 (d),.int .i64 (g),.int .i64 (h),.int .i64 (j)]:=F;have G:=(D.xr C).xr b3;have b4:=hOo.frmB G q3;have c9:=y.frmB G q3;refine sO (QeX (L:=TMK) (B:=w.heap.size) (S:=fun b=>Lo≤b) (gN:=gO) (l:=lo) (f:=(⟨o,q,r,s,x,⟨d,g,h,j⟩⟩:TD)) underlying136 Qd4 E E E b4 F (TMK.sub c9 q5) Qo Qo Qo fun d0 d1 b5 h3 I f0 X=> ?_);have f1:=X.size;have⟨_,_,_⟩:=I.lkm;have d7:=I.lt;refine sAs E (XB (bN (xM P (Xr (sV (XF (((i:Int))+1) E E wI) (sMi E (XB ?_)))))));refine again (n -(i+1)) Qo ⟨i+1,b5,d0,nO+1,d1,lo++[(⟨o,q,r,s,x,⟨d,g,h,j⟩⟩:TD)],E,E,E,E,cI,Frm.mono (u.tr (G.tr X)) q4,?_,?_,?_,?_⟩
    ·exact I
    ·exact QpJ J hac (fun h9=>by have h8:M=0:=U.trans (Int.sign_eq_zero_iff_zero.2 h9);omega)
    ·omega
    ·omega
   ·refine sV (ZI false E E (dF W)) (sK T (cF E (Xk (bN (xM P (Xr (sV (XF (((i:Int))+1) E E wI) (sMi E (XB ?_)))))))))
    have Y:=D.xr C;have b6:=hOo.frmB Y q3;refine again (n -(i+1)) Qo ⟨i+1,gO,AO,nO,cO,lo,E,E,E,E,cI,Frm.mono (u.tr Y) q4,?_,?_,?_,?_⟩
    ·exact b6
    ·exact QpK J hac (Int.sign_eq_zero_iff_zero.1 (show(Xx o x).sign=0 by rw[←U];omega))
    ·omega
    ·omega
  ·refine sV (Xq false E E (dF O)) (sK N (Xs fun h4 f3=>cF E (Xe (xE (xE (bE (xM c1 (rS fun h5 b7=>sMs E (sO (Xc E Qtu (Qnz hOo Qo) E ?_))))))))))
   rintro _ h6 ⟨a2,rfl,Z,a3,a4,a0⟩;have f4:=Z.size;have⟨d8,d9,e0⟩:=a0.lkm;refine sK b7 (rS fun h7 b8=>sMs E (sAs E (sK b8 (Xt (XL (.slice AO nO cO) results142 (XK E) ?_)))));have hfin:=Qk4 (a:=tms l) (by rw[show nzT (tms l)=tms lo by rw[hac,Ui (by omega)]];exact a3.map TD.t) hnd a4;exact⟨AO,nO,cO,a2,E,Frm.mono (u.tr Z) q4,ZX.list a0 q5,hfin.1,hfin.2,Qo⟩
theorem Qjm(hp:Xu TMK w (Sp) Ap np cp lp)(hnp:np≤4)(hv: ∀t∈lp,val t.d≤1152921504606846976):Calls prog 90 #[.slice Ap np cp] w (Ret fun v w'=> ∃(Ar nr cr:_)(lr:List TD),v=(.slice Ar nr cr)∧Ext w w'∧Xu TMK w' (fun b=>w.heap.size≤b) Ar nr cr lr∧(QdU (tms lr))∧(∀m,QbB (tms lr) m=QbB (tms lp) m)∧(nr≤np)):=by
 have⟨kp,jp,mp⟩:=hp.lkm;replace hp:=hp.low;refine enter func90 E ntmps90 E (rS fun K1 b2=>sAs E (sK b2 (rS fun K2 b3=>sO (Xc E Qtd (Qgb) E ?_))));rintro _ w4 ⟨F,b4,rfl,G,W⟩;have d1:=G.size;refine sAp E (sK b3 (Xs fun K8 b5=>rS fun K9 b6=>sMs E (sV (Xw underlying136 E) (sMi E (sK b6 (Xb ?_))))));refine Ym (fun m e w_=> ∃(i:Nat)(l:List TD),m=np -i∧e 3=(.pointer (some ⟨F,0,none⟩))∧e 7=(.slice Ap np cp)∧e 8=(.int .i64 np)∧e 9=(.int .i64 i)∧Frm (fun b=>w.heap.size≤b) w4 w_∧(Qr6 232 181 w_ w.heap.size b4 F l)∧(tms l=QiP (tms (lp.take i)))∧(∀t∈l,val t.d≤1152921504606846976*i)∧(l.length≤i)∧(i≤np)) (np -(0)) ?_ ?_
 ·refine⟨0,[],E,E,E,E,cI,Frm.refl _ _,?_,?_,?_,?_,?_⟩
  ·exact W
  ·rfl
  ·exact fun t ht=>(by cases ht)
  ·exact Nat.le_refl _
  ·omega
 ·rintro d2 d3 I ⟨i,l,c6,X,Y,Z,a0,r,hGl,hga,hbd,hll,hi⟩
  obtain⟨d4,rfl⟩:=QsT X Y Z a0;have c7:=r.size;refine rS fun d5 J=> ?_
  by_cases K:((i:Int))<((np:Int))
  ·refine sV (Xq true E E (dT K)) (sK J (Xs fun d6 a1=>cT E (Xk (xM a1 (Xs fun d7 a2=>Xb (rS fun d8 a3=> ?_))))))
   have U:=hp.frmB (G.rx r) q3;obtain⟨d9,L,rfl⟩:=U.base Qo;refine sV (XU i underlying136 Qby E E (L+(i*6))) ?_;obtain⟨⟨o,h,j,n,M,⟨a,c,f,g⟩⟩,y,s,q,_,_⟩:=Xu.get (k:=6) (i:=i) (p:=L+(i*6)) U Qo E Qo;replace s:XP I _ (L+(i*6)) [.bool o,.slice h j n,.int .i64 (a),.int .i64 (c),.int .i64 (f),.int .i64 (g)]:=s;replace q:TMR I (fun b=>b<w.heap.size) (⟨o,h,j,n,M,⟨a,c,f,g⟩⟩:TD):=q;have z:Xn I (fun b=>b<w.heap.size) h j n M:=q.1;have⟨b9,c0,c1⟩:=z.lkm;have P:=TD.len q;dsimp only at P;refine sV (XO [.bool o,.slice h j n,.int .i64 (a),.int .i64 (c),.int .i64 (f),.int .i64 (g)] QnQ Qby E s) ?_;have N:=q.2;have u:=N.2.2
   dsimp only at u;have hv8_34:=hv _ (List.mem_of_getElem? y);dsimp only at hv8_34
   refine sO (Xj [.bool false,.slice none 0 0,.int .i64 (0),.int .i64 (0),.int .i64 (0),.int .i64 (0)] Qqv E fun e0 e1 c8 a4 c9 a5=>sO (Xd [.bool o,.slice h j n,.int .i64 (a),.int .i64 (c),.int .i64 (f),.int .i64 (g)] E E E Qby E a5 E fun e2 a6 d0 O=> ?_));refine sK a3 (Xr (sMp E (sV (XZ 2 Qbj E E) (sV (Xa [.int .i64 (a),.int .i64 (c),.int .i64 (f),.int .i64 (g)] QdV QhL E O E) (sV (XZ 0 Qfq E E) (sV (Xa (Yb o h j n) Xo Xp E O E) ?_))))));have x:=a4.rx a6;have b7:=hGl.frmB x q3;have b8:=z.frmB x q3;refine sO (Xc E Qte (QdL b7 (am:=a) (bm:=c) (cm:=f) (dm:=g) (Xn.sub b8 q5) u hv8_34 Qo ⟨1152921504606846976*i,by omega,hbd⟩ Qo) E ?_);rintro _ e3 ⟨l2_50,rfl,a7,a8,a9,Q,c2⟩;refine XB (bN (xM a2 (Xr (sV (XF (((i:Int))+1) E E wI) (sMi E (XB ?_))))));refine again (np -(i+1)) Qo ⟨i+1,l2_50,E,E,E,E,cI,Frm.mono (r.tr (x.tr a7)) q4,?_,?_,?_,?_,?_⟩
   ·exact a8
   ·exact Qpa y hga a9
   ·exact fun t ht=>Wj (Q (1152921504606846976*i) hbd t ht) Qo
   ·omega
   ·omega
  ·refine sV (Xq false E E (dF K)) (sK J (Xs fun e4 _=>cF E (Xe (xE (xE (bE (xM b5 (rS fun e5 b0=>sMp E (sO (Xc E Qtf (Qc6 hGl (by rw[hga];exact Qnc _) (by omega) (by omega)) E ?_))))))))))
   rintro _ e6 ⟨A,B,C,R,rfl,b1,D,S,T,c3⟩;have⟨c4,_,_⟩:=D.lkm;refine sAs E (sK b0 (Xt (XL (.slice A B C) results90 (XK E) ?_)));exact⟨A,B,C,R,E,Frm.mono ((G.rx r).xr b1) q4,Xu.sub D q5,S,(fun m=>by rw[T m,hga,QoK,Ui (by omega)]),(by omega)⟩
end Go.Proofs.YtnkfdkhjaklolaaGreatDoor
