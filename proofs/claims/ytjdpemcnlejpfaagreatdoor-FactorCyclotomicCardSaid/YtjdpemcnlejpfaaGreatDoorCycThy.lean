/-
  CycThy, CycThy2, PriThy, CycThy3
-/
import Derived.Test.YtjdpemcnlejpfaaGreatDoorLawLift
import Derived.Test.YtjdpemcnlejpfaaGreatDoorFacThy3
import Derived.Test.YtjdpemcnlejpfaaGreatDoorModGcd
set_option linter.all false
namespace Go.Gx
theorem QCG{p:Int}{f g:List Int}(h: ∀i,i<max f.length g.length→p∣co f i -co g i):CgV p f g:=CgV.of fun i=>by
  rcases Nat.lt_or_ge i (max f.length g.length) with hi|hi
  · exact h i hi
  · rw[XX (by omega),XX (by omega)];exact⟨0,by omega⟩
theorem QCs{p:Int}{a b:List Int}(u v:List Int)(h: ∀i,i<max (Xx (Xg u a) (Xg v b)).length 1→p∣co (Xx (Xg u a) (Xg v b)) i -co [1] i):Cop p a b:=⟨u,v,QCG h⟩
theorem QC5{p:Nat}{F a b:List Int}(w:List Int)(h: ∀i,i<max a.length (Xx b (Xg w F)).length→(p:Int)∣co a i -co (Xx b (Xg w F)) i):EqF p F a b:=by
  obtain⟨k,hk⟩:=QCG h
  exact⟨w,k,fun x=>by have :=hk x;simp only[Xd,Xc] at this;omega⟩
theorem QDx:EdW 2 4 [1,1,0,0,1] where
  mon:=⟨⟨by decide,by decide⟩,by decide,by decide⟩
  sq:=QCs [0] [1] (by decide+kernel)
  fix:=QC5 [0,1,1,1,1,0,1,0,1,1,0,0,1] (by decide+kernel)
  low:=fun k h1 h2=>by
    have :k=1∨k=2∨k=3:=by omega
    rcases this with rfl|rfl|rfl
    · exact QCs [1,1,1] [1] (by decide+kernel)
    · exact QCs [1] [1] (by decide+kernel)
    · exact QCs [0,1,1] [1,1,0,1,0,1,1] (by decide+kernel)
theorem QDy:EdW 2 4 [1,0,0,1,1] where
  mon:=⟨⟨by decide,by decide⟩,by decide,by decide⟩
  sq:=QCs [1] [0,1,1] (by decide+kernel)
  fix:=QC5 [0,1,0,0,1,1,0,1,0,1,1,1,1] (by decide+kernel)
  low:=fun k h1 h2=>by
    have :k=1∨k=2∨k=3:=by omega
    rcases this with rfl|rfl|rfl
    · exact QCs [0,0,1] [1] (by decide+kernel)
    · exact QCs [0,1,0,1] [1,0,1,1] (by decide+kernel)
    · exact QCs [0,1] [1,0,1,1,1,1] (by decide+kernel)
def QDv:List Int:=[1,-1,0,1,-1,1,0,-1,1]
def QDJ:List Int×List Nat:=([1,-621,-2,620,1],[1,1,0,0,1])
def QDK:List Int×List Nat:=([1,620,-2,-621,1],[1,0,0,1,1])
theorem QDd(a b c d:Int):Mon [a,b,c,d,1] 4:=⟨rfl,fun i hi=>XX (by simp;omega)⟩
theorem QC6:QeK 2 11 [QDJ,QDK] QDv where
  pr:=Qr3
  n1:=by decide
  nrm:=⟨by decide,by decide,by decide⟩
  lead:=by decide
  z:=fun z hz=>by
    simp only[List.mem_cons,List.not_mem_nil,or_false] at hz
    rcases hz with rfl|rfl
    · exact⟨QDx.mon,EdW.whole Qr3 (by decide) QDx (by decide),⟨4,QDd _ _ _ _,QDd _ _ _ _⟩,QCG (by decide+kernel)⟩
    · exact⟨QDy.mon,EdW.whole Qr3 (by decide) QDy (by decide),⟨4,QDd _ _ _ _,QDd _ _ _ _⟩,QCG (by decide+kernel)⟩
  pw:=⟨fun b hb=>by
    simp only[List.map_cons,List.map_nil,List.mem_cons,List.not_mem_nil,or_false] at hb
    subst hb
    exact QCs [1,1,0,1] [0,0,1,1] (by decide+kernel),fun b hb=>by simp at hb,trivial⟩
  cg:=QCG (by decide+kernel)
  hb:=(Qva (f:=QDv) (n:=8) (by decide) (by decide)).mono (by decide+kernel)
theorem QDm{g:List Int}(hg:Xy g=1){f:List Int}{a b:Int}(ha:evI g 2=a)(hb:evI f 2=b)(hn: ¬a∣b): ¬P g∣P f:=fun hd=>by
  obtain⟨W,e⟩:=QbR hg hd
  rw[XT] at e
  exact hn ⟨evI W 2,by rw[←ha,←hb];exact Qe8 e 2⟩
theorem QDA:Irr (P QDv):=by
  refine QtA (s:=2) QC6 (Qmp.next (Qmp.one QC6) fun S C g hS hl hg=> ?_) (by decide) (by decide)
  have hd:=hg.dvd QC6
  have :S=[QDJ]∨S=[QDK]:=by
    cases hS with
    |l h=>cases h with
      |l h=>cases h;simp at hl
      |r h=>cases h;exact .inl rfl
    |r h=>cases h with
      |l h=>cases h;exact .inr rfl
      |r h=>cases h;simp at hl
  rcases this with rfl|rfl
  · have e:Xr (QeH (2^11) QDv [QDJ])=[1,-621,-2,620,1]:=by decide+kernel
    rw[e] at hd
    exact QDm (a:=3727) (b:=151) (by decide) (by decide) (by decide) (by decide) hd
  · have e:Xr (QeH (2^11) QDv [QDK])=[1,620,-2,-621,1]:=by decide+kernel
    rw[e] at hd
    exact QDm (a:= -3719) (b:=151) (by decide) (by decide) (by decide) (by decide) hd
theorem QDz:Irr (P [1,0,-1,0,1]):=by
  apply Classical.byContradiction
  intro hn
  have hf:Nrm [1,0,-1,0,1]:=⟨by decide,by decide,by decide⟩
  obtain⟨a,b,ha,hb,e,la,lb⟩:=Qbo hf (by decide) hn
  have hl:a.length+b.length=6:=QiS hf ha hb e
  have ec: ∀i,co [1,0,-1,0,1] i=co (Xg a b) i:=QgE (by rw[Zb];exact e)
  have hv:=Qe8 e
  have :a.length=2∧b.length=4∨b.length=2∧a.length=4∨a.length=3∧b.length=3:=by omega
  rcases this with⟨l1,l2⟩| ⟨l1,l2⟩| ⟨l1,l2⟩
  · exact QkI l1 ec l2 rfl rfl (by decide) (by decide) (by decide) hv
  · exact QkI l1 (fun i=>(ec i).trans (Qec a b i)) l2 rfl rfl (by decide) (by decide) (by decide) fun x=>by rw[hv x,Int.mul_comm]
  · obtain⟨x,y,z,rfl⟩:=Qw5 l1
    obtain⟨u,v,w,rfl⟩:=Qw5 l2
    have v0:=hv 0
    have v1:=hv 1
    have v2:=hv (-1)
    have v3:=hv 2
    have v4:=hv (-2)
    simp only[evI] at v0 v1 v2 v3 v4
    have q0:x*u=1:=by have :=v0;simp at this;omega
    have q4:z*w=1:=by grind
    have q2:x*w+y*v+z*u= -1:=by grind
    have q3:y*w+z*v=0:=by grind
    rcases QeI q0 with⟨rfl,rfl⟩| ⟨rfl,rfl⟩<;>rcases QeI q4 with⟨rfl,rfl⟩| ⟨rfl,rfl⟩
    · have :v= -y:=by omega
      subst this
      have :y*y=3:=by grind
      exact Qgz 1 (by decide) (by decide) this
    · have :v= -y:=by omega
      subst this
      have :y*y= -1:=by grind
      exact Qn6 (n:= -1) (by decide) ⟨y,this⟩
    · have :v= -y:=by omega
      subst this
      have :y*y= -1:=by grind
      exact Qn6 (n:= -1) (by decide) ⟨y,this⟩
    · have :v= -y:=by omega
      subst this
      have :y*y=3:=by grind
      exact Qgz 1 (by decide) (by decide) this
theorem QCI{p n:Nat}{F:List Int}(c:Int)(hp:Xk p)(hn:(Xa (shZ c F)).length=n+1)(h1:1≤n)(hl: ¬(p:Int)∣co (shZ c F) n)(hd: ∀i,i<n→(p:Int)∣co (shZ c F) i)(h0: ¬(p:Int)*p∣co (shZ c F) 0):Irr (P F):=(Shd.Z c F).back.irr (Qp8 hp hn h1 hl hd h0)
def cyL:List (List Int):=[[],[-1,1],[1,1],[1,1,1],[1,0,1],[1,1,1,1,1],[1,-1,1],[1,1,1,1,1,1,1],[1,0,0,0,1],[1,0,0,1,0,0,1],[1,-1,1,-1,1],[1,1,1,1,1,1,1,1,1,1,1],[1,0,-1,0,1],[1,1,1,1,1,1,1,1,1,1,1,1,1],[1,-1,1,-1,1,-1,1],[1,-1,0,1,-1,1,0,-1,1],[1,0,0,0,0,0,0,0,1]]
abbrev cy(d:Nat):List Int:=cyL.getD d []
theorem QqS{p:Nat}(h:p<4096)(hb:ZN p=true):Xk p:=(ZZ h).1 hb
theorem QCU(d:Nat)(h1:1≤d)(h:d≤16):Irr (P (cy d)):=by
  match d,h1,h with
  |1,_,_=>exact QbV (by rw[Yj];decide)
  |2,_,_=>exact QbV (by rw[Yj];decide)
  |3,_,_=>exact Qc9 (c0:=1) (c1:=1) (c2:=1) (by decide) (Qn6 (by decide))
  |4,_,_=>exact Qc9 (c0:=1) (c1:=0) (c2:=1) (by decide) (Qn6 (by decide))
  |5,_,_=>exact Qs8
  |6,_,_=>exact Qc9 (c0:=1) (c1:= -1) (c2:=1) (by decide) (Qn6 (by decide))
  |7,_,_=>exact QCI (n:=6) 1 (QqS (p:=7) (by decide) (by decide+kernel)) (by decide+kernel) (by decide) (by decide+kernel) (by decide+kernel) (by decide+kernel)
  |8,_,_=>exact QrN
  |9,_,_=>exact QCI (n:=6) 1 (QqS (p:=3) (by decide) (by decide+kernel)) (by decide+kernel) (by decide) (by decide+kernel) (by decide+kernel) (by decide+kernel)
  |10,_,_=>exact QCI (n:=4) (-1) QvK (by decide+kernel) (by decide) (by decide+kernel) (by decide+kernel) (by decide+kernel)
  |11,_,_=>exact QCI (n:=10) 1 (QqS (p:=11) (by decide) (by decide+kernel)) (by decide+kernel) (by decide) (by decide+kernel) (by decide+kernel) (by decide+kernel)
  |12,_,_=>exact QDz
  |13,_,_=>exact QCI (n:=12) 1 (QqS (p:=13) (by decide) (by decide+kernel)) (by decide+kernel) (by decide) (by decide+kernel) (by decide+kernel) (by decide+kernel)
  |14,_,_=>exact QCI (n:=6) (-1) (QqS (p:=7) (by decide) (by decide+kernel)) (by decide+kernel) (by decide) (by decide+kernel) (by decide+kernel) (by decide+kernel)
  |15,_,_=>exact QDA
  |16,_,_=>exact QCI (n:=8) 1 Qr3 (by decide+kernel) (by decide) (by decide+kernel) (by decide+kernel) (by decide+kernel)
  |d+17,_,h=>exact absurd h (by omega)
theorem QCP(d:Nat)(h1:1≤d)(h:d≤16):Nrm (cy d):=by
  have : ∀d,d<17→1≤d→Xy (cyL.getD d [])=1∧0<ldP (cyL.getD d [])∧Xa (cyL.getD d [])=cyL.getD d []:=by decide+kernel
  obtain⟨a,b,c⟩:=this d (by omega) h1
  exact⟨a,b,c⟩
end Go.Gx
namespace Go.Gx
def QCr(n:Nat):Nat→Option (Nat×Nat)
  |0=>some (1,2)
  |p+1=>match QCr n p with
    |none=>none
    |some (r,M)=>if 2≤p∧n % p=0∧ZN p=true then(if M≤1048576∧r*p≤n∧1≤p then some (r*p,M+(M+(r+1)+4)*(r*p+1)) else none) else some (r,M)
theorem ck0:upto (fun n=>(QCr (0+n) (0+n+1)).isSome) 50=true:=by decide+kernel
theorem ck1:upto (fun n=>(QCr (50+n) (50+n+1)).isSome) 50=true:=by decide+kernel
theorem ck2:upto (fun n=>(QCr (100+n) (100+n+1)).isSome) 50=true:=by decide+kernel
theorem ck3:upto (fun n=>(QCr (150+n) (150+n+1)).isSome) 50=true:=by decide+kernel
theorem ck4:upto (fun n=>(QCr (200+n) (200+n+1)).isSome) 50=true:=by decide+kernel
theorem ck5:upto (fun n=>(QCr (250+n) (250+n+1)).isSome) 50=true:=by decide+kernel
theorem ck6:upto (fun n=>(QCr (300+n) (300+n+1)).isSome) 50=true:=by decide+kernel
theorem ck7:upto (fun n=>(QCr (350+n) (350+n+1)).isSome) 50=true:=by decide+kernel
theorem ck8:upto (fun n=>(QCr (400+n) (400+n+1)).isSome) 50=true:=by decide+kernel
theorem ck9:upto (fun n=>(QCr (450+n) (450+n+1)).isSome) 50=true:=by decide+kernel
theorem QDL:upto (fun n=>(QCr (500+n) (500+n+1)).isSome) 50=true:=by decide+kernel
theorem QDM:upto (fun n=>(QCr (550+n) (550+n+1)).isSome) 50=true:=by decide+kernel
theorem QDN:upto (fun n=>(QCr (600+n) (600+n+1)).isSome) 50=true:=by decide+kernel
theorem QDO:upto (fun n=>(QCr (650+n) (650+n+1)).isSome) 50=true:=by decide+kernel
theorem QDP:upto (fun n=>(QCr (700+n) (700+n+1)).isSome) 50=true:=by decide+kernel
theorem QDQ:upto (fun n=>(QCr (750+n) (750+n+1)).isSome) 50=true:=by decide+kernel
theorem QDR:upto (fun n=>(QCr (800+n) (800+n+1)).isSome) 50=true:=by decide+kernel
theorem QDS:upto (fun n=>(QCr (850+n) (850+n+1)).isSome) 50=true:=by decide+kernel
theorem QDT:upto (fun n=>(QCr (900+n) (900+n+1)).isSome) 50=true:=by decide+kernel
theorem QDU:upto (fun n=>(QCr (950+n) (950+n+1)).isSome) 50=true:=by decide+kernel
theorem QDV:upto (fun n=>(QCr (1000+n) (1000+n+1)).isSome) 1=true:=by decide+kernel
theorem QDo{n:Nat}(hn:n≤1000):(QCr n (n+1)).isSome=true:=by
  have e:n=50*(n/50)+n % 50:=(Nat.div_add_mod n 50).symm
  have l:n % 50<50:=Nat.mod_lt _ (by omega)
  have q:n/50≤20:=by omega
  rcases Nat.lt_or_ge n 1000 with h|h
  · have q':n/50<20:=by omega
    generalize n/50=a at *
    generalize n % 50=b at *
    subst e
    match a,q' with
    |0,_=>exact QyX ck0 b l
    |1,_=>exact QyX ck1 b l
    |2,_=>exact QyX ck2 b l
    |3,_=>exact QyX ck3 b l
    |4,_=>exact QyX ck4 b l
    |5,_=>exact QyX ck5 b l
    |6,_=>exact QyX ck6 b l
    |7,_=>exact QyX ck7 b l
    |8,_=>exact QyX ck8 b l
    |9,_=>exact QyX ck9 b l
    |10,_=>exact QyX QDL b l
    |11,_=>exact QyX QDM b l
    |12,_=>exact QyX QDN b l
    |13,_=>exact QyX QDO b l
    |14,_=>exact QyX QDP b l
    |15,_=>exact QyX QDQ b l
    |16,_=>exact QyX QDR b l
    |17,_=>exact QyX QDS b l
    |18,_=>exact QyX QDT b l
    |19,_=>exact QyX QDU b l
    |k+20,q=>exact absurd q (by omega)
  · obtain rfl:n=1000:=by omega
    exact QyX QDV 0 (by omega)
theorem QC8{n p:Nat}(h:(QCr n (p+1)).isSome=true):(QCr n p).isSome=true:=by
  unfold QCr at h
  cases hc:QCr n p with
  |none=>rw[hc] at h;cases h
  |some _=>rfl
theorem QCQ{n:Nat}(hn:n≤1000): ∀k p,p+k=n+1→(QCr n p).isSome=true
  |0,p,h=>by
    obtain rfl:p=n+1:=by omega
    exact QDo hn
  |k+1,p,h=>QC8 (QCQ hn k (p+1) (by omega))
theorem QCV{n p r M:Nat}(hn:n≤1000)(hp:p≤n)(h:QCr n p=some (r,M))(hc:2≤p∧n % p=0∧ZN p=true):M≤1048576∧r*p≤n∧QCr n (p+1)=some (r*p,M+(M+(r+1)+4)*(r*p+1)):=by
  have h1:=QCQ hn (n -p) (p+1) (by omega)
  have e:QCr n (p+1)=if M≤1048576∧r*p≤n∧1≤p then some (r*p,M+(M+(r+1)+4)*(r*p+1)) else none:=by
    conv=>lhs;unfold QCr
    rw[h]
    simp only[]
    rw[if_pos hc]
  by_cases hb:M≤1048576∧r*p≤n∧1≤p
  · rw[if_pos hb] at e;exact⟨hb.1,hb.2.1,e⟩
  · rw[if_neg hb] at e;rw[e] at h1;cases h1
theorem QDi{n p r M:Nat}(h:QCr n p=some (r,M))(hc: ¬(2≤p∧n % p=0∧ZN p=true)):QCr n (p+1)=some (r,M):=by
  conv=>lhs;unfold QCr
  rw[h]
  simp only[]
  rw[if_neg hc]
end Go.Gx
namespace Go.Gx
end Go.Gx
namespace Go.Gx
def nP:List (List Int)→Nat
  | []=>1
  |f::l=>nrm f*nP l
theorem QDh{a b:List Int}(e:P [1]=P a*P b):nrm a≤1:=by
  have h1:=QcH e
  have hne:P a*P b≠0:=by rw[←e,Qcw];exact QkP
  have ha:P a≠0:=fun h=>hne (by rw[h];exact QP.eq fun x=>by simp only[Xq,v_0];grind)
  have hb:P b≠0:=fun h=>hne (by rw[h];exact QP.eq fun x=>by simp only[Xq,v_0];grind)
  have h2:=Zd ha hb
  have h3:dg (P [1])=1:=by rw[Yj];decide
  rw[←e,h3] at h2
  have h4:=XF.1 hb
  have h5:=XF.1 ha
  have h6:(Xa a).length=1:=by rw[←Yj];omega
  have h7:=(Zj (d:=0) h6).1
  match hz:Xa a,h6 with
  | [z],_=>
    have h8:co a 0=z:=by rw[←Xo,hz];rfl
    rw[←QkM,hz]
    have h9:ldP ([1]:List Int)=1:=by decide
    rw[h9] at h1
    rcases QeI h1.symm with⟨h,_⟩| ⟨h,_⟩<;>rw[←h7,h8] at h<;>subst h<;>decide
theorem QDB{f:List Int}(h:P f≠0):1≤nrm f:=by
  apply Nat.le_of_not_lt
  intro h0
  refine h (QP.eq fun x=> ?_)
  rw[v_P,v_0]
  exact(YI x (g:=[]) fun i=>by have :=QkK f i;rw[XX (f:=[]) (by simp)];omega).trans rfl
theorem QCW: ∀{L:List (List Int)},(∀f∈L,Nrm f∧Irr (P f))→ ∀a b,P (pL L)=P a*P b→nrm a≤nP L
  | [],_,a,b,e=>QDh (b:=b) e
  |f::l,h,a,b,e=>by
    have⟨hf,hi⟩:=h f (by simp)
    have hl: ∀g∈l,Nrm g∧Irr (P g):=fun g hg=>h g (by simp [hg])
    rw[XY] at e
    have hd:P f∣P a*P b:=⟨P (pL l),by rw[←e,XT]⟩
    rcases Qc8 hi hd with hd|hd
    · obtain⟨W,eW⟩:=QbR hf.c hd
      have e2:P (pL l)=P W*P b:=QiI hf.ne (by rw[XT,e,eW,XI,XT (P f) (P b),←XI])
      have ih:=QCW hl W b e2
      have e3:nrm a=nrm (Xg f W):=QbY (QgE (by rw[Zb,eW,XT]))
      rw[e3]
      exact Nat.le_trans (Qhk _ _) (Nat.mul_le_mul_left _ ih)
    · obtain⟨W,eW⟩:=QbR hf.c hd
      have e2:P (pL l)=P a*P W:=QiI hf.ne (by rw[XT,e,eW,←XI])
      have ih:=QCW hl a W e2
      exact Nat.le_trans ih (Nat.le_mul_of_pos_left _ (QDB hf.ne))
def xk(k:Nat):List Int:=Xa (XD (Xa (Zk [0,1] k)) [1])
def dvL(k:Nat):List (List Int):=((List.range (k+1)).filter fun d=>decide (1≤d∧k % d=0)).map cy
theorem QCB: ∀k,k<17→1≤k→Xa (pL (dvL k))=xk k∧nP (dvL k)≤216∧Xy (xk k)=1∧ldP (xk k)=1∧Xa (xk k)=xk k∧(xk k).length=k+1∧Xa (Xx (Xg [-(k:Int)] (xk k)) (Xg [0,1] (Xn (xk k))))=[(k:Int)]:=by decide+kernel
theorem QDr: ∀k,k<17→1≤k→ ∀p∈[17,19,23,29,31],∃j,j<p∧k*j % p=1:=by decide+kernel
section
variable{k:Nat}
theorem QCY(h1:1≤k)(h2:k≤16):Nrm (xk k):=by
  have⟨_,_,a,b,c,_⟩:=QCB k (by omega) h1
  exact⟨a,by omega,c⟩
theorem QDw{f:List Int}(h2:k≤16)(h:f∈dvL k):Nrm f∧Irr (P f):=by
  obtain⟨d,hd,rfl⟩:=List.mem_map.1 h
  have⟨h3,h4⟩:=List.mem_filter.1 hd
  have h5:=List.mem_range.1 h3
  have h6:=of_decide_eq_true h4
  exact⟨QCP d h6.1 (by omega),QCU d h6.1 (by omega)⟩
theorem QDn(h1:1≤k)(h2:k≤16){a b:List Int}(e:P (xk k)=P a*P b):nrm a≤216:=by
  have⟨t1,t2,_⟩:=QCB k (by omega) h1
  rw[←t1,Yf] at e
  exact Nat.le_trans (QCW (fun f hf=>QDw h2 hf) a b e) t2
theorem QDH(h1:1≤k)(h2:k≤16)(x:Int): -(k:Int)*evI (xk k) x+x*evI (Xn (xk k)) x=k:=by
  have⟨_,_,_,_,_,_,t⟩:=QCB k (by omega) h1
  have h:=QaD (Xx (Xg [-(k:Int)] (xk k)) (Xg [0,1] (Xn (xk k)))) x
  rw[t] at h
  simp only[Xd,Xc,evI] at h
  grind
theorem QDE(h1:1≤k)(h2:k≤16){p:Nat}(hp:p∈[17,19,23,29,31]):Cop (p:Int) (xk k) (Xn (xk k)):=by
  obtain⟨j,_,hj⟩:=QDr k (by omega) h1 p hp
  have e:((k*j:Nat):Int)=1+p*((k*j/p:Nat):Int):=by
    have :=Nat.div_add_mod (k*j) p
    rw[hj] at this
    have h3:((p*(k*j/p)+1:Nat):Int)=((k*j:Nat):Int):=by rw[this]
    rw[←h3];simp;omega
  refine⟨[-((k*j:Nat):Int)],[0,(j:Int)],[((k*j/p:Nat):Int)],fun x=> ?_⟩
  have h:=QDH h1 h2 x
  simp only[Xd,Xc,evI]
  have e2:((k*j:Nat):Int)=(k:Int)*j:=by simp
  rw[e2] at e⊢
  grind
theorem QDI(h1:1≤k)(h2:k≤16):Qem (P (xk k)) (der (P (xk k))):=by
  have⟨_,_,_,_,_,_,t⟩:=QCB k (by omega) h1
  have h:P (Xx (Xg [-(k:Int)] (xk k)) (Xg [0,1] (Xn (xk k))))=P [(k:Int)]:=by rw[←Yf,t]
  obtain⟨u,hu⟩: ∃u:Int,(k:Int)=u:=⟨_,rfl⟩
  have hk:(u:Rat)≠0:=XC (by omega)
  rw[hu] at h
  refine⟨K (1/ (u:Rat))*P [-u],K (1/ (u:Rat))*P [0,1],?_⟩
  rw[QgV]
  refine QP.eq fun x=> ?_
  have hx:=qat h x
  simp only[v_P,Xq,Zy,v_K,v_1,Yn,Qa2,evQ] at hx⊢
  have e4:((-u:Int):Rat)= -(u:Rat):=Rat.intCast_neg u
  rw[e4] at hx⊢
  have :((1:Int):Rat)=1:=Yt
  have :((0:Int):Rat)=0:=rfl
  grind
theorem QC0{S S':Nat→Bool}(h: ∀p,S' p=true→S p=true): ∀n,QeU S' n≤QeU S n
  |0=>Nat.le_refl _
  |n+1=>by
    have :=QC0 h n
    unfold QeU
    cases hp:ZN n<;>cases hs:S' n<;>simp
    · exact this
    · exact this
    · split<;>omega
    · rw[h n hs];simp;omega
theorem QDb:5≤QeU (fun p=>decide (p∈[17,19,23,29,31])) 128:=by decide+kernel
theorem QDq: ∀p∈[17,19,23,29,31],ZN p=true∧p<4096:=by decide+kernel
structure DvX (k:Nat) (g:List Int):Prop where
  n:Nrm g
  q: ∃W,P (xk k)=P W*P g
variable{g:List Int}
theorem DvX.ld(h1:1≤k)(h2:k≤16)(h:DvX k g):ldP g=1:=by
  obtain⟨W,e⟩:=h.q
  have e1:=QcH e
  have⟨_,_,_,t,_⟩:=QCB k (by omega) h1
  rw[t] at e1
  have :=h.n.s
  rcases QeI e1.symm with⟨_,h⟩| ⟨_,h⟩<;>omega
theorem DvX.len(h1:1≤k)(h2:k≤16)(h:DvX k g):g.length≤k+1:=by
  obtain⟨W,e⟩:=h.q
  have⟨_,_,_,_,t,l,_⟩:=QCB k (by omega) h1
  have :=Qaj (f:=P (xk k)) (g:=P g) ⟨P W,e⟩ (QCY h1 h2).ne
  rw[Yj,Yj,t,h.n.t] at this
  omega
theorem DvX.nrm_le(h1:1≤k)(h2:k≤16)(h:DvX k g){a b:List Int}(e:P g=P a*P b):nrm a≤216:=by
  obtain⟨W,eW⟩:=h.q
  refine QDn h1 h2 (a:=a) (b:=Xg W b) ?_
  rw[eW,e,Zb,←XI,XT (P W) (P a),XI]
theorem DvX.suit(h1:1≤k)(h2:k≤16)(h:DvX k g){p:Nat}(hp:p∈[17,19,23,29,31]):Qbx p g:=by
  have⟨hb,hl⟩:=QDq p hp
  have hpp:=QqS hl hb
  refine Qj1 hpp ?_ ?_
  · rw[h.ld h1 h2]
    intro hd
    have :=Int.le_of_dvd (by decide) hd
    have :=hpp.1
    omega
  · obtain⟨W,e⟩:=h.q
    exact Qdr (w:=W) (QDE h1 h2 hp) (CgV.of fun i=>by rw[QgE (f:=xk k) (g:=Xg W g) (by rw[Zb,e])];exact⟨0,by omega⟩)
theorem DvX.five(h1:1≤k)(h2:k≤16)(h:DvX k g):5≤QeU (fun p=>decide (Qbx p g)) (Bof g.length):=by
  have :128≤Bof g.length:=by unfold Bof;split<;>(try split)<;>decide
  exact Nat.le_trans QDb (Nat.le_trans (QC0 (fun p hp=>decide_eq_true (h.suit h1 h2 (of_decide_eq_true hp))) 128) (cnt_mono this))
theorem DvX.hb(h1:1≤k)(h2:k≤16)(h:DvX k g):HB g (2*(ldP g*QmA g).natAbs+1):=by
  obtain⟨n,hn⟩:=Qa5 (G:=g) (by have :=h.n.s;omega)
  rw[Qsr hn]
  rcases Nat.lt_or_ge n 12 with hl|hl
  · exact Qva hn (by omega)
  · intro a b e i
    have h3:=Nat.le_trans (QkK a i) (h.nrm_le h1 h2 e)
    have h4:2^12≤2^n:=Nat.pow_le_pow_right (by decide) hl
    have h5:1≤rtN (n+1):=by unfold rtN;(repeat' split)<;>omega
    have h6:1≤hgt g:=by
      have :=Qd9 g n
      rw[(Zj hn).1,h.ld h1 h2] at this
      exact this
    have h7:2^12*1*1≤2^n*rtN (n+1)*hgt g:=Nat.mul_le_mul (Nat.mul_le_mul h4 h5) h6
    rw[h.ld h1 h2]
    simp only[Int.one_mul,Int.natAbs_one,Nat.one_mul]
    omega
theorem DvX.b5(h1:1≤k)(h2:k≤16)(h:DvX k g):2*(ldP g*QmA g).natAbs<2^560:=by
  obtain⟨n,hn⟩:=Qa5 (G:=g) (by have :=h.n.s;omega)
  have hl:=h.len h1 h2
  have ht:=h.n.t
  rw[ht] at hn
  have hh:hgt g≤216:=Qih g fun i=>Nat.le_trans (QkK g i) (h.nrm_le h1 h2 (b:=[1]) (by rw[Qcw,QaE]))
  rw[Qsr (n:=n) (by rw[ht];exact hn),h.ld h1 h2]
  have h3:(2^n*rtN (n+1)*hgt g)≤2^16*5*216:=Nat.mul_le_mul (Nat.mul_le_mul (Nat.pow_le_pow_right (by decide) (by omega)) (rt5 _)) hh
  simp only[Int.natAbs_one,Nat.one_mul]
  have h4:2*(2^16*5*216)<2^560:=by decide+kernel
  exact Nat.lt_of_le_of_lt (Nat.mul_le_mul_left 2 h3) h4
theorem DvX.sub(h:DvX k g){a:List Int}(ha:Nrm a)(hd:P a∣P g):DvX k a:=by
  obtain⟨V,e⟩:=QbR ha.c hd
  obtain⟨W,eW⟩:=h.q
  exact⟨ha,Xg W V,by rw[eW,e,Zb,XI]⟩
theorem DvX.prim(h:DvX k g):Xr g=g:=by
  have hc:Yc g=1:=QqR (b:=g) (u:=1) (QP.eq fun x=>by simp only[Xq,v_K,v_P];rw[Yt];grind) h.n (by decide)
  have e:P (Xr g)=P g:=by
    have :=QbJ g
    rw[hc] at this
    rw[this]
    exact QP.eq fun x=>by simp only[Xq,v_K,v_P];rw[Yt];grind
  have :=QfO e
  rwa [(YD h.n.ne).t,h.n.t] at this
theorem DvX.xk(h1:1≤k)(h2:k≤16):DvX k (xk k):=⟨QCY h1 h2,[1],by rw[Qcw,QbD]⟩
theorem DvX.cy(h1:1≤k)(h2:k≤16){d:Nat}(hd:1≤d)(hk:k % d=0):DvX k (cy d):=by
  have hdk:d≤k:=Nat.le_of_dvd h1 (Nat.dvd_of_mod_eq_zero hk)
  have hN:=QCP d hd (by omega)
  refine⟨hN,QbR hN.c ?_⟩
  have⟨t1,_⟩:=QCB k (by omega) h1
  rw[←t1,Yf]
  exact QkS (List.mem_map.2 ⟨d,List.mem_filter.2 ⟨List.mem_range.2 (by omega),decide_eq_true ⟨hd,hk⟩⟩,rfl⟩)
theorem QDF(h1:1≤k)(h2:k≤16):va (P (Go.Gx.cy k)) (P (Go.Gx.xk k))=1:=by
  have h:=DvX.cy h1 h2 h1 (Nat.mod_self k)
  have hx:=(QCY h1 h2).ne
  obtain⟨W,e⟩:=h.q
  have h3:=(XM (QCU k h1 h2) hx).1 ⟨P W,e⟩
  have h4:=(Qav hx).1 (QDI h1 h2) _ (QCU k h1 h2)
  omega
end
end Go.Gx
