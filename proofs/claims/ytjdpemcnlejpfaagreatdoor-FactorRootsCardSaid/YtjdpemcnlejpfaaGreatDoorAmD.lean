/-
  AmD
-/
import Derived.Test.YtjdpemcnlejpfaaGreatDoorDivMath2
set_option linter.all false
namespace Go.Gx
section
variable{V Z v Q:List Nat}{n N:Nat}
theorem Qkm(hI:QhR (V++Z) v Q (V.length+1) N)(hn:v.length=n)(h2:2≤n)(hvt: ∀d∈v,d<BS)(hDt: ∀d∈V++Z,d<BS)(hZ:n+1≤Z.length):
    BS^ (n -2)*Qgh ((V++Z).getD (V.length+n) 0) ((V++Z).getD (V.length+(n -1)) 0) ((V++Z).getD (V.length+(n -2)) 0)≤val (Z.take (n+1))∧val (Z.take (n+1))<BS^ (n -2)*(Qgh ((V++Z).getD (V.length+n) 0) ((V++Z).getD (V.length+(n -1)) 0) ((V++Z).getD (V.length+(n -2)) 0)+1)∧
    val (Z.take (n+1))<val v*4294967296∧BS^ (n -2)*Qgi (v.getD (n -1) 0) (v.getD (n -2) 0)≤val v∧val v<BS^ (n -2)*(Qgi (v.getD (n -1) 0) (v.getD (n -2) 0)+1):=by
  have hvlt:val v<BS^n:=hn▸Za v hvt
  have hpt:=hI.part (n:=n) (by omega) (by simp;omega) hvlt
  have e:(V++Z).drop (V.length+1 -1)=Z:=by rw[Nat.add_sub_cancel,List.drop_left]
  rw[e] at hpt
  have hpd: ∀d∈Z.take (n+1),d<BS:=fun d hd=>hDt d (by simp [List.mem_of_mem_take hd])
  have hp3:=QlM (d:=Z.take (n+1)) (n:=n) h2 (by simp;omega)
  have eg: ∀i,i<n+1→(Z.take (n+1)).getD i 0=(V++Z).getD (V.length+i) 0:=fun i hi=>by
    have :=Qom (D:=V++Z) (j:=V.length) hi
    rwa [List.drop_left] at this
  rw[eg n (by omega),eg (n -1) (by omega),eg (n -2) (by omega)] at hp3
  have hp2:=Qw8 (k:=0) hpd h2 (by simp;omega) hp3
  have hv3:=Qw8 (k:=0) hvt h2 (by omega) (Qp5 h2 hn)
  exact⟨hp2.1,hp2.2,hpt.2.1,hv3.1,hv3.2⟩
theorem QsT(hI:QhR (V++Z) v Q (V.length+1) N)(hn:v.length=n)(h2:2≤n)(hvt: ∀d∈v,d<BS)(hDt: ∀d∈V++Z,d<BS)(hZ:n+1≤Z.length):(V++Z).getD (V.length+n) 0≤v.getD (n -1) 0:=by
  obtain⟨h3,_,h5,_,h7⟩:=Qkm hI hn h2 hvt hDt hZ
  exact Qv0 (Nat.pow_pos (by decide)) h7 h3 h5 rfl rfl (getD_lt hvt)
theorem Qm6{R:List Nat}{r bo:Nat}(hI:QhR (V++Z) v Q (V.length+1) N)(hn:v.length=n)(h2:2≤n)(hvt: ∀d∈v,d<BS)(hDt: ∀d∈V++Z,d<BS)(hZ:n+1≤Z.length)(htop:2147483648≤v.getD (n -1) 0)
    (hok:r*Qgi (v.getD (n -1) 0) (v.getD (n -2) 0)≤Qgh ((V++Z).getD (V.length+n) 0) ((V++Z).getD (V.length+(n -1)) 0) ((V++Z).getD (V.length+(n -2)) 0))
    (hmx:Qlu ((V++Z).getD (V.length+n) 0) ((V++Z).getD (V.length+(n -1)) 0) ((V++Z).getD (V.length+(n -2)) 0) (v.getD (n -1) 0) (v.getD (n -2) 0) r)(hr:r<4294967296)
    (hR:R.length=n+1)(hRt: ∀d∈R,d<BS)(hbo:bo≤1)(he:val R+r*val v=val (Z.take (n+1))+BS^ (n+1)*bo):
    (bo=0→QhR (V++(R++Z.drop (n+1))) v (r::Q) V.length N)∧(bo≠0→0<r∧ ∀R' cr,R'.length=n+1→(∀d∈R',d<BS)→val R'+BS^ (n+1)*cr=val R+val v→QhR (V++(R'++Z.drop (n+1))) v ((r -1)::Q) V.length N):=by
  obtain⟨h3,h4,h5,h6,h7⟩:=Qkm hI hn h2 hvt hDt hZ
  have hvlt:val v<BS^n:=hn▸Za v hvt
  have hbd:=Qng (Nat.pow_pos (by decide)) h6 h7 h3 h4 hok hmx (by omega) h5 (by unfold Qgi;omega)
  have hRl:val R<BS^ (n+1):=by have :=Za R hRt;rwa [hR] at this
  have hnb:=Qek he hRl
  have e:(V++Z).drop (V.length+1 -1)=Z:=by rw[Nat.add_sub_cancel,List.drop_left]
  have e':(V++Z).take (V.length+1 -1)=V:=by rw[Nat.add_sub_cancel,List.take_left]
  have step:=fun(Y:List Nat) (hY:Y.length=n+1) q h1 h2=>hI.step (n:=n) (q:=q) (Zr:=Y++Z.drop (n+1)) (by omega) (by simp;omega) hvlt hDt (by rw[e];simp [hY];omega) (by rw[e,←hY,List.drop_left,hY]) h1 h2
  have et: ∀Y:List Nat,Y.length=n+1→(Y++Z.drop (n+1)).take (n+1)=Y:=fun Y hY=>by rw[←hY,List.take_left]
  rw[e,e',Nat.add_sub_cancel] at step
  constructor
  · intro h0
    have hq:=hnb.1 h0
    rw[h0,Nat.mul_zero,Nat.add_zero] at he
    exact step R hR r (by rw[et R hR];exact he) (by rw[et R hR];have :=hbd.2.2 hq;omega)
  · intro h0
    have hnq: ¬r*val v≤val (Z.take (n+1)):=fun h=>h0 (hnb.2 h)
    have hpos:0<r:=by
      rcases Nat.eq_zero_or_pos r with h|h
      · rw[h,Nat.zero_mul] at hnq;omega
      · exact h
    refine⟨hpos,fun R' cr hR' hRt' he'=> ?_⟩
    have hR'l:val R'<BS^ (n+1):=by have :=Za R' hRt';rwa [hR'] at this
    have hvB:val v<BS^ (n+1):=Nat.lt_of_lt_of_le hvlt (Nat.pow_le_pow_right (by decide) (by omega))
    have hbk:=Qsn (q:=r -1) (by rw[show r -1+1=r by omega];exact he) h0 hbo he' hR'l (hbd.2.1 hpos) (by rw[show r -1+1=r by omega];omega) hvB
    exact step R' hR' (r -1) (by rw[et R' hR'];exact hbk.1) (by rw[et R' hR'];exact hbk.2)
end
end Go.Gx
