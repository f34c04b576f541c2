/-
  Open
-/
import Derived.Test.YtjdpemcnlejpfaaGreatDoorNatMath
import Derived.Deep.Slices
import Derived.ProofKit
set_option linter.all false
namespace Go.Gx
open Go.RowKit Go.ChangeShapes Go.WideShapes Go.Deep
section
variable{H:Type}{enc:TypeId×Value→H}{P:Program}{w:World}{base:Nat}{spare:Nat→Bool}{held:Bool}
theorem QBn{n:Int}(h:(Lit.int .u32 n).wf=true):0≤n∧n<4294967296:=by
  have h1:IntKind.u32.min≤n∧n≤IntKind.u32.max:=by simpa [Lit.wf] using h
  have e1:IntKind.u32.min=0:=by decide
  have e2:IntKind.u32.max=4294967295:=by decide
  omega
theorem QAz: ∀(zs:List Int),(∀z∈zs,0≤z∧z<4294967296)→ ∃ds:List Nat,ds.map (fun d:Nat=>(d:Int))=zs∧ ∀d∈ds,d<BS
  | [],_=>⟨[],rfl,by simp⟩
  |z::zs,h=>by
    obtain⟨ds,h1,h2⟩:=QAz zs fun x hx=>h x (by simp [hx])
    have h0:=h z (by simp)
    refine⟨z.toNat::ds,by simp [h1];omega,fun d hd=> ?_⟩
    rcases List.mem_cons.1 hd with h3|h3
    · subst h3;show z.toNat<4294967296;omega
    · exact h2 d h3
theorem QBe{t e:TypeId}{fuel:Nat}{v:Value}{x:DataW H×List MemPlace}(ht:P.underlying t=some (.slice e))(he:P.underlying e=some (.int .u32))(hc:P.cellsOf e=1)
    (h:DataW.trod enc P w base spare held fuel t [v]=some x): ∃A n c d,v= .slice A n c∧Qay w (fun _=>True) A n c d:=by
  rcases open_ints ht he hc h with⟨hcs,_⟩| ⟨a,len,cap,zs,hcs,hb,hl,hm,hz,_,hcell,hwf⟩
  · simp at hcs;subst hcs;exact⟨none,0,0,[],rfl,Qay.nil⟩
  · simp at hcs
    subst hcs
    have hlen:len≤zs.length:=by rw[hz];split<;>omega
    obtain⟨ds,hds,hlt⟩:=QAz zs fun z hz'=>QBn (hwf z hz')
    have hdl:ds.length=zs.length:=by rw[←hds];simp
    refine⟨some a,len,cap,ds.take len,rfl,⟨⟨by simp;omega,hl,by simp [Qax,maxLen] at hm⊢;omega,fun h0=> ?_⟩,fun d hd=>hlt d (List.mem_of_mem_take hd)⟩⟩
    have hc0:=hcell 0 (by omega)
    have hs:(a.add 0).spot=none:=World.cell?_spot hc0
    obtain⟨b,off,spot⟩:=a
    have hsp:spot=none:=by simpa [Addr.add] using hs
    subst hsp
    refine⟨b,off,rfl,trivial,?_,fun j u hj=> ?_⟩
    · have :=World.block_lt_of_cell? w _ hc0
      simpa [addr_add] using this
    · have hjl:j<len:=by
        rcases Nat.lt_or_ge j len with h1|h1
        · exact h1
        · rw[List.getElem?_eq_none (by simp;omega)] at hj;cases hj
      have h2:=hcell j (by omega)
      rw[addr_add] at h2
      rw[h2]
      simp only[List.getElem?_map,List.getElem?_take_of_lt hjl] at hj
      rw[List.getElem?_eq_getElem (by omega)] at hj
      simp [u32] at hj
      rw[←hj]
      have :zs.getD j 0=(ds[j]:Int):=by
        have e:=congrArg (fun l:List Int=>l.getD j 0) hds
        simp only[List.getD,List.getElem?_map] at e
        rw[List.getElem?_eq_getElem (by omega)] at e
        simpa [List.getD] using e.symm
      rw[this]
theorem Qzm{Q:Nat→RI→Prop}: ∀(n:Nat),(∀i,i<n→ ∃r,Q i r)→ ∃l:List RI,l.length=n∧ ∀i r,l[i]? =some r→Q i r
  |0,_=>⟨[],rfl,fun i r h=>by simp at h⟩
  |n+1,h=>by
    obtain⟨l,hl,hq⟩:=Qzm n fun i hi=>h i (by omega)
    obtain⟨r,hr⟩:=h n (by omega)
    refine⟨l++[r],by simp [hl],fun i x hx=> ?_⟩
    rcases Nat.lt_trichotomy i l.length with h1|h1|h1
    · rw[List.getElem?_append_left h1] at hx;exact hq i x hx
    · subst h1;simp at hx;subst hx;rw[hl];exact hr
    · rw[List.getElem?_eq_none (by simp;omega)] at hx;cases hx
theorem Qay.len_le{S:Nat→Prop}{A:Option Addr}{n c:Nat}{d:List Nat}(h:Qay w S A n c d):n≤9223372036854775807:=Nat.le_trans h.cap h.max
theorem Qy5{t e tb tn tu:TypeId}{f0 f1:Field}{fuel:Nat}{A:Option Addr}{n c:Nat}{x:DataW H×List MemPlace}(ht:P.underlying t=some (.slice e))(he:P.underlying e=some (.struct #[f0,f1]))
    (h0:f0.type=tb∧f0.offset=0∧P.cellsOf tb=1∧P.underlying tb=some .bool)(h1:f1.type=tn∧f1.offset=1∧P.cellsOf tn=1∧P.underlying tn=some (.slice tu))(hu:P.underlying tu=some (.int .u32)∧P.cellsOf tu=1)(hC:P.cellsOf e=2)
    (h:DataW.trod enc P w base spare held fuel t [.slice A n c]=some x): ∃l,Yk w (fun _=>True) A n c l 9223372036854775807:=by
  obtain⟨t0,o0,c0,u0⟩:=h0
  obtain⟨t1,o1,c1,u1⟩:=h1
  rcases open_slice ht h with⟨hcs,_⟩| ⟨a,len,cap,m,k,D,Pl,hcs,hb,hl,hm,hmm,_,hi⟩
  · simp at hcs;obtain⟨rfl,rfl,rfl⟩:=hcs;exact⟨[],Yk.nil⟩
  · simp at hcs
    obtain⟨rfl,rfl,rfl⟩:=hcs
    have hml:n≤m:=by rw[hmm];split<;>omega
    have each: ∀i,i<n→ ∃r:RI,w.cell? (a.add (i*2))=some (.bool r.neg)∧w.cell? (a.add (i*2+1))=some (.slice r.A r.n r.c)∧Qay w (fun _=>True) r.A r.n r.c r.d:=by
      intro i hin
      obtain⟨cs',hc',htr⟩:=hi i (by omega)
      rw[hC] at hc'
      obtain⟨_,hcl,hat⟩:=World.cells?_some hc'
      obtain⟨y0,y1,k',_,_,hy0,hy1⟩:=trod_struct2 he htr
      rw[t0,o0,c0] at hy0
      rw[t1,o1,c1] at hy1
      match cs',hcl with
      | [v0,v1],_=>
        simp at hy0 hy1
        obtain⟨b,hb',_⟩:=DataW.trod_bool u0 hy0
        simp at hb'
        obtain⟨A',n',c',d',hv1,hN⟩:=QBe u1 hu.1 hu.2 hy1
        have e0:=hat 0 (by omega)
        have e1:=hat 1 (by omega)
        simp only[Go.Deep.add_add] at e0 e1
        refine⟨⟨b,A',n',c',d'⟩,?_,?_,hN⟩
        · rw[show i*2=i*2+0 from rfl,e0];simp [hb']
        · rw[e1];simp [hv1]
    obtain⟨l,hll,hq⟩:=Qzm n each
    refine⟨l,⟨by rw[Qcc,hll],hl,by simp [Qax,maxLen] at hm⊢;omega,fun hn0=> ?_⟩,fun r hr=> ?_⟩
    · obtain⟨r0,hr0,_,_⟩:=each 0 hn0
      have hs:(a.add (0*2)).spot=none:=World.cell?_spot hr0
      obtain⟨b,off,spot⟩:=a
      have hsp:spot=none:=by simpa [Addr.add] using hs
      subst hsp
      refine⟨b,off,rfl,trivial,?_,fun j v hj=> ?_⟩
      · have :=World.block_lt_of_cell? w _ hr0
        simpa [addr_add] using this
      · have hjl:j<l.length*2:=by
          rw[←Qcc]
          rcases Nat.lt_or_ge j (ZT l).length with h2|h2
          · exact h2
          · rw[List.getElem?_eq_none h2] at hj;cases hj
        have hlt:j/2<l.length:=by omega
        have hget:l[j/2]? =some l[j/2]:=List.getElem?_eq_getElem hlt
        have hcg:=Qf3 hget
        have hqq:=hq _ _ hget
        simp only[addr_add] at hqq
        rcases Nat.mod_two_eq_zero_or_one j with h3|h3
        · have h4:j/2*2=j:=by omega
          rw[h4] at hcg hqq
          rw[hcg.1] at hj
          injection hj with hj;subst hj
          exact hqq.1
        · have h4:j/2*2+1=j:=by omega
          rw[h4] at hcg hqq
          rw[hcg.2] at hj
          injection hj with hj;subst hj
          exact hqq.2.1
    · obtain⟨i,hi',e⟩:=List.getElem_of_mem hr
      have :=hq i r (by rw[List.getElem?_eq_getElem hi',e])
      exact⟨this.2.2,Qay.len_le this.2.2⟩
end
end Go.Gx
namespace Go.Gx
open Go.RowKit Go.ChangeShapes Go.WideShapes Go.Deep
section
variable{H:Type}{enc:TypeId×Value→H}{P:Program}{w:World}{base:Nat}{spare:Nat→Bool}{held:Bool}
end
end Go.Gx
namespace Go.Gx
open Go.RowKit Go.ChangeShapes Go.WideShapes Go.Deep
section
variable{H:Type}{enc:TypeId×Value→H}{P:Program}{w:World}{base:Nat}{spare:Nat→Bool}{held:Bool}
end
end Go.Gx
