/- Part. -/
import Derived.Test.YtmibdabdlgmafaaGreatDoorSTP5
import Derived.Test.YtmibdabdlgmafaaGreatDoorProg
import Derived.Conc.MuLib
import Derived.KernelRfl
set_option linter.all false
section
set_option maxRecDepth 20000
set_option maxHeartbeats 4000000
namespace Go.Proofs.YtmibdabdlgmafaaGreatDoor
open Go.Eng Go.Hx
def kG(acc:List (List UInt8))(p:List UInt8):List (List UInt8):=match j2 p with|some nm=>lg acc nm|none=>acc
def cQ(d:RD)(i:Nat):List (List UInt8):=((d.seen.take i).map (·.1)).foldl kG []
theorem lZ{d:RD}{i:Nat}{x:FP}(h:d.seen[i]? =some x):cQ d (i+1)=kG (cQ d i) x.1:=by
 unfold cQ
 rw[List.take_add_one,h,List.map_append,List.foldl_append]
 rfl
theorem xG{acc:List (List UInt8)}{p:List UInt8}(h:y6 acc):y6 (kG acc p):=by
 unfold kG
 cases hq:j2 p with
 |none=>exact h
 |some nm=>
  have hm:nm.length=32:=by
   rw[←ko]at hq
   exact(eJ hq).1
  exact yS h hm
theorem kJ(d:RD):∀i,y6 (cQ d i)
 |0=>fun x h=>(List.not_mem_nil h).elim
 |i+1=>by
  rcases Nat.lt_or_ge i d.seen.length with h|h
  ·rw[lZ (List.getElem?_eq_getElem h)]
   exact xG (kJ d i)
  ·have:cQ d (i+1)=cQ d i:=by unfold cQ;rw[List.take_of_length_le (by omega),List.take_of_length_le h]
   rw[this];exact kJ d i
theorem BF{A:Option Addr}{n c:Nat}{ds:List (List UInt8)}{d:List UInt8}(hD:y6 ds)(hd:d.length=32)(hn:n≤1000000):cj Tryz.prog 96 [.slice A n c,.agg (aZ d).toArray] [aH 53 32 (.slice A n c) n (dc ds)] [] (fun v_ X_ S_=>∃A1 n1 c1,v_=(.slice A1 n1 c1)∧X_=[aH 53 32 (.slice A1 n1 c1) n1 (dc (lg ds d))]∧S_=[]∧(n1=(lg ds d).length)):=by
 have h32:(aZ d).length=32:=by rw[aF,hd]
 refine aO (N:=53) Tryz.func96 rfl rfl (by simp) fun b=> ?_
 refine ba (fun m=>xD (m.ord 0 rfl) hD) fun hln=> ?_
 refine ba (fun m=>(Own.rd (m.own 0 rfl)).2.1) fun hco=> ?_
 refine ba (fun m=>(m.ord 0 rfl).2.1) fun hA_o=> ?_
 refine ah<|aj<| ?_
 refine hx (cz rfl (fun g3=> ?_))
 refine aL (fun w m=>m.bM 0 rfl (show _=aG g3 53 (aZ d)from congrArg (aG _ _) (bG _))) ?_
 refine hy (fun _=>ab rfl)<|ai<|ak (X' :=[_,_]) (S' :=[]) (fun _ m=>m)<|ag<|ah<|aj<|hy (fun _=>ab rfl)<|ai<|ag<|ah<|aN<| ?_
 refine dR (fun k=>n-k) (fun k=>[(5,.int .i64 (k:Nat))]) (fun k=>[]) (fun k=>[]) (fun k=>k≤n∧∀i,i<k→cb (ds.getD i []) d<0) 0 [(4,_),(3,_),(0,_),(1,_)] ⟨rfl,rfl,rfl,rfl,trivial⟩ [] rfl [] rfl (⟨Nat.zero_le _,fun i hi=>absurd hi (Nat.not_lt_zero _)⟩) ⟨rfl,trivial⟩ (fun k ⟨hkn,hlt⟩=> ?_)
 refine ah<|ah<|cK [10] [(0,some 0),(1,some 0),(2,some 0),(3,some 0),(4,some 0),(5,some 0),(6,some 0),(7,some 0),(8,some 0),(9,some 0),(10,none),(11,some 1),(12,some 1)] (by kernel_rfl) (by kernel_rfl) rfl 99<|an (aa rfl)<|an (aa rfl)<|an (aR rfl Tryz.underlying33)<|an (br rfl rfl)<|an (aa rfl)<| ?_
 refine hO 11 rfl (fun h1=> ?_) (fun h1=> ?_)
 ·have hkl:k<ds.length:=by omega
  have hdk:=n6 hD hkl
  refine bj (o:=_) rfl rfl rfl (aa rfl)<|bj (o:=_) rfl rfl rfl (aa rfl)<|bj (o:=_) rfl rfl rfl (cU rfl rfl Tryz.underlying33 bn hA_o rfl (by omega))<|iJ (o:=_) rfl rfl rfl (fun m=>aX rfl ct bn (by rw[aF];exact hdk) ((m.ord 1 rfl).j3 hD hkl))<|iJ (o:=_) rfl rfl rfl (fun m=>aX rfl ct bn h32 ((m.aT 0 rfl).ay))<| ?_
  refine vu (o:=_) rfl rfl rfl (ao rfl Tryz.call171 (vE hdk hd) [] rfl [] rfl ?_)
  rintro _ _ _ ⟨rfl,rfl,rfl⟩
  refine⟨(fun _=>wk [0,0] [] rfl rfl), ?_⟩
  refine bj (o:=_) rfl rfl rfl (br rfl rfl)<|an (bE rfl rfl)<|bq<|al (ρ' :=[(19,_),(5,_),(4,_),(3,_),(0,_),(1,_)]) ⟨rfl,rfl,rfl,rfl,rfl,rfl,trivial⟩<|ak (X' :=[_,_]) (S' :=[]) (fun _ m=>m)<|ag<| ?_
  refine cL rfl (fun h2=> ?_) (fun h2=> ?_)
  ·have hlt2:∀i,i<k+1→cb (ds.getD i []) d<0:=fun i hi=>by
    rcases Nat.lt_or_ge i k with h|h
    ·exact hlt i h
    ·rw[show i=k by omega];exact h2
   refine aB<|ag<|aN<|aj<|hy (fun _=>aa rfl)<|hy (fun _=>aJ rfl rfl (bA (by omega) (by omega)))<|hy (fun _=>ab rfl)<|ai<|al (ρ' :=[(5,_),(19,_),(4,_),(3,_),(0,_),(1,_)]) ⟨rfl,rfl,rfl,rfl,rfl,rfl,trivial⟩<|aQ<| ?_
   refine cZ (k+1) ⟨rfl,rfl,rfl,rfl,rfl,trivial⟩ [0,0] rfl [] rfl (⟨by omega,hlt2⟩) (by omega)
  ·have heq:=nU ds d k (by omega) hlt (fun h=>h2)
   refine bP<|au<|au<|aC<|ag<|ah<|ah<|cK [] [(0,some 0),(1,some 0),(2,some 0),(3,some 0),(4,some 0),(5,some 0),(6,some 0),(7,some 0),(8,some 0),(9,some 0),(10,some 0),(11,some 0),(12,some 0),(13,some 0),(14,some 0),(15,some 0)] (by kernel_rfl) (by kernel_rfl) rfl 99<|an (aa rfl)<|an (aa rfl)<|an (aR rfl Tryz.underlying33)<|an (br rfl rfl)<|an (aa rfl)<| ?_
   refine hO 26 rfl (fun h3=> ?_) (fun h3=> ?_)
   ·have hkl3:k<ds.length:=by omega
    have hdk3:=n6 hD hkl3
    refine bj (o:=_) rfl rfl rfl (aa rfl)<|bj (o:=_) rfl rfl rfl (aa rfl)<|bj (o:=_) rfl rfl rfl (aa rfl)<|bj (o:=_) rfl rfl rfl (aR rfl Tryz.underlying33)<|bj (o:=_) rfl rfl rfl (cm rfl rfl (bA (by omega) (by omega)))<|bj (o:=_) rfl rfl rfl (ln rfl rfl)<|bj (o:=_) rfl rfl rfl (cU rfl rfl Tryz.underlying33 bn hA_o (show((k:Nat):Int)=min (k:Int) ((n:Int)-1) by omega) (by omega))<|iJ (o:=_) rfl rfl rfl (fun m=>aX rfl ct bn (by rw[aF];exact hdk3) ((m.ord 1 rfl).j3 hD hkl3))<|iJ (o:=_) rfl rfl rfl (fun m=>aX rfl ct bn h32 ((m.aT 0 rfl).ay))<|bj (o:=_) rfl rfl rfl (rp rfl rfl hdk3 hd)<|an (bE rfl rfl)<|bq<|al (ρ' :=[(37,_),(19,_),(5,_),(4,_),(3,_),(0,_),(1,_)]) ⟨rfl,rfl,rfl,rfl,rfl,rfl,rfl,trivial⟩<|ag<| ?_
    refine cL rfl (fun h4=> ?_) (fun h4=> ?_)
    ·rw[if_pos ⟨hkl3,h4⟩]at heq
     rw[heq]
     refine ah<|aj<|hy (fun _=>aa rfl)<|hy (fun _=>ab rfl)<|ai<|al (ρ' :=[(4,_),(37,_),(19,_),(5,_),(3,_),(0,_),(1,_)]) ⟨rfl,rfl,rfl,rfl,rfl,rfl,rfl,trivial⟩<|ag<|aU<|aw<| ?_
     exact bc trivial rfl rfl [1] rfl [] rfl ⟨_,_,_,rfl,rfl,rfl,hln.symm⟩
    ·have hne:¬(k<ds.length∧ds.getD k []=d):=fun h=>h4 h.2
     rw[if_neg hne]at heq
     rw[heq]
     refine aB<|ag<|ah<|aj<|hy (fun _=>ab rfl)<|ai<|ag<|ah<|aj<|hy (fun _=>aa rfl)<|hy (fun _=>aa rfl)<|hy (fun _=>aa rfl)<|hy (fun _=>jS rfl rfl Tryz.underlying33 bn (show((k:Nat):Int)=_ by omega) (by omega))<| ?_
     refine aL (fun w m=>m.dx (r' :=aH 53 32 (.slice none 0 0) 0 []) (.refl _ _) (Own.nil _ _ _ _) (fun k hk=>hk.elim)) ?_
     refine hx (bB 0 rfl rfl rfl Tryz.underlying33 Tryz.underlying33 (by exact .inl rfl) cX rfl (fun m=>Src.bT ((m.ord 2 rfl).nT hD (show k≤n by omega))) dj (by unfold maxLen;omega) (by omega) (fun u=> ?_))
     refine az (fun m=>(m.own 0 rfl).slice) ?_
     rintro⟨A_z,c_z,rfl,hc_z⟩
     refine az (fun m=>(m.ord 0 rfl).2.1) fun hA_z=> ?_
     refine hy (fun _=>ab rfl)<|ai<|al (ρ' :=[(6,_),(37,_),(19,_),(5,_),(4,_),(3,_),(0,_),(1,_)]) ⟨rfl,rfl,rfl,rfl,rfl,rfl,rfl,rfl,trivial⟩<|ak (X' :=[_,_,_]) (S' :=[]) (fun _ m=>m)<|ag<|ah<|aj<|hy (fun _=>aa rfl)<|hy (fun m=>aX rfl ct bn h32 ((m.aT 1 rfl).ay))<| ?_
     refine hx (b8 Tryz.underlying33 cX rfl rfl rfl (by simpa[Value.cells,B8]using h32) (by decide) (by decide) (fun g46=> ?_))
     have hA_b46:0<1→(some (⟨g46,0,none⟩:Addr))≠none:=fun _ h=>by cases h
     refine aL (fun w m=>m.bM 0 rfl (show _=aH 53 32 (.slice (some ⟨g46,0,none⟩) 1 1) 1 (dc [d])from rfl)) ?_
     refine hx (bB 1 rfl rfl rfl Tryz.underlying33 Tryz.underlying33 (by exact .inl rfl) cX rfl (fun m=>Src.bT (m.ord 0 rfl)) dj (by unfold maxLen;omega) (by omega) (fun u2=> ?_))
     refine az (fun m=>(m.own 0 rfl).slice) ?_
     rintro⟨A_z2,c_z2,rfl,hc_z⟩
     refine az (fun m=>(m.ord 0 rfl).2.1) fun hA_z=> ?_
     refine hy (fun _=>ab rfl)<|ai<|al (ρ' :=[(6,_),(37,_),(19,_),(5,_),(4,_),(3,_),(0,_),(1,_)]) ⟨rfl,rfl,rfl,rfl,rfl,rfl,rfl,rfl,trivial⟩<|ak (X' :=[_,_,_,_]) (S' :=[]) (fun _ m=>m)<|ag<|ah<|aj<|hy (fun _=>aa rfl)<|hy (fun _=>aa rfl)<|hy (fun _=>aa rfl)<|hy (fun _=>dQ rfl rfl Tryz.underlying33 bn (show((k:Nat):Int)=_ by omega) (by omega))<| ?_
     refine hx (bB 0 rfl rfl rfl Tryz.underlying33 Tryz.underlying33 (by exact .inl rfl) cX rfl (fun m=>Src.bT ((m.ord 3 rfl).qD hD hco (show k≤n by omega))) dj (by unfold maxLen;omega) (by omega) (fun u3=> ?_))
     refine az (fun m=>(m.own 0 rfl).slice) ?_
     rintro⟨A_z3,c_z3,rfl,hc_z⟩
     refine az (fun m=>(m.ord 0 rfl).2.1) fun hA_z=> ?_
     refine hy (fun _=>ab rfl)<|ai<|al (ρ' :=[(4,_),(6,_),(37,_),(19,_),(5,_),(3,_),(0,_),(1,_)]) ⟨rfl,rfl,rfl,rfl,rfl,rfl,rfl,rfl,trivial⟩<|ak (X' :=[_,_,_,_]) (S' :=[]) (fun _ m=>m)<|ag<|aU<| ?_
     refine ak (fun w m=>m.bM 0 rfl (show _=aH 53 32 (.slice A_z3 (0+k+1+(n-k)) c_z3) (0+k+1+(n-k)) (dc (ds.take k++[d]++ds.drop k))from congrArg (aH _ _ _ _) (by rw[eQ,eQ,List.nil_append]))) ?_
     exact bc trivial rfl rfl [0] rfl [] rfl ⟨_,_,_,rfl,rfl,rfl,(by rw[List.length_append,List.length_append,List.length_take,List.length_drop,List.length_singleton];omega)⟩
   ·have hne:¬(k<ds.length∧ds.getD k []=d):=fun h=>h3 (by omega)
    refine aP rfl rfl rfl (by decide)<|aP rfl rfl rfl (by decide)<|aP rfl rfl rfl (by decide)<|aP rfl rfl rfl (by decide)<|aP rfl rfl rfl (by decide)<|aP rfl rfl rfl (by decide)<|aP rfl rfl rfl (by decide)<|aP rfl rfl rfl (by decide)<|aP rfl rfl rfl (by decide)<|aP rfl rfl rfl (by decide)<|an (bp rfl rfl)<|bq<|al (ρ' :=[(37,_),(19,_),(5,_),(4,_),(3,_),(0,_),(1,_)]) ⟨rfl,rfl,rfl,rfl,rfl,rfl,rfl,trivial⟩<|ag<| ?_
    refine di rfl (rfl) ?_
    rw[if_neg hne]at heq
    rw[heq]
    refine aB<|ag<|ah<|aj<|hy (fun _=>ab rfl)<|ai<|ag<|ah<|aj<|hy (fun _=>aa rfl)<|hy (fun _=>aa rfl)<|hy (fun _=>aa rfl)<|hy (fun _=>jS rfl rfl Tryz.underlying33 bn (show((k:Nat):Int)=_ by omega) (by omega))<| ?_
    refine aL (fun w m=>m.dx (r' :=aH 53 32 (.slice none 0 0) 0 []) (.refl _ _) (Own.nil _ _ _ _) (fun k hk=>hk.elim)) ?_
    refine hx (bB 0 rfl rfl rfl Tryz.underlying33 Tryz.underlying33 (by exact .inl rfl) cX rfl (fun m=>Src.bT ((m.ord 2 rfl).nT hD (show k≤n by omega))) dj (by unfold maxLen;omega) (by omega) (fun u=> ?_))
    refine az (fun m=>(m.own 0 rfl).slice) ?_
    rintro⟨A_z,c_z,rfl,hc_z⟩
    refine az (fun m=>(m.ord 0 rfl).2.1) fun hA_z=> ?_
    refine hy (fun _=>ab rfl)<|ai<|al (ρ' :=[(6,_),(37,_),(19,_),(5,_),(4,_),(3,_),(0,_),(1,_)]) ⟨rfl,rfl,rfl,rfl,rfl,rfl,rfl,rfl,trivial⟩<|ak (X' :=[_,_,_]) (S' :=[]) (fun _ m=>m)<|ag<|ah<|aj<|hy (fun _=>aa rfl)<|hy (fun m=>aX rfl ct bn h32 ((m.aT 1 rfl).ay))<| ?_
    refine hx (b8 Tryz.underlying33 cX rfl rfl rfl (by simpa[Value.cells,B8]using h32) (by decide) (by decide) (fun g46=> ?_))
    have hA_b46:0<1→(some (⟨g46,0,none⟩:Addr))≠none:=fun _ h=>by cases h
    refine aL (fun w m=>m.bM 0 rfl (show _=aH 53 32 (.slice (some ⟨g46,0,none⟩) 1 1) 1 (dc [d])from rfl)) ?_
    refine hx (bB 1 rfl rfl rfl Tryz.underlying33 Tryz.underlying33 (by exact .inl rfl) cX rfl (fun m=>Src.bT (m.ord 0 rfl)) dj (by unfold maxLen;omega) (by omega) (fun u2=> ?_))
    refine az (fun m=>(m.own 0 rfl).slice) ?_
    rintro⟨A_z2,c_z2,rfl,hc_z⟩
    refine az (fun m=>(m.ord 0 rfl).2.1) fun hA_z=> ?_
    refine hy (fun _=>ab rfl)<|ai<|al (ρ' :=[(6,_),(37,_),(19,_),(5,_),(4,_),(3,_),(0,_),(1,_)]) ⟨rfl,rfl,rfl,rfl,rfl,rfl,rfl,rfl,trivial⟩<|ak (X' :=[_,_,_,_]) (S' :=[]) (fun _ m=>m)<|ag<|ah<|aj<|hy (fun _=>aa rfl)<|hy (fun _=>aa rfl)<|hy (fun _=>aa rfl)<|hy (fun _=>dQ rfl rfl Tryz.underlying33 bn (show((k:Nat):Int)=_ by omega) (by omega))<| ?_
    refine hx (bB 0 rfl rfl rfl Tryz.underlying33 Tryz.underlying33 (by exact .inl rfl) cX rfl (fun m=>Src.bT ((m.ord 3 rfl).qD hD hco (show k≤n by omega))) dj (by unfold maxLen;omega) (by omega) (fun u3=> ?_))
    refine az (fun m=>(m.own 0 rfl).slice) ?_
    rintro⟨A_z3,c_z3,rfl,hc_z⟩
    refine az (fun m=>(m.ord 0 rfl).2.1) fun hA_z=> ?_
    refine hy (fun _=>ab rfl)<|ai<|al (ρ' :=[(4,_),(6,_),(37,_),(19,_),(5,_),(3,_),(0,_),(1,_)]) ⟨rfl,rfl,rfl,rfl,rfl,rfl,rfl,rfl,trivial⟩<|ak (X' :=[_,_,_,_]) (S' :=[]) (fun _ m=>m)<|ag<|aU<| ?_
    refine ak (fun w m=>m.bM 0 rfl (show _=aH 53 32 (.slice A_z3 (0+k+1+(n-k)) c_z3) (0+k+1+(n-k)) (dc (ds.take k++[d]++ds.drop k))from congrArg (aH _ _ _ _) (by rw[eQ,eQ,List.nil_append]))) ?_
    exact bc trivial rfl rfl [0] rfl [] rfl ⟨_,_,_,rfl,rfl,rfl,(by rw[List.length_append,List.length_append,List.length_take,List.length_drop,List.length_singleton];omega)⟩
 ·refine aP rfl rfl rfl (by decide)<|aP rfl rfl rfl (by decide)<|aP rfl rfl rfl (by decide)<|aP rfl rfl rfl (by decide)<|aP rfl rfl rfl (by decide)<|uW rfl rfl rfl (by decide) (fun _=>wk [0,0] [] rfl rfl)<|aP rfl rfl rfl (by decide)<|an (bp rfl rfl)<|bq<|al (ρ' :=[(19,_),(5,_),(4,_),(3,_),(0,_),(1,_)]) ⟨rfl,rfl,rfl,rfl,rfl,rfl,trivial⟩<|ag<| ?_
  refine di rfl (rfl) ?_
  have heq:=nU ds d k (by omega) hlt (fun h=>absurd h (by omega))
  refine bP<|au<|au<|aC<|ag<|ah<|ah<|cK [] [(0,some 0),(1,some 0),(2,some 0),(3,some 0),(4,some 0),(5,some 0),(6,some 0),(7,some 0),(8,some 0),(9,some 0),(10,some 0),(11,some 0),(12,some 0),(13,some 0),(14,some 0),(15,some 0)] (by kernel_rfl) (by kernel_rfl) rfl 99<|an (aa rfl)<|an (aa rfl)<|an (aR rfl Tryz.underlying33)<|an (br rfl rfl)<|an (aa rfl)<| ?_
  refine hO 26 rfl (fun h3=> ?_) (fun h3=> ?_)
  ·have hkl3:k<ds.length:=by omega
   have hdk3:=n6 hD hkl3
   refine bj (o:=_) rfl rfl rfl (aa rfl)<|bj (o:=_) rfl rfl rfl (aa rfl)<|bj (o:=_) rfl rfl rfl (aa rfl)<|bj (o:=_) rfl rfl rfl (aR rfl Tryz.underlying33)<|bj (o:=_) rfl rfl rfl (cm rfl rfl (bA (by omega) (by omega)))<|bj (o:=_) rfl rfl rfl (ln rfl rfl)<|bj (o:=_) rfl rfl rfl (cU rfl rfl Tryz.underlying33 bn hA_o (show((k:Nat):Int)=min (k:Int) ((n:Int)-1) by omega) (by omega))<|iJ (o:=_) rfl rfl rfl (fun m=>aX rfl ct bn (by rw[aF];exact hdk3) ((m.ord 1 rfl).j3 hD hkl3))<|iJ (o:=_) rfl rfl rfl (fun m=>aX rfl ct bn h32 ((m.aT 0 rfl).ay))<|bj (o:=_) rfl rfl rfl (rp rfl rfl hdk3 hd)<|an (bE rfl rfl)<|bq<|al (ρ' :=[(37,_),(19,_),(5,_),(4,_),(3,_),(0,_),(1,_)]) ⟨rfl,rfl,rfl,rfl,rfl,rfl,rfl,trivial⟩<|ag<| ?_
   refine cL rfl (fun h4=> ?_) (fun h4=> ?_)
   ·rw[if_pos ⟨hkl3,h4⟩]at heq
    rw[heq]
    refine ah<|aj<|hy (fun _=>aa rfl)<|hy (fun _=>ab rfl)<|ai<|al (ρ' :=[(4,_),(37,_),(19,_),(5,_),(3,_),(0,_),(1,_)]) ⟨rfl,rfl,rfl,rfl,rfl,rfl,rfl,trivial⟩<|ag<|aU<|aw<| ?_
    exact bc trivial rfl rfl [1] rfl [] rfl ⟨_,_,_,rfl,rfl,rfl,hln.symm⟩
   ·have hne:¬(k<ds.length∧ds.getD k []=d):=fun h=>h4 h.2
    rw[if_neg hne]at heq
    rw[heq]
    refine aB<|ag<|ah<|aj<|hy (fun _=>ab rfl)<|ai<|ag<|ah<|aj<|hy (fun _=>aa rfl)<|hy (fun _=>aa rfl)<|hy (fun _=>aa rfl)<|hy (fun _=>jS rfl rfl Tryz.underlying33 bn (show((k:Nat):Int)=_ by omega) (by omega))<| ?_
    refine aL (fun w m=>m.dx (r' :=aH 53 32 (.slice none 0 0) 0 []) (.refl _ _) (Own.nil _ _ _ _) (fun k hk=>hk.elim)) ?_
    refine hx (bB 0 rfl rfl rfl Tryz.underlying33 Tryz.underlying33 (by exact .inl rfl) cX rfl (fun m=>Src.bT ((m.ord 2 rfl).nT hD (show k≤n by omega))) dj (by unfold maxLen;omega) (by omega) (fun u=> ?_))
    refine az (fun m=>(m.own 0 rfl).slice) ?_
    rintro⟨A_z,c_z,rfl,hc_z⟩
    refine az (fun m=>(m.ord 0 rfl).2.1) fun hA_z=> ?_
    refine hy (fun _=>ab rfl)<|ai<|al (ρ' :=[(6,_),(37,_),(19,_),(5,_),(4,_),(3,_),(0,_),(1,_)]) ⟨rfl,rfl,rfl,rfl,rfl,rfl,rfl,rfl,trivial⟩<|ak (X' :=[_,_,_]) (S' :=[]) (fun _ m=>m)<|ag<|ah<|aj<|hy (fun _=>aa rfl)<|hy (fun m=>aX rfl ct bn h32 ((m.aT 1 rfl).ay))<| ?_
    refine hx (b8 Tryz.underlying33 cX rfl rfl rfl (by simpa[Value.cells,B8]using h32) (by decide) (by decide) (fun g46=> ?_))
    have hA_b46:0<1→(some (⟨g46,0,none⟩:Addr))≠none:=fun _ h=>by cases h
    refine aL (fun w m=>m.bM 0 rfl (show _=aH 53 32 (.slice (some ⟨g46,0,none⟩) 1 1) 1 (dc [d])from rfl)) ?_
    refine hx (bB 1 rfl rfl rfl Tryz.underlying33 Tryz.underlying33 (by exact .inl rfl) cX rfl (fun m=>Src.bT (m.ord 0 rfl)) dj (by unfold maxLen;omega) (by omega) (fun u2=> ?_))
    refine az (fun m=>(m.own 0 rfl).slice) ?_
    rintro⟨A_z2,c_z2,rfl,hc_z⟩
    refine az (fun m=>(m.ord 0 rfl).2.1) fun hA_z=> ?_
    refine hy (fun _=>ab rfl)<|ai<|al (ρ' :=[(6,_),(37,_),(19,_),(5,_),(4,_),(3,_),(0,_),(1,_)]) ⟨rfl,rfl,rfl,rfl,rfl,rfl,rfl,rfl,trivial⟩<|ak (X' :=[_,_,_,_]) (S' :=[]) (fun _ m=>m)<|ag<|ah<|aj<|hy (fun _=>aa rfl)<|hy (fun _=>aa rfl)<|hy (fun _=>aa rfl)<|hy (fun _=>dQ rfl rfl Tryz.underlying33 bn (show((k:Nat):Int)=_ by omega) (by omega))<| ?_
    refine hx (bB 0 rfl rfl rfl Tryz.underlying33 Tryz.underlying33 (by exact .inl rfl) cX rfl (fun m=>Src.bT ((m.ord 3 rfl).qD hD hco (show k≤n by omega))) dj (by unfold maxLen;omega) (by omega) (fun u3=> ?_))
    refine az (fun m=>(m.own 0 rfl).slice) ?_
    rintro⟨A_z3,c_z3,rfl,hc_z⟩
    refine az (fun m=>(m.ord 0 rfl).2.1) fun hA_z=> ?_
    refine hy (fun _=>ab rfl)<|ai<|al (ρ' :=[(4,_),(6,_),(37,_),(19,_),(5,_),(3,_),(0,_),(1,_)]) ⟨rfl,rfl,rfl,rfl,rfl,rfl,rfl,rfl,trivial⟩<|ak (X' :=[_,_,_,_]) (S' :=[]) (fun _ m=>m)<|ag<|aU<| ?_
    refine ak (fun w m=>m.bM 0 rfl (show _=aH 53 32 (.slice A_z3 (0+k+1+(n-k)) c_z3) (0+k+1+(n-k)) (dc (ds.take k++[d]++ds.drop k))from congrArg (aH _ _ _ _) (by rw[eQ,eQ,List.nil_append]))) ?_
    exact bc trivial rfl rfl [0] rfl [] rfl ⟨_,_,_,rfl,rfl,rfl,(by rw[List.length_append,List.length_append,List.length_take,List.length_drop,List.length_singleton];omega)⟩
  ·have hne:¬(k<ds.length∧ds.getD k []=d):=fun h=>h3 (by omega)
   refine aP rfl rfl rfl (by decide)<|aP rfl rfl rfl (by decide)<|aP rfl rfl rfl (by decide)<|aP rfl rfl rfl (by decide)<|aP rfl rfl rfl (by decide)<|aP rfl rfl rfl (by decide)<|aP rfl rfl rfl (by decide)<|aP rfl rfl rfl (by decide)<|aP rfl rfl rfl (by decide)<|aP rfl rfl rfl (by decide)<|an (bp rfl rfl)<|bq<|al (ρ' :=[(37,_),(19,_),(5,_),(4,_),(3,_),(0,_),(1,_)]) ⟨rfl,rfl,rfl,rfl,rfl,rfl,rfl,trivial⟩<|ag<| ?_
   refine di rfl (rfl) ?_
   rw[if_neg hne]at heq
   rw[heq]
   refine aB<|ag<|ah<|aj<|hy (fun _=>ab rfl)<|ai<|ag<|ah<|aj<|hy (fun _=>aa rfl)<|hy (fun _=>aa rfl)<|hy (fun _=>aa rfl)<|hy (fun _=>jS rfl rfl Tryz.underlying33 bn (show((k:Nat):Int)=_ by omega) (by omega))<| ?_
   refine aL (fun w m=>m.dx (r' :=aH 53 32 (.slice none 0 0) 0 []) (.refl _ _) (Own.nil _ _ _ _) (fun k hk=>hk.elim)) ?_
   refine hx (bB 0 rfl rfl rfl Tryz.underlying33 Tryz.underlying33 (by exact .inl rfl) cX rfl (fun m=>Src.bT ((m.ord 2 rfl).nT hD (show k≤n by omega))) dj (by unfold maxLen;omega) (by omega) (fun u=> ?_))
   refine az (fun m=>(m.own 0 rfl).slice) ?_
   rintro⟨A_z,c_z,rfl,hc_z⟩
   refine az (fun m=>(m.ord 0 rfl).2.1) fun hA_z=> ?_
   refine hy (fun _=>ab rfl)<|ai<|al (ρ' :=[(6,_),(37,_),(19,_),(5,_),(4,_),(3,_),(0,_),(1,_)]) ⟨rfl,rfl,rfl,rfl,rfl,rfl,rfl,rfl,trivial⟩<|ak (X' :=[_,_,_]) (S' :=[]) (fun _ m=>m)<|ag<|ah<|aj<|hy (fun _=>aa rfl)<|hy (fun m=>aX rfl ct bn h32 ((m.aT 1 rfl).ay))<| ?_
   refine hx (b8 Tryz.underlying33 cX rfl rfl rfl (by simpa[Value.cells,B8]using h32) (by decide) (by decide) (fun g46=> ?_))
   have hA_b46:0<1→(some (⟨g46,0,none⟩:Addr))≠none:=fun _ h=>by cases h
   refine aL (fun w m=>m.bM 0 rfl (show _=aH 53 32 (.slice (some ⟨g46,0,none⟩) 1 1) 1 (dc [d])from rfl)) ?_
   refine hx (bB 1 rfl rfl rfl Tryz.underlying33 Tryz.underlying33 (by exact .inl rfl) cX rfl (fun m=>Src.bT (m.ord 0 rfl)) dj (by unfold maxLen;omega) (by omega) (fun u2=> ?_))
   refine az (fun m=>(m.own 0 rfl).slice) ?_
   rintro⟨A_z2,c_z2,rfl,hc_z⟩
   refine az (fun m=>(m.ord 0 rfl).2.1) fun hA_z=> ?_
   refine hy (fun _=>ab rfl)<|ai<|al (ρ' :=[(6,_),(37,_),(19,_),(5,_),(4,_),(3,_),(0,_),(1,_)]) ⟨rfl,rfl,rfl,rfl,rfl,rfl,rfl,rfl,trivial⟩<|ak (X' :=[_,_,_,_]) (S' :=[]) (fun _ m=>m)<|ag<|ah<|aj<|hy (fun _=>aa rfl)<|hy (fun _=>aa rfl)<|hy (fun _=>aa rfl)<|hy (fun _=>dQ rfl rfl Tryz.underlying33 bn (show((k:Nat):Int)=_ by omega) (by omega))<| ?_
   refine hx (bB 0 rfl rfl rfl Tryz.underlying33 Tryz.underlying33 (by exact .inl rfl) cX rfl (fun m=>Src.bT ((m.ord 3 rfl).qD hD hco (show k≤n by omega))) dj (by unfold maxLen;omega) (by omega) (fun u3=> ?_))
   refine az (fun m=>(m.own 0 rfl).slice) ?_
   rintro⟨A_z3,c_z3,rfl,hc_z⟩
   refine az (fun m=>(m.ord 0 rfl).2.1) fun hA_z=> ?_
   refine hy (fun _=>ab rfl)<|ai<|al (ρ' :=[(4,_),(6,_),(37,_),(19,_),(5,_),(3,_),(0,_),(1,_)]) ⟨rfl,rfl,rfl,rfl,rfl,rfl,rfl,rfl,trivial⟩<|ak (X' :=[_,_,_,_]) (S' :=[]) (fun _ m=>m)<|ag<|aU<| ?_
   refine ak (fun w m=>m.bM 0 rfl (show _=aH 53 32 (.slice A_z3 (0+k+1+(n-k)) c_z3) (0+k+1+(n-k)) (dc (ds.take k++[d]++ds.drop k))from congrArg (aH _ _ _ _) (by rw[eQ,eQ,List.nil_append]))) ?_
   exact bc trivial rfl rfl [0] rfl [] rfl ⟨_,_,_,rfl,rfl,rfl,(by rw[List.length_append,List.length_append,List.length_take,List.length_drop,List.length_singleton];omega)⟩
theorem yi{x:RX}{kk:Nat}(ok:vi x.d kk)(hkk:kk≤100000)(hnl:∀y∈x.d.seen,y.1.length≤1000000):cj Tryz.prog 21 [.agg x.cs.toArray] [] [cT x] (fun v_ X_ S_=>∃A1 k c1,v_=(.slice A1 k c1)∧X_=[aH 53 32 (.slice A1 k c1) k (dc (cQ x.d x.d.seen.length))]∧S_=[]∧(k=(cQ x.d x.d.seen.length).length)):=by
 have hsn:=ok.seen
 refine aO (N:=42) Tryz.func21 rfl rfl (by simp) fun b=> ?_
 refine ah<|aj<| ?_
 refine hx (cz rfl (fun g1=> ?_))
 refine aL (fun w m=>m.bM 0 rfl (show _=aG g1 39 x.cs from congrArg (aG _ _) (bG _))) ?_
 refine aL (fun w m=>m.gX 0 rfl View.sJ) ?_
 refine az (fun m=>ik (m.rd 0 rfl)) ?_
 rintro⟨hl_r0,hA_r0⟩
 refine hy (fun _=>ab rfl)<|ai<|ak (X' :=[_]) (S' :=[_,_]) (fun _ m=>m)<|ag<|ah<|aj<|hy (fun _=>ab rfl)<|ai<|ag<|ah<|ah<|aj<|hy (fun _=>ab rfl)<|ai<|ag<|aN<| ?_
 refine bu (fun w m=>m.dx (r' :=aH 53 32 (.slice none 0 0) 0 []) (.refl _ _) (Own.nil _ _ _ _) (fun k hk=>hk.elim)) ?_
 refine lH (fun i k A1 c1=>x.d.seen.length-i) (fun i k A1 c1=>[(3,.slice A1 k c1),(4,.int .i64 (i:Nat))]) (fun i k A1 c1=>[aH 53 32 (.slice A1 k c1) k (dc (cQ x.d i))]) (fun i k A1 c1=>[]) (fun i k A1 c1=>i≤x.d.seen.length∧k=(cQ x.d i).length∧k≤i) 0 0 none 0 [(2,_),(1,_),(0,_)] ⟨rfl,rfl,rfl,trivial⟩ [0] rfl [] rfl (⟨Nat.zero_le _,rfl,Nat.le_refl _⟩) ⟨rfl,rfl,trivial⟩ (fun i k A1 c1 ⟨hin,hk,hki⟩=> ?_)
 refine ah<|ah<|aj<|hy (fun _=>aa rfl)<|hy (fun _=>aD rfl fl (by decide))<|hy (fun m=>ar rfl j1 (ax (m.aT 1 rfl) (i:=1) rfl))<|hy (fun _=>aR rfl Tryz.underlying36)<|hy (fun _=>br rfl rfl)<|ai<|al (ρ' :=[(12,_),(3,_),(4,_),(2,_),(1,_),(0,_)]) ⟨rfl,rfl,rfl,rfl,rfl,rfl,trivial⟩<|ag<| ?_
 refine cL rfl (fun hlt=> ?_) (fun hlt=> ?_)
 ·have hi2:i<x.d.seen.length:=by omega
  obtain⟨y,hyi⟩:∃y,x.d.seen[i]? =some y:=⟨_,List.getElem?_eq_getElem hi2⟩
  have hpl:=hnl y (List.mem_of_getElem? hyi)
  have hsc:=lZ hyi
  have hg:=gQ x.d.seen i y hyi
  generalize y.1=p at hpl hsc hg
  refine aB<|ag<|ah<|aN<|ah<|aj<|hy (fun _=>aD rfl fl (by decide))<|hy (fun m=>ar rfl j1 (ax (m.aT 1 rfl) (i:=1) rfl))<|hy (fun _=>aa rfl)<|hy (fun _=>cU rfl rfl Tryz.underlying36 dZ hA_r0 rfl (by omega))<|hy (fun _=>aD rfl dB (by decide))<|hy (fun m=>ar rfl gU (dm (m.rd 0 rfl) hg.1))<|hy (fun _=>ab rfl)<|ai<|al (ρ' :=[(5,_),(12,_),(3,_),(4,_),(2,_),(1,_),(0,_)]) ⟨rfl,rfl,rfl,rfl,rfl,rfl,rfl,trivial⟩<|ag<|ah<|ah<|aj<|hy (fun _=>aa rfl)<|hy (fun _=>cp rfl Tryz.underlying9)<|hy (fun _=>de rfl rfl)<|ai<|al (ρ' :=[(23,_),(5,_),(12,_),(3,_),(4,_),(2,_),(1,_),(0,_)]) ⟨rfl,rfl,rfl,rfl,rfl,rfl,rfl,rfl,trivial⟩<|ag<| ?_
  have hpz:=cr p
  refine cL rfl (fun h69=> ?_) (fun h69=> ?_)
  ·have hno:j2 p=none:=by unfold j2;exact if_neg (fun h=>h69 (by omega))
   have hl2:kG (cQ x.d i) p=cQ x.d i:=by unfold kG;rw[hno]
   rw[hl2]at hsc
   refine bu (fun w m=>m.bM 0 rfl (show _=aH 53 32 (.slice A1 k c1) k (dc (cQ x.d (i+1)))from by rw[hsc])) ?_
   refine bP<|au<|aC<|ag<|aj<|hy (fun _=>aa rfl)<|hy (fun _=>aJ rfl rfl (bA (by omega) (by omega)))<|hy (fun _=>ab rfl)<|ai<|al (ρ' :=[(4,_),(23,_),(5,_),(12,_),(3,_),(2,_),(1,_),(0,_)]) ⟨rfl,rfl,rfl,rfl,rfl,rfl,rfl,rfl,trivial⟩<| ?_
   refine fZ (i+1) k A1 c1 ⟨rfl,rfl,rfl,rfl,rfl,trivial⟩ [0,0] rfl [0,1] rfl (⟨by omega,by rw[hsc,hk],by omega⟩) (by omega)
  ·have h69:p.length=69:=by omega
   have ho0:j2 p=kz p (p.drop 5):=by unfold j2;exact if_pos h69
   have hdl:=gN (p.drop 5)
   have h32:(aZ (b5 (p.drop 5)).1).length=32:=by rw[aF,hdl]
   have hql:(p.drop 5).length≤1000000:=by rw[List.length_drop];omega
   have ho1:j2 p=if(b5 (p.drop 5)).2=0∧bd (b5 (p.drop 5)).1=p then some (b5 (p.drop 5)).1 else none:=ho0
   refine aB<|ag<|ah<|aj<|hy (fun _=>aa rfl)<|hy (fun _=>qh rfl rfl Tryz.underlying9 (show((5:Nat):Int)=5 from rfl) (show 5≤p.length by omega))<| ?_
   refine hx (ao rfl Tryz.call95 (vY hql (s:=(p.drop 5))) [] rfl [] rfl ?_)
   rintro _ _ _ ⟨rfl,rfl,rfl⟩
   refine hy (fun _=>aa rfl)<|hy (fun _=>aq rfl rfl)<|hy (fun _=>aq rfl rfl)<| ?_
   refine hx (aM cX (fun g6=> ?_))
   refine cI (aI 0 rfl rfl rfl bn h32 aY rfl ?_)
   generalize hdo:b5 (p.drop 5)=dq at hdl h32 ho1 ⊢
   by_cases hE:dq.2=0
   ·refine hy (fun _=>ab rfl)<|ai<|al (ρ' :=[(7,_),(6,_),(23,_),(5,_),(12,_),(3,_),(4,_),(2,_),(1,_),(0,_)]) ⟨rfl,rfl,rfl,rfl,rfl,rfl,rfl,rfl,rfl,rfl,trivial⟩<|ak (X' :=[_,_,_]) (S' :=[_,_]) (fun _ m=>m)<|ag<|ah<|aj<|hy (fun _=>aa rfl)<|hy (fun _=>yT (b7 rfl rfl) ((decide_eq_true hE)))<|hy (fun _=>aa rfl)<|cx (o:=_) rfl rfl rfl (fun m=>aX rfl ct bn h32 ((m.aT 0 rfl).ay))<| ?_
    refine Bf (o:=_) rfl rfl rfl (ao rfl Tryz.call29 (iS hdl) [] rfl [] rfl ?_)
    rintro _ _ _ ⟨rfl,rfl,rfl⟩
    refine cx (o:=_) rfl rfl rfl (fun _=>aa rfl)<|cx (o:=_) rfl rfl rfl (fun _=>me rfl rfl)<|hy (fun _=>bE rfl rfl)<|ai<|al (ρ' :=[(37,_),(7,_),(6,_),(23,_),(5,_),(12,_),(3,_),(4,_),(2,_),(1,_),(0,_)]) ⟨rfl,rfl,rfl,rfl,rfl,rfl,rfl,rfl,rfl,rfl,rfl,trivial⟩<|ak (X' :=[_,_,_]) (S' :=[_,_]) (fun _ m=>m)<|ag<| ?_
    refine sv rfl (fun hp=> ?_) (fun hp=> ?_)
    ·have hp:=cD.1 (of_decide_eq_true hp)
     rw[if_pos ⟨hE,hp⟩]at ho1
     have hl2:kG (cQ x.d i) p=lg (cQ x.d i) dq.1:=by unfold kG;rw[ho1]
     rw[hl2]at hsc
     have hdln:=tb (cQ x.d i) dq.1
     refine aj<|hy (fun _=>aa rfl)<|hy (fun m=>aX rfl ct bn h32 ((m.aT 0 rfl).ay))<| ?_
     refine hx (ao rfl Tryz.call96 (BF (kJ _ _) hdl (by omega)) [1] rfl [] rfl ?_)
     rintro _ _ _ ⟨A12,n1,c12,rfl,rfl,rfl,hn1⟩
     refine hy (fun _=>ab rfl)<|ai<|al (ρ' :=[(3,_),(37,_),(7,_),(6,_),(23,_),(5,_),(12,_),(4,_),(2,_),(1,_),(0,_)]) ⟨rfl,rfl,rfl,rfl,rfl,rfl,rfl,rfl,rfl,rfl,rfl,trivial⟩<|ak (X' :=[_,_,_]) (S' :=[_,_]) (fun _ m=>m)<|aQ<|ag<|aj<|hy (fun _=>aa rfl)<|hy (fun _=>aJ rfl rfl (bA (by omega) (by omega)))<|hy (fun _=>ab rfl)<|ai<|al (ρ' :=[(4,_),(3,_),(37,_),(7,_),(6,_),(23,_),(5,_),(12,_),(2,_),(1,_),(0,_)]) ⟨rfl,rfl,rfl,rfl,rfl,rfl,rfl,rfl,rfl,rfl,rfl,trivial⟩<| ?_
     rw[←hsc]at hn1
     refine ak (fun w m=>m.bM 0 rfl (show _=aH 53 32 (.slice A12 n1 c12) n1 (dc (cQ x.d (i+1)))from by rw[hsc])) ?_
     refine fZ (i+1) n1 A12 c12 ⟨rfl,rfl,rfl,rfl,rfl,trivial⟩ [0,1] rfl [0,1] rfl (⟨by omega,hn1,by rw[hn1,hsc];omega⟩) (by omega)
    ·have hp:=of_decide_eq_false hp
     rw[if_neg (fun h=>hp (by rw[h.2]))]at ho1
     have hl2:kG (cQ x.d i) p=cQ x.d i:=by unfold kG;rw[ho1]
     rw[hl2]at hsc
     refine bu (fun w m=>m.bM 1 rfl (show _=aH 53 32 (.slice A1 k c1) k (dc (cQ x.d (i+1)))from by rw[hsc])) ?_
     refine aB<|aQ<|ag<|aj<|hy (fun _=>aa rfl)<|hy (fun _=>aJ rfl rfl (bA (by omega) (by omega)))<|hy (fun _=>ab rfl)<|ai<|al (ρ' :=[(4,_),(37,_),(7,_),(6,_),(23,_),(5,_),(12,_),(3,_),(2,_),(1,_),(0,_)]) ⟨rfl,rfl,rfl,rfl,rfl,rfl,rfl,rfl,rfl,rfl,rfl,trivial⟩<| ?_
     refine fZ (i+1) k A1 c1 ⟨rfl,rfl,rfl,rfl,rfl,trivial⟩ [0,1] rfl [0,1] rfl (⟨by omega,by rw[hsc,hk],by omega⟩) (by omega)
   ·refine hy (fun _=>ab rfl)<|ai<|al (ρ' :=[(7,_),(6,_),(23,_),(5,_),(12,_),(3,_),(4,_),(2,_),(1,_),(0,_)]) ⟨rfl,rfl,rfl,rfl,rfl,rfl,rfl,rfl,rfl,rfl,trivial⟩<|ag<|ah<|aj<|hy (fun _=>aa rfl)<|hy (fun _=>yF (b7 rfl rfl) ((decide_eq_false hE)))<|hy (fun _=>aa rfl)<|bg rfl rfl rfl (by decide)<|bg rfl rfl rfl (by decide)<|bg rfl rfl rfl (by decide)<|bg rfl rfl rfl (by decide)<|hy (fun _=>bp rfl rfl)<|ai<|al (ρ' :=[(37,_),(7,_),(6,_),(23,_),(5,_),(12,_),(3,_),(4,_),(2,_),(1,_),(0,_)]) ⟨rfl,rfl,rfl,rfl,rfl,rfl,rfl,rfl,rfl,rfl,rfl,trivial⟩<|ag<| ?_
    refine di rfl (rfl) ?_
    rw[if_neg (fun h=>hE h.1)]at ho1
    have hl2:kG (cQ x.d i) p=cQ x.d i:=by unfold kG;rw[ho1]
    rw[hl2]at hsc
    refine bu (fun w m=>m.bM 1 rfl (show _=aH 53 32 (.slice A1 k c1) k (dc (cQ x.d (i+1)))from by rw[hsc])) ?_
    refine aB<|aQ<|ag<|aj<|hy (fun _=>aa rfl)<|hy (fun _=>aJ rfl rfl (bA (by omega) (by omega)))<|hy (fun _=>ab rfl)<|ai<|al (ρ' :=[(4,_),(37,_),(7,_),(6,_),(23,_),(5,_),(12,_),(3,_),(2,_),(1,_),(0,_)]) ⟨rfl,rfl,rfl,rfl,rfl,rfl,rfl,rfl,rfl,rfl,rfl,trivial⟩<| ?_
    refine fZ (i+1) k A1 c1 ⟨rfl,rfl,rfl,rfl,rfl,trivial⟩ [0,1] rfl [0,1] rfl (⟨by omega,by rw[hsc,hk],by omega⟩) (by omega)
 ·obtain rfl:i=x.d.seen.length:=by omega
  refine bP<|au<|au<|aC<|ag<|ah<|aj<|hy (fun _=>aa rfl)<|hy (fun _=>ab rfl)<|ai<|al (ρ' :=[(2,_),(12,_),(3,_),(4,_),(1,_),(0,_)]) ⟨rfl,rfl,rfl,rfl,rfl,rfl,trivial⟩<|ag<|aU<| ?_
  exact bc trivial rfl rfl [0] rfl [] rfl ⟨_,_,_,rfl,rfl,rfl,hk⟩
end Go.Proofs.YtmibdabdlgmafaaGreatDoor
end
section
set_option maxRecDepth 20000
set_option maxHeartbeats 4000000
namespace Go.Proofs.YtmibdabdlgmafaaGreatDoor
open Go.Eng Go.Hx
theorem tM{A B:Option Addr}{n c m:Nat}{ds:List (List UInt8)}(hD:y6 ds)(hn:n≤1000000):cj Tryz.prog 19 [.slice A n c,.slice B n m] [] [dr 32 A n (dc ds),dr 32 B n (dc ds)] (fun v_ X_ S_=>v_=(.bool true)∧X_=[]∧S_=[]):=by
 refine aO (N:=26) Tryz.func19 rfl rfl (by simp) fun b=> ?_
 refine ba (fun m=>ik (m.rd 0 rfl)) ?_
 rintro⟨hl_r,hA_r⟩
 refine ba (fun m=>ik (m.rd 1 rfl)) ?_
 rintro⟨hl_q,hA_q⟩
 refine ba (fun m=>xD (m.rd 0 rfl) hD) fun hln=> ?_
 refine ah<|aj<|hy (fun _=>ab rfl)<|ai<|ag<|ah<|ah<|aj<|hy (fun _=>aa rfl)<|hy (fun _=>aR rfl Tryz.underlying33)<|hy (fun _=>aa rfl)<|hy (fun _=>aR rfl Tryz.underlying33)<|hy (fun _=>de rfl rfl)<|ai<|al (ρ' :=[(10,_),(4,_),(0,_),(1,_)]) ⟨rfl,rfl,rfl,rfl,trivial⟩<|ag<| ?_
 refine di rfl ((decide_eq_false (by simp))) ?_
 refine aB<|ag<|ah<|ah<|aj<|hy (fun _=>ab rfl)<|ai<|ag<|aN<| ?_
 refine dR (fun i=>n-i) (fun i=>[(5,.int .i64 (i:Nat))]) (fun i=>[]) (fun i=>[]) (fun i=>i≤n) 0 [(10,_),(0,_),(1,_)] ⟨rfl,rfl,rfl,trivial⟩ [] rfl [] rfl (Nat.zero_le _) ⟨rfl,trivial⟩ (fun i hi=> ?_)
 refine ah<|ah<|aj<|hy (fun _=>aa rfl)<|hy (fun _=>aa rfl)<|hy (fun _=>aR rfl Tryz.underlying33)<|hy (fun _=>br rfl rfl)<|ai<|al (ρ' :=[(14,_),(5,_),(10,_),(0,_),(1,_)]) ⟨rfl,rfl,rfl,rfl,rfl,trivial⟩<|ag<| ?_
 refine cL rfl (fun hlt=> ?_) (fun hlt=> ?_)
 ·have hi2:i<ds.length:=by omega
  have hdk:=n6 hD hi2
  have h32:(aZ (ds.getD i [])).length=32:=by rw[aF,hdk]
  refine aB<|ag<|ah<|aN<|ah<|cK [] [(0,some 0),(1,some 0),(2,some 0),(3,some 0),(4,some 0),(5,some 0),(6,some 0),(7,some 0),(8,some 0)] (by kernel_rfl) (by kernel_rfl) rfl 99<|an (aa rfl)<|an (aa rfl)<|an (cU rfl rfl Tryz.underlying33 bn hA_r rfl (by omega))<|cd (fun m=>aX rfl ct bn h32 ((m.rd 0 rfl).j3 hD hi2))<|an (aa rfl)<|an (aa rfl)<|an (cU rfl rfl Tryz.underlying33 bn hA_q rfl (by omega))<|cd (fun m=>aX rfl ct bn h32 ((m.rd 1 rfl).j3 hD hi2))<|an (yF (qU rfl rfl hdk hdk) ((decide_eq_false (by simp))))<|bq<|al (ρ' :=[(25,_),(14,_),(5,_),(10,_),(0,_),(1,_)]) ⟨rfl,rfl,rfl,rfl,rfl,rfl,trivial⟩<|ag<| ?_
  refine di rfl (rfl) ?_
  refine aB<|aQ<|ag<|aj<|hy (fun _=>aa rfl)<|hy (fun _=>aJ rfl rfl (bA (by omega) (by omega)))<|hy (fun _=>ab rfl)<|ai<|al (ρ' :=[(5,_),(25,_),(14,_),(10,_),(0,_),(1,_)]) ⟨rfl,rfl,rfl,rfl,rfl,rfl,trivial⟩<| ?_
  refine cZ (i+1) ⟨rfl,rfl,rfl,rfl,trivial⟩ [] rfl [0,1] rfl ((by omega)) (by omega)
 ·refine bP<|au<|au<|aC<|ag<|ah<|aj<|hy (fun _=>ab rfl)<|ai<|ag<|aU<| ?_
  exact bc trivial rfl rfl [] rfl [] rfl ⟨rfl,rfl,rfl⟩
theorem mg:∀(l1 l2:List (RD→RD×Int)) (d:RD),dK (l1++l2) d=if(dK l1 d).2≠0 then dK l1 d else dK l2 (dK l1 d).1
 | [],l2,d=>by rw[if_neg (by show¬(0:Int)≠0;decide)];rfl
 |f::r,l2,d=>by
  rw[List.cons_append,dK,dK]
  by_cases h:(f d).2≠0
  ·rw[if_pos h,if_pos h,if_pos h]
  ·rw[if_neg h,if_neg h]
   exact mg r l2 (f d).1
def tg(d:RD)(i:Nat):List (List UInt8):=((d.seen.take i).map (·.1)).filter (pre jt)
theorem yE{d:RD}{i:Nat}{y:FP}(h:d.seen[i]? =some y):tg d (i+1)=tg d i++(if pre jt y.1=true then [y.1]else []):=by
 unfold tg
 rw[List.take_add_one,h,List.map_append,List.filter_append]
 congr 1
 by_cases hp:pre jt y.1=true
 ·rw[if_pos hp];simp[hp]
 ·rw[if_neg hp];simp[hp]
theorem uy(d:RD):tg d d.seen.length=dP d jt:=by unfold tg dP;rw[List.take_length]
theorem wh{d:RD}{i:Nat}{y:FP}(h:d.seen[i]? =some y)(hp:pre jt y.1=true):∃r,dP d jt=tg d i++y.1::r:=by
 obtain⟨hi,rfl⟩:=List.getElem?_eq_some_iff.1 h
 refine⟨((d.seen.drop (i+1)).map (·.1)).filter (pre jt), ?_⟩
 unfold dP tg
 conv=>lhs;rw[←List.take_append_drop i d.seen,List.drop_eq_getElem_cons hi]
 rw[List.map_append,List.filter_append,List.map_cons,List.filter_cons,if_pos hp]
theorem tB{d y:RD}{i:Nat}{f:FP}(h:d.seen[i]? =some f)(hp:pre jt f.1=true)(hr:dK ((tg d i).map fA) d=(y,0))(he:y.cC f.1≠0):d.clean=(y,y.cC f.1):=by
 obtain⟨r,hs⟩:=wh h hp
 unfold RD.clean
 rw[hs,if_neg (by simp),List.map_append,List.append_assoc,mg,hr,if_neg (by show¬(0:Int)≠0;decide)]
 show dK (fA f.1::(r.map fA++[fq])) y=_
 rw[dK,if_pos (by exact he)]
 exact Prod.ext (by show y.remove f.1=y;rw[RD.remove,if_neg he]) rfl
theorem tj{d:RD}(h:tg d d.seen.length=[]):d.clean=(d,0):=by
 rw[uy]at h
 unfold RD.clean
 rw[if_pos h]
theorem wq{d y:RD}(h:tg d d.seen.length≠ [])(hr:dK ((tg d d.seen.length).map fA) d=(y,0)):d.clean=(y.sync,y.dC):=by
 rw[uy]at h hr
 unfold RD.clean
 rw[if_neg h,mg,hr,if_neg (by show¬(0:Int)≠0;decide)]
 show dK [fq] y=_
 rw[dK]
 by_cases h2:(fq y).2=0
 ·rw[if_neg (fun q=>q h2)]
  exact Prod.ext rfl h2.symm
 ·rw[if_pos h2];rfl
theorem AT{x:RX}{kk:Nat}(hD:x.d.ok kk)(hkk:kk≤40000)(hnl:∀f∈x.d.seen,f.1.length≤1000000):cj Tryz.prog 83 [.agg x.cs.toArray] [] [cT x] (fun v_ X_ S_=>∃y,v_=(.tuple #[.agg y.cs.toArray,.int .i64 (x.d.clean).2])∧X_=[]∧S_=[cT y]∧(y.d=(x.d.clean).1)):=by
 have hsn:=hD.so.seen
 refine aO (N:=55) Tryz.func83 rfl rfl (by simp) fun b=> ?_
 refine ah<|aj<| ?_
 refine hx (cz rfl (fun g1=> ?_))
 refine aL (fun w m=>m.bM 0 rfl (show _=aG g1 39 x.cs from congrArg (aG _ _) (bG _))) ?_
 refine aL (fun w m=>m.gX 0 rfl View.sJ) ?_
 refine az (fun m=>ik (m.rd 0 rfl)) ?_
 rintro⟨hl_r0,hA_r0⟩
 refine hx (aM fN (fun g2=> ?_))
 refine hy (fun _=>ab rfl)<|ai<|ak (X' :=[_,_]) (S' :=[_,_]) (fun _ m=>m)<|ag<|ah<|aj<|hy (fun _=>aD rfl fl (by decide))<|hy (fun m=>ar rfl j1 (ax (m.aT 1 rfl) (i:=1) rfl))<|hy (fun _=>ab rfl)<|ai<|al (ρ' :=[(4,_),(3,_),(2,_),(1,_),(0,_)]) ⟨rfl,rfl,rfl,rfl,rfl,trivial⟩<|ag<|ah<|aj<|hy (fun _=>ab rfl)<|ai<|ag<|ah<|ah<|aj<|hy (fun _=>ab rfl)<|ai<|ag<|aN<| ?_
 refine iM (fun i y b=>x.d.seen.length-i) (fun i y b=>[(5,.bool b),(6,.int .i64 (i:Nat))]) (fun i y b=>[aG g1 39 (y:RX).cs]) (fun i y b=>[cT y]) (fun i y b=>i≤x.d.seen.length∧b=decide (tg x.d i≠ [])∧dK ((tg x.d i).map fA) x.d=(y.d,0)∧y.d.ok (kk+i)) 0 x false [(4,_),(2,_),(1,_),(0,_)] ⟨rfl,rfl,rfl,rfl,trivial⟩ [1] rfl [1] rfl (⟨Nat.zero_le _,rfl,rfl,hD⟩) ⟨rfl,rfl,trivial⟩ (fun i y b ⟨hin,hb,hr,hok⟩=> ?_)
 refine ah<|ah<|aj<|hy (fun _=>aa rfl)<|hy (fun _=>aa rfl)<|hy (fun _=>aR rfl Tryz.underlying36)<|hy (fun _=>br rfl rfl)<|ai<|al (ρ' :=[(14,_),(5,_),(6,_),(4,_),(2,_),(1,_),(0,_)]) ⟨rfl,rfl,rfl,rfl,rfl,rfl,rfl,trivial⟩<|ag<| ?_
 refine cL rfl (fun hlt=> ?_) (fun hlt=> ?_)
 ·have hi2:i<x.d.seen.length:=by omega
  obtain⟨f,hfi⟩:∃f,x.d.seen[i]? =some f:=⟨_,List.getElem?_eq_getElem hi2⟩
  have hpl:=hnl f (List.mem_of_getElem? hfi)
  have hsc:=yE hfi
  have hg:=gQ x.d.seen i f hfi
  have hpz:=cr f.1
  refine aB<|ag<|ah<|aN<|ah<|ah<| ?_
  by_cases h2:f.1.length<2
  ·have hp:¬pre jt f.1=true:=(fun q=>by have:=congrArg List.length (of_decide_eq_true q);rw[List.length_take]at this;simp[jt]at this;omega)
   rw[if_neg hp,List.append_nil]at hsc
   refine aj<|hy (fun _=>aa rfl)<|hy (fun _=>aa rfl)<|hy (fun _=>cU rfl rfl Tryz.underlying36 dZ hA_r0 rfl (by omega))<|hy (fun _=>aD rfl dB (by decide))<|hy (fun m=>ar rfl gU (dm (m.rd 1 rfl) hg.1))<|hy (fun _=>cp rfl Tryz.underlying9)<|hy (fun _=>yT (br rfl rfl) ((decide_eq_true (by omega))))<|hy (fun _=>aa rfl)<|bg rfl rfl rfl (by decide)<|bg rfl rfl rfl (by decide)<|bg rfl rfl rfl (by decide)<|bg rfl rfl rfl (by decide)<|bg rfl rfl rfl (by decide)<|bg rfl rfl rfl (by decide)<|bg rfl rfl rfl (by decide)<|hy (fun _=>bE rfl rfl)<|ai<|al (ρ' :=[(32,_),(14,_),(5,_),(6,_),(4,_),(2,_),(1,_),(0,_)]) ⟨rfl,rfl,rfl,rfl,rfl,rfl,rfl,rfl,trivial⟩<|ag<| ?_
   refine fE rfl (rfl) ?_
   refine bP<|au<|aC<|ag<|aj<|hy (fun _=>aa rfl)<|hy (fun _=>aJ rfl rfl (bA (by omega) (by omega)))<|hy (fun _=>ab rfl)<|ai<|al (ρ' :=[(6,_),(32,_),(14,_),(5,_),(4,_),(2,_),(1,_),(0,_)]) ⟨rfl,rfl,rfl,rfl,rfl,rfl,rfl,rfl,trivial⟩<| ?_
   refine fY (i+1) y b ⟨rfl,rfl,rfl,rfl,rfl,rfl,trivial⟩ [0,0] rfl [0,1,2] rfl (⟨by omega,by rw[hsc];exact hb,by rw[hsc];exact hr,hok.le (by omega)⟩) (by omega)
  ·skip
   by_cases hp:pre jt f.1=true
   ·rw[if_pos hp]at hsc
    refine aj<|hy (fun _=>aa rfl)<|hy (fun _=>aa rfl)<|hy (fun _=>cU rfl rfl Tryz.underlying36 dZ hA_r0 rfl (by omega))<|hy (fun _=>aD rfl dB (by decide))<|hy (fun m=>ar rfl gU (dm (m.rd 1 rfl) hg.1))<|hy (fun _=>cp rfl Tryz.underlying9)<|hy (fun _=>yF (br rfl rfl) ((decide_eq_false (by omega))))<|hy (fun _=>aa rfl)<|cx (o:=_) rfl rfl rfl (fun _=>aa rfl)<|cx (o:=_) rfl rfl rfl (fun _=>aa rfl)<|cx (o:=_) rfl rfl rfl (fun _=>cU rfl rfl Tryz.underlying36 dZ hA_r0 rfl (by omega))<|cx (o:=_) rfl rfl rfl (fun _=>aD rfl dB (by decide))<|cx (o:=_) rfl rfl rfl (fun m=>ar rfl gU (dm (m.rd 1 rfl) hg.1))<| ?_
    refine Bf (o:=_) rfl rfl rfl (ao rfl Tryz.call97 (tp (m:=2)) [] rfl [] rfl ?_)
    rintro _ _ _ ⟨rfl,rfl,rfl⟩
    refine cx (o:=_) rfl rfl rfl (fun _=>yF (kn rfl rfl) ((decide_eq_false (fun q=>q (congrArg strOf (of_decide_eq_true hp))))))<|hy (fun _=>bp rfl rfl)<|ai<|al (ρ' :=[(32,_),(14,_),(5,_),(6,_),(4,_),(2,_),(1,_),(0,_)]) ⟨rfl,rfl,rfl,rfl,rfl,rfl,rfl,rfl,trivial⟩<|ak (X' :=[_,_]) (S' :=[_,_,_]) (fun _ m=>m)<|ag<| ?_
    refine di rfl (rfl) ?_
    refine aB<|ag<|ah<|aj<|hy (fun _=>ab rfl)<|ai<|ag<|ah<| ?_
    refine rm (fun(z:RX) (g7:Nat)=>[(7,.pointer (some ⟨g7,0,none⟩)),(8,.int .i64 ((y:RX).d.cC f.1))]) (fun(z:RX) (g7:Nat)=>[aG g7 39 z.cs]) (fun(z:RX) (g7:Nat)=>[cT z]) (fun(z:RX) (g7:Nat)=>z.d=y.d.remove f.1) [(5,_),(32,_),(14,_),(6,_),(4,_),(2,_),(1,_),(0,_)] ⟨rfl,rfl,rfl,rfl,rfl,rfl,rfl,rfl,trivial⟩ [] rfl ?_ (fun z g7 hz=> ?_)
    ·refine oO [6,10,11] (.take 0 2<|.take 1 2<|.take 2 2<|.take 3 2<|.take 4 2<|.take 5 2<|.alt 6 (.take 7 2<|.take 8 2<|.take 9 3<|.alt 10 (.alt 11 (.take 12 3<|.done) (.stop)) (.stop)) (.alt 10 (.alt 6 (.take 7 2<|.take 8 2<|.take 9 3<|.alt 11 (.take 12 3<|.done) (.stop)) (.stop)) (.stop))) (by kernel_rfl) (by kernel_rfl) rfl 2<|y5 (fun m=>yV (aX rfl ca bf rfl ((m.aT 0 rfl).ay)) ((rfl:_=Value.agg (y:RX).cs.toArray)))<|bl (aa rfl)<|bl (aa rfl)<|bl (cU rfl rfl Tryz.underlying36 dZ hA_r0 rfl (by omega))<|bl (aD rfl dB (by decide))<|y5 (fun m=>ar rfl gU (dm (m.rd 1 rfl) hg.1))<| ?_
     refine dW ?_ ?_
     ·refine eE (ao rfl Tryz.call78 (km hok.so (by omega) (p:=f.1)) [] rfl [0] rfl ?_)
      rintro _ _ _ ⟨y2,rfl,rfl,rfl,hz⟩
      refine⟨(fun _=>wk [0,0] [1,2,3] rfl rfl), ?_⟩
      refine bl (aa rfl)<|bl (aq rfl rfl)<|bl (aq rfl rfl)<| ?_
      refine eE (aM fN (fun g7=>⟨(fun _=>wk [1,1] [1,2,3] rfl rfl), ?_⟩))
      refine dT (aI 0 rfl rfl rfl bf rfl bK rfl ⟨(fun h=>absurd h (by decide)), ?_⟩)
      refine bl (ab rfl)<|dU<|al (ρ' :=[(8,_),(7,_),(5,_),(32,_),(14,_),(6,_),(4,_),(2,_),(1,_),(0,_)]) ⟨rfl,rfl,rfl,rfl,rfl,rfl,rfl,rfl,rfl,rfl,trivial⟩<|ak (X' :=[_,_,_]) (S' :=[_,_,_,_]) (fun _ m=>m)<| ?_
      exact gk (R:=fun(z:RX) (g7:Nat)=>[(7,.pointer (some ⟨g7,0,none⟩)),(8,.int .i64 ((y:RX).d.cC f.1))]) (X1:=fun(z:RX) (g7:Nat)=>[aG g7 39 z.cs]) (S1:=fun(z:RX) (g7:Nat)=>[cT z]) (I:=fun(z:RX) (g7:Nat)=>z.d=y.d.remove f.1) y2 g7 ⟨rfl,rfl,rfl,rfl,rfl,rfl,rfl,rfl,rfl,rfl,trivial⟩ [0,0,0] rfl [0,1,2,3] rfl hz
     ·refine eE (aM fN (fun g7=>⟨(fun _=>wk [1,1] [0,1,2] rfl rfl), ?_⟩))
      refine eE (ao rfl Tryz.call78 (km hok.so (by omega) (p:=f.1)) [] rfl [0] rfl ?_)
      rintro _ _ _ ⟨y2,rfl,rfl,rfl,hz⟩
      refine⟨(fun _=>wk [1,1] [1,2,3] rfl rfl), ?_⟩
      refine bl (aa rfl)<|bl (aq rfl rfl)<|bl (aq rfl rfl)<| ?_
      refine dT (aI 0 rfl rfl rfl bf rfl bK rfl ⟨(fun h=>absurd h (by decide)), ?_⟩)
      refine bl (ab rfl)<|dU<|al (ρ' :=[(8,_),(7,_),(5,_),(32,_),(14,_),(6,_),(4,_),(2,_),(1,_),(0,_)]) ⟨rfl,rfl,rfl,rfl,rfl,rfl,rfl,rfl,rfl,rfl,trivial⟩<|ak (X' :=[_,_,_]) (S' :=[_,_,_,_]) (fun _ m=>m)<| ?_
      exact gk (R:=fun(z:RX) (g7:Nat)=>[(7,.pointer (some ⟨g7,0,none⟩)),(8,.int .i64 ((y:RX).d.cC f.1))]) (X1:=fun(z:RX) (g7:Nat)=>[aG g7 39 z.cs]) (S1:=fun(z:RX) (g7:Nat)=>[cT z]) (I:=fun(z:RX) (g7:Nat)=>z.d=y.d.remove f.1) y2 g7 ⟨rfl,rfl,rfl,rfl,rfl,rfl,rfl,rfl,rfl,rfl,trivial⟩ [0,0,0] rfl [0,1,2,3] rfl hz
    ·refine ag<|ah<|ah<|aj<|hy (fun _=>aa rfl)<|hy (fun _=>de rfl rfl)<|ai<|al (ρ' :=[(44,_),(7,_),(8,_),(5,_),(32,_),(14,_),(6,_),(4,_),(2,_),(1,_),(0,_)]) ⟨rfl,rfl,rfl,rfl,rfl,rfl,rfl,rfl,rfl,rfl,rfl,trivial⟩<|ag<| ?_
     refine cL rfl (fun he=> ?_) (fun he=> ?_)
     ·have e0:=tB hfi hp hr he
      rw[e0]
      refine ah<|aj<|hy (fun m=>yV (aX rfl ca bf rfl ((m.aT 1 rfl).ay)) ((rfl:_=Value.agg (y:RX).cs.toArray)))<|hy (fun _=>aa rfl)<| ?_
      refine cI (aI 2 rfl rfl rfl bf rfl bK rfl ?_)
      refine hy (fun _=>ab rfl)<|ai<|al (ρ' :=[(3,_),(44,_),(7,_),(8,_),(5,_),(32,_),(14,_),(6,_),(4,_),(2,_),(1,_),(0,_)]) ⟨rfl,rfl,rfl,rfl,rfl,rfl,rfl,rfl,rfl,rfl,rfl,rfl,trivial⟩<|ak (X' :=[_,_,_]) (S' :=[_,_,_,_]) (fun _ m=>m)<|ag<|aU<|aw<|aV<|aw<|aw<|aV<|aw<| ?_
      exact dV trivial rfl rfl rfl ca bf rfl (fun m=>(m.aT 0 rfl).ay) [] rfl [1] rfl ⟨y,rfl,rfl,rfl,rfl⟩
     ·have he:=Decidable.not_not.1 he
      have hr2:dK ((tg x.d (i+1)).map fA) x.d=(z.d,0):=by
       rw[hsc,List.map_append,mg,hr,if_neg (by show¬(0:Int)≠0;decide)]
       show dK [fA f.1] y.d=_
       rw[dK,if_neg (by show¬y.d.cC f.1≠0;rw[he];decide),hz]
       rfl
      have hok2:z.d.ok (kk+(i+1)):=by rw[hz];exact hok.remove
      have hb2:true=decide (tg x.d (i+1)≠ []):=by rw[hsc];simp
      refine aB<|ag<|aj<|hy (fun m=>yV (aX rfl ca bf rfl ((m.aT 0 rfl).ay)) ((rfl:_=Value.agg z.cs.toArray)))<| ?_
      refine cI (aI 1 rfl rfl rfl bf rfl bK rfl ?_)
      refine ai<|al (ρ' :=[(44,_),(7,_),(8,_),(5,_),(32,_),(14,_),(6,_),(4,_),(2,_),(1,_),(0,_)]) ⟨rfl,rfl,rfl,rfl,rfl,rfl,rfl,rfl,rfl,rfl,rfl,trivial⟩<|ak (X' :=[_,_,_]) (S' :=[_,_,_,_]) (fun _ m=>m)<|aQ<|ag<|aj<|hy (fun _=>aa rfl)<|hy (fun _=>aJ rfl rfl (bA (by omega) (by omega)))<|hy (fun _=>ab rfl)<|ai<|al (ρ' :=[(6,_),(44,_),(7,_),(8,_),(5,_),(32,_),(14,_),(4,_),(2,_),(1,_),(0,_)]) ⟨rfl,rfl,rfl,rfl,rfl,rfl,rfl,rfl,rfl,rfl,rfl,trivial⟩<| ?_
      refine fY (i+1) z true ⟨rfl,rfl,rfl,rfl,rfl,rfl,trivial⟩ [0,1] rfl [0,2,3] rfl (⟨by omega,hb2,hr2,hok2⟩) (by omega)
   ·have hp:¬pre jt f.1=true:=hp
    rw[if_neg hp,List.append_nil]at hsc
    refine aj<|hy (fun _=>aa rfl)<|hy (fun _=>aa rfl)<|hy (fun _=>cU rfl rfl Tryz.underlying36 dZ hA_r0 rfl (by omega))<|hy (fun _=>aD rfl dB (by decide))<|hy (fun m=>ar rfl gU (dm (m.rd 1 rfl) hg.1))<|hy (fun _=>cp rfl Tryz.underlying9)<|hy (fun _=>yF (br rfl rfl) ((decide_eq_false (by omega))))<|hy (fun _=>aa rfl)<|cx (o:=_) rfl rfl rfl (fun _=>aa rfl)<|cx (o:=_) rfl rfl rfl (fun _=>aa rfl)<|cx (o:=_) rfl rfl rfl (fun _=>cU rfl rfl Tryz.underlying36 dZ hA_r0 rfl (by omega))<|cx (o:=_) rfl rfl rfl (fun _=>aD rfl dB (by decide))<|cx (o:=_) rfl rfl rfl (fun m=>ar rfl gU (dm (m.rd 1 rfl) hg.1))<| ?_
    refine Bf (o:=_) rfl rfl rfl (ao rfl Tryz.call97 (tp (m:=2)) [] rfl [] rfl ?_)
    rintro _ _ _ ⟨rfl,rfl,rfl⟩
    refine cx (o:=_) rfl rfl rfl (fun _=>yT (kn rfl rfl) ((decide_eq_true (fun q=>hp (decide_eq_true (cD.1 q))))))<|hy (fun _=>bp rfl rfl)<|ai<|al (ρ' :=[(32,_),(14,_),(5,_),(6,_),(4,_),(2,_),(1,_),(0,_)]) ⟨rfl,rfl,rfl,rfl,rfl,rfl,rfl,rfl,trivial⟩<|ak (X' :=[_,_]) (S' :=[_,_,_]) (fun _ m=>m)<|ag<| ?_
    refine fE rfl (rfl) ?_
    refine bP<|au<|aC<|ag<|aj<|hy (fun _=>aa rfl)<|hy (fun _=>aJ rfl rfl (bA (by omega) (by omega)))<|hy (fun _=>ab rfl)<|ai<|al (ρ' :=[(6,_),(32,_),(14,_),(5,_),(4,_),(2,_),(1,_),(0,_)]) ⟨rfl,rfl,rfl,rfl,rfl,rfl,rfl,rfl,trivial⟩<| ?_
    refine fY (i+1) y b ⟨rfl,rfl,rfl,rfl,rfl,rfl,trivial⟩ [0,0] rfl [0,1,2] rfl (⟨by omega,by rw[hsc];exact hb,by rw[hsc];exact hr,hok.le (by omega)⟩) (by omega)
 ·obtain rfl:i=x.d.seen.length:=by omega
  by_cases hz:tg x.d x.d.seen.length=[]
  ·have hbf:b=false:=by rw[hb,hz];simp
   have hyd:y.d=x.d:=by rw[hz]at hr;exact(congrArg Prod.fst hr).symm
   have e0:=tj hz
   rw[e0]
   subst hbf
   refine bP<|au<|au<|aC<|ag<|ah<|ah<|aj<|hy (fun _=>aa rfl)<|hy (fun _=>(fw rfl))<|ai<|al (ρ' :=[(49,_),(14,_),(5,_),(6,_),(4,_),(2,_),(1,_),(0,_)]) ⟨rfl,rfl,rfl,rfl,rfl,rfl,rfl,rfl,trivial⟩<|ag<| ?_
   refine fE rfl (rfl) ?_
   refine ah<|aj<|hy (fun m=>yV (aX rfl ca bf rfl ((m.aT 0 rfl).ay)) ((rfl:_=Value.agg (y:RX).cs.toArray)))<| ?_
   refine cI (aI 1 rfl rfl rfl bf rfl bK rfl ?_)
   refine hy (fun _=>ab rfl)<|ai<|al (ρ' :=[(3,_),(49,_),(14,_),(5,_),(6,_),(4,_),(2,_),(1,_),(0,_)]) ⟨rfl,rfl,rfl,rfl,rfl,rfl,rfl,rfl,rfl,trivial⟩<|ak (X' :=[_,_]) (S' :=[_,_,_]) (fun _ m=>m)<|ag<|aU<|aw<| ?_
   exact dV trivial rfl rfl rfl ca bf rfl (fun m=>(m.aT 0 rfl).ay) [] rfl [0] rfl ⟨y,rfl,rfl,rfl,hyd⟩
  ·have hbf:b=true:=by rw[hb];exact decide_eq_true hz
   have e0:=wq hz hr
   rw[e0]
   subst hbf
   refine bP<|au<|au<|aC<|ag<|ah<|ah<|aj<|hy (fun _=>aa rfl)<|hy (fun _=>(fw rfl))<|ai<|al (ρ' :=[(49,_),(14,_),(5,_),(6,_),(4,_),(2,_),(1,_),(0,_)]) ⟨rfl,rfl,rfl,rfl,rfl,rfl,rfl,rfl,trivial⟩<|ag<| ?_
   refine di rfl (rfl) ?_
   refine aB<|ag<|ah<|aj<|hy (fun m=>yV (aX rfl ca bf rfl ((m.aT 0 rfl).ay)) ((rfl:_=Value.agg (y:RX).cs.toArray)))<| ?_
   refine hx (ao rfl Tryz.call99 (tO hok.so) [] rfl [0] rfl ?_)
   rintro _ _ _ ⟨y2,rfl,rfl,rfl,hv⟩
   refine hy (fun _=>aq rfl rfl)<|hy (fun _=>aq rfl rfl)<| ?_
   refine cI (aI 1 rfl rfl rfl bf rfl bK rfl ?_)
   refine hy (fun _=>ab rfl)<|ai<|al (ρ' :=[(3,_),(49,_),(14,_),(5,_),(6,_),(4,_),(2,_),(1,_),(0,_)]) ⟨rfl,rfl,rfl,rfl,rfl,rfl,rfl,rfl,rfl,trivial⟩<|ak (X' :=[_,_]) (S' :=[_,_,_,_]) (fun _ m=>m)<|ag<|aU<| ?_
   exact dV trivial rfl rfl rfl ca bf rfl (fun m=>(m.aT 0 rfl).ay) [] rfl [0] rfl ⟨y2,rfl,rfl,rfl,hv⟩
end Go.Proofs.YtmibdabdlgmafaaGreatDoor
end
section
set_option maxRecDepth 100000
namespace Go.Hx
def bo(k:Nat):List UInt8:=(List.range (3*k)).map fun i=>[UInt8.ofNat (65+k),1,UInt8.ofNat k].getD (i % 3) 0
theorem lq(k:Nat):(bo k).length=3*k:=by simp[bo]
end Go.Hx
end
section
set_option maxRecDepth 20000
set_option maxHeartbeats 4000000
namespace Go.Proofs.YtmibdabdlgmafaaGreatDoor
open Go.Eng Go.Hx
theorem tk{k:Nat}(hk:k<6):fill [UInt8.ofNat (65+k),1,UInt8.ofNat k] (3*k)=bo k:=by
 match k,hk with
 |0,_=>decide
 |1,_=>decide
 |2,_=>decide
 |3,_=>decide
 |4,_=>decide
 |5,_=>decide
theorem jY{z:Int}{k:Nat}(h0:-9223372036854775808≤z∧z≤9223372036854775807)(hz:fB z 6=(k:Int))(hk:k<6):cj Tryz.prog 27 [.int .i64 z] [] [] (fun v_ X_ S_=>∃v,v_=v∧X_=[aH 5 1 v (3*k) (aZ (bo k))]∧S_=[]):=by
 refine aO (N:=15) Tryz.func27 rfl rfl (by simp) fun b=> ?_
 refine ah<|aj<|hy (fun _=>ab rfl)<|ai<|ag<|ah<|aj<|hy (fun _=>aa rfl)<| ?_
 refine hx (ao rfl Tryz.call16 (lX (by omega) (by omega) (by omega)) [] rfl [] rfl ?_)
 rintro _ _ _ ⟨rfl,rfl,rfl⟩
 rw[hz]
 refine hy (fun _=>ab rfl)<|ai<|al (ρ' :=[(3,_),(2,_),(0,_)]) ⟨rfl,rfl,rfl,trivial⟩<|ak (X' :=[]) (S' :=[]) (fun _ m=>m)<|ag<|ah<|aj<|hy (fun _=>aa rfl)<|hy (fun _=>yV (aJ rfl rfl (bA (by omega) (by omega))) ((show Value.int .i64 ((65:Int)+(k:Int))= .int .i64 ((65+k:Nat):Int) by congr 1)))<|hy (fun _=>yV (bU rfl Tryz.underlying3 Tryz.underlying5 (gV (65+k))) ((show Value.int .u8 _=B8 (UInt8.ofNat (65+k))from rfl)))<|hy (fun _=>aa rfl)<|hy (fun _=>yV (bU rfl Tryz.underlying3 Tryz.underlying5 (gV k)) ((show Value.int .u8 _=B8 (UInt8.ofNat k)from rfl)))<| ?_
 refine hx (b8 Tryz.underlying27 eO rfl rfl rfl (by simp[Value.cells,B8]) (by decide) (by decide) (fun g11=> ?_))
 have hA_b11:0<3→(some (⟨g11,0,none⟩:Addr))≠none:=fun _ h=>by cases h
 refine hy (fun _=>aa rfl)<|hy (fun _=>yV (fD rfl rfl (bA (by omega) (by omega))) ((show Value.int .i64 ((3:Int)*(k:Int))= .int .i64 ((3*k:Nat):Int)from rfl)))<| ?_
 refine aL (fun w m=>m.bM 0 rfl (show _=aH 5 1 (.slice (some ⟨g11,0,none⟩) 3 3) 3 (aZ [UInt8.ofNat (65+k),1,UInt8.ofNat k])from rfl)) ?_
 refine hx (cF rfl Tryz.call101 (D0 (show 3≤140737488351232 by decide) (show 3*k≤1000000 by omega) (l:=[UInt8.ofNat (65+k),1,UInt8.ofNat k])) [] rfl (.x 0 rfl .own .nil) ?_)
 rintro _ _ _ ⟨v,rfl,rfl,rfl⟩
 refine⟨rfl, ?_⟩
 refine az (fun m=>(m.own 0 rfl).slice) ?_
 rintro⟨A_x,c_x,rfl,hc_x⟩
 refine az (fun m=>(m.ord 0 rfl).2.1) fun hA_x=> ?_
 refine hy (fun _=>ab rfl)<|ai<|al (ρ' :=[(2,_),(3,_),(0,_)]) ⟨rfl,rfl,rfl,trivial⟩<|ak (X' :=[_,_]) (S' :=[]) (fun _ m=>m)<|ag<|aU<| ?_
 rw[tk hk]
 exact bc trivial rfl rfl [0] rfl [] rfl ⟨_,rfl,rfl,rfl⟩
theorem uz{z:Int}{k:Nat}(h0:-9223372036854775808≤z∧z≤9223372036854775807)(hz:fB z 6=(k:Int))(hk:k<6):cj Tryz.prog 30 [.int .i64 z] [] [fm] (fun v_ X_ S_=>v_=(.agg (aZ (bF (bo k))).toArray)∧X_=[]∧S_=[]):=by
 have h32:(aZ (bF (bo k))).length=32:=by rw[aF,bC]
 refine aO (N:=6) Tryz.func30 rfl rfl (by simp) fun b=> ?_
 refine ah<|aj<| ?_
 refine hx (aM cX (fun g2=> ?_))
 refine ai<|ak (X' :=[_]) (S' :=[_]) (fun _ m=>m)<|ag<|ah<|aj<|hy (fun _=>aa rfl)<| ?_
 refine hx (ao rfl Tryz.call27 (jY h0 hz hk) [] rfl [] rfl ?_)
 rintro _ _ _ ⟨v,rfl,rfl,rfl⟩
 refine az (fun m=>(m.own 0 rfl).slice) ?_
 rintro⟨A_x,c_x,rfl,hc_x⟩
 refine az (fun m=>(m.ord 0 rfl).2.1) fun hA_x=> ?_
 refine hx (cF rfl Tryz.call56 (oS (by omega)) [] rfl (.x 0 rfl .own .nil) ?_)
 rintro _ _ _ ⟨rfl,rfl,rfl⟩
 refine⟨rfl, ?_⟩
 refine cI (aI 1 rfl rfl rfl bn h32 aY rfl ?_)
 refine ai<|al (ρ' :=[(2,_),(0,_)]) ⟨rfl,rfl,trivial⟩<|ak (X' :=[_,_]) (S' :=[_]) (fun _ m=>m)<|ag<|aU<| ?_
 exact fC trivial rfl rfl ct bn h32 (fun m=>(m.aT 0 rfl).ay) [] rfl [] rfl ⟨rfl,rfl,rfl⟩
end Go.Proofs.YtmibdabdlgmafaaGreatDoor
end
section
set_option maxRecDepth 20000
set_option maxHeartbeats 4000000
namespace Go.Proofs.YtmibdabdlgmafaaGreatDoor
open Go.Eng Go.Hx
def others(s:List UInt8):List (List UInt8):=[[116,47,120],[99,47]++s.take 2++[47]++s.take 63,[99,47]++s,[99,47,122,122,47]++s,[99,47]++s.take 2++[47]++s++[48],[116,47]++s]
def jf(nm:List UInt8)(j:Nat):List UInt8:=(others (b9 nm)).getD j []
theorem zj{z u:Int}{k j:Nat}(h0:-9223372036854775808≤z∧z≤9223372036854775807)(hz:fB z 6=(k:Int))(hk:k<6)(h1:-9223372036854775808≤u∧u≤9223372036854775807)(hu:fB u 6=(j:Int))(hj:j<6):cj Tryz.prog 85 [.int .i64 z,.int .i64 u] [] [fm] (fun v_ X_ S_=>v_=(.string (strOf (jf (bF (bo k)) j)))∧X_=[]∧S_=[]):=by
 have hm:=bC (bo k)
 have hhl:(b9 (bF (bo k))).length=64:=by rw[dh,hm]
 refine aO (N:=34) Tryz.func85 rfl rfl (by simp) fun b=> ?_
 refine ah<|aj<|hy (fun _=>ab rfl)<|ai<|ag<|ah<|aj<|hy (fun _=>aa rfl)<| ?_
 refine hx (ao rfl Tryz.call30 (uz h0 hz hk) [] rfl [0] rfl ?_)
 rintro _ _ _ ⟨rfl,rfl,rfl⟩
 refine hx (ao rfl Tryz.call111 (rk hm) [] rfl [] rfl ?_)
 rintro _ _ _ ⟨rfl,rfl,rfl⟩
 refine hy (fun _=>ab rfl)<|ai<|al (ρ' :=[(5,_),(4,_),(0,_),(1,_)]) ⟨rfl,rfl,rfl,rfl,trivial⟩<|ak (X' :=[]) (S' :=[_]) (fun _ m=>m)<|ag<|ah<| ?_
 unfold jf
 generalize b9 (bF (bo k))=s at hhl ⊢
 have h2:(s.take 2).length=2:=by rw[List.length_take,hhl];rfl
 have h63:(s.take 63).length=63:=by rw[List.length_take,hhl];rfl
 refine oO [20,22,24] (.take 0 3<|.take 1 3<|.take 2 3<|.take 3 2<|.take 4 3<|.take 5 2<|.take 6 2<|.take 7 2<|.take 8 2<|.take 9 2<|.take 10 2<|.take 11 3<|.take 12 3<|.take 13 3<|.take 14 3<|.take 15 3<|.take 16 2<|.take 17 2<|.take 18 2<|.take 19 2<|.take 21 1<|.alt 20 (.alt 22 (.take 23 2<|.alt 24 (.take 25 3<|.done) (.stop)) (.stop)) (.alt 22 (.alt 20 (.take 23 2<|.alt 24 (.take 25 3<|.done) (.stop)) (.stop)) (.stop))) (by kernel_rfl) (by kernel_rfl) rfl 99<|bl (aa rfl)<|bl (yV (hC rfl rfl Tryz.underlying9 (show((2:Nat):Int)=2 from rfl) (show 2≤s.length by omega)) ((rfl:_=Value.string (strOf (s.take 2)))))<|bl (yV (ep rfl rfl (dS (a:=[99,47]) (b:=s.take 2) (by simp[hhl]))) ((show Value.string (strOf [99,47]++strOf (s.take 2))= .string (strOf ([99,47]++s.take 2))from congrArg Value.string (bQ _ _))))<|bl (yV (ep rfl rfl (dS (a:=[99,47]++s.take 2) (b:=[47]) (by simp[hhl]))) ((show Value.string (strOf ([99,47]++s.take 2)++strOf [47])= .string (strOf ([99,47]++s.take 2++[47]))from congrArg Value.string (bQ _ _))))<|bl (aa rfl)<|bl (yV (hC rfl rfl Tryz.underlying9 (show((63:Nat):Int)=63 from rfl) (show 63≤s.length by omega)) ((rfl:_=Value.string (strOf (s.take 63)))))<|bl (yV (ep rfl rfl (dS (a:=[99,47]++s.take 2++[47]) (b:=s.take 63) (by simp[hhl]))) ((show Value.string (strOf ([99,47]++s.take 2++[47])++strOf (s.take 63))= .string (strOf ([99,47]++s.take 2++[47]++s.take 63))from congrArg Value.string (bQ _ _))))<|bl (aa rfl)<|bl (yV (ep rfl rfl (dS (a:=[99,47]) (b:=s) (by simp[hhl]))) ((show Value.string (strOf [99,47]++strOf s)= .string (strOf ([99,47]++s))from congrArg Value.string (bQ _ _))))<|bl (aa rfl)<|bl (yV (ep rfl rfl (dS (a:=[99,47,122,122,47]) (b:=s) (by simp[hhl]))) ((show Value.string (strOf [99,47,122,122,47]++strOf s)= .string (strOf ([99,47,122,122,47]++s))from congrArg Value.string (bQ _ _))))<|bl (aa rfl)<|bl (yV (hC rfl rfl Tryz.underlying9 (show((2:Nat):Int)=2 from rfl) (show 2≤s.length by omega)) ((rfl:_=Value.string (strOf (s.take 2)))))<|bl (yV (ep rfl rfl (dS (a:=[99,47]) (b:=s.take 2) (by simp[hhl]))) ((show Value.string (strOf [99,47]++strOf (s.take 2))= .string (strOf ([99,47]++s.take 2))from congrArg Value.string (bQ _ _))))<|bl (yV (ep rfl rfl (dS (a:=[99,47]++s.take 2) (b:=[47]) (by simp[hhl]))) ((show Value.string (strOf ([99,47]++s.take 2)++strOf [47])= .string (strOf ([99,47]++s.take 2++[47]))from congrArg Value.string (bQ _ _))))<|bl (aa rfl)<|bl (yV (ep rfl rfl (dS (a:=[99,47]++s.take 2++[47]) (b:=s) (by simp[hhl]))) ((show Value.string (strOf ([99,47]++s.take 2++[47])++strOf s)= .string (strOf ([99,47]++s.take 2++[47]++s))from congrArg Value.string (bQ _ _))))<|bl (yV (ep rfl rfl (dS (a:=[99,47]++s.take 2++[47]++s) (b:=[48]) (by simp[hhl]))) ((show Value.string (strOf ([99,47]++s.take 2++[47]++s)++strOf [48])= .string (strOf ([99,47]++s.take 2++[47]++s++[48]))from congrArg Value.string (bQ _ _))))<|bl (aa rfl)<|bl (yV (ep rfl rfl (dS (a:=[116,47]) (b:=s) (by simp[hhl]))) ((show Value.string (strOf [116,47]++strOf s)= .string (strOf ([116,47]++s))from congrArg Value.string (bQ _ _))))<|bl (aa rfl)<| ?_
 refine dW ?_ ?_
 ·refine eE (b8 Tryz.underlying152 CW rfl rfl rfl (by simp[Value.cells,B8]) (by decide) (by decide) (fun g29=>⟨(fun _=>wk [] [0] rfl rfl), ?_⟩))
  have hA_b29:0<6→(some (⟨g29,0,none⟩:Addr))≠none:=fun _ h=>by cases h
  refine eE (ao rfl Tryz.call16 (lX (by omega) (by omega) (by omega)) [] rfl [] rfl ?_)
  rintro _ _ _ ⟨rfl,rfl,rfl⟩
  refine⟨(fun _=>wk [] [0] rfl rfl), ?_⟩
  rw[hu]
  refine jZ (fun w m=>m.bM 0 rfl (show _=aH 9 1 (.slice (some ⟨g29,0,none⟩) 6 6) 6 (ss (others s))from rfl)) ?_
  refine bl (aK rfl rfl Tryz.underlying152 yB hA_b29 rfl (by omega))<|eE<|mK (fun m=>ar rfl gU ((m.ord 0 rfl).cell (ph (show j<(others s).length from hj))))<|And.intro (fun _=>wk [] [0] rfl rfl)<|bl (ab rfl)<|dU<|al (ρ' :=[(4,_),(5,_),(0,_),(1,_)]) ⟨rfl,rfl,rfl,rfl,trivial⟩<|ak (X' :=[_]) (S' :=[_]) (fun _ m=>m)<|ag<|aU<| ?_
  exact bc trivial rfl rfl [] rfl [] rfl ⟨rfl,rfl,rfl⟩
 ·refine eE (ao rfl Tryz.call16 (lX (by omega) (by omega) (by omega)) [] rfl [] rfl ?_)
  rintro _ _ _ ⟨rfl,rfl,rfl⟩
  refine⟨(fun _=>wk [] [0] rfl rfl), ?_⟩
  rw[hu]
  refine eE (b8 Tryz.underlying152 CW rfl rfl rfl (by simp[Value.cells,B8]) (by decide) (by decide) (fun g29=>⟨(fun _=>wk [] [0] rfl rfl), ?_⟩))
  have hA_b29:0<6→(some (⟨g29,0,none⟩:Addr))≠none:=fun _ h=>by cases h
  refine jZ (fun w m=>m.bM 0 rfl (show _=aH 9 1 (.slice (some ⟨g29,0,none⟩) 6 6) 6 (ss (others s))from rfl)) ?_
  refine bl (aK rfl rfl Tryz.underlying152 yB hA_b29 rfl (by omega))<|eE<|mK (fun m=>ar rfl gU ((m.ord 0 rfl).cell (ph (show j<(others s).length from hj))))<|And.intro (fun _=>wk [] [0] rfl rfl)<|bl (ab rfl)<|dU<|al (ρ' :=[(4,_),(5,_),(0,_),(1,_)]) ⟨rfl,rfl,rfl,rfl,trivial⟩<|ak (X' :=[_]) (S' :=[_]) (fun _ m=>m)<|ag<|aU<| ?_
  exact bc trivial rfl rfl [] rfl [] rfl ⟨rfl,rfl,rfl⟩
end Go.Proofs.YtmibdabdlgmafaaGreatDoor
end
section
namespace Go.Proofs.YtmibdabdlgmafaaGreatDoor
open Go.Eng Go.Hx
theorem fa.names{fs:dg}{l:List FP}(h:fa fs l){ks:List (List UInt8)}(hk:ks.Perm (cq fs)):tc ks=l.map (·.1):=by
 have hle:∀a b:List UInt8,(decide (a≤b)=true)↔a≤b:=fun a b=>by simp
 have h1:(tc ks).Perm (l.map (·.1)):=(List.mergeSort_perm _ _).trans (hk.trans h.keys)
 have h2:(tc ks).Pairwise (· ≤·):=by
  have:=List.pairwise_mergeSort (le:=fun x y:List UInt8=>decide (x≤y)) (fun a b c hab hbc=>by simpa using List.le_trans (by simpa using hab) (by simpa using hbc)) (fun a b=>by simpa using List.le_total a b) ks
  exact this.imp (fun hab=>by simpa using hab)
 have h3:(l.map (·.1)).Pairwise (· ≤·):=h.ord.imp (fun hlt=>List.le_of_lt hlt)
 exact h1.eq_of_pairwise (fun a b _ _ hab hba=>List.le_antisymm hab hba) h2 h3
end Go.Proofs.YtmibdabdlgmafaaGreatDoor
end
section
set_option maxRecDepth 20000
namespace Go.Proofs.YtmibdabdlgmafaaGreatDoor
open Go.Eng Go.Hx
theorem pre_nil(l:List (List UInt8)):l.filter (pre [])=l:=List.filter_eq_self.2 (fun a _=>by simp[pre])
end Go.Proofs.YtmibdabdlgmafaaGreatDoor
end
section
set_option maxRecDepth 20000
set_option maxHeartbeats 4000000
namespace Go.Proofs.YtmibdabdlgmafaaGreatDoor
open Go.Eng Go.Hx
theorem ll{w:World}{g:Nat}{t:TypeId}{p:Value}{x:RX}(h:eU w g t (p::x.cs)):∀(j:Nat) (u:Value),x.cs[j]? =some u→w.cell? ((⟨g,0,none⟩:Addr).add 1|>.add j)=some u:=fun j u hu=>by
 rw[add_add]
 exact h.ay (1+j) u (by rw[Nat.add_comm];exact hu)
theorem zE{gw gd:Nat}{st:cH}{x:RX}{kk:Nat}(hD:DS st x.d kk)(hk:kk≤2000):cj Tryz.prog 18 [.pointer (some ⟨gw,0,none⟩)] [aG gw 41 (.pointer (some ⟨gd,0,none⟩)::x.cs),bm gd st] [cT x] (fun v_ X_ S_=>v_=(.bool true)∧X_=[aG gw 41 (.pointer (some ⟨gd,0,none⟩)::x.cs),bm gd st]∧S_=[]):=by
 have ok:=hD.ok
 have okr:=hD.so
 have hS:=hD.lR
 have hs1:=ok.seen
 have hs2:=okr.seen
 have hs3:=hS.files.tW
 have hs4:=hS.files.ka
 have hs5:=hS.waits
 have hs6:=ok.ka
 have hs7:=okr.ka
 have hs8:=hS.bS
 refine aO (N:=117) Tryz.func18 rfl rfl (by simp) fun b=> ?_
 refine bu (fun w m=>m.gX 0 rfl View.sJ) ?_
 refine ba (fun m=>ik (m.rd 0 rfl)) ?_
 rintro⟨hl_f,hA_f⟩
 refine ah<|aj<|hy (fun _=>ab rfl)<|ai<|ag<|ah<|aj<|hy (fun _=>aa rfl)<|hy (fun _=>aW rfl)<|hy (fun _=>aD rfl eZ (by decide))<|hy (fun m=>ar rfl ia (ax (m.aT 0 rfl) (i:=0) rfl))<| ?_
 refine hx (ao rfl Tryz.call86 (Bq (show st.seen.length≤100000 by omega) (p:=[])) [1] rfl [] rfl ?_)
 rintro _ _ _ ⟨v,n,ks,rfl,rfl,rfl,hp⟩
 refine az (fun m=>(m.own 1 rfl).slice) ?_
 rintro⟨A_x,c_x,rfl,hc_x⟩
 refine az (fun m=>(m.ord 1 rfl).2.1) fun hA_x=> ?_
 obtain⟨hn1,hks⟩:=hp
 rw[pre_nil]at hks
 have hnm:=hS.files.names hks
 have hkl:=hks.length_eq
 have hka:(cq st.seen).length=st.seen.length:=by simp[cq]
 rw[hnm]
 refine hy (fun _=>ab rfl)<|ai<|al (ρ' :=[(3,_),(2,_),(0,_)]) ⟨rfl,rfl,rfl,trivial⟩<|ak (X' :=[_,_,_]) (S' :=[_,_]) (fun _ m=>m)<|ag<|ah<|ah<|cK [14,28,42,47] [(0,some 4),(1,some 4),(2,some 4),(3,some 4),(4,some 4),(5,some 4),(6,some 4),(7,some 4),(8,some 4),(9,some 4),(10,some 4),(11,some 4),(12,some 4),(13,some 4),(15,some 4),(16,some 4),(17,some 4),(18,some 4),(19,some 4),(20,some 4),(14,none),(21,some 4),(22,some 1),(23,some 1),(24,some 4),(25,some 4),(26,some 1),(27,some 1),(29,some 4),(30,some 4),(31,some 4),(32,some 4),(33,some 4),(34,some 2),(28,none),(35,some 2),(36,some 2),(37,some 2),(38,some 4),(39,some 2),(40,some 2),(41,some 2),(43,some 3),(44,some 3),(45,some 3),(46,some 3),(42,none),(47,none),(48,some 4),(49,some 4)] (by kernel_rfl) (by kernel_rfl) rfl 99<|an (aa rfl)<|an (aR rfl Tryz.underlying152)<|an (aa rfl)<|an (aW rfl)<|an (aD rfl ek (by decide))<|an (aD rfl fl (by decide))<|cd (fun m=>ar rfl j1 (ax (m.aT 2 rfl) (i:=2) rfl))<|an (aR rfl Tryz.underlying36)<|an (yF (de rfl rfl) ((decide_eq_false (by omega))))<|an (aa rfl)<|bj (o:=_) rfl rfl rfl (aa rfl)<|bj (o:=_) rfl rfl rfl (aW rfl)<|bj (o:=_) rfl rfl rfl (aD rfl eZ (by decide))<|iJ (o:=_) rfl rfl rfl (fun m=>ar rfl ia (ax (m.aT 2 rfl) (i:=0) rfl))<|bj (o:=_) rfl rfl rfl (aa rfl)<|bj (o:=_) rfl rfl rfl (aW rfl)<|bj (o:=_) rfl rfl rfl (aD rfl ek (by decide))<|bj (o:=_) rfl rfl rfl (aD rfl lL (by decide))<|iJ (o:=_) rfl rfl rfl (fun m=>ar rfl AI (ax (m.aT 2 rfl) (i:=4) rfl))<|bj (o:=_) rfl rfl rfl (aR rfl Tryz.underlying37)<| ?_
 refine vu (o:=_) rfl rfl rfl (ao rfl Tryz.call60 (xu) [0] rfl [] rfl ?_)
 rintro _ _ _ ⟨rfl,rfl,rfl⟩
 refine⟨(fun _=>wk [0,0,0] [0,1] rfl rfl), ?_⟩
 refine bj (o:=_) rfl rfl rfl (yF (de rfl rfl) ((decide_eq_false (by omega))))<|an (bp rfl rfl)<|an (aa rfl)<|bj (o:=_) rfl rfl rfl (aa rfl)<|bj (o:=_) rfl rfl rfl (aW rfl)<|bj (o:=_) rfl rfl rfl (aD rfl eZ (by decide))<|iJ (o:=_) rfl rfl rfl (fun m=>ar rfl ia (ax (m.aT 2 rfl) (i:=0) rfl))<|bj (o:=_) rfl rfl rfl (aa rfl)<|bj (o:=_) rfl rfl rfl (aW rfl)<|bj (o:=_) rfl rfl rfl (aD rfl ek (by decide))<|bj (o:=_) rfl rfl rfl (aD rfl gL (by decide))<|iJ (o:=_) rfl rfl rfl (fun m=>ar rfl eY (ax (m.aT 2 rfl) (i:=5) rfl))<|bj (o:=_) rfl rfl rfl (de rfl rfl)<| ?_
 refine vu (o:=_) rfl rfl rfl (ao rfl Tryz.call87 (Ee) [0] rfl [] rfl ?_)
 rintro _ _ _ ⟨rfl,rfl,rfl⟩
 refine⟨(fun _=>wk [0,0,0] [0,1] rfl rfl), ?_⟩
 refine bj (o:=_) rfl rfl rfl (yF (DR Tryz.underlying4 rfl rfl) ((by rw[hs8];simp)))<|an (bp rfl rfl)<|an (aa rfl)<|bj (o:=_) rfl rfl rfl (aa rfl)<|bj (o:=_) rfl rfl rfl (aW rfl)<|bj (o:=_) rfl rfl rfl (aD rfl eZ (by decide))<|iJ (o:=_) rfl rfl rfl (fun m=>ar rfl ia (ax (m.aT 2 rfl) (i:=0) rfl))<|bj (o:=_) rfl rfl rfl (aa rfl)<|bj (o:=_) rfl rfl rfl (aW rfl)<|bj (o:=_) rfl rfl rfl (aD rfl ek (by decide))<|iJ (o:=_) rfl rfl rfl (fun m=>yV (aX rfl ca bf rfl (ll (m.aT 2 rfl))) ((rfl:_=Value.agg x.cs.toArray)))<| ?_
 refine vu (o:=_) rfl rfl rfl (ao rfl Tryz.call88 (Bh (by omega)) [0] rfl [] rfl ?_)
 rintro _ _ _ ⟨rfl,rfl,rfl⟩
 refine⟨(fun _=>wk [0,0,0] [0,1] rfl rfl), ?_⟩
 refine vu (o:=_) rfl rfl rfl (ao rfl Tryz.call89 (BR okr (by omega)) [] rfl [1] rfl ?_)
 rintro _ _ _ ⟨rfl,rfl,rfl⟩
 refine⟨(fun _=>wk [0,0,0] [0,1] rfl rfl), ?_⟩
 refine bj (o:=_) rfl rfl rfl (yF (de rfl rfl) ((decide_eq_false (by omega))))<|an (bp rfl rfl)<|bq<|al (ρ' :=[(63,_),(3,_),(2,_),(0,_)]) ⟨rfl,rfl,rfl,rfl,trivial⟩<|ak (X' :=[_,_,_]) (S' :=[_,_]) (fun _ m=>m)<|ag<| ?_
 refine di rfl (rfl) ?_
 refine aB<|ag<|ah<|ah<|aj<|hy (fun _=>ab rfl)<|ai<|ag<|aN<| ?_
 refine dR (fun i=>n-i) (fun i=>[(4,.int .i64 (i:Nat))]) (fun i=>[bm gd st,aH 9 1 (.slice A_x n c_x) n (ss (x.d.seen.map (·.1))),aG gw 41 (.pointer (some ⟨gd,0,none⟩)::x.cs)]) (fun i=>[]) (fun i=>i≤n) 0 [(63,_),(3,_),(0,_)] ⟨rfl,rfl,rfl,trivial⟩ [0,0,0] rfl [] rfl (Nat.zero_le _) ⟨rfl,trivial⟩ (fun i hI=> ?_)
 refine ah<|ah<|aj<|hy (fun _=>aa rfl)<|hy (fun _=>aa rfl)<|hy (fun _=>aR rfl Tryz.underlying152)<|hy (fun _=>br rfl rfl)<|ai<|al (ρ' :=[(67,_),(4,_),(63,_),(3,_),(0,_)]) ⟨rfl,rfl,rfl,rfl,rfl,trivial⟩<|ag<| ?_
 refine cL rfl (fun hlt=> ?_) (fun hlt=> ?_)
 ·have hil:i<x.d.seen.length:=by omega
  obtain⟨x0,hgx⟩:∃x0,x.d.seen[i]? =some x0:=⟨_,List.getElem?_eq_getElem hil⟩
  obtain⟨f0,f1⟩:=gQ x.d.seen i x0 hgx
  have hnmi:(ss (x.d.seen.map (·.1)))[i]? =some (SV x0.1):=by simp[ss,List.getElem?_map,hgx]
  refine aB<|ag<|ah<|aN<|ah<|ah<|cK [] [(0,some 0),(1,some 0),(2,some 0),(3,some 0),(4,some 0),(5,some 0),(6,some 0),(7,some 0),(8,some 0),(9,some 0),(10,some 0),(11,some 0),(12,some 0),(13,some 0)] (by kernel_rfl) (by kernel_rfl) rfl 99<|an (aa rfl)<|an (aa rfl)<|an (aK rfl rfl Tryz.underlying152 yB hA_x rfl (by omega))<|cd (fun m=>yV (ar rfl gU ((m.ord 1 rfl).cell hnmi)) ((rfl:_=Value.string (strOf x0.1))))<|an (aa rfl)<|an (aW rfl)<|an (aD rfl ek (by decide))<|an (aD rfl fl (by decide))<|cd (fun m=>ar rfl j1 (ax (m.aT 2 rfl) (i:=2) rfl))<|an (aa rfl)<|an (cU rfl rfl Tryz.underlying36 dZ hA_f rfl (by omega))<|an (aD rfl dB (by decide))<|cd (fun m=>yV (ar rfl gU (dm (m.rd 0 rfl) f0)) ((rfl:_=Value.string (strOf x0.1))))<|an (yF (kn rfl rfl) ((decide_eq_false (not_not_intro rfl))))<|bq<|al (ρ' :=[(83,_),(67,_),(4,_),(63,_),(3,_),(0,_)]) ⟨rfl,rfl,rfl,rfl,rfl,rfl,trivial⟩<|ag<| ?_
  refine di rfl (rfl) ?_
  refine aB<|ag<|ah<|cK [8] [(0,some 0),(1,some 0),(2,some 0),(3,some 0),(4,some 0),(5,some 0),(6,some 0),(7,some 0),(8,none),(9,some 1),(10,some 1),(11,some 1),(12,some 1),(13,some 1)] (by kernel_rfl) (by kernel_rfl) rfl 99<|an (aa rfl)<|an (aW rfl)<|an (aD rfl eZ (by decide))<|cd (fun m=>ar rfl ia (ax (m.aT 2 rfl) (i:=0) rfl))<|an (aa rfl)<|an (aa rfl)<|an (aK rfl rfl Tryz.underlying152 yB hA_x rfl (by omega))<|cd (fun m=>yV (ar rfl gU ((m.ord 1 rfl).cell hnmi)) ((rfl:_=Value.string (strOf x0.1))))<| ?_
  refine ee (ao rfl Tryz.call90 (xo hD (p:=x0.1)) [0] rfl [] rfl ?_)
  rintro _ _ _ ⟨v2,rfl,rfl,rfl⟩
  refine⟨(fun _=>wk [0,1,1] [0,1] rfl rfl), ?_⟩
  refine cf (fun m=>(m.own 1 rfl).slice) ?_
  rintro⟨A_x2,c_x2,rfl,hc_x2⟩
  refine cf (fun m=>(m.ord 1 rfl).2.1) fun hA_x2=> ?_
  refine an (aa rfl)<|an (aq rfl rfl)<|an (aq rfl rfl)<|an (ab rfl)<|an (ab rfl)<|bq<|al (ρ' :=[(6,_),(5,_),(83,_),(67,_),(4,_),(63,_),(3,_),(0,_)]) ⟨rfl,rfl,rfl,rfl,rfl,rfl,rfl,rfl,trivial⟩<|ak (X' :=[_,_,_,_]) (S' :=[_,_]) (fun _ m=>m)<|ag<|ah<|cK [8] [(0,some 0),(1,some 0),(2,some 0),(3,some 0),(4,some 0),(5,some 0),(6,some 0),(7,some 0),(8,none),(9,some 1),(10,some 1),(11,some 1),(12,some 1),(13,some 1)] (by kernel_rfl) (by kernel_rfl) rfl 99<|an (aa rfl)<|an (aW rfl)<|an (aD rfl ek (by decide))<|cd (fun m=>yV (aX rfl ca bf rfl (ll (m.aT 3 rfl))) ((rfl:_=Value.agg x.cs.toArray)))<|an (aa rfl)<|an (aa rfl)<|an (aK rfl rfl Tryz.underlying152 yB hA_x rfl (by omega))<|cd (fun m=>yV (ar rfl gU ((m.ord 2 rfl).cell hnmi)) ((rfl:_=Value.string (strOf x0.1))))<| ?_
  refine ee (ao rfl Tryz.call91 (qS okr (by omega) (p:=x0.1)) [] rfl [1] rfl ?_)
  rintro _ _ _ ⟨rfl,rfl,rfl⟩
  refine⟨(fun _=>wk [0,0,0,0] [0,1] rfl rfl), ?_⟩
  refine an (aa rfl)<|an (aq rfl rfl)<|an (aq rfl rfl)<|an (ab rfl)<|an (ab rfl)<|bq<|al (ρ' :=[(8,_),(7,_),(6,_),(5,_),(83,_),(67,_),(4,_),(63,_),(3,_),(0,_)]) ⟨rfl,rfl,rfl,rfl,rfl,rfl,rfl,rfl,rfl,rfl,trivial⟩<|ak (X' :=[_,_,_,_]) (S' :=[_,_]) (fun _ m=>m)<|ag<|ah<| ?_
  refine aj<|hy (fun _=>aa rfl)<|hy (fun _=>aa rfl)<|hy (fun _=>yF (de rfl rfl) ((decide_eq_false (not_not_intro rfl))))<|hy (fun _=>aa rfl)<|cx (o:=_) rfl rfl rfl (fun _=>aa rfl)<|cx (o:=_) rfl rfl rfl (fun m=>jq rfl Tryz.underlying27 Tryz.underlying5 Tryz.underlying9 (m.ord 1 rfl))<|cx (o:=_) rfl rfl rfl (fun _=>aa rfl)<|cx (o:=_) rfl rfl rfl (fun _=>yF (kn rfl rfl) ((decide_eq_false (not_not_intro rfl))))<|hy (fun _=>bp rfl rfl)<|ai<|al (ρ' :=[(116,_),(8,_),(7,_),(6,_),(5,_),(83,_),(67,_),(4,_),(63,_),(3,_),(0,_)]) ⟨rfl,rfl,rfl,rfl,rfl,rfl,rfl,rfl,rfl,rfl,rfl,trivial⟩<|ag<| ?_
  refine di rfl (rfl) ?_
  refine aB<|aQ<|ag<|aj<|hy (fun _=>aa rfl)<|hy (fun _=>aJ rfl rfl (bA (by omega) (by omega)))<|hy (fun _=>ab rfl)<|ai<|al (ρ' :=[(4,_),(116,_),(8,_),(7,_),(6,_),(5,_),(83,_),(67,_),(63,_),(3,_),(0,_)]) ⟨rfl,rfl,rfl,rfl,rfl,rfl,rfl,rfl,rfl,rfl,rfl,trivial⟩<| ?_
  refine cZ (i+1) ⟨rfl,rfl,rfl,rfl,trivial⟩ [0,1,1] rfl [0,1] rfl (by omega) (by omega)
 ·refine bP<|au<|au<|aC<|ag<|ah<|aj<|hy (fun _=>ab rfl)<|ai<|ag<|aU<| ?_
  exact bc trivial rfl rfl [2,0] rfl [] rfl ⟨rfl,rfl,rfl⟩
end Go.Proofs.YtmibdabdlgmafaaGreatDoor
end
section
set_option maxRecDepth 20000
set_option maxHeartbeats 4000000
namespace Go.Proofs.YtmibdabdlgmafaaGreatDoor
open Go.Eng Go.Hx
theorem kS{p:Value}{x y:RX}:cE (p::x.cs) 1 y.cs=p::y.cs:=rfl
theorem pe{gw gd:Nat}{st:cH}{x:RX}{kk:Nat}{p:List UInt8}{A:Option Addr}{n c:Nat}{l:List UInt8}(hD:DS st x.d kk)(hkk:kk≤90000)(hpl:p.length≤1000000)(hc:n≤c)(hl:l.length=n)(hn:n≤1000000):cj Tryz.prog 80 [.pointer (some ⟨gw,0,none⟩),.string (strOf p),.slice A n c] [aG gw 41 (.pointer (some ⟨gd,0,none⟩)::x.cs),bm gd st] [cT x,dr 1 A n (aZ l)] (fun v_ X_ S_=>∃st1 y,v_=(.bool true)∧X_=[aG gw 41 (.pointer (some ⟨gd,0,none⟩)::y.cs),bm gd st1]∧S_=[cT y]∧(y.d=x.d.write p l∧DS st1 y.d (kk+1))):=by
 have hDo:x.d.ok kk:=⟨st,hD⟩
 refine aO (N:=33) Tryz.func80 rfl rfl (by simp) fun b=> ?_
 refine ba (fun m=>gK (m.rd 1 rfl)) ?_
 rintro⟨hl_rb,hA_rb⟩
 refine ah<|aj<|hy (fun _=>ab rfl)<|ai<|ag<|ah<| ?_
 refine rm (fun(y:RX) (g7:Nat)=>[(7,.pointer (some ⟨g7,0,none⟩)),(8,.int .i64 (x.d.bH p l))]) (fun(y:RX) (g7:Nat)=>[aG g7 39 y.cs]) (fun(y:RX) (g7:Nat)=>[cT y]) (fun(y:RX) (g7:Nat)=>y.d=x.d.write p l) [(6,_),(0,_),(1,_),(2,_)] ⟨rfl,rfl,rfl,rfl,trivial⟩ [] rfl ?_ (fun y g7 hyw=> ?_)
 ·refine oO [7,11,12] (.take 0 2<|.take 1 2<|.take 2 2<|.take 3 2<|.take 4 2<|.take 5 2<|.take 6 2<|.alt 7 (.take 8 2<|.take 9 2<|.take 10 3<|.alt 11 (.alt 12 (.take 13 3<|.done) (.stop)) (.stop)) (.alt 11 (.alt 7 (.take 8 2<|.take 9 2<|.take 10 3<|.alt 12 (.take 13 3<|.done) (.stop)) (.stop)) (.stop))) (by kernel_rfl) (by kernel_rfl) rfl 2<|bl (aa rfl)<|bl (aW rfl)<|bl (aD rfl ek (by decide))<|y5 (fun m=>yV (aX rfl ca bf rfl (ll (m.aT 0 rfl))) ((rfl:_=Value.agg x.cs.toArray)))<|bl (aa rfl)<|bl (aa rfl)<|y5 (fun m=>jq rfl Tryz.underlying27 Tryz.underlying5 Tryz.underlying9 (m.rd 1 rfl))<| ?_
  refine dW ?_ ?_
  ·refine eE (ao rfl Tryz.call31 (qY hDo.so (by omega) hpl (by omega) (p:=p) (bb:=l)) [] rfl [0] rfl ?_)
   rintro _ _ _ ⟨y,rfl,rfl,rfl,hyw⟩
   refine⟨(fun _=>wk [0,0] [1,2] rfl rfl), ?_⟩
   refine bl (aa rfl)<|bl (aq rfl rfl)<|bl (aq rfl rfl)<| ?_
   refine eE (aM fN (fun g7=>⟨(fun _=>wk [1,1] [1,2] rfl rfl), ?_⟩))
   refine dT (aI 0 rfl rfl rfl bf rfl bK rfl ⟨(fun h=>absurd h (by decide)), ?_⟩)
   refine bl (ab rfl)<|dU<|al (ρ' :=[(8,_),(7,_),(6,_),(0,_),(1,_),(2,_)]) ⟨rfl,rfl,rfl,rfl,rfl,rfl,trivial⟩<|ak (X' :=[_,_,_]) (S' :=[_,_,_]) (fun _ m=>m)<| ?_
   exact gk (R:=fun(y:RX) (g7:Nat)=>[(7,.pointer (some ⟨g7,0,none⟩)),(8,.int .i64 (x.d.bH p l))]) (X1:=fun(y:RX) (g7:Nat)=>[aG g7 39 y.cs]) (S1:=fun(y:RX) (g7:Nat)=>[cT y]) (I:=fun(y:RX) (g7:Nat)=>y.d=x.d.write p l) y g7 ⟨rfl,rfl,rfl,rfl,rfl,rfl,trivial⟩ [0,0,0] rfl [0,1,2] rfl hyw
  ·refine eE (aM fN (fun g7=>⟨(fun _=>wk [1,1] [0,1] rfl rfl), ?_⟩))
   refine eE (ao rfl Tryz.call31 (qY hDo.so (by omega) hpl (by omega) (p:=p) (bb:=l)) [] rfl [0] rfl ?_)
   rintro _ _ _ ⟨y,rfl,rfl,rfl,hyw⟩
   refine⟨(fun _=>wk [1,1] [1,2] rfl rfl), ?_⟩
   refine bl (aa rfl)<|bl (aq rfl rfl)<|bl (aq rfl rfl)<| ?_
   refine dT (aI 0 rfl rfl rfl bf rfl bK rfl ⟨(fun h=>absurd h (by decide)), ?_⟩)
   refine bl (ab rfl)<|dU<|al (ρ' :=[(8,_),(7,_),(6,_),(0,_),(1,_),(2,_)]) ⟨rfl,rfl,rfl,rfl,rfl,rfl,trivial⟩<|ak (X' :=[_,_,_]) (S' :=[_,_,_]) (fun _ m=>m)<| ?_
   exact gk (R:=fun(y:RX) (g7:Nat)=>[(7,.pointer (some ⟨g7,0,none⟩)),(8,.int .i64 (x.d.bH p l))]) (X1:=fun(y:RX) (g7:Nat)=>[aG g7 39 y.cs]) (S1:=fun(y:RX) (g7:Nat)=>[cT y]) (I:=fun(y:RX) (g7:Nat)=>y.d=x.d.write p l) y g7 ⟨rfl,rfl,rfl,rfl,rfl,rfl,trivial⟩ [0,0,0] rfl [0,1,2] rfl hyw
 ·refine ag<|ah<|aj<|hy (fun _=>aa rfl)<|hy (fun m=>yV (aX rfl ca bf rfl ((m.aT 0 rfl).ay)) ((rfl:_=Value.agg y.cs.toArray)))<|hy (fun _=>aW rfl)<|hy (fun _=>aD rfl ek (by decide))<| ?_
  refine cI (jG 1 rfl rfl rfl bf rfl bK (show 6≤6 from Nat.le_refl 6) ?_)
  refine aL (fun w m=>m.bM 0 rfl (show _=aG gw 41 (.pointer (some ⟨gd,0,none⟩)::y.cs)from congrArg (aG _ _) kS)) ?_
  refine ai<|al (ρ' :=[(7,_),(8,_),(6,_),(0,_),(1,_),(2,_)]) ⟨rfl,rfl,rfl,rfl,rfl,rfl,trivial⟩<|ak (X' :=[_,_,_]) (S' :=[_,_,_]) (fun _ m=>m)<|ag<|ah<|aj<|hy (fun _=>aa rfl)<|hy (fun _=>aW rfl)<|hy (fun _=>aD rfl eZ (by decide))<|hy (fun m=>ar rfl ia (ax (m.aT 0 rfl) (i:=0) rfl))<|hy (fun _=>aa rfl)<|hy (fun _=>aa rfl)<| ?_
  refine hx (ao rfl Tryz.call33 (uS hD (by omega) hl (by omega) (p:=p)) [2] rfl [2] rfl ?_)
  rintro _ _ _ ⟨st1,rfl,rfl,rfl,hD1⟩
  refine hy (fun _=>aa rfl)<|hy (fun _=>yT (b7 rfl rfl) ((decide_eq_true rfl)))<|hy (fun _=>ab rfl)<|ai<|al (ρ' :=[(6,_),(7,_),(8,_),(0,_),(1,_),(2,_)]) ⟨rfl,rfl,rfl,rfl,rfl,rfl,trivial⟩<|ak (X' :=[_,_,_]) (S' :=[_,_,_]) (fun _ m=>m)<|ag<|aU<| ?_
  exact bc trivial rfl rfl [1,0] rfl [0] rfl ⟨st1,y,rfl,rfl,rfl,⟨hyw,by rw[hyw];exact hD1⟩⟩
end Go.Proofs.YtmibdabdlgmafaaGreatDoor
end
section
namespace Go.Proofs.YtmibdabdlgmafaaGreatDoor
open Go.Eng Go.Hx
def zI(d:RD):Nat:=(d.waits.filter fun c=>decide (c.1≠2)).length
structure Bd(d:RD)(B W:Nat):Prop where
 sn:d.seen.length≤B
 la:d.b4.length+zI d≤B
 wt:d.waits.length≤W
 nS:∀y∈d.seen,y.1.length≤1000
 nL:∀y∈d.b4,y.1.length≤1000
 nW:∀c∈d.waits,(c.1=0→c.2.1.length≤1000)∧c.2.2.1.length≤1000
theorem Bd.le{d:RD}{B W B' W' :Nat}(h:Bd d B W)(hB:B≤B')(hW:W≤W'):Bd d B' W' :=⟨Nat.le_trans h.sn hB,Nat.le_trans h.la hB,Nat.le_trans h.wt hW,h.nS,h.nL,h.nW⟩
theorem Bd.new(room:Int):Bd (RD.new room) 0 0:=⟨Nat.le_refl _,Nat.le_refl _,Nat.le_refl _,fun y h=>(List.not_mem_nil h).elim,fun y h=>(List.not_mem_nil h).elim,fun y h=>(List.not_mem_nil h).elim⟩
theorem od:∀(l:List FP) (x:FP),(gZ l x).length≤l.length+1
 | [],x=>Nat.le_refl _
 |a::r,x=>by
  unfold gZ
  have:=od r x
  split
  ·simp only[List.length_cons];omega
  ·rw[List.length_cons];exact Nat.succ_le_succ (List.length_filter_le _ _)
theorem ta(l:List FP)(x:FP):(gG l x).length≤l.length+1:=by
 rw[jl]
 exact od l x
theorem vg{l:List FP}{p b:List UInt8}(h:∀y∈l,y.1.length≤1000)(hp:p.length≤1000):∀y∈gG l (p,b),y.1.length≤1000:=by
 intro y hy
 rw[jl]at hy
 rcases ve hy with rfl|hy
 ·exact hp
 ·exact h y hy
theorem qF{l:List FP}{k:Int}{p t b:List UInt8}(h:∀y∈l,y.1.length≤1000)(hp:k=0→p.length≤1000)(ht:t.length≤1000):∀y∈cY l k p t b,y.1.length≤1000:=by
 unfold cY
 split
 ·exact vg h (hp (by assumption))
 ·split
  ·exact h
  ·split
   ·exact fun y hy=>h y (List.mem_filter.1 hy).1
   ·exact vg (fun y hy=>h y (List.mem_filter.1 hy).1) ht
theorem oE{l:List FP}{k:Int}{p t b:List UInt8}:(cY l k p t b).length≤l.length+(if k≠2 then 1 else 0):=by
 by_cases h0:k=0
 ·rw[cY,if_pos h0,if_pos (by rw[h0];decide)];exact ta _ _
 ·rw[cY,if_neg h0]
  cases hq:l[cS l p]? with
  |none=>exact Nat.le_add_right _ _
  |some x=>
   by_cases h2:k=2
   ·simp only[if_pos h2]
    exact Nat.le_trans (List.length_filter_le _ _) (Nat.le_add_right _ _)
   ·simp only[if_neg h2]
    rw[if_pos h2]
    exact Nat.le_trans (ta _ _) (Nat.succ_le_succ (List.length_filter_le _ _))
theorem Bd.gi{d:RD}{B W:Nat}(h:Bd d B W){k:Int}{p t b:List UInt8}(hp:k=0→p.length≤1000)(ht:t.length≤1000):Bd (d.gi k p t b) (B+(if k≠2 then 1 else 0)) (W+1):=by
 have h1:=h.sn
 have h2:=h.la
 have h3:=h.wt
 refine⟨Nat.le_trans oE (Nat.add_le_add_right h1 _), ?_, ?_,qF h.nS hp ht,h.nL,fun c hc=> ?_⟩
 ·have:zI (d.gi k p t b)=zI d+(if k≠2 then 1 else 0):=by
   show((d.waits++[(k,p,t,b)]).filter _).length=_
   rw[List.filter_append,List.length_append]
   congr 1
   by_cases hk:k=2
   ·simp[hk]
   ·simp[hk]
  rw[this]
  show d.b4.length+_≤_
  omega
 ·show(d.waits++[_]).length≤_
  rw[List.length_append]
  exact Nat.add_le_add_right h3 1
 ·rcases List.mem_append.1 hc with hc|hc
  ·exact h.nW c hc
  ·rw[List.mem_singleton.1 hc];exact⟨hp,ht⟩
theorem Bd.write{d:RD}{B W:Nat}(h:Bd d B W){p l:List UInt8}(hp:p.length≤1000):Bd (d.write p l) (B+1) (W+1):=by
 unfold RD.write
 split
 ·exact h.gi (fun _=>hp) (by decide)
 ·exact h.le (by omega) (by omega)
theorem Bd.rename{d:RD}{B W:Nat}(h:Bd d B W){a c:List UInt8}(hc:c.length≤1000):Bd (d.rename a c) (B+1) (W+1):=by
 unfold RD.rename
 split
 ·exact h.gi (fun e=>absurd e (by decide)) hc
 ·exact h.le (by omega) (by omega)
theorem Bd.remove{d:RD}{B W:Nat}(h:Bd d B W){p:List UInt8}:Bd (d.remove p) B (W+1):=by
 unfold RD.remove
 split
 ·exact h.gi (fun e=>absurd e (by decide)) (by decide)
 ·exact h.le (by omega) (by omega)
theorem Bd.sync{d:RD}{B W:Nat}(h:Bd d B W):Bd d.sync B W:=by
 unfold RD.sync
 split
 ·exact h
 ·exact⟨h.sn,h.sn,Nat.zero_le _,h.nS,h.nS,fun c hc=>(List.not_mem_nil hc).elim⟩
theorem Bd.bS{d:RD}{B W:Nat}(h:Bd d B W){n:Int}:Bd (d.bS n) B W:=⟨h.sn,h.la,h.wt,h.nS,h.nL,h.nW⟩
theorem vd:∀(cs:List RC) (ks:List Bool) (l:List FP),(∀y∈l,y.1.length≤1000)→(∀c∈cs,(c.1=0→c.2.1.length≤1000)∧c.2.2.1.length≤1000)→
  (∀y∈(cs.foldl fF (ks,l)).2,y.1.length≤1000)∧(cs.foldl fF (ks,l)).2.length≤l.length+(cs.filter fun c=>decide (c.1≠2)).length
 | [],ks,l,h,_=>⟨h,Nat.le_refl _⟩
 |c::cs,ks,l,h,hc=>by
  have hc0:=hc c (List.mem_cons_self ..)
  have hk:∃ks1 l1,fF (ks,l) c=(ks1,l1)∧(∀y∈l1,y.1.length≤1000)∧l1.length≤l.length+(if c.1≠2 then 1 else 0):=by
   unfold fF
   split
   ·split
    ·exact⟨_,_,rfl,qF h hc0.1 hc0.2,oE⟩
    ·exact⟨_,_,rfl,qF h hc0.1 hc0.2,oE⟩
   ·exact⟨_,_,rfl,h,Nat.le_add_right _ _⟩
  obtain⟨ks1,l1,e,h1,h2⟩:=hk
  have ih:=vd cs ks1 l1 h1 (fun c hc' =>hc c (List.mem_cons_of_mem _ hc'))
  rw[List.foldl_cons,e]
  refine⟨ih.1,Nat.le_trans ih.2 ?_⟩
  rw[List.filter_cons]
  by_cases hk:c.1=2
  ·rw[if_neg (by simp[hk])]at h2
   rw[if_neg (by simp[hk])]
   omega
  ·rw[if_pos hk]at h2
   rw[if_pos (by simp[hk]),List.length_cons]
   omega
theorem Bd.ic{d:RD}{B W:Nat}(h:Bd d B W)(keep:List Bool):Bd (d.ic keep) B W:=by
 obtain⟨h1,h2⟩:=vd d.waits keep d.b4 h.nL h.nW
 have e:(dfold keep d d.waits.length).2=(d.waits.foldl fF (keep,d.b4)).2:=by unfold dfold;rw[List.take_length]
 have hl:=h.la
 unfold zI at hl
 unfold RD.ic
 rw[e]
 exact⟨Nat.le_trans h2 hl,Nat.le_trans (show _+0≤_ from h2) hl,Nat.zero_le _,h1,h1,fun c hc=>(List.not_mem_nil hc).elim⟩
theorem Bd.dK(a:Nat):∀(Fs:List (RD→RD×Int)) {d:RD} {B W:Nat},(∀F∈Fs,∀d B W,Bd d B W→Bd (F d).1 (B+a) (W+1))→Bd d B W→Bd (dK Fs d).1 (B+a*Fs.length) (W+Fs.length)
 | [],d,B,W,_,h=>h
 |F::r,d,B,W,hF,h=>by
  have h1:=hF F (List.mem_cons_self ..) d B W h
  rw[Go.Proofs.YtmibdabdlgmafaaGreatDoor.dK]
  split
  ·refine h1.le ?_ (by rw[List.length_cons];omega)
   rw[List.length_cons,Nat.mul_succ];omega
  ·refine(Bd.dK a r (fun G hG=>hF G (List.mem_cons_of_mem _ hG)) h1).le ?_ (by rw[List.length_cons];omega)
   rw[List.length_cons,Nat.mul_succ];omega
theorem Bd.put{d:RD}{B W:Nat}(h:Bd d B W)(bb:List UInt8):Bd (d.put bb).1 (B+4) (W+4):=by
 have hm:=bC bb
 have hR:Bd (d.iO bb).1 (B+4) (W+4):=Bd.dK 1 (ur (bV (bF bb)) bb (bF bb)) (fun F hF d B W h=>by
  simp only[List.mem_cons,List.not_mem_nil,or_false]at hF
  rcases hF with rfl|rfl|rfl|rfl
  ·exact h.write (by rw[jb hm];decide)
  ·exact h.sync.le (by omega) (by omega)
  ·exact h.rename (by rw[eh hm];decide)
  ·exact h.sync.le (by omega) (by omega)) h
 unfold RD.put
 split
 ·exact h.le (by omega) (by omega)
 ·split
  ·exact h.le (by omega) (by omega)
  ·split
   ·exact h.le (by omega) (by omega)
   ·exact hR
theorem Bd.clean{d:RD}{B W:Nat}(h:Bd d B W):Bd d.clean.1 B (W+B+1):=by
 unfold RD.clean
 split
 ·exact h.le (by omega) (by omega)
 ·have hn:(dP d jt).length≤B:=Nat.le_trans (List.length_filter_le _ _) (by rw[List.length_map];exact h.sn)
  refine(Bd.dK 0 ((dP d jt).map fA++[fq]) (fun F hF d B W h=> ?_) h).le (by omega) (by rw[List.length_append,List.length_map];simp only[List.length_cons,List.length_nil];omega)
  rcases List.mem_append.1 hF with hF|hF
  ·obtain⟨p,_,rfl⟩:=List.mem_map.1 hF
   exact h.remove
  ·rw[List.mem_singleton.1 hF];exact h.sync.le (by omega) (by omega)
theorem DS.tight{st:cH}{d:RD}{k B W:Nat}(h:DS st d k)(hb:Bd d B W):DS st d (B+W):=by
 have h1:=h.lR.files.tW
 have h2:=h.b4.tW
 have h3:=h.lR.waits
 have h4:=hb.sn
 have h5:=hb.la
 have h6:=hb.wt
 exact⟨h.lR,⟨h.ok.bS,h.ok.room,by omega,by omega,h.ok.small⟩,h.low,h.b4,h.waits,h.vZ⟩
end Go.Proofs.YtmibdabdlgmafaaGreatDoor
end
section
set_option maxRecDepth 20000
namespace Go.Proofs.YtmibdabdlgmafaaGreatDoor
open Go.Eng Go.Hx
theorem tt{P:Program}{e:TypeId}(he:P.underlying e=some .bool):∀{n:Nat} {ys:List Cell},ys.length=n→(∀i,i<n→Ty P e ((ys.drop i).take 1))→∃l:List Bool,ys.map Cell.val=fR l∧l.length=n:=by
 intro n ys hl h
 refine⟨ys.map fun y=>match y.val with| .bool z=>z|_=>false, ?_,by simpa using hl⟩
 apply List.ext_getElem?
 intro i
 simp only[fR,List.map_map,List.getElem?_map]
 by_cases hi:i<n
 ·obtain⟨c,hc⟩:=zq he (h i hi)
  have h2:((ys.drop i).take 1)[0]? =some (.v (.bool c)):=by rw[hc];rfl
  rw[List.getElem?_take,if_pos (by omega),List.getElem?_drop,Nat.add_zero]at h2
  rw[h2]
  simp[Cell.val]
 ·rw[List.getElem?_eq_none (by omega)]
  rfl
theorem wC{xs:List Cell}(h:Ty Tryz.prog 28 xs):∃A n c ys l,xs=[.s 1 A n c ys]∧n≤c∧n≤140737488351232∧ys.map Cell.val=fR l∧l.length=n:=by
 obtain⟨A,n,c,ys,rfl,h1,h2,h3,h4⟩:=kv Tryz.underlying28 h
 have c1:Tryz.prog.cellsOf 4=1:=by kernel_rfl
 have b1:Tryz.prog.bytesOf 4=1:=by kernel_rfl
 rw[c1]at h3 h4 ⊢
 rw[b1]at h2
 obtain⟨l,h5,h6⟩:=tt Tryz.underlying4 (by omega:ys.length=n) (fun i hi=>by have:=h4 i hi;rwa [Nat.mul_one]at this)
 exact⟨A,n,c,ys,l,rfl,h1,by omega,h5,h6⟩
end Go.Proofs.YtmibdabdlgmafaaGreatDoor
end
section
namespace Go.Proofs.YtmibdabdlgmafaaGreatDoor
open Go.Eng Go.Hx
theorem sG:∀{a b:List UInt8},a<b→cb a b<0
 | [],[],h=>absurd h (List.lt_irrefl _)
 | [],y::s,_=>by show(-1:Int)<0;decide
 |x::r,[],h=>absurd h (List.not_lt_nil _)
 |x::r,y::s,h=>by
  rw[List.cons_lt_cons_iff]at h
  rw[k5]
  rcases h with h|⟨rfl,h⟩
  ·rw[if_pos h];decide
  ·rw[if_neg (UInt8.lt_irrefl _),if_neg (UInt8.lt_irrefl _)]
   exact sG h
theorem xi{a b:List UInt8}(ha:a.length=32)(hb:b.length=32)(h:bd a<bd b):cb a b<0:=by
 have fo:∀{n:List UInt8},n.length=32→∃x y r,b9 n=x::y::r∧bd n=99::47::x::y::47::b9 n:=fun{n} hn=>by
  have h64:(b9 n).length=64:=by rw[dh,hn]
  match hq:b9 n with
  | []=>rw[hq]at h64;cases h64
  | [_]=>rw[hq]at h64;cases h64
  |x::y::r=>exact⟨x,y,r,rfl,by unfold bd;rw[hq];rfl⟩
 obtain⟨x,y,r,h1,h2⟩:=fo ha
 obtain⟨x',y',r',h3,h4⟩:=fo hb
 rw[h2,h4]at h
 rw[←uT]
 apply sG
 simp only[List.cons_lt_cons_iff,UInt8.lt_irrefl,false_or,true_and]at h
 rw[h1,h3]at h ⊢
 simp only[List.cons_lt_cons_iff]at h ⊢
 rcases h with h|⟨rfl,h⟩
 ·exact .inl h
 ·rcases h with h|⟨rfl,h⟩
  ·exact .inr ⟨rfl,.inl h⟩
  ·exact h
theorem mT:∀(l acc:List (List UInt8)),l.Pairwise (· <·)→(∀a∈acc,∀p∈l,∀nm,j2 p=some nm→cb a nm<0)→l.foldl kG acc=acc++l.filterMap j2
 | [],acc,_,_=>by simp
 |p::r,acc,hs,hA=>by
  rw[List.pairwise_cons]at hs
  rw[List.foldl_cons,List.filterMap_cons]
  cases hq:j2 p with
  |none=>
   have:kG acc p=acc:=by unfold kG;rw[hq]
   rw[this]
   exact mT r acc hs.2 (fun a ha q hq2 nm h=>hA a ha q (List.mem_cons_of_mem _ hq2) nm h)
  |some nm=>
   have hp:nm.length=32∧p=bd nm:=by
    rw[←ko]at hq
    exact eJ hq
   have hd:kG acc p=acc++[nm]:=by
    unfold kG
    rw[hq]
    have:=nU acc nm acc.length (Nat.le_refl _) (fun i hi=>by
     rw[List.getD,List.getElem?_eq_getElem hi]
     exact hA _ (List.getElem_mem hi) p (List.mem_cons_self ..) nm hq) (fun h=>absurd h (Nat.lt_irrefl _))
    rw[if_neg (fun h=>absurd h.1 (Nat.lt_irrefl _)),List.take_length,List.drop_length,List.append_nil]at this
    exact this
   rw[hd,mT r (acc++[nm]) hs.2 (fun a ha q hq2 nm2 h=>by
    rcases List.mem_append.1 ha with ha|ha
    ·exact hA a ha q (List.mem_cons_of_mem _ hq2) nm2 h
    ·rw[List.mem_singleton.1 ha]
     have hp2:nm2.length=32∧q=bd nm2:=by
      rw[←ko]at h
      exact eJ h
     refine xi hp.1 hp2.1 ?_
     rw[←hp.2,←hp2.2]
     exact hs.1 q hq2)]
   simp
theorem tI{d:RD}(h:pK d.seen):cQ d d.seen.length=gr d:=by
 unfold cQ gr
 rw[List.take_length,mT _ _ h (fun a ha=>(List.not_mem_nil ha).elim)]
 rfl
end Go.Proofs.YtmibdabdlgmafaaGreatDoor
end
section
set_option maxRecDepth 20000
namespace Go.Proofs.YtmibdabdlgmafaaGreatDoor
open Go.Eng Go.Hx
theorem oF(d:RD):y6 (gr d):=fun x hx=>by
 obtain⟨p,_,h⟩:=List.mem_filterMap.1 hx
 rw[←ko]at h
 exact(eJ h).1
end Go.Proofs.YtmibdabdlgmafaaGreatDoor
end
section
set_option maxRecDepth 20000
set_option maxHeartbeats 4000000
namespace Go.Proofs.YtmibdabdlgmafaaGreatDoor
open Go.Eng Go.Hx
theorem tK(d:RD):(gr d).length≤d.seen.length:=by
 unfold gr
 have:=List.length_filterMap_le j2 (d.seen.map (·.1))
 rwa [List.length_map]at this
end Go.Proofs.YtmibdabdlgmafaaGreatDoor
end
section
set_option maxRecDepth 20000
set_option maxHeartbeats 4000000
namespace Go.Proofs.YtmibdabdlgmafaaGreatDoor
open Go.Eng Go.Hx
theorem zC{P:Program}{pl:Nat→Option (Nat×Nat)}{A:Option Addr}{x:RX}{zs:List Value}(hz:zs.length=6)(p0:pl 0=some (0,1))(p1:pl 1=some (1,5)):
  y8 P pl zs [(0,.pointer A),(1,.agg x.cs.toArray)] (.pointer A::x.cs):=by
 match zs,hz with
 | [_,_,_,_,_,_],_=>exact .cons (vs:=[.pointer A]) p0 rfl rfl (by show 0+1≤6;decide) (.cons (vs:=x.cs) p1 rfl rfl (by show 1+5≤6;decide) .nil)
theorem sT{room:Int}(h1:1≤room)(h2:room≤1048576):cj Tryz.prog 15 [.int .i64 room] [] [] (fun v_ X_ S_=>∃gw gd gs gl y,v_=(.pointer (some ⟨gw,0,none⟩))∧X_=[aG gw 41 (.pointer (some ⟨gd,0,none⟩)::y.cs),bm gd (j9 room gs gl)]∧S_=[cT y]∧(y.d=RD.new room)):=by
 refine aO (N:=21) Tryz.func15 rfl rfl (by simp) fun b=> ?_
 refine ah<|aj<|hy (fun _=>ab rfl)<|ai<|ag<|ah<|aj<|hy (fun _=>aa rfl)<| ?_
 refine hx (ao rfl Tryz.call24 (Eu h1 h2) [] rfl [] rfl ?_)
 rintro _ _ _ ⟨g,gs,gl,rfl,rfl,rfl⟩
 refine hy (fun _=>aa rfl)<|hy (fun _=>aq rfl rfl)<|hy (fun _=>aq rfl rfl)<|hy (fun _=>ab rfl)<|hy (fun _=>ab rfl)<|ai<|al (ρ' :=[(4,_),(3,_),(2,_),(0,_)]) ⟨rfl,rfl,rfl,rfl,trivial⟩<|ak (X' :=[_]) (S' :=[]) (fun _ m=>m)<|ag<|ah<|ah<|aj<|hy (fun _=>aa rfl)<|hy (fun _=>tV rfl rfl (by kernel_rfl))<|hy (fun _=>aa rfl)<| ?_
 refine cx (o:=_) rfl rfl rfl (fun _=>aa rfl)<|cx (o:=_) rfl rfl rfl (fun _=>de rfl rfl)<|hy (fun _=>bp rfl rfl)<|ai<|al (ρ' :=[(15,_),(4,_),(3,_),(2,_),(0,_)]) ⟨rfl,rfl,rfl,rfl,rfl,trivial⟩<|ag<| ?_
 refine di rfl ((by decide)) ?_
 refine aB<|ag<|ah<|aj<|hy (fun _=>aa rfl)<|hy (fun _=>aa rfl)<| ?_
 refine hx (ao rfl Tryz.call25 (D6) [] rfl [] rfl ?_)
 rintro _ _ _ ⟨y,rfl,rfl,rfl,hy1⟩
 refine hy (fun _=>cM EA rfl rfl (by kernel_rfl) (zC rfl CB CA))<| ?_
 refine hx (cz rfl (fun g20=> ?_))
 refine aL (fun w m=>m.bM 0 rfl (show _=aG g20 41 (.pointer (some ⟨g,0,none⟩)::y.cs)from congrArg (aG _ _) (bG _))) ?_
 refine hy (fun _=>ab rfl)<|ai<|al (ρ' :=[(2,_),(15,_),(4,_),(3,_),(0,_)]) ⟨rfl,rfl,rfl,rfl,rfl,trivial⟩<|ak (X' :=[_,_]) (S' :=[_]) (fun _ m=>m)<|ag<|aU<| ?_
 exact bc trivial rfl rfl [0,0] rfl [0] rfl ⟨g20,g,gs,gl,y,rfl,rfl,rfl,hy1⟩
def lP:List UInt8:=[104,101,108,108,111]
theorem rK:cj Tryz.prog 22 [] [] [fm] (fun v_ X_ S_=>v_=(.bool true)∧X_=[]∧S_=[]):=by
 obtain⟨h10,hsl⟩:=kj lP
 have hhl:lP.length=5:=rfl
 obtain⟨d',e1,hd⟩:=(SD.new 1000).put (b:=lP) (by decide) rfl (by omega)
 have h32:(aZ (bF lP)).length=32:=by rw[aF,bC]
 obtain⟨g1_,g2_⟩:=get_at hd.at_ (b:=lP) (by decide) (tl _ _)
 generalize hnm:bF lP=nm at h32 g1_ g2_ e1
 have hm:nm.length=32:=by rw[←hnm,bC]
 refine aO (N:=60) Tryz.func22 rfl rfl (by simp) fun b=> ?_
 refine ah<|aj<|hy (fun _=>ab rfl)<|ai<|ag<|ah<|aj<| ?_
 refine hx (ao rfl Tryz.call15 (sT (by decide) (by decide)) [] rfl [] rfl ?_)
 rintro _ _ _ ⟨gw,gd,gs,gl,y,rfl,rfl,rfl,hp⟩
 refine hy (fun _=>ab rfl)<|ai<|al (ρ' :=[(1,_),(0,_)]) ⟨rfl,rfl,trivial⟩<|ak (X' :=[_,_]) (S' :=[_,_]) (fun _ m=>m)<|ag<|ah<|ah<|aj<|hy (fun _=>aa rfl)<|hy (fun _=>tV rfl rfl (by kernel_rfl))<|ai<|al (ρ' :=[(9,_),(1,_),(0,_)]) ⟨rfl,rfl,rfl,trivial⟩<|ag<| ?_
 refine di rfl (rfl) ?_
 have hD0:DS (j9 1000 gs gl) (RD.new 1000) 0:=DS.init (by decide)
 refine aB<|ag<|ah<|aj<|hy (fun _=>aa rfl)<|hy (fun _=>aW rfl)<|hy (fun _=>aD rfl eZ (by decide))<|hy (fun m=>ar rfl ia (ax (m.aT 0 rfl) (i:=0) rfl))<| ?_
 refine hx (b8 Tryz.underlying27 eO rfl rfl rfl (by simp[Value.cells,B8]) (by decide) (by decide) (fun g15=> ?_))
 have hA_b15:0<5→(some (⟨g15,0,none⟩:Addr))≠none:=fun _ h=>by cases h
 refine hx (wW 0 rfl rfl Tryz.underlying27 Tryz.underlying5 ?_)
 refine aL (fun w m=>m.bM 0 rfl (show _=aH 5 1 (.slice (some ⟨g15,0,none⟩) 5 5) 5 (aZ lP)from rfl)) ?_
 refine hx (cF rfl Tryz.call28 (uv hD0 (by decide) (Nat.le_refl 5) hhl (show 5≤100000 by decide)) [2] rfl (.x 0 rfl .own (.s 1 rfl .nil)) ?_)
 rintro _ _ _ ⟨st1,rfl,rfl,rfl,hD1⟩
 refine⟨rfl, ?_⟩
 rw[e1]
 rw[e1]at hD1
 refine hy (fun _=>aa rfl)<|hy (fun _=>aq rfl rfl)<|hy (fun _=>aq rfl rfl)<| ?_
 refine hx (aM cX (fun g2=> ?_))
 refine cI (aI 0 rfl rfl rfl bn h32 aY rfl ?_)
 refine hy (fun _=>ab rfl)<|ai<|al (ρ' :=[(3,_),(2,_),(9,_),(1,_),(0,_)]) ⟨rfl,rfl,rfl,rfl,rfl,trivial⟩<|ak (X' :=[_,_,_,_]) (S' :=[_,_]) (fun _ m=>m)<|ag<|ah<|cK [5] [(0,some 0),(1,some 0),(2,some 0),(3,some 0),(4,some 0),(5,none),(6,some 1),(7,some 1),(8,some 1),(9,some 1),(10,some 1)] (by kernel_rfl) (by kernel_rfl) rfl 99<|an (aa rfl)<|an (aW rfl)<|an (aD rfl eZ (by decide))<|cd (fun m=>ar rfl ia (ax (m.aT 3 rfl) (i:=0) rfl))<|cd (fun m=>aX rfl ct bn h32 ((m.aT 0 rfl).ay))<| ?_
 refine ee (ao rfl Tryz.call73 (BM hD1 hm) [1] rfl [1] rfl ?_)
 rintro _ _ _ ⟨v,rfl,rfl,rfl⟩
 refine⟨(fun _=>wk [2,0,1,1] [0,1] rfl rfl), ?_⟩
 refine cf (fun m=>(m.own 1 rfl).slice) ?_
 rintro⟨A_x,c_x,rfl,hc_x⟩
 refine cf (fun m=>(m.ord 1 rfl).2.1) fun hA_x=> ?_
 rw[g1_,g2_]
 have hw0:st1.waits.length=0:=by
  have h:=congrArg List.length hD1.waits
  rw[hd.waits]at h
  simpa using h
 have hz6:strOf ((bd dJ).take 6)=⟨#[99,47,48,48,47,48]⟩:=congrArg strOf (show(bd dJ).take 6=[99,47,48,48,47,48] by decide)
 refine an (aa rfl)<|an (aq rfl rfl)<|an (aq rfl rfl)<|an (ab rfl)<|an (ab rfl)<|bq<|al (ρ' :=[(5,_),(4,_),(3,_),(2,_),(9,_),(1,_),(0,_)]) ⟨rfl,rfl,rfl,rfl,rfl,rfl,rfl,trivial⟩<|ak (X' :=[_,_,_,_,_]) (S' :=[_,_]) (fun _ m=>m)<|ag<|ah<|aj<|hy (fun _=>yV (eb cX rfl (by kernel_rfl)) ((rfl:_=Value.agg (aZ dJ).toArray)))<| ?_
 refine hx (ao rfl Tryz.call94 (qR ef) [] rfl [] rfl ?_)
 rintro _ _ _ ⟨rfl,rfl,rfl⟩
 refine hy (fun _=>ab rfl)<|ai<|al (ρ' :=[(6,_),(5,_),(4,_),(3,_),(2,_),(9,_),(1,_),(0,_)]) ⟨rfl,rfl,rfl,rfl,rfl,rfl,rfl,rfl,trivial⟩<|ak (X' :=[_,_,_,_,_]) (S' :=[_,_]) (fun _ m=>m)<|ag<|ah<|aj<|hy (fun _=>aa rfl)<|hy (fun _=>yT (b7 rfl rfl) ((decide_eq_true rfl)))<|hy (fun _=>aa rfl)<|cx (o:=_) rfl rfl rfl (fun _=>aa rfl)<|cx (o:=_) rfl rfl rfl (fun _=>yT (b7 rfl rfl) ((decide_eq_true rfl)))<|hy (fun _=>bE rfl rfl)<|hy (fun _=>aa rfl)<|cx (o:=_) rfl rfl rfl (fun _=>aa rfl)<|cx (o:=_) rfl rfl rfl (fun m=>jq rfl Tryz.underlying27 Tryz.underlying5 Tryz.underlying9 (m.ord 1 rfl))<|cx (o:=_) rfl rfl rfl (fun _=>yT (me rfl rfl) ((decide_eq_true rfl)))<|hy (fun _=>bE rfl rfl)<|hy (fun _=>aa rfl)<|cx (o:=_) rfl rfl rfl (fun _=>aa rfl)<|cx (o:=_) rfl rfl rfl (fun _=>cp rfl Tryz.underlying9)<|cx (o:=_) rfl rfl rfl (fun _=>yT (b7 rfl rfl) ((decide_eq_true (by rw[cr,eh ef];rfl))))<|hy (fun _=>bE rfl rfl)<|hy (fun _=>aa rfl)<|cx (o:=_) rfl rfl rfl (fun _=>aa rfl)<| ?_
 refine Bf (o:=_) rfl rfl rfl (ao rfl Tryz.call97 (tp) [] rfl [] rfl ?_)
 rintro _ _ _ ⟨rfl,rfl,rfl⟩
 refine cx (o:=_) rfl rfl rfl (fun _=>yT (me rfl rfl) ((decide_eq_true hz6)))<|hy (fun _=>bE rfl rfl)<|hy (fun _=>aa rfl)<|cx (o:=_) rfl rfl rfl (fun _=>aa rfl)<|cx (o:=_) rfl rfl rfl (fun _=>aW rfl)<|cx (o:=_) rfl rfl rfl (fun _=>aD rfl eZ (by decide))<|cx (o:=_) rfl rfl rfl (fun m=>ar rfl ia (ax (m.aT 4 rfl) (i:=0) rfl))<| ?_
 refine Bf (o:=_) rfl rfl rfl (ao rfl Tryz.call60 (xu) [0] rfl [] rfl ?_)
 rintro _ _ _ ⟨rfl,rfl,rfl⟩
 refine cx (o:=_) rfl rfl rfl (fun _=>yT (b7 rfl rfl) ((decide_eq_true (by rw[hw0];rfl))))<|hy (fun _=>bE rfl rfl)<|hy (fun _=>ab rfl)<|ai<|al (ρ' :=[(0,_),(6,_),(5,_),(4,_),(3,_),(2,_),(9,_),(1,_)]) ⟨rfl,rfl,rfl,rfl,rfl,rfl,rfl,rfl,trivial⟩<|ak (X' :=[_,_,_,_,_]) (S' :=[_,_]) (fun _ m=>m)<|ag<|aU<| ?_
 exact bc trivial rfl rfl [] rfl [] rfl ⟨rfl,rfl,rfl⟩
end Go.Proofs.YtmibdabdlgmafaaGreatDoor
end
section
set_option maxRecDepth 20000
set_option maxHeartbeats 4000000
namespace Go.Proofs.YtmibdabdlgmafaaGreatDoor
open Go.Eng Go.Hx
theorem rn(d:RD)(bb:List UInt8):(d.put bb).2.1.length=32:=by
 unfold RD.put
 split
 ·exact ef
 ·split
  ·exact ef
  ·split
   ·exact bC _
   ·show(if _ then _ else _:List UInt8).length=32
    split
    ·exact bC _
    ·exact ef
end Go.Proofs.YtmibdabdlgmafaaGreatDoor
end
section
set_option maxRecDepth 20000
set_option maxHeartbeats 4000000
namespace Go.Proofs.YtmibdabdlgmafaaGreatDoor
open Go.Eng Go.Hx
def Dy(a z u:Int)(B:Option Addr)(mb mc:Nat)(K:Option Addr)(mk ck:Nat):List Value:=[.int .i64 a,.int .i64 z,.int .i64 u,.slice B mb mc,.slice K mk ck]
theorem u7(z:Int):∃k:Nat,fB z 6=(k:Int)∧k<6:=by
 have:=mN z 6 (by decide)
 exact⟨(fB z 6).toNat,by omega,by omega⟩
theorem xJ(nm:List UInt8)(hm:nm.length=32)(j:Nat)(hj:j<6):(jf nm j).length≤1000:=by
 have h64:(b9 nm).length=64:=by rw[dh,hm]
 match j,hj with
 |0,_=>simp[jf,others]
 |1,_=>simp[jf,others,h64]
 |2,_=>simp[jf,others,h64]
 |3,_=>simp[jf,others,h64]
 |4,_=>simp[jf,others,h64]
 |5,_=>simp[jf,others,h64]
theorem DS.CY{st:cH}{d:RD}{k:Nat}(h:DS st d k)(p:List UInt8):(d.cJ p).length≤10000000:=by
 have:=h.tm p
 omega
theorem Am{gw gd:Nat}{st:cH}{x:RX}{kk B0 W0:Nat}{a z u:Int}{B:Option Addr}{mb mc:Nat}{lb:List UInt8}{K:Option Addr}{mk ck:Nat}{bs:List Bool}(hD:DS st x.d kk)(hkk:kk≤5000)(hB:Bd x.d B0 W0)(ha:-9223372036854775808≤a∧a≤9223372036854775807)(hz:-9223372036854775808≤z∧z≤9223372036854775807)(hu:-9223372036854775808≤u∧u≤9223372036854775807)(hmc:mb≤mc)(hmb:mb≤140737488351232)(hck:mk≤ck)(hmk:mk≤140737488351232):cj Tryz.prog 17 [.pointer (some ⟨gw,0,none⟩),.agg (Dy a z u B mb mc K mk ck).toArray] [aG gw 41 (.pointer (some ⟨gd,0,none⟩)::x.cs),bm gd st] [cT x,dr 1 B mb (aZ lb),dr 1 K mk (fR bs),fm] (fun v_ X_ S_=>∃st1 y,v_=(.bool true)∧X_=[aG gw 41 (.pointer (some ⟨gd,0,none⟩)::y.cs),bm gd st1]∧S_=[cT y]∧(DS st1 y.d (2*kk+5)∧Bd y.d (B0+4) (W0+B0+4))):=by
 have okx:x.d.ok kk:=⟨st,hD⟩
 have okr:=hD.so
 have hrd:=fun p=>hD.CY p
 obtain⟨ar0,ar1⟩:=mN a 10 (by decide)
 obtain⟨k6,hk6,hk6l⟩:=u7 z
 obtain⟨j6,hj6,hj6l⟩:=u7 u
 have hcl:=lq k6
 have hm:=bC (bo k6)
 have hp32:(aZ (x.d.put (bo k6)).2.1).length=32:=by
  rw[aF]
  exact rn _ _
 have hnl:∀f∈x.d.seen,f.1.length≤1000000:=fun f hf=>Nat.le_trans (hB.nS f hf) (by decide)
 refine aO (N:=223) Tryz.func17 rfl rfl (by simp) fun b=> ?_
 refine ba (fun m=>gK (m.rd 1 rfl)) ?_
 rintro⟨hl_rb,hA_rb⟩
 refine ba (fun m=>ik (m.rd 2 rfl)) ?_
 rintro⟨hl_rk,hA_rk⟩
 refine ah<|aj<| ?_
 refine hx (cz rfl (fun g3=> ?_))
 refine aL (fun w m=>m.bM 0 rfl (show _=aG g3 30 (Dy a z u B mb mc K mk ck)from congrArg (aG _ _) (bG _))) ?_
 refine hy (fun _=>ab rfl)<|ai<|ak (X' :=[_,_,_]) (S' :=[_,_,_,_]) (fun _ m=>m)<|ag<|ah<|aj<|hy (fun _=>aD rfl qy (by decide))<|hy (fun m=>ar rfl eY (ax (m.aT 0 rfl) (i:=1) rfl))<| ?_
 refine hx (ao rfl Tryz.call30 (uz hz hk6 hk6l) [] rfl [3] rfl ?_)
 rintro _ _ _ ⟨rfl,rfl,rfl⟩
 refine hx (aM cX (fun g5=> ?_))
 refine cI (aI 0 rfl rfl rfl bn (by rw[aF];exact hm) aY rfl ?_)
 refine ai<|al (ρ' :=[(5,_),(4,_),(3,_),(0,_),(1,_)]) ⟨rfl,rfl,rfl,rfl,rfl,trivial⟩<|ak (X' :=[_,_,_,_]) (S' :=[_,_,_,_]) (fun _ m=>m)<|ag<|ah<|ah<|aj<|hy (fun _=>aD rfl Ch (by decide))<|hy (fun m=>ar rfl eY (ax (m.aT 1 rfl) (i:=0) rfl))<| ?_
 refine hx (ao rfl Tryz.call16 (lX ha.1 ha.2 (by decide) (n:=a) (m:=10)) [] rfl [] rfl ?_)
 rintro _ _ _ ⟨rfl,rfl,rfl⟩
 refine ai<|al (ρ' :=[(25,_),(5,_),(4,_),(3,_),(0,_),(1,_)]) ⟨rfl,rfl,rfl,rfl,rfl,rfl,trivial⟩<|ak (X' :=[_,_,_,_]) (S' :=[_,_,_,_]) (fun _ m=>m)<|ag<|aN<|ah<|aj<|hy (fun _=>b7 rfl rfl)<|hy (fun _=>ab rfl)<|ai<|al (ρ' :=[(26,_),(25,_),(5,_),(4,_),(3,_),(0,_),(1,_)]) ⟨rfl,rfl,rfl,rfl,rfl,rfl,rfl,trivial⟩<|ag<| ?_
 generalize hnm:bF (bo k6)=nm at hm
 have h32:(aZ nm).length=32:=by rw[aF];exact hm
 have hpl:(bd nm).length≤1000:=by rw[eh hm];decide
 refine cL rfl (fun c4=> ?_) (fun c4=> ?_)
 ·refine ah<|ah<|aj<|hy (fun _=>aD rfl ky (by decide))<|hy (fun m=>ar rfl eY (ax (m.aT 1 rfl) (i:=2) rfl))<| ?_
  refine hy (fun m=>mI rfl rfl (by decide)) ?_
  refine hy (fun _=>b7 rfl rfl)<|ai<|al (ρ' :=[(31,_),(26,_),(25,_),(5,_),(4,_),(3,_),(0,_),(1,_)]) ⟨rfl,rfl,rfl,rfl,rfl,rfl,rfl,rfl,trivial⟩<|ag<| ?_
  refine cL rfl (fun p0=> ?_) (fun p0=> ?_)
  ·refine ah<| ?_
   refine rm (fun(y:RX) (g6:Nat)=>[(6,.pointer (some ⟨g6,0,none⟩)),(7,.int .i64 (x.d.cC (bd nm)))]) (fun(y:RX) (g6:Nat)=>[aG g6 39 y.cs]) (fun(y:RX) (g6:Nat)=>[cT y]) (fun(y:RX) (g6:Nat)=>y.d=x.d.remove (bd nm)) [(31,_),(26,_),(25,_),(5,_),(4,_),(3,_),(0,_),(1,_)] ⟨rfl,rfl,rfl,rfl,rfl,rfl,rfl,rfl,trivial⟩ [] rfl ?_ (fun y g6 hyw=> ?_)
   ·refine oO [5,6,10,11] (.take 0 3<|.take 1 3<|.take 2 3<|.take 3 3<|.take 4 3<|.alt 5 (.alt 6 (.take 7 3<|.take 8 3<|.take 9 4<|.alt 10 (.alt 11 (.take 12 4<|.done) (.stop)) (.stop)) (.alt 10 (.alt 6 (.take 7 3<|.take 8 3<|.take 9 4<|.alt 11 (.take 12 4<|.done) (.stop)) (.stop)) (.stop))) (.alt 10 (.alt 5 (.alt 6 (.take 7 3<|.take 8 3<|.take 9 4<|.alt 11 (.take 12 4<|.done) (.stop)) (.stop)) (.stop)) (.stop))) (by kernel_rfl) (by kernel_rfl) rfl 3<|bl (aa rfl)<|bl (aW rfl)<|bl (aD rfl ek (by decide))<|y5 (fun m=>yV (aX rfl ca bf rfl (ll (m.aT 2 rfl))) ((rfl:_=Value.agg x.cs.toArray)))<|y5 (fun m=>aX rfl ct bn h32 ((m.aT 0 rfl).ay))<| ?_
    refine dW ?_ ?_
    ·refine eE (ao rfl Tryz.call29 (iS hm) [] rfl [] rfl ?_)
     rintro _ _ _ ⟨rfl,rfl,rfl⟩
     refine⟨(fun _=>wk [0,0,0,0] [0,1,2,3] rfl rfl), ?_⟩
     refine dW ?_ ?_
     ·refine eE (ao rfl Tryz.call78 (km okr (by omega) (p:=(bd nm))) [] rfl [0] rfl ?_)
      rintro _ _ _ ⟨y,rfl,rfl,rfl,hyw⟩
      refine⟨(fun _=>wk [0,0,0,0] [1,2,3,4] rfl rfl), ?_⟩
      refine bl (aa rfl)<|bl (aq rfl rfl)<|bl (aq rfl rfl)<| ?_
      refine eE (aM fN (fun g6=>⟨(fun _=>wk [1,1,1,1] [1,2,3,4] rfl rfl), ?_⟩))
      refine dT (aI 0 rfl rfl rfl bf rfl bK rfl ⟨(fun h=>absurd h (by decide)), ?_⟩)
      refine bl (ab rfl)<|dU<|al (ρ' :=[(7,_),(6,_),(31,_),(26,_),(25,_),(5,_),(4,_),(3,_),(0,_),(1,_)]) ⟨rfl,rfl,rfl,rfl,rfl,rfl,rfl,rfl,rfl,rfl,trivial⟩<|ak (X' :=[_,_,_,_,_]) (S' :=[_,_,_,_,_]) (fun _ m=>m)<| ?_
      exact gk (R:=fun(y:RX) (g6:Nat)=>[(6,.pointer (some ⟨g6,0,none⟩)),(7,.int .i64 (x.d.cC (bd nm)))]) (X1:=fun(y:RX) (g6:Nat)=>[aG g6 39 y.cs]) (S1:=fun(y:RX) (g6:Nat)=>[cT y]) (I:=fun(y:RX) (g6:Nat)=>y.d=x.d.remove (bd nm)) y g6 ⟨rfl,rfl,rfl,rfl,rfl,rfl,rfl,rfl,rfl,rfl,trivial⟩ [0,0,0,0,0] rfl [0,1,2,3,4] rfl hyw
     ·refine eE (aM fN (fun g6=>⟨(fun _=>wk [1,1,1,1] [0,1,2,3] rfl rfl), ?_⟩))
      refine eE (ao rfl Tryz.call78 (km okr (by omega) (p:=(bd nm))) [] rfl [0] rfl ?_)
      rintro _ _ _ ⟨y,rfl,rfl,rfl,hyw⟩
      refine⟨(fun _=>wk [1,1,1,1] [1,2,3,4] rfl rfl), ?_⟩
      refine bl (aa rfl)<|bl (aq rfl rfl)<|bl (aq rfl rfl)<| ?_
      refine dT (aI 0 rfl rfl rfl bf rfl bK rfl ⟨(fun h=>absurd h (by decide)), ?_⟩)
      refine bl (ab rfl)<|dU<|al (ρ' :=[(7,_),(6,_),(31,_),(26,_),(25,_),(5,_),(4,_),(3,_),(0,_),(1,_)]) ⟨rfl,rfl,rfl,rfl,rfl,rfl,rfl,rfl,rfl,rfl,trivial⟩<|ak (X' :=[_,_,_,_,_]) (S' :=[_,_,_,_,_]) (fun _ m=>m)<| ?_
      exact gk (R:=fun(y:RX) (g6:Nat)=>[(6,.pointer (some ⟨g6,0,none⟩)),(7,.int .i64 (x.d.cC (bd nm)))]) (X1:=fun(y:RX) (g6:Nat)=>[aG g6 39 y.cs]) (S1:=fun(y:RX) (g6:Nat)=>[cT y]) (I:=fun(y:RX) (g6:Nat)=>y.d=x.d.remove (bd nm)) y g6 ⟨rfl,rfl,rfl,rfl,rfl,rfl,rfl,rfl,rfl,rfl,trivial⟩ [0,0,0,0,0] rfl [0,1,2,3,4] rfl hyw
    ·refine eE (aM fN (fun g6=>⟨(fun _=>wk [1,1,1,1] [0,1,2,3] rfl rfl), ?_⟩))
     refine eE (ao rfl Tryz.call29 (iS hm) [] rfl [] rfl ?_)
     rintro _ _ _ ⟨rfl,rfl,rfl⟩
     refine⟨(fun _=>wk [1,1,1,1] [0,1,2,3] rfl rfl), ?_⟩
     refine eE (ao rfl Tryz.call78 (km okr (by omega) (p:=(bd nm))) [] rfl [0] rfl ?_)
     rintro _ _ _ ⟨y,rfl,rfl,rfl,hyw⟩
     refine⟨(fun _=>wk [1,1,1,1] [1,2,3,4] rfl rfl), ?_⟩
     refine bl (aa rfl)<|bl (aq rfl rfl)<|bl (aq rfl rfl)<| ?_
     refine dT (aI 0 rfl rfl rfl bf rfl bK rfl ⟨(fun h=>absurd h (by decide)), ?_⟩)
     refine bl (ab rfl)<|dU<|al (ρ' :=[(7,_),(6,_),(31,_),(26,_),(25,_),(5,_),(4,_),(3,_),(0,_),(1,_)]) ⟨rfl,rfl,rfl,rfl,rfl,rfl,rfl,rfl,rfl,rfl,trivial⟩<|ak (X' :=[_,_,_,_,_]) (S' :=[_,_,_,_,_]) (fun _ m=>m)<| ?_
     exact gk (R:=fun(y:RX) (g6:Nat)=>[(6,.pointer (some ⟨g6,0,none⟩)),(7,.int .i64 (x.d.cC (bd nm)))]) (X1:=fun(y:RX) (g6:Nat)=>[aG g6 39 y.cs]) (S1:=fun(y:RX) (g6:Nat)=>[cT y]) (I:=fun(y:RX) (g6:Nat)=>y.d=x.d.remove (bd nm)) y g6 ⟨rfl,rfl,rfl,rfl,rfl,rfl,rfl,rfl,rfl,rfl,trivial⟩ [0,0,0,0,0] rfl [0,1,2,3,4] rfl hyw
   ·refine ag<|ah<|aj<|hy (fun _=>aa rfl)<|hy (fun m=>yV (aX rfl ca bf rfl ((m.aT 0 rfl).ay)) ((rfl:_=Value.agg y.cs.toArray)))<|hy (fun _=>aW rfl)<|hy (fun _=>aD rfl ek (by decide))<| ?_
    refine cI (jG 3 rfl rfl rfl bf rfl bK (show 6≤6 from Nat.le_refl 6) ?_)
    refine aL (fun w m=>m.bM 0 rfl (show _=aG gw 41 (.pointer (some ⟨gd,0,none⟩)::y.cs)from congrArg (aG _ _) kS)) ?_
    refine ai<|al (ρ' :=[(6,_),(7,_),(31,_),(26,_),(25,_),(5,_),(4,_),(3,_),(0,_),(1,_)]) ⟨rfl,rfl,rfl,rfl,rfl,rfl,rfl,rfl,rfl,rfl,trivial⟩<|ak (X' :=[_,_,_,_,_]) (S' :=[_,_,_,_,_]) (fun _ m=>m)<|ag<|ah<|rS [0,0,0,0] [0,1,2,3,4] rfl rfl [5,6] [(0,some 1),(1,some 1),(2,some 1),(3,some 1),(4,some 0),(7,some 2),(5,none),(6,none),(8,some 2),(9,some 2)] (by kernel_rfl) (by kernel_rfl) rfl 99<|an (aa rfl)<|an (aW rfl)<|an (aD rfl eZ (by decide))<|cd (fun m=>ar rfl ia (ax (m.aT 0 rfl) (i:=0) rfl))<|cd (fun m=>aX rfl ct bn h32 ((m.aT 2 rfl).ay))<|an (aa rfl)<| ?_
    refine ee (ao rfl Tryz.call29 (iS (by omega)) [] rfl [] rfl ?_)
    rintro _ _ _ ⟨rfl,rfl,rfl⟩
    refine⟨(fun _=>wk [0,0,0,0] [0,1,2,3,4] rfl rfl), ?_⟩
    refine ee (ao rfl Tryz.call79 (sE hD (by omega) (p:=(bd nm))) [4] rfl [] rfl ?_)
    rintro _ _ _ ⟨st1,rfl,rfl,rfl,hE1⟩
    refine⟨(fun _=>wk [1,1,1,1] [0,1,2,3,4] rfl rfl), ?_⟩
    refine an (yT (b7 rfl rfl) ((decide_eq_true rfl)))<|an (ab rfl)<|bq<|al (ρ' :=[(4,_),(6,_),(7,_),(31,_),(26,_),(25,_),(5,_),(3,_),(0,_),(1,_)]) ⟨rfl,rfl,rfl,rfl,rfl,rfl,rfl,rfl,rfl,rfl,trivial⟩<|ak (X' :=[_,_,_,_,_]) (S' :=[_,_,_,_,_]) (fun _ m=>m)<|ag<|aU<|aw<|aV<|aw<| ?_
    exact bc trivial rfl rfl [1,0] rfl [0] rfl ⟨st1,y,rfl,rfl,rfl,⟨by rw[hyw];exact hE1.le (by omega),by rw[hyw];exact hB.remove.le (by omega) (by omega)⟩⟩
  ·refine aB<|ag<|ah<|ah<|aj<|hy (fun _=>aD rfl ky (by decide))<|hy (fun m=>ar rfl eY (ax (m.aT 1 rfl) (i:=2) rfl))<| ?_
   refine hy (fun m=>mI rfl rfl (by decide)) ?_
   refine hy (fun _=>b7 rfl rfl)<|ai<|al (ρ' :=[(58,_),(31,_),(26,_),(25,_),(5,_),(4,_),(3,_),(0,_),(1,_)]) ⟨rfl,rfl,rfl,rfl,rfl,rfl,rfl,rfl,rfl,trivial⟩<|ag<| ?_
   refine cL rfl (fun p1=> ?_) (fun p1=> ?_)
   ·have hcu:=lq j6
    have hsu:=kj (bo j6)
    refine ah<|cK [2,5,6,7] [(0,some 3),(1,some 0),(3,some 1),(4,some 1),(2,none),(5,none),(6,none),(7,none),(8,some 4)] (by kernel_rfl) (by kernel_rfl) rfl 3<|an (aa rfl)<|cd (fun m=>aX rfl ct bn h32 ((m.aT 0 rfl).ay))<|an (aD rfl ky (by decide))<|cd (fun m=>ar rfl eY (ax (m.aT 1 rfl) (i:=2) rfl))<| ?_
    refine ee (ao rfl Tryz.call29 (iS hm) [] rfl [] rfl ?_)
    rintro _ _ _ ⟨rfl,rfl,rfl⟩
    refine⟨(fun _=>wk [0,0,0,0] [0,1,2,3] rfl rfl), ?_⟩
    refine ee (ao rfl Tryz.call27 (jY hu hj6 hj6l) [] rfl [] rfl ?_)
    rintro _ _ _ ⟨v,rfl,rfl,rfl⟩
    refine⟨(fun _=>wk [1,1,1,1] [0,1,2,3] rfl rfl), ?_⟩
    refine cf (fun m=>(m.own 0 rfl).slice) ?_
    rintro⟨A_x,c_x,rfl,hc_x⟩
    refine cf (fun m=>(m.ord 0 rfl).2.1) fun hA_x=> ?_
    refine ee (cF rfl Tryz.call81 (yr hc_x (by omega) hcu) [] rfl (.x 0 rfl .own .nil) ?_)
    rintro _ _ _ ⟨v2,rfl,rfl,rfl⟩
    refine⟨rfl, ?_⟩
    refine⟨(fun _=>wk [2,2,2,2] [0,1,2,3] rfl rfl), ?_⟩
    refine cf (fun m=>(m.own 0 rfl).slice) ?_
    rintro⟨A_x2,c_x2,rfl,hc_x2⟩
    refine cf (fun m=>(m.ord 0 rfl).2.1) fun hA_x2=> ?_
    refine jz (fun w m=>(m.perm (av [0] _ [_] _ rfl)).freeze) ?_
    refine jz (fun w m=>m.gX 0 rfl .own) ?_
    refine ee (ao rfl Tryz.call80 (pe hD (by omega) (by omega) hc_x2 rfl (by omega) (p:=(bd nm)) (l:=(bI (bo j6)))) [3,3] rfl [2,0] rfl ?_)
    rintro _ _ _ ⟨st1,y,rfl,rfl,rfl,hw1⟩
    refine⟨(fun h=>absurd h (by decide)), ?_⟩
    refine an (ab rfl)<|bq<|al (ρ' :=[(4,_),(58,_),(31,_),(26,_),(25,_),(5,_),(3,_),(0,_),(1,_)]) ⟨rfl,rfl,rfl,rfl,rfl,rfl,rfl,rfl,rfl,trivial⟩<|ak (X' :=[_,_,_,_,_]) (S' :=[_,_,_,_,_,_,_]) (fun _ m=>m)<|ag<|aU<|aw<|aV<|aw<| ?_
    exact bc trivial rfl rfl [0,0] rfl [0] rfl ⟨st1,y,rfl,rfl,rfl,⟨hw1.2.le (by omega),by rw[hw1.1];exact(hB.write hpl).le (by omega) (by omega)⟩⟩
   ·have hl30:(lb.take 30).length≤30:=List.length_take_le ..
    refine aB<|ag<|ah<|cK [2,5,6] [(0,some 2),(1,some 0),(3,some 1),(4,some 1),(2,none),(5,none),(6,none),(7,some 3)] (by kernel_rfl) (by kernel_rfl) rfl 2<|an (aa rfl)<|cd (fun m=>aX rfl ct bn h32 ((m.aT 0 rfl).ay))<|an (aD rfl Cf (by decide))<|cd (fun m=>ar rfl dY (ax (m.aT 1 rfl) (i:=3) rfl))<| ?_
    refine ee (ao rfl Tryz.call29 (iS hm) [] rfl [] rfl ?_)
    rintro _ _ _ ⟨rfl,rfl,rfl⟩
    refine⟨(fun _=>wk [0,0,0,0] [0,1,2,3] rfl rfl), ?_⟩
    refine ee (ao rfl Tryz.call32 (Es (by omega) (by omega) (m:=30)) [] rfl [1] rfl ?_)
    rintro _ _ _ ⟨v,rfl,rfl,rfl⟩
    refine⟨(fun _=>wk [1,1,1,1] [0,1,2,3] rfl rfl), ?_⟩
    refine cf (fun m=>(m.own 0 rfl).slice) ?_
    rintro⟨A_x,c_x,rfl,hc_x⟩
    refine cf (fun m=>(m.ord 0 rfl).2.1) fun hA_x=> ?_
    refine jz (fun w m=>(m.perm (av [0] _ [_] _ rfl)).freeze) ?_
    refine jz (fun w m=>m.gX 0 rfl .own) ?_
    refine ee (ao rfl Tryz.call80 (pe hD (by omega) (by omega) hc_x (by rw[List.length_take,hl_rb,Nat.min_comm]) (by omega) (p:=(bd nm))) [2,2] rfl [2,0] rfl ?_)
    rintro _ _ _ ⟨st1,y,rfl,rfl,rfl,hw1⟩
    refine⟨(fun h=>absurd h (by decide)), ?_⟩
    refine an (ab rfl)<|bq<|al (ρ' :=[(4,_),(58,_),(31,_),(26,_),(25,_),(5,_),(3,_),(0,_),(1,_)]) ⟨rfl,rfl,rfl,rfl,rfl,rfl,rfl,rfl,rfl,trivial⟩<|ak (X' :=[_,_,_,_]) (S' :=[_,_,_,_,_,_,_]) (fun _ m=>m)<|ag<|aU<|aV<|aw<| ?_
    exact bc trivial rfl rfl [0,0] rfl [0] rfl ⟨st1,y,rfl,rfl,rfl,⟨hw1.2.le (by omega),by rw[hw1.1];exact(hB.write hpl).le (by omega) (by omega)⟩⟩
 ·refine ah<|aj<|hy (fun _=>b7 rfl rfl)<|hy (fun _=>ab rfl)<|ai<|al (ρ' :=[(74,_),(26,_),(25,_),(5,_),(4,_),(3,_),(0,_),(1,_)]) ⟨rfl,rfl,rfl,rfl,rfl,rfl,rfl,rfl,trivial⟩<|ag<| ?_
  refine cL rfl (fun c5=> ?_) (fun c5=> ?_)
  ·have hm8:u.tmod 8≤1000000000000:=by
    have:=Int.tmod_lt_of_pos u (show(0:Int)<8 by decide)
    omega
   refine ah<|ah<|aj<|hy (fun _=>aD rfl ky (by decide))<|hy (fun m=>ar rfl eY (ax (m.aT 1 rfl) (i:=2) rfl))<| ?_
   refine hy (fun m=>mI rfl rfl (by decide)) ?_
   refine hy (fun _=>b7 rfl rfl)<|ai<|al (ρ' :=[(79,_),(74,_),(26,_),(25,_),(5,_),(4,_),(3,_),(0,_),(1,_)]) ⟨rfl,rfl,rfl,rfl,rfl,rfl,rfl,rfl,rfl,trivial⟩<|ag<| ?_
   refine cL rfl (fun p0=> ?_) (fun p0=> ?_)
   ·refine ah<|cK [8,11] [(0,some 1),(1,some 0),(2,some 0),(3,some 0),(4,some 0),(5,some 0),(6,some 0),(7,some 0),(8,none),(9,some 1),(10,some 1),(11,none)] (by kernel_rfl) (by kernel_rfl) rfl 1<|an (aa rfl)<|an (aa rfl)<|an (aW rfl)<|an (aD rfl ek (by decide))<|cd (fun m=>yV (aX rfl ca bf rfl (ll (m.aT 2 rfl))) ((rfl:_=Value.agg x.cs.toArray)))<|an (aD rfl ky (by decide))<|cd (fun m=>ar rfl eY (ax (m.aT 1 rfl) (i:=2) rfl))<| ?_
    refine an (mI rfl rfl (by decide)) ?_
    refine ee (ao rfl Tryz.call58 (Az) [] rfl [0] rfl ?_)
    rintro _ _ _ ⟨y,rfl,rfl,rfl,hyw⟩
    refine⟨(fun _=>wk [0,0,0,0] [1,2,3,4] rfl rfl), ?_⟩
    refine an (aW rfl)<|an (aD rfl ek (by decide))<| ?_
    refine j5 (jG 2 rfl rfl rfl bf rfl bK (show 6≤6 from Nat.le_refl 6) ⟨(fun h=>absurd h (by decide)), ?_⟩)
    refine jz (fun w m=>m.bM 0 rfl (show _=aG gw 41 (.pointer (some ⟨gd,0,none⟩)::y.cs)from congrArg (aG _ _) kS)) ?_
    refine bq<|al (ρ' :=[(79,_),(74,_),(26,_),(25,_),(5,_),(4,_),(3,_),(0,_),(1,_)]) ⟨rfl,rfl,rfl,rfl,rfl,rfl,rfl,rfl,rfl,trivial⟩<|ak (X' :=[_,_,_,_]) (S' :=[_,_,_,_,_]) (fun _ m=>m)<|ag<|cK [7] [(0,some 0),(1,some 0),(2,some 0),(3,some 0),(4,some 0),(5,some 0),(6,some 0),(7,none)] (by kernel_rfl) (by kernel_rfl) rfl 0<|an (aa rfl)<|an (aW rfl)<|an (aD rfl eZ (by decide))<|cd (fun m=>ar rfl ia (ax (m.aT 0 rfl) (i:=0) rfl))<|an (aD rfl ky (by decide))<|cd (fun m=>ar rfl eY (ax (m.aT 2 rfl) (i:=2) rfl))<| ?_
    refine an (mI rfl rfl (by decide)) ?_
    refine ee (ao rfl Tryz.call57 (zo hD hm8) [3] rfl [] rfl ?_)
    rintro _ _ _ ⟨st1,rfl,rfl,rfl,hE1⟩
    refine⟨(fun h=>absurd h (by decide)), ?_⟩
    refine bq<|al (ρ' :=[(79,_),(74,_),(26,_),(25,_),(5,_),(4,_),(3,_),(0,_),(1,_)]) ⟨rfl,rfl,rfl,rfl,rfl,rfl,rfl,rfl,rfl,trivial⟩<|ak (X' :=[_,_,_,_]) (S' :=[_,_,_,_,_]) (fun _ m=>m)<|ag<|ah<|aj<|hy (fun _=>ab rfl)<|ai<|ag<|aU<|aV<|aw<| ?_
    exact bc trivial rfl rfl [1,0] rfl [0] rfl ⟨st1,y,rfl,rfl,rfl,⟨by rw[hyw];exact hE1.le (by omega),by rw[hyw];exact hB.bS.le (by omega) (by omega)⟩⟩
   ·refine aB<|ag<|ah<|aj<|hy (fun _=>ab rfl)<|ai<|ag<|aU<|aV<|aw<| ?_
    exact bc trivial rfl rfl [2,2] rfl [0] rfl ⟨st,x,rfl,rfl,rfl,⟨hD.le (by omega),hB.le (by omega) (by omega)⟩⟩
  ·refine ah<|aj<|hy (fun _=>b7 rfl rfl)<|hy (fun _=>ab rfl)<|ai<|al (ρ' :=[(99,_),(74,_),(26,_),(25,_),(5,_),(4,_),(3,_),(0,_),(1,_)]) ⟨rfl,rfl,rfl,rfl,rfl,rfl,rfl,rfl,rfl,trivial⟩<|ag<| ?_
   refine cL rfl (fun c6=> ?_) (fun c6=> ?_)
   ·refine ah<|ah<|aj<|hy (fun _=>aD rfl ky (by decide))<|hy (fun m=>ar rfl eY (ax (m.aT 1 rfl) (i:=2) rfl))<| ?_
    refine hy (fun m=>mI rfl rfl (by decide)) ?_
    refine hy (fun _=>b7 rfl rfl)<|ai<|al (ρ' :=[(104,_),(99,_),(74,_),(26,_),(25,_),(5,_),(4,_),(3,_),(0,_),(1,_)]) ⟨rfl,rfl,rfl,rfl,rfl,rfl,rfl,rfl,rfl,rfl,trivial⟩<|ag<| ?_
    refine cL rfl (fun p0=> ?_) (fun p0=> ?_)
    ·refine bu (fun w m=>m.gX 2 rfl (View.Dz (k:=min mk 20) (Nat.min_le_left _ _))) ?_
     refine ba (fun m=>ik (m.rd 0 rfl)) ?_
     rintro⟨hl_rf,hA_rf⟩
     have hbt:(fR bs).take (min mk 20*1)=fR (bs.take (min mk 20)):=by rw[Nat.mul_one];simp[fR,List.map_take]
     rw[hbt]
     have hla:=hD.BP
     refine ah<|aj<|hy (fun _=>aD rfl yP (by decide))<|hy (fun m=>ar rfl xe (ax (m.aT 1 rfl) (i:=4) rfl))<|hy (fun _=>aD rfl yP (by decide))<|hy (fun m=>ar rfl xe (ax (m.aT 1 rfl) (i:=4) rfl))<|hy (fun _=>aR rfl Tryz.underlying28)<|hy (fun _=>ln rfl rfl)<|hy (fun _=>jS rfl rfl Tryz.underlying28 Bz (show((min mk 20:Nat):Int)=_ by omega) (by omega))<|hy (fun _=>ab rfl)<|ai<|al (ρ' :=[(8,_),(104,_),(99,_),(74,_),(26,_),(25,_),(5,_),(4,_),(3,_),(0,_),(1,_)]) ⟨rfl,rfl,rfl,rfl,rfl,rfl,rfl,rfl,rfl,rfl,rfl,trivial⟩<|ag<|ah<|aj<|hy (fun _=>aa rfl)<|hy (fun _=>aa rfl)<|hy (fun _=>aW rfl)<|hy (fun _=>aD rfl ek (by decide))<|hy (fun m=>yV (aX rfl ca bf rfl (ll (m.aT 2 rfl))) ((rfl:_=Value.agg x.cs.toArray)))<|hy (fun _=>aa rfl)<| ?_
     refine hx (ao rfl Tryz.call82 (vD (by omega) okr (by omega) (by omega) (by omega) hD.Bw) [] rfl [1,0] rfl ?_)
     rintro _ _ _ ⟨y,rfl,rfl,rfl,hyw⟩
     refine hy (fun _=>aW rfl)<|hy (fun _=>aD rfl ek (by decide))<| ?_
     refine cI (jG 2 rfl rfl rfl bf rfl bK (show 6≤6 from Nat.le_refl 6) ?_)
     refine aL (fun w m=>m.bM 0 rfl (show _=aG gw 41 (.pointer (some ⟨gd,0,none⟩)::y.cs)from congrArg (aG _ _) kS)) ?_
     refine ai<|al (ρ' :=[(8,_),(104,_),(99,_),(74,_),(26,_),(25,_),(5,_),(4,_),(3,_),(0,_),(1,_)]) ⟨rfl,rfl,rfl,rfl,rfl,rfl,rfl,rfl,rfl,rfl,rfl,trivial⟩<|ak (X' :=[_,_,_,_]) (S' :=[_,_,_,_,_,_]) (fun _ m=>m)<|ag<|aj<|hy (fun _=>aa rfl)<|hy (fun _=>aW rfl)<|hy (fun _=>aD rfl eZ (by decide))<|hy (fun m=>ar rfl ia (ax (m.aT 0 rfl) (i:=0) rfl))<|hy (fun _=>aa rfl)<| ?_
     refine hx (ao rfl Tryz.call72 (tY hD (by omega) (by omega)) [3] rfl [1] rfl ?_)
     rintro _ _ _ ⟨st1,rfl,rfl,rfl,hE1⟩
     refine ai<|al (ρ' :=[(8,_),(104,_),(99,_),(74,_),(26,_),(25,_),(5,_),(4,_),(3,_),(0,_),(1,_)]) ⟨rfl,rfl,rfl,rfl,rfl,rfl,rfl,rfl,rfl,rfl,rfl,trivial⟩<|ak (X' :=[_,_,_,_]) (S' :=[_,_,_,_,_,_]) (fun _ m=>m)<|ag<|ah<|aj<|hy (fun _=>ab rfl)<|ai<|ag<|aU<|aV<|aw<| ?_
     exact bc trivial rfl rfl [1,0] rfl [0] rfl ⟨st1,y,rfl,rfl,rfl,⟨by rw[hyw];exact hE1.le (by omega),by rw[hyw];exact(hB.ic _).le (by omega) (by omega)⟩⟩
    ·refine aB<|ag<|ah<|aj<|hy (fun _=>ab rfl)<|ai<|ag<|aU<|aV<|aw<| ?_
     exact bc trivial rfl rfl [2,2] rfl [0] rfl ⟨st,x,rfl,rfl,rfl,⟨hD.le (by omega),hB.le (by omega) (by omega)⟩⟩
   ·refine ah<|aj<|hy (fun _=>b7 rfl rfl)<|hy (fun _=>ab rfl)<|ai<|al (ρ' :=[(127,_),(99,_),(74,_),(26,_),(25,_),(5,_),(4,_),(3,_),(0,_),(1,_)]) ⟨rfl,rfl,rfl,rfl,rfl,rfl,rfl,rfl,rfl,rfl,trivial⟩<|ag<| ?_
    refine cL rfl (fun c7=> ?_) (fun c7=> ?_)
    ·refine ah<|aj<|hy (fun _=>aa rfl)<|hy (fun _=>aW rfl)<|hy (fun _=>aD rfl ek (by decide))<|hy (fun m=>yV (aX rfl ca bf rfl (ll (m.aT 2 rfl))) ((rfl:_=Value.agg x.cs.toArray)))<| ?_
     refine hx (ao rfl Tryz.call83 (AT okx (by omega) hnl) [] rfl [0] rfl ?_)
     rintro _ _ _ ⟨y,rfl,rfl,rfl,hyw⟩
     refine hy (fun _=>aa rfl)<|hy (fun _=>aq rfl rfl)<|hy (fun _=>aq rfl rfl)<| ?_
     refine hx (aM fN (fun g9=> ?_))
     refine cI (aI 0 rfl rfl rfl bf rfl bK rfl ?_)
     refine hy (fun _=>ab rfl)<|ai<|al (ρ' :=[(10,_),(9,_),(127,_),(99,_),(74,_),(26,_),(25,_),(5,_),(4,_),(3,_),(0,_),(1,_)]) ⟨rfl,rfl,rfl,rfl,rfl,rfl,rfl,rfl,rfl,rfl,rfl,rfl,trivial⟩<|ak (X' :=[_,_,_,_,_]) (S' :=[_,_,_,_,_]) (fun _ m=>m)<|ag<|ah<|aj<|hy (fun _=>aa rfl)<|hy (fun m=>yV (aX rfl ca bf rfl ((m.aT 0 rfl).ay)) ((rfl:_=Value.agg y.cs.toArray)))<|hy (fun _=>aW rfl)<|hy (fun _=>aD rfl ek (by decide))<| ?_
     refine cI (jG 3 rfl rfl rfl bf rfl bK (show 6≤6 from Nat.le_refl 6) ?_)
     refine aL (fun w m=>m.bM 0 rfl (show _=aG gw 41 (.pointer (some ⟨gd,0,none⟩)::y.cs)from congrArg (aG _ _) kS)) ?_
     have hnp:(dP x.d jt).length≤kk:=Nat.le_trans (List.length_filter_le _ _) (by rw[List.length_map];exact okr.seen)
     refine ai<|al (ρ' :=[(10,_),(9,_),(127,_),(99,_),(74,_),(26,_),(25,_),(5,_),(4,_),(3,_),(0,_),(1,_)]) ⟨rfl,rfl,rfl,rfl,rfl,rfl,rfl,rfl,rfl,rfl,rfl,rfl,trivial⟩<|ak (X' :=[_,_,_,_,_]) (S' :=[_,_,_,_,_]) (fun _ m=>m)<|ag<|ah<|aj<|hy (fun _=>aa rfl)<|hy (fun _=>aW rfl)<|hy (fun _=>aD rfl eZ (by decide))<|hy (fun m=>ar rfl ia (ax (m.aT 0 rfl) (i:=0) rfl))<| ?_
     refine hx (ao rfl Tryz.call84 (CK hD (by omega)) [4] rfl [] rfl ?_)
     rintro _ _ _ ⟨st1,rfl,rfl,rfl,hE1⟩
     refine hy (fun _=>aa rfl)<| ?_
     refine hy (fun _=>yT (b7 rfl rfl) ((decide_eq_true rfl)))<|hy (fun _=>ab rfl)<|ai<|al (ρ' :=[(4,_),(10,_),(9,_),(127,_),(99,_),(74,_),(26,_),(25,_),(5,_),(3,_),(0,_),(1,_)]) ⟨rfl,rfl,rfl,rfl,rfl,rfl,rfl,rfl,rfl,rfl,rfl,rfl,trivial⟩<|ak (X' :=[_,_,_,_,_]) (S' :=[_,_,_,_,_]) (fun _ m=>m)<|ag<|aU<|aV<|aw<| ?_
     exact bc trivial rfl rfl [1,0] rfl [0] rfl ⟨st1,y,rfl,rfl,rfl,⟨by rw[hyw];exact hE1.le (by omega),by rw[hyw];exact hB.clean.le (by omega) (by omega)⟩⟩
    ·refine ah<|aj<|hy (fun _=>b7 rfl rfl)<|hy (fun _=>ab rfl)<|ai<|al (ρ' :=[(148,_),(127,_),(99,_),(74,_),(26,_),(25,_),(5,_),(4,_),(3,_),(0,_),(1,_)]) ⟨rfl,rfl,rfl,rfl,rfl,rfl,rfl,rfl,rfl,rfl,rfl,trivial⟩<|ag<| ?_
     refine cL rfl (fun c8=> ?_) (fun c8=> ?_)
     ·have hol:=xJ (bF (bo k6)) (bC _) j6 hj6l
      refine ah<|aj<|hy (fun _=>aa rfl)<|hy (fun _=>aD rfl qy (by decide))<|hy (fun m=>ar rfl eY (ax (m.aT 1 rfl) (i:=1) rfl))<|hy (fun _=>aD rfl ky (by decide))<|hy (fun m=>ar rfl eY (ax (m.aT 1 rfl) (i:=2) rfl))<| ?_
      refine hx (ao rfl Tryz.call85 (zj hz hk6 hk6l hu hj6 hj6l) [] rfl [3] rfl ?_)
      rintro _ _ _ ⟨rfl,rfl,rfl⟩
      refine hx (b8 Tryz.underlying27 eO rfl rfl rfl (by simp[Value.cells,B8]) (by decide) (by decide) (fun g156=> ?_))
      have hA_b156:0<1→(some (⟨g156,0,none⟩:Addr))≠none:=fun _ h=>by cases h
      refine aL (fun w m=>m.bM 0 rfl (show _=aH 5 1 (.slice (some ⟨g156,0,none⟩) 1 1) 1 (aZ [120])from rfl)) ?_
      refine hx (wW 0 rfl rfl Tryz.underlying27 Tryz.underlying5 ?_)
      refine aL (fun w m=>(m.perm (av [0] _ [_] _ rfl)).freeze) ?_
      refine aL (fun w m=>m.gX 0 rfl .own) ?_
      refine az (fun m=>gK (m.rd 0 rfl)) ?_
      rintro⟨hl_b156r,hA_b156r⟩
      refine hx (ao rfl Tryz.call80 (pe hD (by omega) (by omega) (Nat.le_refl _) rfl (by decide) (p:=(jf (bF (bo k6)) j6)) (l:=[120])) [2,2] rfl [2,0] rfl ?_)
      rintro _ _ _ ⟨st1,y,rfl,rfl,rfl,hw1⟩
      refine hy (fun _=>ab rfl)<|ai<|al (ρ' :=[(4,_),(148,_),(127,_),(99,_),(74,_),(26,_),(25,_),(5,_),(3,_),(0,_),(1,_)]) ⟨rfl,rfl,rfl,rfl,rfl,rfl,rfl,rfl,rfl,rfl,rfl,trivial⟩<|ak (X' :=[_,_,_,_]) (S' :=[_,_,_,_,_,_,_]) (fun _ m=>m)<|ag<|aU<|aV<|aw<| ?_
      exact bc trivial rfl rfl [0,0] rfl [0] rfl ⟨st1,y,rfl,rfl,rfl,⟨hw1.2.le (by omega),by rw[hw1.1];exact(hB.write hol).le (by omega) (by omega)⟩⟩
     ·refine ah<|aj<|hy (fun _=>b7 rfl rfl)<|hy (fun _=>ab rfl)<|ai<|al (ρ' :=[(159,_),(148,_),(127,_),(99,_),(74,_),(26,_),(25,_),(5,_),(4,_),(3,_),(0,_),(1,_)]) ⟨rfl,rfl,rfl,rfl,rfl,rfl,rfl,rfl,rfl,rfl,rfl,rfl,trivial⟩<|ag<| ?_
      refine cL rfl (fun c9=> ?_) (fun c9=> ?_)
      ·refine ah<|rS [0,0,0] [0,1,2,3] rfl rfl [5] [(0,some 0),(1,some 0),(2,some 0),(3,some 0),(4,some 0),(5,none),(6,some 1),(7,some 1),(8,some 1),(9,some 1),(10,some 1)] (by kernel_rfl) (by kernel_rfl) rfl 99<|an (aa rfl)<|an (aW rfl)<|an (aD rfl eZ (by decide))<|cd (fun m=>ar rfl ia (ax (m.aT 2 rfl) (i:=0) rfl))<|cd (fun m=>aX rfl ct bn h32 ((m.aT 0 rfl).ay))<| ?_
       refine ee (ao rfl Tryz.call73 (BM hD hm) [3] rfl [3] rfl ?_)
       rintro _ _ _ ⟨v,rfl,rfl,rfl⟩
       refine⟨(fun _=>wk [2,2,2] [0,1,2,3] rfl rfl), ?_⟩
       refine cf (fun m=>(m.own 1 rfl).slice) ?_
       rintro⟨A_x,c_x,rfl,hc_x⟩
       refine cf (fun m=>(m.ord 1 rfl).2.1) fun hA_x=> ?_
       refine an (aa rfl)<|an (aq rfl rfl)<|an (aq rfl rfl)<|an (ab rfl)<|an (ab rfl)<|bq<|al (ρ' :=[(12,_),(11,_),(159,_),(148,_),(127,_),(99,_),(74,_),(26,_),(25,_),(5,_),(4,_),(3,_),(0,_),(1,_)]) ⟨rfl,rfl,rfl,rfl,rfl,rfl,rfl,rfl,rfl,rfl,rfl,rfl,rfl,rfl,trivial⟩<|ak (X' :=[_,_,_,_,_]) (S' :=[_,_,_,_]) (fun _ m=>m)<|ag<|ah<|cK [5] [(0,some 0),(1,some 0),(2,some 0),(3,some 0),(4,some 0),(5,none),(6,some 1),(7,some 1),(8,some 1),(9,some 1),(10,some 1)] (by kernel_rfl) (by kernel_rfl) rfl 99<|an (aa rfl)<|an (aW rfl)<|an (aD rfl ek (by decide))<|cd (fun m=>yV (aX rfl ca bf rfl (ll (m.aT 4 rfl))) ((rfl:_=Value.agg x.cs.toArray)))<|cd (fun m=>aX rfl ct bn h32 ((m.aT 2 rfl).ay))<| ?_
       refine ee (ao rfl Tryz.call74 (AZ okr (by omega) hm (hrd _)) [] rfl [0,3] rfl ?_)
       rintro _ _ _ ⟨rfl,rfl,rfl⟩
       refine⟨(fun _=>wk [0,0,0,0,0] [0,1,2,3] rfl rfl), ?_⟩
       refine an (aa rfl)<|an (aq rfl rfl)<|an (aq rfl rfl)<|an (ab rfl)<|an (ab rfl)<|bq<|al (ρ' :=[(14,_),(13,_),(12,_),(11,_),(159,_),(148,_),(127,_),(99,_),(74,_),(26,_),(25,_),(5,_),(4,_),(3,_),(0,_),(1,_)]) ⟨rfl,rfl,rfl,rfl,rfl,rfl,rfl,rfl,rfl,rfl,rfl,rfl,rfl,rfl,rfl,rfl,trivial⟩<|ak (X' :=[_,_,_,_,_]) (S' :=[_,_,_,_]) (fun _ m=>m)<|ag<|ah<|aj<|hy (fun _=>aa rfl)<|hy (fun _=>aa rfl)<| ?_
       refine hy (fun _=>yT (b7 rfl rfl) ((decide_eq_true rfl)))<|hy (fun _=>aa rfl)<|cx (o:=_) rfl rfl rfl (fun _=>aa rfl)<|cx (o:=_) rfl rfl rfl (fun m=>jq rfl Tryz.underlying27 Tryz.underlying5 Tryz.underlying9 (m.ord 1 rfl))<|cx (o:=_) rfl rfl rfl (fun _=>aa rfl)<|cx (o:=_) rfl rfl rfl (fun _=>yT (me rfl rfl) ((decide_eq_true rfl)))<|hy (fun _=>bE rfl rfl)<|hy (fun _=>ab rfl)<|ai<|al (ρ' :=[(4,_),(14,_),(13,_),(12,_),(11,_),(159,_),(148,_),(127,_),(99,_),(74,_),(26,_),(25,_),(5,_),(3,_),(0,_),(1,_)]) ⟨rfl,rfl,rfl,rfl,rfl,rfl,rfl,rfl,rfl,rfl,rfl,rfl,rfl,rfl,rfl,rfl,trivial⟩<|ag<|aU<|aV<|aw<| ?_
       exact bc trivial rfl rfl [4,0] rfl [0] rfl ⟨st,x,rfl,rfl,rfl,⟨hD.le (by omega),hB.le (by omega) (by omega)⟩⟩
      ·refine aB<|aQ<|ag<|ah<| ?_
       refine CI (fun(y:RX) (g15:Nat) (g16:Nat)=>[(15,.pointer (some ⟨g15,0,none⟩)),(16,.pointer (some ⟨g16,0,none⟩)),(17,.int .i64 (x.d.put (bo k6)).2.2)]) (fun(y:RX) (g15:Nat) (g16:Nat)=>[aG g15 39 y.cs,aG g16 53 (aZ (x.d.put (bo k6)).2.1)]) (fun(y:RX) (g15:Nat) (g16:Nat)=>[cT y]) (fun(y:RX) (g15:Nat) (g16:Nat)=>y.d=(x.d.put (bo k6)).1) [(159,_),(148,_),(127,_),(99,_),(74,_),(26,_),(25,_),(5,_),(4,_),(3,_),(0,_),(1,_)] ⟨rfl,rfl,rfl,rfl,rfl,rfl,rfl,rfl,rfl,rfl,rfl,rfl,trivial⟩ [] rfl ?_ (fun y g15 g16 hyw=> ?_)
       ·refine oO [6,7,12,13,14,15] (.take 0 4<|.take 1 4<|.take 2 4<|.take 3 4<|.take 4 4<|.take 5 4<|.alt 6 (.alt 7 (.take 8 4<|.take 9 4<|.take 10 5<|.take 11 6<|.alt 12 (.alt 13 (.alt 14 (.alt 15 (.take 16 6<|.done) (.stop)) (.stop)) (.stop)) (.alt 13 (.alt 12 (.alt 14 (.alt 15 (.take 16 6<|.done) (.stop)) (.stop)) (.stop)) (.stop))) (.alt 12 (.alt 7 (.take 8 4<|.take 9 4<|.take 10 5<|.take 11 6<|.alt 13 (.alt 14 (.alt 15 (.take 16 6<|.done) (.stop)) (.stop)) (.stop)) (.alt 13 (.alt 7 (.take 8 4<|.take 9 4<|.take 10 5<|.take 11 6<|.alt 14 (.alt 15 (.take 16 6<|.done) (.stop)) (.stop)) (.stop)) (.stop))) (.alt 13 (.alt 7 (.take 8 4<|.take 9 4<|.take 10 5<|.take 11 6<|.alt 12 (.alt 14 (.alt 15 (.take 16 6<|.done) (.stop)) (.stop)) (.stop)) (.alt 12 (.alt 7 (.take 8 4<|.take 9 4<|.take 10 5<|.take 11 6<|.alt 14 (.alt 15 (.take 16 6<|.done) (.stop)) (.stop)) (.stop)) (.stop))) (.stop)))) (.alt 12 (.alt 6 (.alt 7 (.take 8 4<|.take 9 4<|.take 10 5<|.take 11 6<|.alt 13 (.alt 14 (.alt 15 (.take 16 6<|.done) (.stop)) (.stop)) (.stop)) (.alt 13 (.alt 7 (.take 8 4<|.take 9 4<|.take 10 5<|.take 11 6<|.alt 14 (.alt 15 (.take 16 6<|.done) (.stop)) (.stop)) (.stop)) (.stop))) (.alt 13 (.alt 6 (.alt 7 (.take 8 4<|.take 9 4<|.take 10 5<|.take 11 6<|.alt 14 (.alt 15 (.take 16 6<|.done) (.stop)) (.stop)) (.stop)) (.stop)) (.stop))) (.alt 13 (.alt 6 (.alt 7 (.take 8 4<|.take 9 4<|.take 10 5<|.take 11 6<|.alt 12 (.alt 14 (.alt 15 (.take 16 6<|.done) (.stop)) (.stop)) (.stop)) (.alt 12 (.alt 7 (.take 8 4<|.take 9 4<|.take 10 5<|.take 11 6<|.alt 14 (.alt 15 (.take 16 6<|.done) (.stop)) (.stop)) (.stop)) (.stop))) (.alt 12 (.alt 6 (.alt 7 (.take 8 4<|.take 9 4<|.take 10 5<|.take 11 6<|.alt 14 (.alt 15 (.take 16 6<|.done) (.stop)) (.stop)) (.stop)) (.stop)) (.stop))) (.stop)))) (by kernel_rfl) (by kernel_rfl) rfl 4<|bl (aa rfl)<|bl (aW rfl)<|bl (aD rfl ek (by decide))<|y5 (fun m=>yV (aX rfl ca bf rfl (ll (m.aT 2 rfl))) ((rfl:_=Value.agg x.cs.toArray)))<|bl (aD rfl qy (by decide))<|y5 (fun m=>ar rfl eY (ax (m.aT 1 rfl) (i:=1) rfl))<| ?_
        refine dW ?_ ?_
        ·refine eE (ao rfl Tryz.call27 (jY hz hk6 hk6l) [] rfl [] rfl ?_)
         rintro _ _ _ ⟨v,rfl,rfl,rfl⟩
         refine⟨(fun _=>wk [1,1,1,1] [0,1,2,3] rfl rfl), ?_⟩
         refine fG (fun m=>(m.own 0 rfl).slice) ?_
         rintro⟨A_x,c_x,rfl,hc_x⟩
         refine fG (fun m=>(m.ord 0 rfl).2.1) fun hA_x=> ?_
         refine jZ (fun w m=>(m.perm (av [0] _ [_] _ rfl)).freeze) ?_
         refine jZ (fun w m=>m.gX 0 rfl .own) ?_
         refine dW ?_ ?_
         ·refine eE (ao rfl Tryz.call26 (j7 okx (by omega) hc_x hcl (by omega)) [] rfl [2,0,5] rfl ?_)
          rintro _ _ _ ⟨y,rfl,rfl,rfl,hyw⟩
          refine⟨(fun _=>wk [0,0,0,0] [3,4,5,6] rfl rfl), ?_⟩
          refine bl (aa rfl)<|bl (aq rfl rfl)<|bl (aq rfl rfl)<|bl (aq rfl rfl)<| ?_
          refine dW ?_ ?_
          ·refine eE (aM fN (fun g15=>⟨(fun _=>wk [1,1,1,1] [3,4,5,6] rfl rfl), ?_⟩))
           refine eE (aM cX (fun g16=>⟨(fun _=>wk [2,2,2,2] [3,4,5,6] rfl rfl), ?_⟩))
           refine dT (aI 1 rfl rfl rfl bf rfl bK rfl ⟨(fun h=>absurd h (by decide)), ?_⟩)
           refine dT (aI 1 rfl rfl rfl bn hp32 aY rfl ⟨(fun h=>absurd h (by decide)), ?_⟩)
           refine bl (ab rfl)<|dU<|al (ρ' :=[(17,_),(16,_),(15,_),(159,_),(148,_),(127,_),(99,_),(74,_),(26,_),(25,_),(5,_),(4,_),(3,_),(0,_),(1,_)]) ⟨rfl,rfl,rfl,rfl,rfl,rfl,rfl,rfl,rfl,rfl,rfl,rfl,rfl,rfl,rfl,trivial⟩<|ak (X' :=[_,_,_,_,_,_]) (S' :=[_,_,_,_,_,_,_]) (fun _ m=>m)<| ?_
           exact fi (R:=fun(y:RX) (g15:Nat) (g16:Nat)=>[(15,.pointer (some ⟨g15,0,none⟩)),(16,.pointer (some ⟨g16,0,none⟩)),(17,.int .i64 (x.d.put (bo k6)).2.2)]) (X1:=fun(y:RX) (g15:Nat) (g16:Nat)=>[aG g15 39 y.cs,aG g16 53 (aZ (x.d.put (bo k6)).2.1)]) (S1:=fun(y:RX) (g15:Nat) (g16:Nat)=>[cT y]) (I:=fun(y:RX) (g15:Nat) (g16:Nat)=>y.d=(x.d.put (bo k6)).1) y g15 g16 ⟨rfl,rfl,rfl,rfl,rfl,rfl,rfl,rfl,rfl,rfl,rfl,rfl,rfl,rfl,rfl,trivial⟩ [1,0,0,0,0,0] rfl [0,3,4,5,6] rfl hyw
          ·refine eE (aM cX (fun g16=>⟨(fun _=>wk [1,1,1,1] [3,4,5,6] rfl rfl), ?_⟩))
           refine eE (aM fN (fun g15=>⟨(fun _=>wk [2,2,2,2] [3,4,5,6] rfl rfl), ?_⟩))
           refine dT (aI 0 rfl rfl rfl bf rfl bK rfl ⟨(fun h=>absurd h (by decide)), ?_⟩)
           refine dT (aI 1 rfl rfl rfl bn hp32 aY rfl ⟨(fun h=>absurd h (by decide)), ?_⟩)
           refine bl (ab rfl)<|dU<|al (ρ' :=[(17,_),(15,_),(16,_),(159,_),(148,_),(127,_),(99,_),(74,_),(26,_),(25,_),(5,_),(4,_),(3,_),(0,_),(1,_)]) ⟨rfl,rfl,rfl,rfl,rfl,rfl,rfl,rfl,rfl,rfl,rfl,rfl,rfl,rfl,rfl,trivial⟩<|ak (X' :=[_,_,_,_,_,_]) (S' :=[_,_,_,_,_,_,_]) (fun _ m=>m)<| ?_
           exact fi (R:=fun(y:RX) (g15:Nat) (g16:Nat)=>[(15,.pointer (some ⟨g15,0,none⟩)),(16,.pointer (some ⟨g16,0,none⟩)),(17,.int .i64 (x.d.put (bo k6)).2.2)]) (X1:=fun(y:RX) (g15:Nat) (g16:Nat)=>[aG g15 39 y.cs,aG g16 53 (aZ (x.d.put (bo k6)).2.1)]) (S1:=fun(y:RX) (g15:Nat) (g16:Nat)=>[cT y]) (I:=fun(y:RX) (g15:Nat) (g16:Nat)=>y.d=(x.d.put (bo k6)).1) y g15 g16 ⟨rfl,rfl,rfl,rfl,rfl,rfl,rfl,rfl,rfl,rfl,rfl,rfl,rfl,rfl,rfl,trivial⟩ [1,0,0,0,0,0] rfl [0,3,4,5,6] rfl hyw
         ·refine dW ?_ ?_
          ·refine eE (aM fN (fun g15=>⟨(fun _=>wk [1,1,1,1] [2,3,4,5] rfl rfl), ?_⟩))
           refine dW ?_ ?_
           ·refine eE (ao rfl Tryz.call26 (j7 okx (by omega) hc_x hcl (by omega)) [] rfl [2,0,5] rfl ?_)
            rintro _ _ _ ⟨y,rfl,rfl,rfl,hyw⟩
            refine⟨(fun _=>wk [1,1,1,1] [3,4,5,6] rfl rfl), ?_⟩
            refine bl (aa rfl)<|bl (aq rfl rfl)<|bl (aq rfl rfl)<|bl (aq rfl rfl)<| ?_
            refine eE (aM cX (fun g16=>⟨(fun _=>wk [2,2,2,2] [3,4,5,6] rfl rfl), ?_⟩))
            refine dT (aI 1 rfl rfl rfl bf rfl bK rfl ⟨(fun h=>absurd h (by decide)), ?_⟩)
            refine dT (aI 1 rfl rfl rfl bn hp32 aY rfl ⟨(fun h=>absurd h (by decide)), ?_⟩)
            refine bl (ab rfl)<|dU<|al (ρ' :=[(17,_),(16,_),(15,_),(159,_),(148,_),(127,_),(99,_),(74,_),(26,_),(25,_),(5,_),(4,_),(3,_),(0,_),(1,_)]) ⟨rfl,rfl,rfl,rfl,rfl,rfl,rfl,rfl,rfl,rfl,rfl,rfl,rfl,rfl,rfl,trivial⟩<|ak (X' :=[_,_,_,_,_,_]) (S' :=[_,_,_,_,_,_,_]) (fun _ m=>m)<| ?_
            exact fi (R:=fun(y:RX) (g15:Nat) (g16:Nat)=>[(15,.pointer (some ⟨g15,0,none⟩)),(16,.pointer (some ⟨g16,0,none⟩)),(17,.int .i64 (x.d.put (bo k6)).2.2)]) (X1:=fun(y:RX) (g15:Nat) (g16:Nat)=>[aG g15 39 y.cs,aG g16 53 (aZ (x.d.put (bo k6)).2.1)]) (S1:=fun(y:RX) (g15:Nat) (g16:Nat)=>[cT y]) (I:=fun(y:RX) (g15:Nat) (g16:Nat)=>y.d=(x.d.put (bo k6)).1) y g15 g16 ⟨rfl,rfl,rfl,rfl,rfl,rfl,rfl,rfl,rfl,rfl,rfl,rfl,rfl,rfl,rfl,trivial⟩ [1,0,0,0,0,0] rfl [0,3,4,5,6] rfl hyw
           ·refine eE (aM cX (fun g16=>⟨(fun _=>wk [2,2,2,2] [2,3,4,5] rfl rfl), ?_⟩))
            refine eE (ao rfl Tryz.call26 (j7 okx (by omega) hc_x hcl (by omega)) [] rfl [2,0,5] rfl ?_)
            rintro _ _ _ ⟨y,rfl,rfl,rfl,hyw⟩
            refine⟨(fun _=>wk [2,2,2,2] [3,4,5,6] rfl rfl), ?_⟩
            refine bl (aa rfl)<|bl (aq rfl rfl)<|bl (aq rfl rfl)<|bl (aq rfl rfl)<| ?_
            refine dT (aI 1 rfl rfl rfl bf rfl bK rfl ⟨(fun h=>absurd h (by decide)), ?_⟩)
            refine dT (aI 1 rfl rfl rfl bn hp32 aY rfl ⟨(fun h=>absurd h (by decide)), ?_⟩)
            refine bl (ab rfl)<|dU<|al (ρ' :=[(17,_),(16,_),(15,_),(159,_),(148,_),(127,_),(99,_),(74,_),(26,_),(25,_),(5,_),(4,_),(3,_),(0,_),(1,_)]) ⟨rfl,rfl,rfl,rfl,rfl,rfl,rfl,rfl,rfl,rfl,rfl,rfl,rfl,rfl,rfl,trivial⟩<|ak (X' :=[_,_,_,_,_,_]) (S' :=[_,_,_,_,_,_,_]) (fun _ m=>m)<| ?_
            exact fi (R:=fun(y:RX) (g15:Nat) (g16:Nat)=>[(15,.pointer (some ⟨g15,0,none⟩)),(16,.pointer (some ⟨g16,0,none⟩)),(17,.int .i64 (x.d.put (bo k6)).2.2)]) (X1:=fun(y:RX) (g15:Nat) (g16:Nat)=>[aG g15 39 y.cs,aG g16 53 (aZ (x.d.put (bo k6)).2.1)]) (S1:=fun(y:RX) (g15:Nat) (g16:Nat)=>[cT y]) (I:=fun(y:RX) (g15:Nat) (g16:Nat)=>y.d=(x.d.put (bo k6)).1) y g15 g16 ⟨rfl,rfl,rfl,rfl,rfl,rfl,rfl,rfl,rfl,rfl,rfl,rfl,rfl,rfl,rfl,trivial⟩ [1,0,0,0,0,0] rfl [0,3,4,5,6] rfl hyw
          ·refine eE (aM cX (fun g16=>⟨(fun _=>wk [1,1,1,1] [2,3,4,5] rfl rfl), ?_⟩))
           refine dW ?_ ?_
           ·refine eE (ao rfl Tryz.call26 (j7 okx (by omega) hc_x hcl (by omega)) [] rfl [2,0,5] rfl ?_)
            rintro _ _ _ ⟨y,rfl,rfl,rfl,hyw⟩
            refine⟨(fun _=>wk [1,1,1,1] [3,4,5,6] rfl rfl), ?_⟩
            refine bl (aa rfl)<|bl (aq rfl rfl)<|bl (aq rfl rfl)<|bl (aq rfl rfl)<| ?_
            refine eE (aM fN (fun g15=>⟨(fun _=>wk [2,2,2,2] [3,4,5,6] rfl rfl), ?_⟩))
            refine dT (aI 0 rfl rfl rfl bf rfl bK rfl ⟨(fun h=>absurd h (by decide)), ?_⟩)
            refine dT (aI 1 rfl rfl rfl bn hp32 aY rfl ⟨(fun h=>absurd h (by decide)), ?_⟩)
            refine bl (ab rfl)<|dU<|al (ρ' :=[(17,_),(15,_),(16,_),(159,_),(148,_),(127,_),(99,_),(74,_),(26,_),(25,_),(5,_),(4,_),(3,_),(0,_),(1,_)]) ⟨rfl,rfl,rfl,rfl,rfl,rfl,rfl,rfl,rfl,rfl,rfl,rfl,rfl,rfl,rfl,trivial⟩<|ak (X' :=[_,_,_,_,_,_]) (S' :=[_,_,_,_,_,_,_]) (fun _ m=>m)<| ?_
            exact fi (R:=fun(y:RX) (g15:Nat) (g16:Nat)=>[(15,.pointer (some ⟨g15,0,none⟩)),(16,.pointer (some ⟨g16,0,none⟩)),(17,.int .i64 (x.d.put (bo k6)).2.2)]) (X1:=fun(y:RX) (g15:Nat) (g16:Nat)=>[aG g15 39 y.cs,aG g16 53 (aZ (x.d.put (bo k6)).2.1)]) (S1:=fun(y:RX) (g15:Nat) (g16:Nat)=>[cT y]) (I:=fun(y:RX) (g15:Nat) (g16:Nat)=>y.d=(x.d.put (bo k6)).1) y g15 g16 ⟨rfl,rfl,rfl,rfl,rfl,rfl,rfl,rfl,rfl,rfl,rfl,rfl,rfl,rfl,rfl,trivial⟩ [1,0,0,0,0,0] rfl [0,3,4,5,6] rfl hyw
           ·refine eE (aM fN (fun g15=>⟨(fun _=>wk [2,2,2,2] [2,3,4,5] rfl rfl), ?_⟩))
            refine eE (ao rfl Tryz.call26 (j7 okx (by omega) hc_x hcl (by omega)) [] rfl [2,0,5] rfl ?_)
            rintro _ _ _ ⟨y,rfl,rfl,rfl,hyw⟩
            refine⟨(fun _=>wk [2,2,2,2] [3,4,5,6] rfl rfl), ?_⟩
            refine bl (aa rfl)<|bl (aq rfl rfl)<|bl (aq rfl rfl)<|bl (aq rfl rfl)<| ?_
            refine dT (aI 0 rfl rfl rfl bf rfl bK rfl ⟨(fun h=>absurd h (by decide)), ?_⟩)
            refine dT (aI 1 rfl rfl rfl bn hp32 aY rfl ⟨(fun h=>absurd h (by decide)), ?_⟩)
            refine bl (ab rfl)<|dU<|al (ρ' :=[(17,_),(15,_),(16,_),(159,_),(148,_),(127,_),(99,_),(74,_),(26,_),(25,_),(5,_),(4,_),(3,_),(0,_),(1,_)]) ⟨rfl,rfl,rfl,rfl,rfl,rfl,rfl,rfl,rfl,rfl,rfl,rfl,rfl,rfl,rfl,trivial⟩<|ak (X' :=[_,_,_,_,_,_]) (S' :=[_,_,_,_,_,_,_]) (fun _ m=>m)<| ?_
            exact fi (R:=fun(y:RX) (g15:Nat) (g16:Nat)=>[(15,.pointer (some ⟨g15,0,none⟩)),(16,.pointer (some ⟨g16,0,none⟩)),(17,.int .i64 (x.d.put (bo k6)).2.2)]) (X1:=fun(y:RX) (g15:Nat) (g16:Nat)=>[aG g15 39 y.cs,aG g16 53 (aZ (x.d.put (bo k6)).2.1)]) (S1:=fun(y:RX) (g15:Nat) (g16:Nat)=>[cT y]) (I:=fun(y:RX) (g15:Nat) (g16:Nat)=>y.d=(x.d.put (bo k6)).1) y g15 g16 ⟨rfl,rfl,rfl,rfl,rfl,rfl,rfl,rfl,rfl,rfl,rfl,rfl,rfl,rfl,rfl,trivial⟩ [1,0,0,0,0,0] rfl [0,3,4,5,6] rfl hyw
        ·refine dW ?_ ?_
         ·refine eE (aM fN (fun g15=>⟨(fun _=>wk [1,1,1,1] [0,1,2,3] rfl rfl), ?_⟩))
          refine dW ?_ ?_
          ·refine eE (ao rfl Tryz.call27 (jY hz hk6 hk6l) [] rfl [] rfl ?_)
           rintro _ _ _ ⟨v,rfl,rfl,rfl⟩
           refine⟨(fun _=>wk [2,2,2,2] [0,1,2,3] rfl rfl), ?_⟩
           refine fG (fun m=>(m.own 0 rfl).slice) ?_
           rintro⟨A_x,c_x,rfl,hc_x⟩
           refine fG (fun m=>(m.ord 0 rfl).2.1) fun hA_x=> ?_
           refine jZ (fun w m=>(m.perm (av [0] _ [_] _ rfl)).freeze) ?_
           refine jZ (fun w m=>m.gX 0 rfl .own) ?_
           refine dW ?_ ?_
           ·refine eE (ao rfl Tryz.call26 (j7 okx (by omega) hc_x hcl (by omega)) [] rfl [2,0,5] rfl ?_)
            rintro _ _ _ ⟨y,rfl,rfl,rfl,hyw⟩
            refine⟨(fun _=>wk [1,1,1,1] [3,4,5,6] rfl rfl), ?_⟩
            refine bl (aa rfl)<|bl (aq rfl rfl)<|bl (aq rfl rfl)<|bl (aq rfl rfl)<| ?_
            refine eE (aM cX (fun g16=>⟨(fun _=>wk [2,2,2,2] [3,4,5,6] rfl rfl), ?_⟩))
            refine dT (aI 1 rfl rfl rfl bf rfl bK rfl ⟨(fun h=>absurd h (by decide)), ?_⟩)
            refine dT (aI 1 rfl rfl rfl bn hp32 aY rfl ⟨(fun h=>absurd h (by decide)), ?_⟩)
            refine bl (ab rfl)<|dU<|al (ρ' :=[(17,_),(16,_),(15,_),(159,_),(148,_),(127,_),(99,_),(74,_),(26,_),(25,_),(5,_),(4,_),(3,_),(0,_),(1,_)]) ⟨rfl,rfl,rfl,rfl,rfl,rfl,rfl,rfl,rfl,rfl,rfl,rfl,rfl,rfl,rfl,trivial⟩<|ak (X' :=[_,_,_,_,_,_]) (S' :=[_,_,_,_,_,_,_]) (fun _ m=>m)<| ?_
            exact fi (R:=fun(y:RX) (g15:Nat) (g16:Nat)=>[(15,.pointer (some ⟨g15,0,none⟩)),(16,.pointer (some ⟨g16,0,none⟩)),(17,.int .i64 (x.d.put (bo k6)).2.2)]) (X1:=fun(y:RX) (g15:Nat) (g16:Nat)=>[aG g15 39 y.cs,aG g16 53 (aZ (x.d.put (bo k6)).2.1)]) (S1:=fun(y:RX) (g15:Nat) (g16:Nat)=>[cT y]) (I:=fun(y:RX) (g15:Nat) (g16:Nat)=>y.d=(x.d.put (bo k6)).1) y g15 g16 ⟨rfl,rfl,rfl,rfl,rfl,rfl,rfl,rfl,rfl,rfl,rfl,rfl,rfl,rfl,rfl,trivial⟩ [1,0,0,0,0,0] rfl [0,3,4,5,6] rfl hyw
           ·refine eE (aM cX (fun g16=>⟨(fun _=>wk [2,2,2,2] [2,3,4,5] rfl rfl), ?_⟩))
            refine eE (ao rfl Tryz.call26 (j7 okx (by omega) hc_x hcl (by omega)) [] rfl [2,0,5] rfl ?_)
            rintro _ _ _ ⟨y,rfl,rfl,rfl,hyw⟩
            refine⟨(fun _=>wk [2,2,2,2] [3,4,5,6] rfl rfl), ?_⟩
            refine bl (aa rfl)<|bl (aq rfl rfl)<|bl (aq rfl rfl)<|bl (aq rfl rfl)<| ?_
            refine dT (aI 1 rfl rfl rfl bf rfl bK rfl ⟨(fun h=>absurd h (by decide)), ?_⟩)
            refine dT (aI 1 rfl rfl rfl bn hp32 aY rfl ⟨(fun h=>absurd h (by decide)), ?_⟩)
            refine bl (ab rfl)<|dU<|al (ρ' :=[(17,_),(16,_),(15,_),(159,_),(148,_),(127,_),(99,_),(74,_),(26,_),(25,_),(5,_),(4,_),(3,_),(0,_),(1,_)]) ⟨rfl,rfl,rfl,rfl,rfl,rfl,rfl,rfl,rfl,rfl,rfl,rfl,rfl,rfl,rfl,trivial⟩<|ak (X' :=[_,_,_,_,_,_]) (S' :=[_,_,_,_,_,_,_]) (fun _ m=>m)<| ?_
            exact fi (R:=fun(y:RX) (g15:Nat) (g16:Nat)=>[(15,.pointer (some ⟨g15,0,none⟩)),(16,.pointer (some ⟨g16,0,none⟩)),(17,.int .i64 (x.d.put (bo k6)).2.2)]) (X1:=fun(y:RX) (g15:Nat) (g16:Nat)=>[aG g15 39 y.cs,aG g16 53 (aZ (x.d.put (bo k6)).2.1)]) (S1:=fun(y:RX) (g15:Nat) (g16:Nat)=>[cT y]) (I:=fun(y:RX) (g15:Nat) (g16:Nat)=>y.d=(x.d.put (bo k6)).1) y g15 g16 ⟨rfl,rfl,rfl,rfl,rfl,rfl,rfl,rfl,rfl,rfl,rfl,rfl,rfl,rfl,rfl,trivial⟩ [1,0,0,0,0,0] rfl [0,3,4,5,6] rfl hyw
          ·refine eE (aM cX (fun g16=>⟨(fun _=>wk [2,2,2,2] [0,1,2,3] rfl rfl), ?_⟩))
           refine eE (ao rfl Tryz.call27 (jY hz hk6 hk6l) [] rfl [] rfl ?_)
           rintro _ _ _ ⟨v,rfl,rfl,rfl⟩
           refine⟨(fun _=>wk [3,3,3,3] [0,1,2,3] rfl rfl), ?_⟩
           refine fG (fun m=>(m.own 0 rfl).slice) ?_
           rintro⟨A_x,c_x,rfl,hc_x⟩
           refine fG (fun m=>(m.ord 0 rfl).2.1) fun hA_x=> ?_
           refine jZ (fun w m=>(m.perm (av [0] _ [_] _ rfl)).freeze) ?_
           refine jZ (fun w m=>m.gX 0 rfl .own) ?_
           refine eE (ao rfl Tryz.call26 (j7 okx (by omega) hc_x hcl (by omega)) [] rfl [2,0,5] rfl ?_)
           rintro _ _ _ ⟨y,rfl,rfl,rfl,hyw⟩
           refine⟨(fun _=>wk [2,2,2,2] [3,4,5,6] rfl rfl), ?_⟩
           refine bl (aa rfl)<|bl (aq rfl rfl)<|bl (aq rfl rfl)<|bl (aq rfl rfl)<| ?_
           refine dT (aI 1 rfl rfl rfl bf rfl bK rfl ⟨(fun h=>absurd h (by decide)), ?_⟩)
           refine dT (aI 1 rfl rfl rfl bn hp32 aY rfl ⟨(fun h=>absurd h (by decide)), ?_⟩)
           refine bl (ab rfl)<|dU<|al (ρ' :=[(17,_),(16,_),(15,_),(159,_),(148,_),(127,_),(99,_),(74,_),(26,_),(25,_),(5,_),(4,_),(3,_),(0,_),(1,_)]) ⟨rfl,rfl,rfl,rfl,rfl,rfl,rfl,rfl,rfl,rfl,rfl,rfl,rfl,rfl,rfl,trivial⟩<|ak (X' :=[_,_,_,_,_,_]) (S' :=[_,_,_,_,_,_,_]) (fun _ m=>m)<| ?_
           exact fi (R:=fun(y:RX) (g15:Nat) (g16:Nat)=>[(15,.pointer (some ⟨g15,0,none⟩)),(16,.pointer (some ⟨g16,0,none⟩)),(17,.int .i64 (x.d.put (bo k6)).2.2)]) (X1:=fun(y:RX) (g15:Nat) (g16:Nat)=>[aG g15 39 y.cs,aG g16 53 (aZ (x.d.put (bo k6)).2.1)]) (S1:=fun(y:RX) (g15:Nat) (g16:Nat)=>[cT y]) (I:=fun(y:RX) (g15:Nat) (g16:Nat)=>y.d=(x.d.put (bo k6)).1) y g15 g16 ⟨rfl,rfl,rfl,rfl,rfl,rfl,rfl,rfl,rfl,rfl,rfl,rfl,rfl,rfl,rfl,trivial⟩ [1,0,0,0,0,0] rfl [0,3,4,5,6] rfl hyw
         ·refine eE (aM cX (fun g16=>⟨(fun _=>wk [1,1,1,1] [0,1,2,3] rfl rfl), ?_⟩))
          refine dW ?_ ?_
          ·refine eE (ao rfl Tryz.call27 (jY hz hk6 hk6l) [] rfl [] rfl ?_)
           rintro _ _ _ ⟨v,rfl,rfl,rfl⟩
           refine⟨(fun _=>wk [2,2,2,2] [0,1,2,3] rfl rfl), ?_⟩
           refine fG (fun m=>(m.own 0 rfl).slice) ?_
           rintro⟨A_x,c_x,rfl,hc_x⟩
           refine fG (fun m=>(m.ord 0 rfl).2.1) fun hA_x=> ?_
           refine jZ (fun w m=>(m.perm (av [0] _ [_] _ rfl)).freeze) ?_
           refine jZ (fun w m=>m.gX 0 rfl .own) ?_
           refine dW ?_ ?_
           ·refine eE (ao rfl Tryz.call26 (j7 okx (by omega) hc_x hcl (by omega)) [] rfl [2,0,5] rfl ?_)
            rintro _ _ _ ⟨y,rfl,rfl,rfl,hyw⟩
            refine⟨(fun _=>wk [1,1,1,1] [3,4,5,6] rfl rfl), ?_⟩
            refine bl (aa rfl)<|bl (aq rfl rfl)<|bl (aq rfl rfl)<|bl (aq rfl rfl)<| ?_
            refine eE (aM fN (fun g15=>⟨(fun _=>wk [2,2,2,2] [3,4,5,6] rfl rfl), ?_⟩))
            refine dT (aI 0 rfl rfl rfl bf rfl bK rfl ⟨(fun h=>absurd h (by decide)), ?_⟩)
            refine dT (aI 1 rfl rfl rfl bn hp32 aY rfl ⟨(fun h=>absurd h (by decide)), ?_⟩)
            refine bl (ab rfl)<|dU<|al (ρ' :=[(17,_),(15,_),(16,_),(159,_),(148,_),(127,_),(99,_),(74,_),(26,_),(25,_),(5,_),(4,_),(3,_),(0,_),(1,_)]) ⟨rfl,rfl,rfl,rfl,rfl,rfl,rfl,rfl,rfl,rfl,rfl,rfl,rfl,rfl,rfl,trivial⟩<|ak (X' :=[_,_,_,_,_,_]) (S' :=[_,_,_,_,_,_,_]) (fun _ m=>m)<| ?_
            exact fi (R:=fun(y:RX) (g15:Nat) (g16:Nat)=>[(15,.pointer (some ⟨g15,0,none⟩)),(16,.pointer (some ⟨g16,0,none⟩)),(17,.int .i64 (x.d.put (bo k6)).2.2)]) (X1:=fun(y:RX) (g15:Nat) (g16:Nat)=>[aG g15 39 y.cs,aG g16 53 (aZ (x.d.put (bo k6)).2.1)]) (S1:=fun(y:RX) (g15:Nat) (g16:Nat)=>[cT y]) (I:=fun(y:RX) (g15:Nat) (g16:Nat)=>y.d=(x.d.put (bo k6)).1) y g15 g16 ⟨rfl,rfl,rfl,rfl,rfl,rfl,rfl,rfl,rfl,rfl,rfl,rfl,rfl,rfl,rfl,trivial⟩ [1,0,0,0,0,0] rfl [0,3,4,5,6] rfl hyw
           ·refine eE (aM fN (fun g15=>⟨(fun _=>wk [2,2,2,2] [2,3,4,5] rfl rfl), ?_⟩))
            refine eE (ao rfl Tryz.call26 (j7 okx (by omega) hc_x hcl (by omega)) [] rfl [2,0,5] rfl ?_)
            rintro _ _ _ ⟨y,rfl,rfl,rfl,hyw⟩
            refine⟨(fun _=>wk [2,2,2,2] [3,4,5,6] rfl rfl), ?_⟩
            refine bl (aa rfl)<|bl (aq rfl rfl)<|bl (aq rfl rfl)<|bl (aq rfl rfl)<| ?_
            refine dT (aI 0 rfl rfl rfl bf rfl bK rfl ⟨(fun h=>absurd h (by decide)), ?_⟩)
            refine dT (aI 1 rfl rfl rfl bn hp32 aY rfl ⟨(fun h=>absurd h (by decide)), ?_⟩)
            refine bl (ab rfl)<|dU<|al (ρ' :=[(17,_),(15,_),(16,_),(159,_),(148,_),(127,_),(99,_),(74,_),(26,_),(25,_),(5,_),(4,_),(3,_),(0,_),(1,_)]) ⟨rfl,rfl,rfl,rfl,rfl,rfl,rfl,rfl,rfl,rfl,rfl,rfl,rfl,rfl,rfl,trivial⟩<|ak (X' :=[_,_,_,_,_,_]) (S' :=[_,_,_,_,_,_,_]) (fun _ m=>m)<| ?_
            exact fi (R:=fun(y:RX) (g15:Nat) (g16:Nat)=>[(15,.pointer (some ⟨g15,0,none⟩)),(16,.pointer (some ⟨g16,0,none⟩)),(17,.int .i64 (x.d.put (bo k6)).2.2)]) (X1:=fun(y:RX) (g15:Nat) (g16:Nat)=>[aG g15 39 y.cs,aG g16 53 (aZ (x.d.put (bo k6)).2.1)]) (S1:=fun(y:RX) (g15:Nat) (g16:Nat)=>[cT y]) (I:=fun(y:RX) (g15:Nat) (g16:Nat)=>y.d=(x.d.put (bo k6)).1) y g15 g16 ⟨rfl,rfl,rfl,rfl,rfl,rfl,rfl,rfl,rfl,rfl,rfl,rfl,rfl,rfl,rfl,trivial⟩ [1,0,0,0,0,0] rfl [0,3,4,5,6] rfl hyw
          ·refine eE (aM fN (fun g15=>⟨(fun _=>wk [2,2,2,2] [0,1,2,3] rfl rfl), ?_⟩))
           refine eE (ao rfl Tryz.call27 (jY hz hk6 hk6l) [] rfl [] rfl ?_)
           rintro _ _ _ ⟨v,rfl,rfl,rfl⟩
           refine⟨(fun _=>wk [3,3,3,3] [0,1,2,3] rfl rfl), ?_⟩
           refine fG (fun m=>(m.own 0 rfl).slice) ?_
           rintro⟨A_x,c_x,rfl,hc_x⟩
           refine fG (fun m=>(m.ord 0 rfl).2.1) fun hA_x=> ?_
           refine jZ (fun w m=>(m.perm (av [0] _ [_] _ rfl)).freeze) ?_
           refine jZ (fun w m=>m.gX 0 rfl .own) ?_
           refine eE (ao rfl Tryz.call26 (j7 okx (by omega) hc_x hcl (by omega)) [] rfl [2,0,5] rfl ?_)
           rintro _ _ _ ⟨y,rfl,rfl,rfl,hyw⟩
           refine⟨(fun _=>wk [2,2,2,2] [3,4,5,6] rfl rfl), ?_⟩
           refine bl (aa rfl)<|bl (aq rfl rfl)<|bl (aq rfl rfl)<|bl (aq rfl rfl)<| ?_
           refine dT (aI 0 rfl rfl rfl bf rfl bK rfl ⟨(fun h=>absurd h (by decide)), ?_⟩)
           refine dT (aI 1 rfl rfl rfl bn hp32 aY rfl ⟨(fun h=>absurd h (by decide)), ?_⟩)
           refine bl (ab rfl)<|dU<|al (ρ' :=[(17,_),(15,_),(16,_),(159,_),(148,_),(127,_),(99,_),(74,_),(26,_),(25,_),(5,_),(4,_),(3,_),(0,_),(1,_)]) ⟨rfl,rfl,rfl,rfl,rfl,rfl,rfl,rfl,rfl,rfl,rfl,rfl,rfl,rfl,rfl,trivial⟩<|ak (X' :=[_,_,_,_,_,_]) (S' :=[_,_,_,_,_,_,_]) (fun _ m=>m)<| ?_
           exact fi (R:=fun(y:RX) (g15:Nat) (g16:Nat)=>[(15,.pointer (some ⟨g15,0,none⟩)),(16,.pointer (some ⟨g16,0,none⟩)),(17,.int .i64 (x.d.put (bo k6)).2.2)]) (X1:=fun(y:RX) (g15:Nat) (g16:Nat)=>[aG g15 39 y.cs,aG g16 53 (aZ (x.d.put (bo k6)).2.1)]) (S1:=fun(y:RX) (g15:Nat) (g16:Nat)=>[cT y]) (I:=fun(y:RX) (g15:Nat) (g16:Nat)=>y.d=(x.d.put (bo k6)).1) y g15 g16 ⟨rfl,rfl,rfl,rfl,rfl,rfl,rfl,rfl,rfl,rfl,rfl,rfl,rfl,rfl,rfl,trivial⟩ [1,0,0,0,0,0] rfl [0,3,4,5,6] rfl hyw
       ·refine ag<|ah<|aj<|hy (fun _=>aa rfl)<|hy (fun m=>yV (aX rfl ca bf rfl ((m.aT 0 rfl).ay)) ((rfl:_=Value.agg y.cs.toArray)))<|hy (fun _=>aW rfl)<|hy (fun _=>aD rfl ek (by decide))<| ?_
        refine cI (jG 4 rfl rfl rfl bf rfl bK (show 6≤6 from Nat.le_refl 6) ?_)
        refine aL (fun w m=>m.bM 0 rfl (show _=aG gw 41 (.pointer (some ⟨gd,0,none⟩)::y.cs)from congrArg (aG _ _) kS)) ?_
        refine ai<|al (ρ' :=[(15,_),(16,_),(17,_),(159,_),(148,_),(127,_),(99,_),(74,_),(26,_),(25,_),(5,_),(4,_),(3,_),(0,_),(1,_)]) ⟨rfl,rfl,rfl,rfl,rfl,rfl,rfl,rfl,rfl,rfl,rfl,rfl,rfl,rfl,rfl,trivial⟩<|ak (X' :=[_,_,_,_,_,_]) (S' :=[_,_,_,_,_]) (fun _ m=>m)<|ag<|ah<| ?_
        refine rm (fun(st1:cH) (g18:Nat)=>[(18,.pointer (some ⟨g18,0,none⟩)),(19,.int .i64 (x.d.put (bo k6)).2.2)]) (fun(st1:cH) (g18:Nat)=>[bm gd st1,aG g18 53 (aZ (x.d.put (bo k6)).2.1)]) (fun(st1:cH) (g18:Nat)=>[]) (fun(st1:cH) (g18:Nat)=>DS st1 (x.d.put (bo k6)).1 (kk+4)) [(15,_),(16,_),(17,_),(159,_),(148,_),(127,_),(99,_),(74,_),(26,_),(25,_),(5,_),(4,_),(3,_),(0,_),(1,_)] ⟨rfl,rfl,rfl,rfl,rfl,rfl,rfl,rfl,rfl,rfl,rfl,rfl,rfl,rfl,rfl,trivial⟩ [5] rfl ?_ (fun st1 g18 hE1=> ?_)
        ·refine CP [0,0,0,0,0] [0,1,2,3,4] rfl rfl [6,7,11,12] (.take 0 3<|.take 1 3<|.take 2 3<|.take 3 3<|.take 4 3<|.take 5 3<|.alt 6 (.alt 7 (.take 8 3<|.take 9 3<|.take 10 4<|.alt 11 (.alt 12 (.take 13 4<|.done) (.stop)) (.stop)) (.alt 11 (.alt 7 (.take 8 3<|.take 9 3<|.take 10 4<|.alt 12 (.take 13 4<|.done) (.stop)) (.stop)) (.stop))) (.alt 11 (.alt 6 (.alt 7 (.take 8 3<|.take 9 3<|.take 10 4<|.alt 12 (.take 13 4<|.done) (.stop)) (.stop)) (.stop)) (.stop))) (by kernel_rfl) (by kernel_rfl) rfl 3<|bl (aa rfl)<|bl (aW rfl)<|bl (aD rfl eZ (by decide))<|y5 (fun m=>ar rfl ia (ax (m.aT 0 rfl) (i:=0) rfl))<|bl (aD rfl qy (by decide))<|y5 (fun m=>ar rfl eY (ax (m.aT 4 rfl) (i:=1) rfl))<| ?_
         refine dW ?_ ?_
         ·refine eE (ao rfl Tryz.call27 (jY hz hk6 hk6l) [] rfl [] rfl ?_)
          rintro _ _ _ ⟨v,rfl,rfl,rfl⟩
          refine⟨(fun _=>wk [1,1,1,1,1] [0,1,2,3,4] rfl rfl), ?_⟩
          refine fG (fun m=>(m.own 0 rfl).slice) ?_
          rintro⟨A_x,c_x,rfl,hc_x⟩
          refine fG (fun m=>(m.ord 0 rfl).2.1) fun hA_x=> ?_
          refine dW ?_ ?_
          ·refine eE (cF rfl Tryz.call28 (uv hD (by omega) hc_x hcl (by omega)) [6] rfl (.x 0 rfl .own (.s 4 rfl .nil)) ?_)
           rintro _ _ _ ⟨st1,rfl,rfl,rfl,hE1⟩
           refine⟨rfl, ?_⟩
           refine⟨(fun _=>wk [2,2,2,2,2] [0,1,2,3,4] rfl rfl), ?_⟩
           refine bl (aa rfl)<|bl (aq rfl rfl)<|bl (aq rfl rfl)<| ?_
           refine eE (aM cX (fun g18=>⟨(fun _=>wk [3,3,3,3,3] [0,1,2,3,4] rfl rfl), ?_⟩))
           refine dT (aI 0 rfl rfl rfl bn hp32 aY rfl ⟨(fun h=>absurd h (by decide)), ?_⟩)
           refine bl (ab rfl)<|dU<|al (ρ' :=[(19,_),(18,_),(15,_),(16,_),(17,_),(159,_),(148,_),(127,_),(99,_),(74,_),(26,_),(25,_),(5,_),(4,_),(3,_),(0,_),(1,_)]) ⟨rfl,rfl,rfl,rfl,rfl,rfl,rfl,rfl,rfl,rfl,rfl,rfl,rfl,rfl,rfl,rfl,rfl,trivial⟩<|ak (X' :=[_,_,_,_,_,_,_,_]) (S' :=[_,_,_,_,_]) (fun _ m=>m)<| ?_
           exact gk (R:=fun(st1:cH) (g18:Nat)=>[(18,.pointer (some ⟨g18,0,none⟩)),(19,.int .i64 (x.d.put (bo k6)).2.2)]) (X1:=fun(st1:cH) (g18:Nat)=>[bm gd st1,aG g18 53 (aZ (x.d.put (bo k6)).2.1)]) (S1:=fun(st1:cH) (g18:Nat)=>[]) (I:=fun(st1:cH) (g18:Nat)=>DS st1 (x.d.put (bo k6)).1 (kk+4)) st1 g18 ⟨rfl,rfl,rfl,rfl,rfl,rfl,rfl,rfl,rfl,rfl,rfl,rfl,rfl,rfl,rfl,rfl,rfl,trivial⟩ [1,0,1,1,1,1,1] rfl [0,1,2,3,4] rfl hE1
          ·refine eE (aM cX (fun g18=>⟨(fun _=>wk [2,2,2,2,2] [0,1,2,3,4] rfl rfl), ?_⟩))
           refine eE (cF rfl Tryz.call28 (uv hD (by omega) hc_x hcl (by omega)) [7] rfl (.x 1 rfl .own (.s 4 rfl .nil)) ?_)
           rintro _ _ _ ⟨st1,rfl,rfl,rfl,hE1⟩
           refine⟨rfl, ?_⟩
           refine⟨(fun _=>wk [3,3,3,3,3] [0,1,2,3,4] rfl rfl), ?_⟩
           refine bl (aa rfl)<|bl (aq rfl rfl)<|bl (aq rfl rfl)<| ?_
           refine dT (aI 1 rfl rfl rfl bn hp32 aY rfl ⟨(fun h=>absurd h (by decide)), ?_⟩)
           refine bl (ab rfl)<|dU<|al (ρ' :=[(19,_),(18,_),(15,_),(16,_),(17,_),(159,_),(148,_),(127,_),(99,_),(74,_),(26,_),(25,_),(5,_),(4,_),(3,_),(0,_),(1,_)]) ⟨rfl,rfl,rfl,rfl,rfl,rfl,rfl,rfl,rfl,rfl,rfl,rfl,rfl,rfl,rfl,rfl,rfl,trivial⟩<|ak (X' :=[_,_,_,_,_,_,_,_]) (S' :=[_,_,_,_,_]) (fun _ m=>m)<| ?_
           exact gk (R:=fun(st1:cH) (g18:Nat)=>[(18,.pointer (some ⟨g18,0,none⟩)),(19,.int .i64 (x.d.put (bo k6)).2.2)]) (X1:=fun(st1:cH) (g18:Nat)=>[bm gd st1,aG g18 53 (aZ (x.d.put (bo k6)).2.1)]) (S1:=fun(st1:cH) (g18:Nat)=>[]) (I:=fun(st1:cH) (g18:Nat)=>DS st1 (x.d.put (bo k6)).1 (kk+4)) st1 g18 ⟨rfl,rfl,rfl,rfl,rfl,rfl,rfl,rfl,rfl,rfl,rfl,rfl,rfl,rfl,rfl,rfl,rfl,trivial⟩ [1,0,1,1,1,1,1] rfl [0,1,2,3,4] rfl hE1
         ·refine eE (aM cX (fun g18=>⟨(fun _=>wk [1,1,1,1,1] [0,1,2,3,4] rfl rfl), ?_⟩))
          refine eE (ao rfl Tryz.call27 (jY hz hk6 hk6l) [] rfl [] rfl ?_)
          rintro _ _ _ ⟨v,rfl,rfl,rfl⟩
          refine⟨(fun _=>wk [2,2,2,2,2] [0,1,2,3,4] rfl rfl), ?_⟩
          refine fG (fun m=>(m.own 0 rfl).slice) ?_
          rintro⟨A_x,c_x,rfl,hc_x⟩
          refine fG (fun m=>(m.ord 0 rfl).2.1) fun hA_x=> ?_
          refine eE (cF rfl Tryz.call28 (uv hD (by omega) hc_x hcl (by omega)) [7] rfl (.x 0 rfl .own (.s 4 rfl .nil)) ?_)
          rintro _ _ _ ⟨st1,rfl,rfl,rfl,hE1⟩
          refine⟨rfl, ?_⟩
          refine⟨(fun _=>wk [3,3,3,3,3] [0,1,2,3,4] rfl rfl), ?_⟩
          refine bl (aa rfl)<|bl (aq rfl rfl)<|bl (aq rfl rfl)<| ?_
          refine dT (aI 2 rfl rfl rfl bn hp32 aY rfl ⟨(fun h=>absurd h (by decide)), ?_⟩)
          refine bl (ab rfl)<|dU<|al (ρ' :=[(19,_),(18,_),(15,_),(16,_),(17,_),(159,_),(148,_),(127,_),(99,_),(74,_),(26,_),(25,_),(5,_),(4,_),(3,_),(0,_),(1,_)]) ⟨rfl,rfl,rfl,rfl,rfl,rfl,rfl,rfl,rfl,rfl,rfl,rfl,rfl,rfl,rfl,rfl,rfl,trivial⟩<|ak (X' :=[_,_,_,_,_,_,_,_]) (S' :=[_,_,_,_,_]) (fun _ m=>m)<| ?_
          exact gk (R:=fun(st1:cH) (g18:Nat)=>[(18,.pointer (some ⟨g18,0,none⟩)),(19,.int .i64 (x.d.put (bo k6)).2.2)]) (X1:=fun(st1:cH) (g18:Nat)=>[bm gd st1,aG g18 53 (aZ (x.d.put (bo k6)).2.1)]) (S1:=fun(st1:cH) (g18:Nat)=>[]) (I:=fun(st1:cH) (g18:Nat)=>DS st1 (x.d.put (bo k6)).1 (kk+4)) st1 g18 ⟨rfl,rfl,rfl,rfl,rfl,rfl,rfl,rfl,rfl,rfl,rfl,rfl,rfl,rfl,rfl,rfl,rfl,trivial⟩ [1,0,1,1,1,1,1] rfl [0,1,2,3,4] rfl hE1
        ·refine ag<|ah<|aj<|hy (fun m=>aX rfl ct bn hp32 ((m.aT 1 rfl).ay))<|hy (fun m=>aX rfl ct bn hp32 ((m.aT 4 rfl).ay))<| ?_
         refine hy (fun _=>yT (rp rfl rfl (rn _ _) (rn _ _)) ((by simp)))<|hy (fun _=>aa rfl)<|cx (o:=_) rfl rfl rfl (fun _=>aa rfl)<|cx (o:=_) rfl rfl rfl (fun _=>aa rfl)<|cx (o:=_) rfl rfl rfl (fun _=>yT (b7 rfl rfl) ((decide_eq_true rfl)))<|hy (fun _=>bE rfl rfl)<|hy (fun _=>ab rfl)<|ai<|al (ρ' :=[(4,_),(18,_),(19,_),(15,_),(16,_),(17,_),(159,_),(148,_),(127,_),(99,_),(74,_),(26,_),(25,_),(5,_),(3,_),(0,_),(1,_)]) ⟨rfl,rfl,rfl,rfl,rfl,rfl,rfl,rfl,rfl,rfl,rfl,rfl,rfl,rfl,rfl,rfl,rfl,trivial⟩<|ag<|aU<| ?_
         exact bc trivial rfl rfl [2,0] rfl [0] rfl ⟨st1,y,rfl,rfl,rfl,⟨by rw[hyw];exact hE1.le (by omega),by rw[hyw];exact(hB.put _).le (by omega) (by omega)⟩⟩
end Go.Proofs.YtmibdabdlgmafaaGreatDoor
end
section
set_option maxRecDepth 20000
set_option maxHeartbeats 4000000
namespace Go.Proofs.YtmibdabdlgmafaaGreatDoor
open Go.Eng Go.Hx
theorem BJ{xs:List Cell}(h:Ty Tryz.prog 30 xs):∃(a z u:Int) (B:Option Addr) (m c:Nat) (ys:List Cell) (l:List UInt8) (B2:Option Addr) (m2 c2:Nat) (zs:List Cell),xs=[.v (.int .i64 a),.v (.int .i64 z),.v (.int .i64 u),.s 1 B m c ys,.s 1 B2 m2 c2 zs]∧
  (-9223372036854775808≤a∧a≤9223372036854775807)∧(-9223372036854775808≤z∧z≤9223372036854775807)∧(-9223372036854775808≤u∧u≤9223372036854775807)∧m≤c∧m≤140737488351232∧ys.map Cell.val=aZ l∧l.length=m∧Ty Tryz.prog 28 [.s 1 B2 m2 c2 zs]:=by
 obtain⟨hl,hf⟩:=vF Tryz.underlying30 h
 have hl5:xs.length=5:=hl.trans (by kernel_rfl)
 match xs,hl5 with
 | [x0,x1,x2,x4,x5],_=>
  obtain⟨a,e0,h0⟩:=tF Tryz.underlying3 (hf 0 _ rfl)
  obtain⟨z,e1,h1⟩:=tF Tryz.underlying3 (hf 1 _ rfl)
  obtain⟨u,e2,h2⟩:=tF Tryz.underlying3 (hf 2 _ rfl)
  obtain⟨B,m,c,ys,l,e4,h4,h5,h6,h7⟩:=xC Tryz.underlying27 Tryz.underlying5 (by kernel_rfl) (by kernel_rfl) (hf 3 _ rfl)
  have h8:=hf 4 _ rfl
  obtain⟨B2,m2,c2,zs,e5,h9,_⟩:=kv Tryz.underlying28 h8
  have c1:Tryz.prog.cellsOf 4=1:=by kernel_rfl
  rw[c1]at e5
  have d0:x0= .v (.int .i64 a):=List.singleton_inj.1 e0
  have d1:x1= .v (.int .i64 z):=List.singleton_inj.1 e1
  have d2:x2= .v (.int .i64 u):=List.singleton_inj.1 e2
  have d4:x4= .s 1 B m c ys:=List.singleton_inj.1 e4
  have d5:x5= .s 1 B2 m2 c2 zs:=List.singleton_inj.1 e5
  subst d0 d1 d2 d4 d5
  rw[e5]at h8
  exact⟨a,z,u,B,m,c,ys,l,B2,m2,c2,zs,rfl,h0,h1,h2,h4,h5,h6,h7,h8⟩
theorem vL{w:World}{A:Option Addr}{n i:Nat}{xs ys zs:List Cell}{a z u:Int}{B:Option Addr}{m mc:Nat}{B2:Option Addr}{m2 mc2:Nat}(h:Rd w 5 A n (xs.map Cell.val))(he:(xs.drop (i*5)).take 5=[.v (.int .i64 a),.v (.int .i64 z),.v (.int .i64 u),.s 1 B m mc ys,.s 1 B2 m2 mc2 zs]):
  ∀(j:Nat) (v:Value),(Dy a z u B m mc B2 m2 mc2)[j]? =some v→w.cell? (((A.getD d0).add (i*5)).add j)=some v:=by
 intro j v hu
 match j,hu with
 |0,hu=>cases hu;exact dm h (kB (fV he (o:=0) rfl))
 |1,hu=>cases hu;exact dm h (kB (fV he (o:=1) rfl))
 |2,hu=>cases hu;exact dm h (kB (fV he (o:=2) rfl))
 |3,hu=>cases hu;exact dm h (kB (fV he (o:=3) rfl))
 |4,hu=>cases hu;exact dm h (kB (fV he (o:=4) rfl))
 |j+5,hu=>simp[Dy]at hu
theorem r9{z:Int}{A:Option Addr}{n c:Nat}{xs:List Cell}(hz:-9223372036854775808≤z∧z≤9223372036854775807)(hT:Ty Tryz.prog 22 [.s 5 A n c xs]):cj Tryz.prog 3 [.int .i64 z,.slice A n c] [] [mx (.s 5 A n c xs),fm] (fun v_ X_ S_=>v_=(.bool true)∧X_=[]∧S_=[]):=by
 obtain⟨_,_,_,_,e6,hnc,hnb,hxl,hel⟩:=kv Tryz.underlying22 hT
 have c6:Tryz.prog.cellsOf 30=5:=by kernel_rfl
 have b6:Tryz.prog.bytesOf 30=72:=by kernel_rfl
 rw[c6]at e6 hel hxl
 rw[b6]at hnb
 cases e6
 obtain⟨ar0,ar1⟩:=mN z 400 (by decide)
 refine aO (N:=48) Tryz.func3 rfl rfl (by simp) fun b=> ?_
 refine ba (fun m=>DY (m.Cd 0 rfl)) ?_
 rintro⟨hl_r,hA_r,hc_r⟩
 refine ah<|aj<|hy (fun _=>ab rfl)<|ai<|ag<|ah<|aj<|hy (fun _=>aa rfl)<| ?_
 refine hx (ao rfl Tryz.call16 (lX hz.1 hz.2 (by decide) (n:=z) (m:=400)) [] rfl [] rfl ?_)
 rintro _ _ _ ⟨rfl,rfl,rfl⟩
 refine hy (fun _=>aJ rfl rfl (bA (by omega) (by omega)))<| ?_
 refine hx (ao rfl Tryz.call15 (sT (by omega) (by omega)) [] rfl [] rfl ?_)
 rintro _ _ _ ⟨gw,gd,gs,gl,y,rfl,rfl,rfl,hg⟩
 refine hy (fun _=>ab rfl)<|ai<|al (ρ' :=[(5,_),(4,_),(0,_),(1,_)]) ⟨rfl,rfl,rfl,rfl,trivial⟩<|ak (X' :=[_,_]) (S' :=[_,_,_]) (fun _ m=>m)<|ag<|ah<|ah<|aj<|hy (fun _=>aa rfl)<|hy (fun _=>tV rfl rfl (by kernel_rfl))<|ai<|al (ρ' :=[(12,_),(5,_),(4,_),(0,_),(1,_)]) ⟨rfl,rfl,rfl,rfl,rfl,trivial⟩<|ag<| ?_
 refine di rfl (rfl) ?_
 have hD0:DS (j9 (1+fB z 400) gs gl) y.d 0:=by rw[hg];exact DS.init (by omega)
 have hB0:Bd y.d 0 0:=by rw[hg];exact Bd.new _
 refine aB<|ag<|ah<|ah<|aj<|hy (fun _=>ab rfl)<|ai<|ag<|aN<| ?_
 refine iM (fun i st x=>n-i) (fun i st x=>[(6,.int .i64 (i:Nat))]) (fun i st x=>[aG gw 41 (.pointer (some ⟨gd,0,none⟩)::x.cs),bm gd st]) (fun i st x=>[cT x]) (fun i st x=>i≤20∧i≤n∧DS st x.d (88*i)∧Bd x.d (4*i) (84*i)) 0 (j9 (1+fB z 400) gs gl) y [(12,_),(5,_),(0,_),(1,_)] ⟨rfl,rfl,rfl,rfl,trivial⟩ [0,0] rfl [0] rfl (⟨by decide,Nat.zero_le _,hD0,hB0⟩) ⟨rfl,trivial⟩ (fun i st x ⟨h20,hin,hD,hB⟩=> ?_)
 refine ah<|ah<|aj<|hy (fun _=>aa rfl)<|hy (fun _=>aa rfl)<|hy (fun _=>aR rfl Tryz.underlying22)<|hy (fun _=>br rfl rfl)<|hy (fun _=>aa rfl)<| ?_
 refine fo 17 rfl (fun h1=> ?_) (fun h1=> ?_)
 ·refine cx (o:=_) rfl rfl rfl (fun _=>aa rfl)<|cx (o:=_) rfl rfl rfl (fun _=>br rfl rfl)<|hy (fun _=>bE rfl rfl)<|ai<|al (ρ' :=[(20,_),(6,_),(12,_),(5,_),(0,_),(1,_)]) ⟨rfl,rfl,rfl,rfl,rfl,rfl,trivial⟩<|ag<| ?_
  refine cL rfl (fun h2=> ?_) (fun h2=> ?_)
  ·obtain⟨oa,oz,ou,Bo,mb,mc,ys,lb,B2,m2,mc2,zs2,he,ha1,hz1,hu1,hmc,hmn,hys,hlb,hT2⟩:=BJ (hel i (by omega))
   obtain⟨_,_,_,_,bs,e7,hmc2,hm2,hbs,hbl⟩:=wC hT2
   cases e7
   refine bu (fun w m=>m.gX 2 rfl (View.um (fV he (o:=3) rfl) hys)) ?_
   refine ba (fun m=>gK (m.rd 0 rfl)) ?_
   rintro⟨hl_rb,hA_rb⟩
   refine bu (fun w m=>m.gX 3 rfl (View.um (fV he (o:=4) rfl) hbs)) ?_
   refine ba (fun m=>ik (m.rd 0 rfl)) ?_
   rintro⟨hl_rk,hA_rk⟩
   refine aB<|ag<|ah<|aN<|ah<|ah<|aj<|hy (fun _=>aa rfl)<|hy (fun _=>aa rfl)<|hy (fun _=>aa rfl)<|hy (fun _=>cU rfl rfl Tryz.underlying22 DA hA_r rfl (by omega))<|hy (fun m=>yV (aX rfl Ev DA rfl (vL (View.DT.ok.1 _ (m.Cd 4 rfl)) he)) ((rfl:_=Value.agg (Dy oa oz ou Bo mb mc B2 m2 mc2).toArray)))<| ?_
   refine hx (ao rfl Tryz.call17 (Am hD (by omega) hB ha1 hz1 hu1 hmc hmn hmc2 hm2 (lb:=lb) (bs:=bs)) [0,0] rfl [2,1,0,5] rfl ?_)
   rintro _ _ _ ⟨st1,y2,rfl,rfl,rfl,hdd⟩
   have hB2:Bd y2.d (4*(i+1)) (84*(i+1)):=hdd.2.le (by omega) (by omega)
   have hD2:DS st1 y2.d (88*(i+1)):=(hdd.1.tight hB2).le (by omega)
   have hnl:∀f∈y2.d.seen,f.1.length≤1000000:=fun f hf=>Nat.le_trans (hB2.nS f hf) (by decide)
   have hls:=tI hD2.lR.files.ord
   have hcl:(gr y2.d).length≤88*(i+1):=Nat.le_trans (tK y2.d) hD2.so.seen
   refine hy (fun _=>(fw rfl))<|hy (fun _=>aa rfl)<|cx (o:=_) rfl rfl rfl (fun _=>aa rfl)<| ?_
   refine Bf (o:=_) rfl rfl rfl (ao rfl Tryz.call18 (zE hD2 (by omega)) [0,0] rfl [0] rfl ?_)
   rintro _ _ _ ⟨rfl,rfl,rfl⟩
   refine cx (o:=_) rfl rfl rfl (fun _=>(fw rfl))<|hy (fun _=>bp rfl rfl)<|ai<|al (ρ' :=[(34,_),(20,_),(6,_),(12,_),(5,_),(0,_),(1,_)]) ⟨rfl,rfl,rfl,rfl,rfl,rfl,rfl,trivial⟩<|ak (X' :=[_,_]) (S' :=[_,_,_,_,_,_,_]) (fun _ m=>m)<|ag<| ?_
   refine di rfl (rfl) ?_
   refine aB<|ag<|ah<|cK [4,9,10] [(0,some 3),(1,some 0),(2,some 0),(3,some 0),(5,some 3),(6,some 1),(7,some 1),(8,some 1),(4,none),(9,none),(10,none),(11,some 3)] (by kernel_rfl) (by kernel_rfl) rfl 99<|an (aa rfl)<|an (aW rfl)<|an (aD rfl eZ (by decide))<|cd (fun m=>ar rfl ia (ax (m.aT 0 rfl) (i:=0) rfl))<|an (aa rfl)<|an (aW rfl)<|an (aD rfl ek (by decide))<|cd (fun m=>yV (aX rfl ca bf rfl (ll (m.aT 0 rfl))) ((rfl:_=Value.agg y2.cs.toArray)))<| ?_
   refine ee (ao rfl Tryz.call20 (CH hD2 (by omega) hnl) [1] rfl [] rfl ?_)
   rintro _ _ _ ⟨v,k,rfl,rfl,rfl,hk1⟩
   refine⟨(fun _=>wk [2,0] [0,1,2,3,4,5,6] rfl rfl), ?_⟩
   refine cf (fun m=>(m.own 1 rfl).slice) ?_
   rintro⟨A_o,c_o,rfl,hc_o⟩
   refine cf (fun m=>(m.ord 1 rfl).2.1) fun hA_o=> ?_
   refine ee (ao rfl Tryz.call21 (yi hD2.so (by omega) hnl) [] rfl [0] rfl ?_)
   rintro _ _ _ ⟨A1,k2,c1,rfl,rfl,rfl,hk2⟩
   refine⟨(fun _=>wk [3,1] [0,1,2,3,4,5,6] rfl rfl), ?_⟩
   rw[hls]at hk2
   subst hk1 hk2
   rw[hls]
   refine ee (cF rfl Tryz.call19 (tM (oF y2.d) (by omega)) [] rfl (.x 2 rfl .own (.x 0 rfl .own .nil)) ?_)
   rintro _ _ _ ⟨rfl,rfl,rfl⟩
   refine⟨rfl, ?_⟩
   refine⟨(fun _=>wk [3,1] [0,1,2,3,4,5,6] rfl rfl), ?_⟩
   refine an ((fw rfl))<|bq<|al (ρ' :=[(46,_),(34,_),(20,_),(6,_),(12,_),(5,_),(0,_),(1,_)]) ⟨rfl,rfl,rfl,rfl,rfl,rfl,rfl,rfl,trivial⟩<|ak (X' :=[_,_,_,_]) (S' :=[_,_,_,_,_,_,_]) (fun _ m=>m)<|ag<| ?_
   refine di rfl (rfl) ?_
   refine aB<|aQ<|ag<|aj<|hy (fun _=>aa rfl)<|hy (fun _=>aJ rfl rfl (bA (by omega) (by omega)))<|hy (fun _=>ab rfl)<|ai<|al (ρ' :=[(6,_),(46,_),(34,_),(20,_),(12,_),(5,_),(0,_),(1,_)]) ⟨rfl,rfl,rfl,rfl,rfl,rfl,rfl,rfl,trivial⟩<| ?_
   refine fY (i+1) st1 y2 ⟨rfl,rfl,rfl,rfl,rfl,trivial⟩ [3,1] rfl [0,4,5,6] rfl (⟨by omega,by omega,hD2,hB2⟩) (by omega)
  ·refine bP<|au<|au<|aC<|ag<|ah<|aj<| ?_
   refine hx (ao rfl Tryz.call22 (rK) [] rfl [3] rfl ?_)
   rintro _ _ _ ⟨rfl,rfl,rfl⟩
   refine hy (fun _=>ab rfl)<|ai<|al (ρ' :=[(4,_),(20,_),(6,_),(12,_),(5,_),(0,_),(1,_)]) ⟨rfl,rfl,rfl,rfl,rfl,rfl,rfl,trivial⟩<|ak (X' :=[_,_]) (S' :=[_,_,_,_]) (fun _ m=>m)<|ag<|aU<| ?_
   exact bc trivial rfl rfl [] rfl [] rfl ⟨rfl,rfl,rfl⟩
 ·refine bg rfl rfl rfl (by decide)<|bg rfl rfl rfl (by decide)<|hy (fun _=>bp rfl rfl)<|ai<|al (ρ' :=[(20,_),(6,_),(12,_),(5,_),(0,_),(1,_)]) ⟨rfl,rfl,rfl,rfl,rfl,rfl,trivial⟩<|ag<| ?_
  refine di rfl (rfl) ?_
  refine bP<|au<|au<|aC<|ag<|ah<|aj<| ?_
  refine hx (ao rfl Tryz.call22 (rK) [] rfl [3] rfl ?_)
  rintro _ _ _ ⟨rfl,rfl,rfl⟩
  refine hy (fun _=>ab rfl)<|ai<|al (ρ' :=[(4,_),(20,_),(6,_),(12,_),(5,_),(0,_),(1,_)]) ⟨rfl,rfl,rfl,rfl,rfl,rfl,rfl,trivial⟩<|ak (X' :=[_,_]) (S' :=[_,_,_,_]) (fun _ m=>m)<|ag<|aU<| ?_
  exact bc trivial rfl rfl [] rfl [] rfl ⟨rfl,rfl,rfl⟩
theorem jR(z:Int)(A:Option Addr)(n c:Nat)(xs:List Cell)(W:World)(hz:-9223372036854775808≤z∧z≤9223372036854775807)(hr:(mx (.s 5 A n c xs)).holds W)(hT:Ty Tryz.prog 22 [.s 5 A n c xs])(hro:fm.holds W):
  Calls Tryz.prog 3 #[.int .i64 z,.slice A n c] W fun e w' =>e= .returned (.bool true)∧Fr No W w' :=
 qm (r9 hz hT) (by
  intro s hs
  simp only[List.mem_cons,List.not_mem_nil,or_false]at hs
  rcases hs with rfl|rfl
  ·exact hr
  ·exact hro)
end Go.Proofs.YtmibdabdlgmafaaGreatDoor
end
