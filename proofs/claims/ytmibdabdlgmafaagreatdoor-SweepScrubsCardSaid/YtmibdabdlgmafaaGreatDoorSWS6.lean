/- Part. -/
import Derived.Test.YtmibdabdlgmafaaGreatDoorSWS5
import Derived.Test.YtmibdabdlgmafaaGreatDoorProg
import Derived.Conc.MuLib
import Derived.KernelRfl
set_option linter.all false
section
set_option maxRecDepth 20000
set_option maxHeartbeats 4000000
namespace Go.Proofs.YtmibdabdlgmafaaGreatDoor
open Go.Eng Go.Hx
def jS(acc:List (List UInt8))(p:List UInt8):List (List UInt8):=match jZ p with|some nm=>eL acc nm|none=>acc
def cV(d:RD)(i:Nat):List (List UInt8):=((d.seen.take i).map (·.1)).foldl jS []
theorem nw{d:RD}{i:Nat}{x:FP}(h:d.seen[i]? =some x):cV d (i+1)=jS (cV d i) x.1:=by
 unfold cV
 rw[List.take_add_one,h,List.map_append,List.foldl_append]
 rfl
theorem Bg{acc:List (List UInt8)}{p:List UInt8}(h:kJ acc):kJ (jS acc p):=by
 unfold jS
 cases hq:jZ p with
 |none=>exact h
 |some nm=>
  have hm:nm.length=32:=by
   rw[←j5]at hq
   exact(eE hq).1
  exact tz h hm
theorem kP(d:RD):∀i,kJ (cV d i)
 |0=>fun x h=>(List.not_mem_nil h).elim
 |i+1=>by
  rcases Nat.lt_or_ge i d.seen.length with h|h
  ·rw[nw (List.getElem?_eq_getElem h)]
   exact Bg (kP d i)
  ·have:cV d (i+1)=cV d i:=by unfold cV;rw[List.take_of_length_le (by omega),List.take_of_length_le h]
   rw[this];exact kP d i
theorem E9{A:Option Addr}{n c:Nat}{ds:List (List UInt8)}{d:List UInt8}(hD:kJ ds)(hd:d.length=32)(hn:n≤1000000):cf Tryz.prog 96 [.slice A n c,.agg (aW d).toArray] [aH 53 32 (.slice A n c) n (dc ds)] [] (fun v_ X_ S_=>∃A1 n1 c1,v_=(.slice A1 n1 c1)∧X_=[aH 53 32 (.slice A1 n1 c1) n1 (dc (eL ds d))]∧S_=[]∧(n1=(eL ds d).length)):=by
 have h32:(aW d).length=32:=by rw[az,hd]
 refine aP (N:=53) Tryz.func96 rfl rfl (by simp) fun b=> ?_
 refine a6 (fun m=>u4 (m.ord 0 rfl) hD) fun hln=> ?_
 refine a6 (fun m=>(Own.rd (m.own 0 rfl)).2.1) fun hco=> ?_
 refine a6 (fun m=>(m.ord 0 rfl).2.1) fun hA_o=> ?_
 refine ah<|aj<| ?_
 refine hx (cw rfl (fun g3=> ?_))
 refine aQ (fun w m=>m.bN 0 rfl (show _=aL g3 53 (aW d)from congrArg (aL _ _) (bu _))) ?_
 refine hy (fun _=>ab rfl)<|ai<|ak (X' :=[_,_]) (S' :=[]) (fun _ m=>m)<|ag<|ah<|aj<|hy (fun _=>ab rfl)<|ai<|ag<|ah<|aK<| ?_
 refine dH (fun k=>n-k) (fun k=>[(5,.int .i64 (k:Nat))]) (fun k=>[]) (fun k=>[]) (fun k=>k≤n∧∀i,i<k→cb (ds.getD i []) d<0) 0 [(4,_),(3,_),(0,_),(1,_)] ⟨rfl,rfl,rfl,rfl,trivial⟩ [] rfl [] rfl (⟨Nat.zero_le _,fun i hi=>absurd hi (Nat.not_lt_zero _)⟩) ⟨rfl,trivial⟩ (fun k ⟨hkn,hlt⟩=> ?_)
 refine ah<|ah<|cT [10] [(0,some 0),(1,some 0),(2,some 0),(3,some 0),(4,some 0),(5,some 0),(6,some 0),(7,some 0),(8,some 0),(9,some 0),(10,none),(11,some 1),(12,some 1)] (by kernel_rfl) (by kernel_rfl) rfl 99<|an (aa rfl)<|an (aa rfl)<|an (aT rfl Tryz.underlying33)<|an (bw rfl rfl)<|an (aa rfl)<| ?_
 refine iy 11 rfl (fun h1=> ?_) (fun h1=> ?_)
 ·have hkl:k<ds.length:=by omega
  have hdk:=eT hD hkl
  refine bm (o:=_) rfl rfl rfl (aa rfl)<|bm (o:=_) rfl rfl rfl (aa rfl)<|bm (o:=_) rfl rfl rfl (cD rfl rfl Tryz.underlying33 bg hA_o rfl (by omega))<|iV (o:=_) rfl rfl rfl (fun m=>aU rfl b9 bg (by rw[az];exact hdk) ((m.ord 1 rfl).im hD hkl))<|iV (o:=_) rfl rfl rfl (fun m=>aU rfl b9 bg h32 ((m.aZ 0 rfl).ax))<| ?_
  refine s6 (o:=_) rfl rfl rfl (aq rfl Tryz.call171 (xD hdk hd) [] rfl [] rfl ?_)
  rintro _ _ _ ⟨rfl,rfl,rfl⟩
  refine⟨(fun _=>wk [0,0] [] rfl rfl), ?_⟩
  refine bm (o:=_) rfl rfl rfl (bw rfl rfl)<|an (bT rfl rfl)<|bz<|al (ρ' :=[(19,_),(5,_),(4,_),(3,_),(0,_),(1,_)]) ⟨rfl,rfl,rfl,rfl,rfl,rfl,trivial⟩<|ak (X' :=[_,_]) (S' :=[]) (fun _ m=>m)<|ag<| ?_
  refine cG rfl (fun h2=> ?_) (fun h2=> ?_)
  ·have hlt2:∀i,i<k+1→cb (ds.getD i []) d<0:=fun i hi=>by
    rcases Nat.lt_or_ge i k with h|h
    ·exact hlt i h
    ·rw[show i=k by omega];exact h2
   refine aB<|ag<|aK<|aj<|hy (fun _=>aa rfl)<|hy (fun _=>aN rfl rfl (bF (by omega) (by omega)))<|hy (fun _=>ab rfl)<|ai<|al (ρ' :=[(5,_),(19,_),(4,_),(3,_),(0,_),(1,_)]) ⟨rfl,rfl,rfl,rfl,rfl,rfl,trivial⟩<|aO<| ?_
   refine cX (k+1) ⟨rfl,rfl,rfl,rfl,rfl,trivial⟩ [0,0] rfl [] rfl (⟨by omega,hlt2⟩) (by omega)
  ·have heq:=o8 ds d k (by omega) hlt (fun h=>h2)
   refine bL<|ao<|ao<|aD<|ag<|ah<|ah<|cT [] [(0,some 0),(1,some 0),(2,some 0),(3,some 0),(4,some 0),(5,some 0),(6,some 0),(7,some 0),(8,some 0),(9,some 0),(10,some 0),(11,some 0),(12,some 0),(13,some 0),(14,some 0),(15,some 0)] (by kernel_rfl) (by kernel_rfl) rfl 99<|an (aa rfl)<|an (aa rfl)<|an (aT rfl Tryz.underlying33)<|an (bw rfl rfl)<|an (aa rfl)<| ?_
   refine iy 26 rfl (fun h3=> ?_) (fun h3=> ?_)
   ·have hkl3:k<ds.length:=by omega
    have hdk3:=eT hD hkl3
    refine bm (o:=_) rfl rfl rfl (aa rfl)<|bm (o:=_) rfl rfl rfl (aa rfl)<|bm (o:=_) rfl rfl rfl (aa rfl)<|bm (o:=_) rfl rfl rfl (aT rfl Tryz.underlying33)<|bm (o:=_) rfl rfl rfl (cp rfl rfl (bF (by omega) (by omega)))<|bm (o:=_) rfl rfl rfl (tw rfl rfl)<|bm (o:=_) rfl rfl rfl (cD rfl rfl Tryz.underlying33 bg hA_o (show((k:Nat):Int)=min (k:Int) ((n:Int)-1) by omega) (by omega))<|iV (o:=_) rfl rfl rfl (fun m=>aU rfl b9 bg (by rw[az];exact hdk3) ((m.ord 1 rfl).im hD hkl3))<|iV (o:=_) rfl rfl rfl (fun m=>aU rfl b9 bg h32 ((m.aZ 0 rfl).ax))<|bm (o:=_) rfl rfl rfl (sY rfl rfl hdk3 hd)<|an (bT rfl rfl)<|bz<|al (ρ' :=[(37,_),(19,_),(5,_),(4,_),(3,_),(0,_),(1,_)]) ⟨rfl,rfl,rfl,rfl,rfl,rfl,rfl,trivial⟩<|ag<| ?_
    refine cG rfl (fun h4=> ?_) (fun h4=> ?_)
    ·rw[if_pos ⟨hkl3,h4⟩]at heq
     rw[heq]
     refine ah<|aj<|hy (fun _=>aa rfl)<|hy (fun _=>ab rfl)<|ai<|al (ρ' :=[(4,_),(37,_),(19,_),(5,_),(3,_),(0,_),(1,_)]) ⟨rfl,rfl,rfl,rfl,rfl,rfl,rfl,trivial⟩<|ag<|aX<|ay<| ?_
     exact bh trivial rfl rfl [1] rfl [] rfl ⟨_,_,_,rfl,rfl,rfl,hln.symm⟩
    ·have hne:¬(k<ds.length∧ds.getD k []=d):=fun h=>h4 h.2
     rw[if_neg hne]at heq
     rw[heq]
     refine aB<|ag<|ah<|aj<|hy (fun _=>ab rfl)<|ai<|ag<|ah<|aj<|hy (fun _=>aa rfl)<|hy (fun _=>aa rfl)<|hy (fun _=>aa rfl)<|hy (fun _=>kj rfl rfl Tryz.underlying33 bg (show((k:Nat):Int)=_ by omega) (by omega))<| ?_
     refine aQ (fun w m=>m.dj (r' :=aH 53 32 (.slice none 0 0) 0 []) (.refl _ _) (Own.nil _ _ _ _) (fun k hk=>hk.elim)) ?_
     refine hx (bx 0 rfl rfl rfl Tryz.underlying33 Tryz.underlying33 (by exact .inl rfl) cP rfl (fun m=>Src.bR ((m.ord 2 rfl).oZ hD (show k≤n by omega))) cO (by unfold maxLen;omega) (by omega) (fun u=> ?_))
     refine aA (fun m=>(m.own 0 rfl).slice) ?_
     rintro⟨A_z,c_z,rfl,hc_z⟩
     refine aA (fun m=>(m.ord 0 rfl).2.1) fun hA_z=> ?_
     refine hy (fun _=>ab rfl)<|ai<|al (ρ' :=[(6,_),(37,_),(19,_),(5,_),(4,_),(3,_),(0,_),(1,_)]) ⟨rfl,rfl,rfl,rfl,rfl,rfl,rfl,rfl,trivial⟩<|ak (X' :=[_,_,_]) (S' :=[]) (fun _ m=>m)<|ag<|ah<|aj<|hy (fun _=>aa rfl)<|hy (fun m=>aU rfl b9 bg h32 ((m.aZ 1 rfl).ax))<| ?_
     refine hx (b6 Tryz.underlying33 cP rfl rfl rfl (by simpa[Value.cells,B8]using h32) (by decide) (by decide) (fun g46=> ?_))
     have hA_b46:0<1→(some (⟨g46,0,none⟩:Addr))≠none:=fun _ h=>by cases h
     refine aQ (fun w m=>m.bN 0 rfl (show _=aH 53 32 (.slice (some ⟨g46,0,none⟩) 1 1) 1 (dc [d])from rfl)) ?_
     refine hx (bx 1 rfl rfl rfl Tryz.underlying33 Tryz.underlying33 (by exact .inl rfl) cP rfl (fun m=>Src.bR (m.ord 0 rfl)) cO (by unfold maxLen;omega) (by omega) (fun u2=> ?_))
     refine aA (fun m=>(m.own 0 rfl).slice) ?_
     rintro⟨A_z2,c_z2,rfl,hc_z⟩
     refine aA (fun m=>(m.ord 0 rfl).2.1) fun hA_z=> ?_
     refine hy (fun _=>ab rfl)<|ai<|al (ρ' :=[(6,_),(37,_),(19,_),(5,_),(4,_),(3,_),(0,_),(1,_)]) ⟨rfl,rfl,rfl,rfl,rfl,rfl,rfl,rfl,trivial⟩<|ak (X' :=[_,_,_,_]) (S' :=[]) (fun _ m=>m)<|ag<|ah<|aj<|hy (fun _=>aa rfl)<|hy (fun _=>aa rfl)<|hy (fun _=>aa rfl)<|hy (fun _=>dE rfl rfl Tryz.underlying33 bg (show((k:Nat):Int)=_ by omega) (by omega))<| ?_
     refine hx (bx 0 rfl rfl rfl Tryz.underlying33 Tryz.underlying33 (by exact .inl rfl) cP rfl (fun m=>Src.bR ((m.ord 3 rfl).sW hD hco (show k≤n by omega))) cO (by unfold maxLen;omega) (by omega) (fun u3=> ?_))
     refine aA (fun m=>(m.own 0 rfl).slice) ?_
     rintro⟨A_z3,c_z3,rfl,hc_z⟩
     refine aA (fun m=>(m.ord 0 rfl).2.1) fun hA_z=> ?_
     refine hy (fun _=>ab rfl)<|ai<|al (ρ' :=[(4,_),(6,_),(37,_),(19,_),(5,_),(3,_),(0,_),(1,_)]) ⟨rfl,rfl,rfl,rfl,rfl,rfl,rfl,rfl,trivial⟩<|ak (X' :=[_,_,_,_]) (S' :=[]) (fun _ m=>m)<|ag<|aX<| ?_
     refine ak (fun w m=>m.bN 0 rfl (show _=aH 53 32 (.slice A_z3 (0+k+1+(n-k)) c_z3) (0+k+1+(n-k)) (dc (ds.take k++[d]++ds.drop k))from congrArg (aH _ _ _ _) (by rw[db,db,List.nil_append]))) ?_
     exact bh trivial rfl rfl [0] rfl [] rfl ⟨_,_,_,rfl,rfl,rfl,(by rw[List.length_append,List.length_append,List.length_take,List.length_drop,List.length_singleton];omega)⟩
   ·have hne:¬(k<ds.length∧ds.getD k []=d):=fun h=>h3 (by omega)
    refine aR rfl rfl rfl (by decide)<|aR rfl rfl rfl (by decide)<|aR rfl rfl rfl (by decide)<|aR rfl rfl rfl (by decide)<|aR rfl rfl rfl (by decide)<|aR rfl rfl rfl (by decide)<|aR rfl rfl rfl (by decide)<|aR rfl rfl rfl (by decide)<|aR rfl rfl rfl (by decide)<|aR rfl rfl rfl (by decide)<|an (bD rfl rfl)<|bz<|al (ρ' :=[(37,_),(19,_),(5,_),(4,_),(3,_),(0,_),(1,_)]) ⟨rfl,rfl,rfl,rfl,rfl,rfl,rfl,trivial⟩<|ag<| ?_
    refine dB rfl (rfl) ?_
    rw[if_neg hne]at heq
    rw[heq]
    refine aB<|ag<|ah<|aj<|hy (fun _=>ab rfl)<|ai<|ag<|ah<|aj<|hy (fun _=>aa rfl)<|hy (fun _=>aa rfl)<|hy (fun _=>aa rfl)<|hy (fun _=>kj rfl rfl Tryz.underlying33 bg (show((k:Nat):Int)=_ by omega) (by omega))<| ?_
    refine aQ (fun w m=>m.dj (r' :=aH 53 32 (.slice none 0 0) 0 []) (.refl _ _) (Own.nil _ _ _ _) (fun k hk=>hk.elim)) ?_
    refine hx (bx 0 rfl rfl rfl Tryz.underlying33 Tryz.underlying33 (by exact .inl rfl) cP rfl (fun m=>Src.bR ((m.ord 2 rfl).oZ hD (show k≤n by omega))) cO (by unfold maxLen;omega) (by omega) (fun u=> ?_))
    refine aA (fun m=>(m.own 0 rfl).slice) ?_
    rintro⟨A_z,c_z,rfl,hc_z⟩
    refine aA (fun m=>(m.ord 0 rfl).2.1) fun hA_z=> ?_
    refine hy (fun _=>ab rfl)<|ai<|al (ρ' :=[(6,_),(37,_),(19,_),(5,_),(4,_),(3,_),(0,_),(1,_)]) ⟨rfl,rfl,rfl,rfl,rfl,rfl,rfl,rfl,trivial⟩<|ak (X' :=[_,_,_]) (S' :=[]) (fun _ m=>m)<|ag<|ah<|aj<|hy (fun _=>aa rfl)<|hy (fun m=>aU rfl b9 bg h32 ((m.aZ 1 rfl).ax))<| ?_
    refine hx (b6 Tryz.underlying33 cP rfl rfl rfl (by simpa[Value.cells,B8]using h32) (by decide) (by decide) (fun g46=> ?_))
    have hA_b46:0<1→(some (⟨g46,0,none⟩:Addr))≠none:=fun _ h=>by cases h
    refine aQ (fun w m=>m.bN 0 rfl (show _=aH 53 32 (.slice (some ⟨g46,0,none⟩) 1 1) 1 (dc [d])from rfl)) ?_
    refine hx (bx 1 rfl rfl rfl Tryz.underlying33 Tryz.underlying33 (by exact .inl rfl) cP rfl (fun m=>Src.bR (m.ord 0 rfl)) cO (by unfold maxLen;omega) (by omega) (fun u2=> ?_))
    refine aA (fun m=>(m.own 0 rfl).slice) ?_
    rintro⟨A_z2,c_z2,rfl,hc_z⟩
    refine aA (fun m=>(m.ord 0 rfl).2.1) fun hA_z=> ?_
    refine hy (fun _=>ab rfl)<|ai<|al (ρ' :=[(6,_),(37,_),(19,_),(5,_),(4,_),(3,_),(0,_),(1,_)]) ⟨rfl,rfl,rfl,rfl,rfl,rfl,rfl,rfl,trivial⟩<|ak (X' :=[_,_,_,_]) (S' :=[]) (fun _ m=>m)<|ag<|ah<|aj<|hy (fun _=>aa rfl)<|hy (fun _=>aa rfl)<|hy (fun _=>aa rfl)<|hy (fun _=>dE rfl rfl Tryz.underlying33 bg (show((k:Nat):Int)=_ by omega) (by omega))<| ?_
    refine hx (bx 0 rfl rfl rfl Tryz.underlying33 Tryz.underlying33 (by exact .inl rfl) cP rfl (fun m=>Src.bR ((m.ord 3 rfl).sW hD hco (show k≤n by omega))) cO (by unfold maxLen;omega) (by omega) (fun u3=> ?_))
    refine aA (fun m=>(m.own 0 rfl).slice) ?_
    rintro⟨A_z3,c_z3,rfl,hc_z⟩
    refine aA (fun m=>(m.ord 0 rfl).2.1) fun hA_z=> ?_
    refine hy (fun _=>ab rfl)<|ai<|al (ρ' :=[(4,_),(6,_),(37,_),(19,_),(5,_),(3,_),(0,_),(1,_)]) ⟨rfl,rfl,rfl,rfl,rfl,rfl,rfl,rfl,trivial⟩<|ak (X' :=[_,_,_,_]) (S' :=[]) (fun _ m=>m)<|ag<|aX<| ?_
    refine ak (fun w m=>m.bN 0 rfl (show _=aH 53 32 (.slice A_z3 (0+k+1+(n-k)) c_z3) (0+k+1+(n-k)) (dc (ds.take k++[d]++ds.drop k))from congrArg (aH _ _ _ _) (by rw[db,db,List.nil_append]))) ?_
    exact bh trivial rfl rfl [0] rfl [] rfl ⟨_,_,_,rfl,rfl,rfl,(by rw[List.length_append,List.length_append,List.length_take,List.length_drop,List.length_singleton];omega)⟩
 ·refine aR rfl rfl rfl (by decide)<|aR rfl rfl rfl (by decide)<|aR rfl rfl rfl (by decide)<|aR rfl rfl rfl (by decide)<|aR rfl rfl rfl (by decide)<|wO rfl rfl rfl (by decide) (fun _=>wk [0,0] [] rfl rfl)<|aR rfl rfl rfl (by decide)<|an (bD rfl rfl)<|bz<|al (ρ' :=[(19,_),(5,_),(4,_),(3,_),(0,_),(1,_)]) ⟨rfl,rfl,rfl,rfl,rfl,rfl,trivial⟩<|ag<| ?_
  refine dB rfl (rfl) ?_
  have heq:=o8 ds d k (by omega) hlt (fun h=>absurd h (by omega))
  refine bL<|ao<|ao<|aD<|ag<|ah<|ah<|cT [] [(0,some 0),(1,some 0),(2,some 0),(3,some 0),(4,some 0),(5,some 0),(6,some 0),(7,some 0),(8,some 0),(9,some 0),(10,some 0),(11,some 0),(12,some 0),(13,some 0),(14,some 0),(15,some 0)] (by kernel_rfl) (by kernel_rfl) rfl 99<|an (aa rfl)<|an (aa rfl)<|an (aT rfl Tryz.underlying33)<|an (bw rfl rfl)<|an (aa rfl)<| ?_
  refine iy 26 rfl (fun h3=> ?_) (fun h3=> ?_)
  ·have hkl3:k<ds.length:=by omega
   have hdk3:=eT hD hkl3
   refine bm (o:=_) rfl rfl rfl (aa rfl)<|bm (o:=_) rfl rfl rfl (aa rfl)<|bm (o:=_) rfl rfl rfl (aa rfl)<|bm (o:=_) rfl rfl rfl (aT rfl Tryz.underlying33)<|bm (o:=_) rfl rfl rfl (cp rfl rfl (bF (by omega) (by omega)))<|bm (o:=_) rfl rfl rfl (tw rfl rfl)<|bm (o:=_) rfl rfl rfl (cD rfl rfl Tryz.underlying33 bg hA_o (show((k:Nat):Int)=min (k:Int) ((n:Int)-1) by omega) (by omega))<|iV (o:=_) rfl rfl rfl (fun m=>aU rfl b9 bg (by rw[az];exact hdk3) ((m.ord 1 rfl).im hD hkl3))<|iV (o:=_) rfl rfl rfl (fun m=>aU rfl b9 bg h32 ((m.aZ 0 rfl).ax))<|bm (o:=_) rfl rfl rfl (sY rfl rfl hdk3 hd)<|an (bT rfl rfl)<|bz<|al (ρ' :=[(37,_),(19,_),(5,_),(4,_),(3,_),(0,_),(1,_)]) ⟨rfl,rfl,rfl,rfl,rfl,rfl,rfl,trivial⟩<|ag<| ?_
   refine cG rfl (fun h4=> ?_) (fun h4=> ?_)
   ·rw[if_pos ⟨hkl3,h4⟩]at heq
    rw[heq]
    refine ah<|aj<|hy (fun _=>aa rfl)<|hy (fun _=>ab rfl)<|ai<|al (ρ' :=[(4,_),(37,_),(19,_),(5,_),(3,_),(0,_),(1,_)]) ⟨rfl,rfl,rfl,rfl,rfl,rfl,rfl,trivial⟩<|ag<|aX<|ay<| ?_
    exact bh trivial rfl rfl [1] rfl [] rfl ⟨_,_,_,rfl,rfl,rfl,hln.symm⟩
   ·have hne:¬(k<ds.length∧ds.getD k []=d):=fun h=>h4 h.2
    rw[if_neg hne]at heq
    rw[heq]
    refine aB<|ag<|ah<|aj<|hy (fun _=>ab rfl)<|ai<|ag<|ah<|aj<|hy (fun _=>aa rfl)<|hy (fun _=>aa rfl)<|hy (fun _=>aa rfl)<|hy (fun _=>kj rfl rfl Tryz.underlying33 bg (show((k:Nat):Int)=_ by omega) (by omega))<| ?_
    refine aQ (fun w m=>m.dj (r' :=aH 53 32 (.slice none 0 0) 0 []) (.refl _ _) (Own.nil _ _ _ _) (fun k hk=>hk.elim)) ?_
    refine hx (bx 0 rfl rfl rfl Tryz.underlying33 Tryz.underlying33 (by exact .inl rfl) cP rfl (fun m=>Src.bR ((m.ord 2 rfl).oZ hD (show k≤n by omega))) cO (by unfold maxLen;omega) (by omega) (fun u=> ?_))
    refine aA (fun m=>(m.own 0 rfl).slice) ?_
    rintro⟨A_z,c_z,rfl,hc_z⟩
    refine aA (fun m=>(m.ord 0 rfl).2.1) fun hA_z=> ?_
    refine hy (fun _=>ab rfl)<|ai<|al (ρ' :=[(6,_),(37,_),(19,_),(5,_),(4,_),(3,_),(0,_),(1,_)]) ⟨rfl,rfl,rfl,rfl,rfl,rfl,rfl,rfl,trivial⟩<|ak (X' :=[_,_,_]) (S' :=[]) (fun _ m=>m)<|ag<|ah<|aj<|hy (fun _=>aa rfl)<|hy (fun m=>aU rfl b9 bg h32 ((m.aZ 1 rfl).ax))<| ?_
    refine hx (b6 Tryz.underlying33 cP rfl rfl rfl (by simpa[Value.cells,B8]using h32) (by decide) (by decide) (fun g46=> ?_))
    have hA_b46:0<1→(some (⟨g46,0,none⟩:Addr))≠none:=fun _ h=>by cases h
    refine aQ (fun w m=>m.bN 0 rfl (show _=aH 53 32 (.slice (some ⟨g46,0,none⟩) 1 1) 1 (dc [d])from rfl)) ?_
    refine hx (bx 1 rfl rfl rfl Tryz.underlying33 Tryz.underlying33 (by exact .inl rfl) cP rfl (fun m=>Src.bR (m.ord 0 rfl)) cO (by unfold maxLen;omega) (by omega) (fun u2=> ?_))
    refine aA (fun m=>(m.own 0 rfl).slice) ?_
    rintro⟨A_z2,c_z2,rfl,hc_z⟩
    refine aA (fun m=>(m.ord 0 rfl).2.1) fun hA_z=> ?_
    refine hy (fun _=>ab rfl)<|ai<|al (ρ' :=[(6,_),(37,_),(19,_),(5,_),(4,_),(3,_),(0,_),(1,_)]) ⟨rfl,rfl,rfl,rfl,rfl,rfl,rfl,rfl,trivial⟩<|ak (X' :=[_,_,_,_]) (S' :=[]) (fun _ m=>m)<|ag<|ah<|aj<|hy (fun _=>aa rfl)<|hy (fun _=>aa rfl)<|hy (fun _=>aa rfl)<|hy (fun _=>dE rfl rfl Tryz.underlying33 bg (show((k:Nat):Int)=_ by omega) (by omega))<| ?_
    refine hx (bx 0 rfl rfl rfl Tryz.underlying33 Tryz.underlying33 (by exact .inl rfl) cP rfl (fun m=>Src.bR ((m.ord 3 rfl).sW hD hco (show k≤n by omega))) cO (by unfold maxLen;omega) (by omega) (fun u3=> ?_))
    refine aA (fun m=>(m.own 0 rfl).slice) ?_
    rintro⟨A_z3,c_z3,rfl,hc_z⟩
    refine aA (fun m=>(m.ord 0 rfl).2.1) fun hA_z=> ?_
    refine hy (fun _=>ab rfl)<|ai<|al (ρ' :=[(4,_),(6,_),(37,_),(19,_),(5,_),(3,_),(0,_),(1,_)]) ⟨rfl,rfl,rfl,rfl,rfl,rfl,rfl,rfl,trivial⟩<|ak (X' :=[_,_,_,_]) (S' :=[]) (fun _ m=>m)<|ag<|aX<| ?_
    refine ak (fun w m=>m.bN 0 rfl (show _=aH 53 32 (.slice A_z3 (0+k+1+(n-k)) c_z3) (0+k+1+(n-k)) (dc (ds.take k++[d]++ds.drop k))from congrArg (aH _ _ _ _) (by rw[db,db,List.nil_append]))) ?_
    exact bh trivial rfl rfl [0] rfl [] rfl ⟨_,_,_,rfl,rfl,rfl,(by rw[List.length_append,List.length_append,List.length_take,List.length_drop,List.length_singleton];omega)⟩
  ·have hne:¬(k<ds.length∧ds.getD k []=d):=fun h=>h3 (by omega)
   refine aR rfl rfl rfl (by decide)<|aR rfl rfl rfl (by decide)<|aR rfl rfl rfl (by decide)<|aR rfl rfl rfl (by decide)<|aR rfl rfl rfl (by decide)<|aR rfl rfl rfl (by decide)<|aR rfl rfl rfl (by decide)<|aR rfl rfl rfl (by decide)<|aR rfl rfl rfl (by decide)<|aR rfl rfl rfl (by decide)<|an (bD rfl rfl)<|bz<|al (ρ' :=[(37,_),(19,_),(5,_),(4,_),(3,_),(0,_),(1,_)]) ⟨rfl,rfl,rfl,rfl,rfl,rfl,rfl,trivial⟩<|ag<| ?_
   refine dB rfl (rfl) ?_
   rw[if_neg hne]at heq
   rw[heq]
   refine aB<|ag<|ah<|aj<|hy (fun _=>ab rfl)<|ai<|ag<|ah<|aj<|hy (fun _=>aa rfl)<|hy (fun _=>aa rfl)<|hy (fun _=>aa rfl)<|hy (fun _=>kj rfl rfl Tryz.underlying33 bg (show((k:Nat):Int)=_ by omega) (by omega))<| ?_
   refine aQ (fun w m=>m.dj (r' :=aH 53 32 (.slice none 0 0) 0 []) (.refl _ _) (Own.nil _ _ _ _) (fun k hk=>hk.elim)) ?_
   refine hx (bx 0 rfl rfl rfl Tryz.underlying33 Tryz.underlying33 (by exact .inl rfl) cP rfl (fun m=>Src.bR ((m.ord 2 rfl).oZ hD (show k≤n by omega))) cO (by unfold maxLen;omega) (by omega) (fun u=> ?_))
   refine aA (fun m=>(m.own 0 rfl).slice) ?_
   rintro⟨A_z,c_z,rfl,hc_z⟩
   refine aA (fun m=>(m.ord 0 rfl).2.1) fun hA_z=> ?_
   refine hy (fun _=>ab rfl)<|ai<|al (ρ' :=[(6,_),(37,_),(19,_),(5,_),(4,_),(3,_),(0,_),(1,_)]) ⟨rfl,rfl,rfl,rfl,rfl,rfl,rfl,rfl,trivial⟩<|ak (X' :=[_,_,_]) (S' :=[]) (fun _ m=>m)<|ag<|ah<|aj<|hy (fun _=>aa rfl)<|hy (fun m=>aU rfl b9 bg h32 ((m.aZ 1 rfl).ax))<| ?_
   refine hx (b6 Tryz.underlying33 cP rfl rfl rfl (by simpa[Value.cells,B8]using h32) (by decide) (by decide) (fun g46=> ?_))
   have hA_b46:0<1→(some (⟨g46,0,none⟩:Addr))≠none:=fun _ h=>by cases h
   refine aQ (fun w m=>m.bN 0 rfl (show _=aH 53 32 (.slice (some ⟨g46,0,none⟩) 1 1) 1 (dc [d])from rfl)) ?_
   refine hx (bx 1 rfl rfl rfl Tryz.underlying33 Tryz.underlying33 (by exact .inl rfl) cP rfl (fun m=>Src.bR (m.ord 0 rfl)) cO (by unfold maxLen;omega) (by omega) (fun u2=> ?_))
   refine aA (fun m=>(m.own 0 rfl).slice) ?_
   rintro⟨A_z2,c_z2,rfl,hc_z⟩
   refine aA (fun m=>(m.ord 0 rfl).2.1) fun hA_z=> ?_
   refine hy (fun _=>ab rfl)<|ai<|al (ρ' :=[(6,_),(37,_),(19,_),(5,_),(4,_),(3,_),(0,_),(1,_)]) ⟨rfl,rfl,rfl,rfl,rfl,rfl,rfl,rfl,trivial⟩<|ak (X' :=[_,_,_,_]) (S' :=[]) (fun _ m=>m)<|ag<|ah<|aj<|hy (fun _=>aa rfl)<|hy (fun _=>aa rfl)<|hy (fun _=>aa rfl)<|hy (fun _=>dE rfl rfl Tryz.underlying33 bg (show((k:Nat):Int)=_ by omega) (by omega))<| ?_
   refine hx (bx 0 rfl rfl rfl Tryz.underlying33 Tryz.underlying33 (by exact .inl rfl) cP rfl (fun m=>Src.bR ((m.ord 3 rfl).sW hD hco (show k≤n by omega))) cO (by unfold maxLen;omega) (by omega) (fun u3=> ?_))
   refine aA (fun m=>(m.own 0 rfl).slice) ?_
   rintro⟨A_z3,c_z3,rfl,hc_z⟩
   refine aA (fun m=>(m.ord 0 rfl).2.1) fun hA_z=> ?_
   refine hy (fun _=>ab rfl)<|ai<|al (ρ' :=[(4,_),(6,_),(37,_),(19,_),(5,_),(3,_),(0,_),(1,_)]) ⟨rfl,rfl,rfl,rfl,rfl,rfl,rfl,rfl,trivial⟩<|ak (X' :=[_,_,_,_]) (S' :=[]) (fun _ m=>m)<|ag<|aX<| ?_
   refine ak (fun w m=>m.bN 0 rfl (show _=aH 53 32 (.slice A_z3 (0+k+1+(n-k)) c_z3) (0+k+1+(n-k)) (dc (ds.take k++[d]++ds.drop k))from congrArg (aH _ _ _ _) (by rw[db,db,List.nil_append]))) ?_
   exact bh trivial rfl rfl [0] rfl [] rfl ⟨_,_,_,rfl,rfl,rfl,(by rw[List.length_append,List.length_append,List.length_take,List.length_drop,List.length_singleton];omega)⟩
theorem AA{x:RX}{kk:Nat}(ok:xP x.d kk)(hkk:kk≤100000)(hnl:∀y∈x.d.seen,y.1.length≤1000000):cf Tryz.prog 21 [.agg x.cs.toArray] [] [c6 x] (fun v_ X_ S_=>∃A1 k c1,v_=(.slice A1 k c1)∧X_=[aH 53 32 (.slice A1 k c1) k (dc (cV x.d x.d.seen.length))]∧S_=[]∧(k=(cV x.d x.d.seen.length).length)):=by
 have hsn:=ok.seen
 refine aP (N:=42) Tryz.func21 rfl rfl (by simp) fun b=> ?_
 refine ah<|aj<| ?_
 refine hx (cw rfl (fun g1=> ?_))
 refine aQ (fun w m=>m.bN 0 rfl (show _=aL g1 39 x.cs from congrArg (aL _ _) (bu _))) ?_
 refine aQ (fun w m=>m.jL 0 rfl View.yz) ?_
 refine aA (fun m=>gX (m.rd 0 rfl)) ?_
 rintro⟨hl_r0,hA_r0⟩
 refine hy (fun _=>ab rfl)<|ai<|ak (X' :=[_]) (S' :=[_,_]) (fun _ m=>m)<|ag<|ah<|aj<|hy (fun _=>ab rfl)<|ai<|ag<|ah<|ah<|aj<|hy (fun _=>ab rfl)<|ai<|ag<|aK<| ?_
 refine bC (fun w m=>m.dj (r' :=aH 53 32 (.slice none 0 0) 0 []) (.refl _ _) (Own.nil _ _ _ _) (fun k hk=>hk.elim)) ?_
 refine jJ (fun i k A1 c1=>x.d.seen.length-i) (fun i k A1 c1=>[(3,.slice A1 k c1),(4,.int .i64 (i:Nat))]) (fun i k A1 c1=>[aH 53 32 (.slice A1 k c1) k (dc (cV x.d i))]) (fun i k A1 c1=>[]) (fun i k A1 c1=>i≤x.d.seen.length∧k=(cV x.d i).length∧k≤i) 0 0 none 0 [(2,_),(1,_),(0,_)] ⟨rfl,rfl,rfl,trivial⟩ [0] rfl [] rfl (⟨Nat.zero_le _,rfl,Nat.le_refl _⟩) ⟨rfl,rfl,trivial⟩ (fun i k A1 c1 ⟨hin,hk,hki⟩=> ?_)
 refine ah<|ah<|aj<|hy (fun _=>aa rfl)<|hy (fun _=>aI rfl gD (by decide))<|hy (fun m=>aw rfl oQ (aE (m.aZ 1 rfl) (i:=1) rfl))<|hy (fun _=>aT rfl Tryz.underlying36)<|hy (fun _=>bw rfl rfl)<|ai<|al (ρ' :=[(12,_),(3,_),(4,_),(2,_),(1,_),(0,_)]) ⟨rfl,rfl,rfl,rfl,rfl,rfl,trivial⟩<|ag<| ?_
 refine cG rfl (fun hlt=> ?_) (fun hlt=> ?_)
 ·have hi2:i<x.d.seen.length:=by omega
  obtain⟨y,hyi⟩:∃y,x.d.seen[i]? =some y:=⟨_,List.getElem?_eq_getElem hi2⟩
  have hpl:=hnl y (List.mem_of_getElem? hyi)
  have hsc:=nw hyi
  have hg:=iR x.d.seen i y hyi
  generalize y.1=p at hpl hsc hg
  refine aB<|ag<|ah<|aK<|ah<|aj<|hy (fun _=>aI rfl gD (by decide))<|hy (fun m=>aw rfl oQ (aE (m.aZ 1 rfl) (i:=1) rfl))<|hy (fun _=>aa rfl)<|hy (fun _=>cD rfl rfl Tryz.underlying36 fa hA_r0 rfl (by omega))<|hy (fun _=>aI rfl eQ (by decide))<|hy (fun m=>aw rfl lz (fm (m.rd 0 rfl) hg.1))<|hy (fun _=>ab rfl)<|ai<|al (ρ' :=[(5,_),(12,_),(3,_),(4,_),(2,_),(1,_),(0,_)]) ⟨rfl,rfl,rfl,rfl,rfl,rfl,rfl,trivial⟩<|ag<|ah<|ah<|aj<|hy (fun _=>aa rfl)<|hy (fun _=>cY rfl Tryz.underlying9)<|hy (fun _=>cW rfl rfl)<|ai<|al (ρ' :=[(23,_),(5,_),(12,_),(3,_),(4,_),(2,_),(1,_),(0,_)]) ⟨rfl,rfl,rfl,rfl,rfl,rfl,rfl,rfl,trivial⟩<|ag<| ?_
  have hpz:=c7 p
  refine cG rfl (fun h69=> ?_) (fun h69=> ?_)
  ·have hno:jZ p=none:=by unfold jZ;exact if_neg (fun h=>h69 (by omega))
   have hl2:jS (cV x.d i) p=cV x.d i:=by unfold jS;rw[hno]
   rw[hl2]at hsc
   refine bC (fun w m=>m.bN 0 rfl (show _=aH 53 32 (.slice A1 k c1) k (dc (cV x.d (i+1)))from by rw[hsc])) ?_
   refine bL<|ao<|aD<|ag<|aj<|hy (fun _=>aa rfl)<|hy (fun _=>aN rfl rfl (bF (by omega) (by omega)))<|hy (fun _=>ab rfl)<|ai<|al (ρ' :=[(4,_),(23,_),(5,_),(12,_),(3,_),(2,_),(1,_),(0,_)]) ⟨rfl,rfl,rfl,rfl,rfl,rfl,rfl,rfl,trivial⟩<| ?_
   refine eO (i+1) k A1 c1 ⟨rfl,rfl,rfl,rfl,rfl,trivial⟩ [0,0] rfl [0,1] rfl (⟨by omega,by rw[hsc,hk],by omega⟩) (by omega)
  ·have h69:p.length=69:=by omega
   have ho0:jZ p=lg p (p.drop 5):=by unfold jZ;exact if_pos h69
   have hdl:=gZ (p.drop 5)
   have h32:(aW (b8 (p.drop 5)).1).length=32:=by rw[az,hdl]
   have hql:(p.drop 5).length≤1000000:=by rw[List.length_drop];omega
   have ho1:jZ p=if(b8 (p.drop 5)).2=0∧aG (b8 (p.drop 5)).1=p then some (b8 (p.drop 5)).1 else none:=ho0
   refine aB<|ag<|ah<|aj<|hy (fun _=>aa rfl)<|hy (fun _=>rl rfl rfl Tryz.underlying9 (show((5:Nat):Int)=5 from rfl) (show 5≤p.length by omega))<| ?_
   refine hx (aq rfl Tryz.call95 (xI hql (s:=(p.drop 5))) [] rfl [] rfl ?_)
   rintro _ _ _ ⟨rfl,rfl,rfl⟩
   refine hy (fun _=>aa rfl)<|hy (fun _=>ar rfl rfl)<|hy (fun _=>ar rfl rfl)<| ?_
   refine hx (aM cP (fun g6=> ?_))
   refine cH (aJ 0 rfl rfl rfl bg h32 aY rfl ?_)
   generalize hdo:b8 (p.drop 5)=dq at hdl h32 ho1 ⊢
   by_cases hE:dq.2=0
   ·refine hy (fun _=>ab rfl)<|ai<|al (ρ' :=[(7,_),(6,_),(23,_),(5,_),(12,_),(3,_),(4,_),(2,_),(1,_),(0,_)]) ⟨rfl,rfl,rfl,rfl,rfl,rfl,rfl,rfl,rfl,rfl,trivial⟩<|ak (X' :=[_,_,_]) (S' :=[_,_]) (fun _ m=>m)<|ag<|ah<|aj<|hy (fun _=>aa rfl)<|hy (fun _=>yT (cM rfl rfl) ((decide_eq_true hE)))<|hy (fun _=>aa rfl)<|dW (o:=_) rfl rfl rfl (fun m=>aU rfl b9 bg h32 ((m.aZ 0 rfl).ax))<| ?_
    refine Gw (o:=_) rfl rfl rfl (aq rfl Tryz.call29 (lR hdl) [] rfl [] rfl ?_)
    rintro _ _ _ ⟨rfl,rfl,rfl⟩
    refine dW (o:=_) rfl rfl rfl (fun _=>aa rfl)<|dW (o:=_) rfl rfl rfl (fun _=>rC rfl rfl)<|hy (fun _=>bT rfl rfl)<|ai<|al (ρ' :=[(37,_),(7,_),(6,_),(23,_),(5,_),(12,_),(3,_),(4,_),(2,_),(1,_),(0,_)]) ⟨rfl,rfl,rfl,rfl,rfl,rfl,rfl,rfl,rfl,rfl,rfl,trivial⟩<|ak (X' :=[_,_,_]) (S' :=[_,_]) (fun _ m=>m)<|ag<| ?_
    refine tc rfl (fun hp=> ?_) (fun hp=> ?_)
    ·have hp:=cN.1 (of_decide_eq_true hp)
     rw[if_pos ⟨hE,hp⟩]at ho1
     have hl2:jS (cV x.d i) p=eL (cV x.d i) dq.1:=by unfold jS;rw[ho1]
     rw[hl2]at hsc
     have hdln:=oh (cV x.d i) dq.1
     refine aj<|hy (fun _=>aa rfl)<|hy (fun m=>aU rfl b9 bg h32 ((m.aZ 0 rfl).ax))<| ?_
     refine hx (aq rfl Tryz.call96 (E9 (kP _ _) hdl (by omega)) [1] rfl [] rfl ?_)
     rintro _ _ _ ⟨A12,n1,c12,rfl,rfl,rfl,hn1⟩
     refine hy (fun _=>ab rfl)<|ai<|al (ρ' :=[(3,_),(37,_),(7,_),(6,_),(23,_),(5,_),(12,_),(4,_),(2,_),(1,_),(0,_)]) ⟨rfl,rfl,rfl,rfl,rfl,rfl,rfl,rfl,rfl,rfl,rfl,trivial⟩<|ak (X' :=[_,_,_]) (S' :=[_,_]) (fun _ m=>m)<|aO<|ag<|aj<|hy (fun _=>aa rfl)<|hy (fun _=>aN rfl rfl (bF (by omega) (by omega)))<|hy (fun _=>ab rfl)<|ai<|al (ρ' :=[(4,_),(3,_),(37,_),(7,_),(6,_),(23,_),(5,_),(12,_),(2,_),(1,_),(0,_)]) ⟨rfl,rfl,rfl,rfl,rfl,rfl,rfl,rfl,rfl,rfl,rfl,trivial⟩<| ?_
     rw[←hsc]at hn1
     refine ak (fun w m=>m.bN 0 rfl (show _=aH 53 32 (.slice A12 n1 c12) n1 (dc (cV x.d (i+1)))from by rw[hsc])) ?_
     refine eO (i+1) n1 A12 c12 ⟨rfl,rfl,rfl,rfl,rfl,trivial⟩ [0,1] rfl [0,1] rfl (⟨by omega,hn1,by rw[hn1,hsc];omega⟩) (by omega)
    ·have hp:=of_decide_eq_false hp
     rw[if_neg (fun h=>hp (by rw[h.2]))]at ho1
     have hl2:jS (cV x.d i) p=cV x.d i:=by unfold jS;rw[ho1]
     rw[hl2]at hsc
     refine bC (fun w m=>m.bN 1 rfl (show _=aH 53 32 (.slice A1 k c1) k (dc (cV x.d (i+1)))from by rw[hsc])) ?_
     refine aB<|aO<|ag<|aj<|hy (fun _=>aa rfl)<|hy (fun _=>aN rfl rfl (bF (by omega) (by omega)))<|hy (fun _=>ab rfl)<|ai<|al (ρ' :=[(4,_),(37,_),(7,_),(6,_),(23,_),(5,_),(12,_),(3,_),(2,_),(1,_),(0,_)]) ⟨rfl,rfl,rfl,rfl,rfl,rfl,rfl,rfl,rfl,rfl,rfl,trivial⟩<| ?_
     refine eO (i+1) k A1 c1 ⟨rfl,rfl,rfl,rfl,rfl,trivial⟩ [0,1] rfl [0,1] rfl (⟨by omega,by rw[hsc,hk],by omega⟩) (by omega)
   ·refine hy (fun _=>ab rfl)<|ai<|al (ρ' :=[(7,_),(6,_),(23,_),(5,_),(12,_),(3,_),(4,_),(2,_),(1,_),(0,_)]) ⟨rfl,rfl,rfl,rfl,rfl,rfl,rfl,rfl,rfl,rfl,trivial⟩<|ag<|ah<|aj<|hy (fun _=>aa rfl)<|hy (fun _=>yF (cM rfl rfl) ((decide_eq_false hE)))<|hy (fun _=>aa rfl)<|bI rfl rfl rfl (by decide)<|bI rfl rfl rfl (by decide)<|bI rfl rfl rfl (by decide)<|bI rfl rfl rfl (by decide)<|hy (fun _=>bD rfl rfl)<|ai<|al (ρ' :=[(37,_),(7,_),(6,_),(23,_),(5,_),(12,_),(3,_),(4,_),(2,_),(1,_),(0,_)]) ⟨rfl,rfl,rfl,rfl,rfl,rfl,rfl,rfl,rfl,rfl,rfl,trivial⟩<|ag<| ?_
    refine dB rfl (rfl) ?_
    rw[if_neg (fun h=>hE h.1)]at ho1
    have hl2:jS (cV x.d i) p=cV x.d i:=by unfold jS;rw[ho1]
    rw[hl2]at hsc
    refine bC (fun w m=>m.bN 1 rfl (show _=aH 53 32 (.slice A1 k c1) k (dc (cV x.d (i+1)))from by rw[hsc])) ?_
    refine aB<|aO<|ag<|aj<|hy (fun _=>aa rfl)<|hy (fun _=>aN rfl rfl (bF (by omega) (by omega)))<|hy (fun _=>ab rfl)<|ai<|al (ρ' :=[(4,_),(37,_),(7,_),(6,_),(23,_),(5,_),(12,_),(3,_),(2,_),(1,_),(0,_)]) ⟨rfl,rfl,rfl,rfl,rfl,rfl,rfl,rfl,rfl,rfl,rfl,trivial⟩<| ?_
    refine eO (i+1) k A1 c1 ⟨rfl,rfl,rfl,rfl,rfl,trivial⟩ [0,1] rfl [0,1] rfl (⟨by omega,by rw[hsc,hk],by omega⟩) (by omega)
 ·obtain rfl:i=x.d.seen.length:=by omega
  refine bL<|ao<|ao<|aD<|ag<|ah<|aj<|hy (fun _=>aa rfl)<|hy (fun _=>ab rfl)<|ai<|al (ρ' :=[(2,_),(12,_),(3,_),(4,_),(1,_),(0,_)]) ⟨rfl,rfl,rfl,rfl,rfl,rfl,trivial⟩<|ag<|aX<| ?_
  exact bh trivial rfl rfl [0] rfl [] rfl ⟨_,_,_,rfl,rfl,rfl,hk⟩
end Go.Proofs.YtmibdabdlgmafaaGreatDoor
end
section
set_option maxRecDepth 20000
set_option maxHeartbeats 4000000
namespace Go.Proofs.YtmibdabdlgmafaaGreatDoor
open Go.Eng Go.Hx
abbrev It:=o4×Int
structure IX where
 mn:Int
 av:Int
 mx:Int
 wv:o4
 oS:List It
 A:Option Addr
 c:Nat
def zE(t:It):List Value:=aW t.1.b++[.int .i64 t.2]
def Bx(l:List It):List Value:=l.flatMap zE
theorem mH(t:It):(zE t).length=33:=by simp[zE,az,t.1.h]
theorem wY(t:It):∀u∈zE t,u.oneCell' =true:=by
 intro u hu
 rcases List.mem_append.1 hu with h|h
 ·exact gU u h
 ·rw[List.mem_singleton.1 h];rfl
theorem vJ(a b:List It):Bx (a++b)=Bx a++Bx b:=by simp[Bx]
theorem BR{l:List It}:∀u∈Bx l,u.oneCell' =true:=by
 intro u hu
 obtain⟨t,_,h⟩:=List.mem_flatMap.1 hu
 exact wY t u h
def IX.cs(x:IX):List Value:=[.int .i64 x.mn,.int .i64 x.av,.int .i64 x.mx]++aW x.wv.b++[.slice x.A x.oS.length x.c]
theorem IX.fl(x:IX):x.cs.length=36:=by simp[IX.cs,az,x.wv.h]
theorem IX.bA(x:IX):∀u∈x.cs,u.oneCell' =true:=by
 intro u hu
 rcases List.mem_append.1 hu with h|h
 ·rcases List.mem_append.1 h with h|h
  ·simp only[List.mem_cons,List.not_mem_nil,or_false]at h
   rcases h with rfl|rfl|rfl <;> rfl
  ·exact gU u h
 ·rw[List.mem_singleton.1 h];rfl
theorem IX.E6(x:IX):x.cs[35]? =some (.slice x.A x.oS.length x.c):=by
 have:([Value.int .i64 x.mn,.int .i64 x.av,.int .i64 x.mx]++aW x.wv.b).length=35:=by simp[az,x.wv.h]
 unfold IX.cs
 rw[List.getElem?_append_right (by omega),this]
 rfl
def G1(L:List IX):List Value:=L.flatMap IX.cs
def IX.wj(x:IX):bq:=di 33 x.A x.oS.length (Bx x.oS)
def IX.names(x:IX):List (List UInt8):=x.oS.map (·.1.b)
def en(L:List IX):List (List UInt8):=L.flatMap IX.names
theorem yH(x:IX):kJ x.names:=fun d hd=>by
 obtain⟨t,_,rfl⟩:=List.mem_map.1 hd
 exact t.1.h
theorem mO(L:List IX):kJ (en L):=fun d hd=>by
 obtain⟨x,_,h⟩:=List.mem_flatMap.1 hd
 exact yH x d h
theorem rH{L:List IX}{i:Nat}{x:IX}(h:L[i]? =some x):en (L.take (i+1))=en (L.take i)++x.names:=by
 obtain⟨hi,rfl⟩:=List.getElem?_eq_some_iff.1 h
 rw[List.take_succ_eq_append_getElem hi,en,List.flatMap_append,List.flatMap_cons,List.flatMap_nil,List.append_nil]
 rfl
theorem vD{x:IX}{j:Nat}{t:It}(h:x.oS[j]? =some t):x.names.take (j+1)=x.names.take j++[t.1.b]:=by
 obtain⟨hj,rfl⟩:=List.getElem?_eq_some_iff.1 h
 have hj2:j<x.names.length:=by rw[IX.names,List.length_map];exact hj
 rw[List.take_succ_eq_append_getElem hj2]
 simp[IX.names]
theorem nN(x:IX):x.names.length=x.oS.length:=List.length_map ..
theorem CN{L:List IX}{i:Nat}{x:IX}(h:L[i]? =some x):(en (L.take i)).length+x.oS.length≤(en L).length:=by
 have h1:=rH h
 have h2:en L=en (L.take (i+1))++en (L.drop (i+1)):=by
  unfold en
  rw[←List.flatMap_append,List.take_append_drop]
 rw[h2,h1,List.length_append,List.length_append,nN]
 omega
theorem xt{w:World}{g:Nat}{ty:TypeId}{a b:List Value}(h:fi w g ty (a++b)):∀(j:Nat) (u:Value),a[j]? =some u→w.cell? (((⟨g,0,none⟩:Addr).add 0).add j)=some u:=fun j u hu=>by
 have:=h.ax j u (by rw[List.getElem?_append_left (List.getElem?_eq_some_iff.1 hu).1];exact hu)
 rw[add_add,Nat.zero_add]
 exact this
theorem x5{K:Option Addr}{n c:Nat}{L:List IX}(hL:L.length=n)(hn:n≤100000)(hs:(en L).length≤100000):cf Tryz.prog 146 [.slice K n c] [] [di 36 K n (G1 L),oW (L.map IX.wj)] (fun v_ X_ S_=>∃A1 k c1,v_=(.slice A1 k c1)∧X_=[aH 53 32 (.slice A1 k c1) k (dc ((en L).foldl eL []))]∧S_=[]∧(k=((en L).foldl eL []).length∧k≤c1)):=by
 refine aP (N:=32) Tryz.func146 rfl rfl (by simp) fun b=> ?_
 refine a6 (fun m=>gX (m.rd 0 rfl)) ?_
 rintro⟨hl_r,hA_r⟩
 refine ah<|aj<|hy (fun _=>ab rfl)<|ai<|ag<|ah<|aj<|hy (fun _=>ab rfl)<|ai<|ag<|ah<|ah<|aj<|hy (fun _=>aa rfl)<|hy (fun _=>aT rfl Tryz.underlying125)<|hy (fun _=>aa rfl)<|ai<|ag<|aK<| ?_
 refine bC (fun w m=>m.dj (r' :=aH 53 32 (.slice none 0 0) 0 []) (.refl _ _) (Own.nil _ _ _ _) (fun k hk=>hk.elim)) ?_
 refine jJ (fun i k A1 c1=>n-i) (fun i k A1 c1=>[(3,.slice A1 k c1),(10,.int .i64 (i:Nat))]) (fun i k A1 c1=>[aH 53 32 (.slice A1 k c1) k (dc (en (L.take i)))]) (fun i k A1 c1=>[]) (fun i k A1 c1=>i≤n∧k=(en (L.take i)).length) 0 0 none 0 [(9,_),(8,_),(2,_),(0,_)] ⟨rfl,rfl,rfl,rfl,trivial⟩ [0] rfl [] rfl (⟨Nat.zero_le _,rfl⟩) ⟨rfl,rfl,trivial⟩ (fun i k A1 c1 ⟨hin,hk⟩=> ?_)
 refine ah<|aj<|hy (fun _=>bw rfl rfl)<|ai<|ag<|ah<| ?_
 refine cG rfl (fun hlt=> ?_) (fun hlt=> ?_)
 ·have hi:i<L.length:=by omega
  obtain⟨x,hxi⟩:∃x,L[i]? =some x:=⟨_,List.getElem?_eq_getElem hi⟩
  have hle:=CN hxi
  have hsu:=rH hxi
  refine bC (fun w m=>m.jL 1 rfl (View.pS i (by rw[List.getElem?_map,hxi];rfl))) ?_
  refine a6 (fun m=>gX (m.rd 0 rfl)) ?_
  rintro⟨hl_it,hA_it⟩
  refine a6 (fun m=>(m.rd 0 rfl).2.1) fun hA_it=> ?_
  refine aB<|ag<|ah<|aK<|ah<|aj<|hy (fun _=>cD rfl rfl Tryz.underlying125 Bi hA_r rfl (by omega))<|hy (fun m=>yV (aU rfl GL Bi x.fl (qx (f:=IX.cs) IX.fl (m.rd 1 rfl) hxi)) ((rfl:_=Value.agg x.cs.toArray)))<| ?_
  refine hx (aM Cl (fun g5=> ?_))
  refine cH (aJ 0 rfl rfl rfl Bi x.fl x.bA rfl ?_)
  refine ai<|al (ρ' :=[(5,_),(11,_),(3,_),(10,_),(9,_),(8,_),(2,_),(0,_)]) ⟨rfl,rfl,rfl,rfl,rfl,rfl,rfl,rfl,trivial⟩<|ak (X' :=[_,_]) (S' :=[_,_,_]) (fun _ m=>m)<|ag<|ah<|aj<|hy (fun _=>aI rfl E0 (by decide))<|hy (fun m=>aw rfl EG (aE (m.aZ 0 rfl) (i:=35) x.E6))<|hy (fun _=>aT rfl Tryz.underlying80)<|hy (fun _=>aa rfl)<|ai<|al (ρ' :=[(17,_),(16,_),(15,_),(5,_),(11,_),(3,_),(10,_),(9,_),(8,_),(2,_),(0,_)]) ⟨rfl,rfl,rfl,rfl,rfl,rfl,rfl,rfl,rfl,rfl,rfl,trivial⟩<|ag<|aK<| ?_
  have e0:dc (en (L.take i))=dc (en (L.take i)++x.names.take 0):=by rw[List.take_zero,List.append_nil]
  rw[e0]
  refine jJ (fun j k2 A2 c2=>x.oS.length-j) (fun j k2 A2 c2=>[(3,.slice A2 k2 c2),(17,.int .i64 (j:Nat))]) (fun j k2 A2 c2=>[aH 53 32 (.slice A2 k2 c2) k2 (dc (en (L.take i)++x.names.take j))]) (fun j k2 A2 c2=>[]) (fun j k2 A2 c2=>j≤x.oS.length∧k2=k+j) 0 k A1 c1 [(16,_),(15,_),(5,_),(11,_),(10,_),(9,_),(8,_),(2,_),(0,_)] ⟨rfl,rfl,rfl,rfl,rfl,rfl,rfl,rfl,rfl,trivial⟩ [1] rfl [] rfl (⟨Nat.zero_le _,rfl⟩) ⟨rfl,rfl,trivial⟩ (fun j k2 A2 c2 ⟨hj,hk2⟩=> ?_)
  refine ah<|aj<|hy (fun _=>bw rfl rfl)<|ai<|ag<|ah<| ?_
  refine cG rfl (fun hlt2=> ?_) (fun hlt2=> ?_)
  ·have hj2:j<x.oS.length:=by omega
   obtain⟨t,ht⟩:∃t,x.oS[j]? =some t:=⟨_,List.getElem?_eq_getElem hj2⟩
   have hns:=vD ht
   have h32:(aW t.1.b).length=32:=by rw[az,t.1.h]
   refine aB<|ag<|ah<|aK<|ah<|aj<|hy (fun _=>cD rfl rfl Tryz.underlying80 zG hA_it rfl (by omega))<|hy (fun m=>yV (aU rfl GJ zG (mH t) (qx (f:=zE) mH (m.rd 0 rfl) ht)) ((rfl:_=Value.agg (zE t).toArray)))<| ?_
   refine hx (aM xy (fun g7=> ?_))
   refine cH (aJ 0 rfl rfl rfl zG (mH t) (wY t) rfl ?_)
   refine ai<|al (ρ' :=[(7,_),(18,_),(3,_),(17,_),(16,_),(15,_),(5,_),(11,_),(10,_),(9,_),(8,_),(2,_),(0,_)]) ⟨rfl,rfl,rfl,rfl,rfl,rfl,rfl,rfl,rfl,rfl,rfl,rfl,rfl,trivial⟩<|ak (X' :=[_,_,_]) (S' :=[_,_,_]) (fun _ m=>m)<|ag<|aj<|hy (fun _=>aa rfl)<|hy (fun _=>aI rfl CA (by decide))<|hy (fun m=>aU rfl b9 bg h32 (xt (m.aZ 0 rfl)))<| ?_
   refine hx (b6 Tryz.underlying33 cP rfl rfl rfl (by simpa[Value.cells,B8]using h32) (by decide) (by decide) (fun g24=> ?_))
   have hA_b24:0<1→(some (⟨g24,0,none⟩:Addr))≠none:=fun _ h=>by cases h
   refine aQ (fun w m=>m.bN 0 rfl (show _=aH 53 32 (.slice (some ⟨g24,0,none⟩) 1 1) 1 (dc [t.1.b])from rfl)) ?_
   refine hx (bx 2 rfl rfl rfl Tryz.underlying33 Tryz.underlying33 (by exact .inl rfl) cP rfl (fun m=>Src.bR (m.ord 0 rfl)) cO (by unfold maxLen;omega) (by omega) (fun u=> ?_))
   refine aA (fun m=>(m.own 0 rfl).slice) ?_
   rintro⟨A_o,c_o,rfl,hc_o⟩
   refine aA (fun m=>(m.ord 0 rfl).2.1) fun hA_o=> ?_
   refine aQ (fun w m=>m.bN 0 rfl (show _=aH 53 32 (.slice A_o (k2+1) c_o) (k2+1) (dc (en (L.take i)++x.names.take (j+1)))from congrArg (aH _ _ _ _) (by rw[hns,←List.append_assoc,db _ [t.1.b]]))) ?_
   refine hy (fun _=>ab rfl)<|ai<|al (ρ' :=[(3,_),(7,_),(18,_),(17,_),(16,_),(15,_),(5,_),(11,_),(10,_),(9,_),(8,_),(2,_),(0,_)]) ⟨rfl,rfl,rfl,rfl,rfl,rfl,rfl,rfl,rfl,rfl,rfl,rfl,rfl,trivial⟩<|ak (X' :=[_,_,_,_]) (S' :=[_,_,_]) (fun _ m=>m)<|aO<|ag<|aj<|hy (fun _=>aN rfl rfl (bF (by omega) (by omega)))<|hy (fun _=>aa rfl)<|ai<|al (ρ' :=[(17,_),(3,_),(7,_),(18,_),(16,_),(15,_),(5,_),(11,_),(10,_),(9,_),(8,_),(2,_),(0,_)]) ⟨rfl,rfl,rfl,rfl,rfl,rfl,rfl,rfl,rfl,rfl,rfl,rfl,rfl,trivial⟩<| ?_
   refine eO (j+1) (k2+1) A_o c_o ⟨rfl,rfl,rfl,rfl,rfl,rfl,rfl,rfl,rfl,rfl,rfl,trivial⟩ [0,2] rfl [0,1,2] rfl (⟨by omega,by omega⟩) (by omega)
  ·obtain rfl:j=x.oS.length:=by omega
   have e1:en (L.take i)++x.names.take x.oS.length=en (L.take (i+1)):=by rw[hsu,List.take_of_length_le (l:=x.names) (by rw[nN];exact Nat.le_refl _)]
   rw[e1]
   refine bL<|ao<|ao<|aD<|aO<|ag<|aj<|hy (fun _=>aN rfl rfl (bF (by omega) (by omega)))<|hy (fun _=>aa rfl)<|ai<|al (ρ' :=[(10,_),(18,_),(3,_),(17,_),(16,_),(15,_),(5,_),(11,_),(9,_),(8,_),(2,_),(0,_)]) ⟨rfl,rfl,rfl,rfl,rfl,rfl,rfl,rfl,rfl,rfl,rfl,rfl,trivial⟩<| ?_
   refine eO (i+1) k2 A2 c2 ⟨rfl,rfl,rfl,rfl,rfl,rfl,trivial⟩ [0] rfl [1,2] rfl (⟨by omega,by rw[hsu,List.length_append,nN];omega⟩) (by omega)
 ·obtain rfl:i=n:=by omega
  have e2:L.take i=L:=List.take_of_length_le (by omega)
  rw[e2]at hk
  rw[e2]
  have hsl:=tO (en L)
  have hsD:kJ (kn (en L)):=fun d hd=>mO L d ((jW _).mem_iff.1 hd)
  refine a6 (fun m=>(Own.rd (m.own 0 rfl)).2.1) fun hcc=> ?_
  refine bL<|ao<|ao<|aD<|ag<|ah<|aj<|hy (fun _=>aa rfl)<| ?_
  refine hx (aq rfl Tryz.call147 (rq (mO L) (by omega)) [0] rfl [] rfl ?_)
  rintro _ _ _ ⟨rfl,rfl,rfl⟩
  refine ai<|al (ρ' :=[(11,_),(3,_),(10,_),(9,_),(8,_),(2,_),(0,_)]) ⟨rfl,rfl,rfl,rfl,rfl,rfl,rfl,trivial⟩<|ak (X' :=[_]) (S' :=[_,_]) (fun _ m=>m)<|ag<|ah<|aj<|hy (fun _=>aa rfl)<| ?_
  refine hx (aq rfl Tryz.call205 (zX hsD (by omega) hcc (by omega)) [0] rfl [] rfl ?_)
  rintro _ _ _ ⟨k2,rfl,rfl,rfl,hk3⟩
  refine hy (fun _=>ab rfl)<|ai<|al (ρ' :=[(2,_),(11,_),(3,_),(10,_),(9,_),(8,_),(0,_)]) ⟨rfl,rfl,rfl,rfl,rfl,rfl,rfl,trivial⟩<|ak (X' :=[_]) (S' :=[_,_]) (fun _ m=>m)<|ag<|aX<| ?_
  have hk4:=wU (kn (en L))
  rw[uO]at hk3 hk4
  rw[uO]
  exact bh trivial rfl rfl [0] rfl [] rfl ⟨_,_,_,rfl,rfl,rfl,⟨hk3,by omega⟩⟩
end Go.Proofs.YtmibdabdlgmafaaGreatDoor
end
section
namespace Go.Proofs.YtmibdabdlgmafaaGreatDoor
open Go.Eng Go.Hx
theorem uM:∀{a b:List UInt8},a<b→cb a b<0
 | [],[],h=>absurd h (List.lt_irrefl _)
 | [],y::s,_=>by show(-1:Int)<0;decide
 |x::r,[],h=>absurd h (List.not_lt_nil _)
 |x::r,y::s,h=>by
  rw[List.cons_lt_cons_iff]at h
  rw[gF]
  rcases h with h|⟨rfl,h⟩
  ·rw[if_pos h];decide
  ·rw[if_neg (UInt8.lt_irrefl _),if_neg (UInt8.lt_irrefl _)]
   exact uM h
theorem zj{a b:List UInt8}(ha:a.length=32)(hb:b.length=32)(h:aG a<aG b):cb a b<0:=by
 have eY:∀{n:List UInt8},n.length=32→∃x y r,cd n=x::y::r∧aG n=99::47::x::y::47::cd n:=fun{n} hn=>by
  have h64:(cd n).length=64:=by rw[dS,hn]
  match hq:cd n with
  | []=>rw[hq]at h64;cases h64
  | [_]=>rw[hq]at h64;cases h64
  |x::y::r=>exact⟨x,y,r,rfl,by unfold aG;rw[hq];rfl⟩
 obtain⟨x,y,r,h1,h2⟩:=eY ha
 obtain⟨x',y',r',h3,h4⟩:=eY hb
 rw[h2,h4]at h
 rw[←xb]
 apply uM
 simp only[List.cons_lt_cons_iff,UInt8.lt_irrefl,false_or,true_and]at h
 rw[h1,h3]at h ⊢
 simp only[List.cons_lt_cons_iff]at h ⊢
 rcases h with h|⟨rfl,h⟩
 ·exact .inl h
 ·rcases h with h|⟨rfl,h⟩
  ·exact .inr ⟨rfl,.inl h⟩
  ·exact h
theorem nR:∀(l acc:List (List UInt8)),l.Pairwise (· <·)→(∀a∈acc,∀p∈l,∀nm,jZ p=some nm→cb a nm<0)→l.foldl jS acc=acc++l.filterMap jZ
 | [],acc,_,_=>by simp
 |p::r,acc,hs,hA=>by
  rw[List.pairwise_cons]at hs
  rw[List.foldl_cons,List.filterMap_cons]
  cases hq:jZ p with
  |none=>
   have:jS acc p=acc:=by unfold jS;rw[hq]
   rw[this]
   exact nR r acc hs.2 (fun a ha q hq2 nm h=>hA a ha q (List.mem_cons_of_mem _ hq2) nm h)
  |some nm=>
   have hp:nm.length=32∧p=aG nm:=by
    rw[←j5]at hq
    exact eE hq
   have hd:jS acc p=acc++[nm]:=by
    unfold jS
    rw[hq]
    have:=o8 acc nm acc.length (Nat.le_refl _) (fun i hi=>by
     rw[List.getD,List.getElem?_eq_getElem hi]
     exact hA _ (List.getElem_mem hi) p (List.mem_cons_self ..) nm hq) (fun h=>absurd h (Nat.lt_irrefl _))
    rw[if_neg (fun h=>absurd h.1 (Nat.lt_irrefl _)),List.take_length,List.drop_length,List.append_nil]at this
    exact this
   rw[hd,nR r (acc++[nm]) hs.2 (fun a ha q hq2 nm2 h=>by
    rcases List.mem_append.1 ha with ha|ha
    ·exact hA a ha q (List.mem_cons_of_mem _ hq2) nm2 h
    ·rw[List.mem_singleton.1 ha]
     have hp2:nm2.length=32∧q=aG nm2:=by
      rw[←j5]at h
      exact eE h
     refine zj hp.1 hp2.1 ?_
     rw[←hp.2,←hp2.2]
     exact hs.1 q hq2)]
   simp
theorem pJ{d:RD}(h:kH d.seen):cV d d.seen.length=a7 d:=by
 unfold cV a7
 rw[List.take_length,nR _ _ h (fun a ha=>(List.not_mem_nil ha).elim)]
 rfl
end Go.Proofs.YtmibdabdlgmafaaGreatDoor
end
section
set_option maxRecDepth 100000
namespace Go.Hx
def Gh(b:List UInt8)(w:List UInt32):Bool:=(List.range 64).all fun i=>w.getD i 0 == (if i<16 then lp b (4*i)else nz w i)
theorem v8{b:List UInt8}{w:List UInt32}(hl:w.length=64)(h:Gh b w=true):∀n,n≤64→wl b n=w.take n
 |0,_=>by simp[wl]
 |n+1,hn=>by
  have ih:=v8 hl h n (by omega)
  have hc:w.getD n 0=(if n<16 then lp b (4*n)else nz w n):=by
   have:=List.all_eq_true.1 h n (List.mem_range.2 (by omega))
   exact eq_of_beq this
  have hg:∀j,j<n→(w.take n).getD j 0=w.getD j 0:=fun j hj=>by simp only[List.getD,List.getElem?_take,if_pos hj]
  have hw:w.take (n+1)=w.take n++[w.getD n 0]:=by
   rw[List.take_add_one,List.getElem?_eq_getElem (by omega)]
   simp[List.getD,List.getElem?_eq_getElem (show n<w.length by omega)]
  rw[wl,ih,hw,hc]
  congr 2
  split
  ·rfl
  ·unfold nz
   rw[hg _ (by omega),hg _ (by omega),hg _ (by omega),hg _ (by omega)]
def C9(w v:List UInt32):List (List UInt32)→List UInt32→List UInt32→Bool
 | [],_,_=>true
 |y::r,k,u=>y == Hy v (k.getD 0 0) (u.getD 0 0) && C9 w y r k.tail u.tail
theorem tI{w v:List UInt32}:∀(t:List (List UInt32)) (n:Nat) (s:List UInt32),kN w v n=s→C9 w s t (fP.drop n) (w.drop n)=true→kN w v (n+t.length)=(s::t).getLastD []
 | [],n,s,hs,_=>by simpa using hs
 |y::r,n,s,hs,h=>by
  simp only[C9,Bool.and_eq_true]at h
  have e:kN w v (n+1)=y:=by
   rw[eq_of_beq h.1,kN,hs]
   simp only[List.getD,List.getElem?_drop,Nat.add_zero]
  have:=tI r (n+1) y e (by rw[←List.tail_drop,←List.tail_drop];exact h.2)
  rw[List.length_cons,show n+(r.length+1)=n+1+r.length by omega,this]
  rfl
theorem lC{b m:List UInt8}{w:List UInt32}{t:List (List UInt32)}(hp:jx b=m)(hm:m.length=64)(hw:w.length=64)(ht:t.length=64)(h1:Gh m w=true)(h2:C9 w mC t fP w=true):
  bn b=eU (gg ((mC::t).getLastD []) mC 8):=by
 have e1:fI mC m=eI mC m:=by
  unfold fI
  rw[hm]
  show oH 0 (eI mC (m.take 64)) (m.drop 64)=_
  rw[List.take_of_length_le (by omega)]
  rfl
 have e2:wl m 64=w:=by rw[v8 hw h1 64 (Nat.le_refl _),List.take_of_length_le (by omega)]
 have e3:=tI (w:=w) (v:=mC) t 0 mC rfl (by simpa using h2)
 rw[Nat.zero_add,ht]at e3
 unfold bn
 rw[hp,e1,eI,e2,e3]
def bo(k:Nat):List UInt8:=(List.range (3*k)).map fun i=>[UInt8.ofNat (65+k),1,UInt8.ofNat k].getD (i % 3) 0
theorem jD(k:Nat):(bo k).length=3*k:=by simp[bo]
def Ib:List UInt32:=[2147483648,0,0,0,0,0,0,0,0,0,0,0,0,0,0,0,2147483648,0,2117632,0,570427392,0,84448578,2147483648,1476919296,4235264,1451269,1711282176,3592562048,337794312,3594910044,3374850048,3287351444,676112230,109604294,2742808854,1904000662,4274181962,2813755136,2165675682,2561075048,62000258,1562224585,2975250741,3286092305,614207615,3297584367,1575308336,3741240933,748767245,1008022316,30329261,369937616,195877528,907775968,3526495142,43741191,1967544444,133517113,4161330627,3704256008,1581412744,1153231965,996066459]
def Ia:List (List UInt32):=[[2080933965,1779033703,3144134277,1013904242,415752866,1359893119,2600822924,528734635],[2632279248,2080933965,1779033703,3144134277,536982102,415752866,1359893119,2600822924],[3299628326,2632279248,2080933965,1779033703,1876632314,536982102,415752866,1359893119],[1277422283,3299628326,2632279248,2080933965,808968629,1876632314,536982102,415752866],[1130821424,1277422283,3299628326,2632279248,3889194014,808968629,1876632314,536982102],[690895682,1130821424,1277422283,3299628326,1332035834,3889194014,808968629,1876632314],[4028650896,690895682,1130821424,1277422283,2196627567,1332035834,3889194014,808968629],[2060825014,4028650896,690895682,1130821424,1408847307,2196627567,1332035834,3889194014],[4113392549,2060825014,4028650896,690895682,2058339864,1408847307,2196627567,1332035834],[4025007953,4113392549,2060825014,4028650896,1392976521,2058339864,1408847307,2196627567],[361478433,4025007953,4113392549,2060825014,3795207118,1392976521,2058339864,1408847307],[4114828352,361478433,4025007953,4113392549,3621813394,3795207118,1392976521,2058339864],[553833165,4114828352,361478433,4025007953,3455974994,3621813394,3795207118,1392976521],[1170215847,553833165,4114828352,361478433,725774998,3455974994,3621813394,3795207118],[3096116699,1170215847,553833165,4114828352,483372089,725774998,3455974994,3621813394],[3019933109,3096116699,1170215847,553833165,1555621987,483372089,725774998,3455974994],[1192056138,3019933109,3096116699,1170215847,1892956839,1555621987,483372089,725774998],[3717831211,1192056138,3019933109,3096116699,1619825619,1892956839,1555621987,483372089],[812095850,3717831211,1192056138,3019933109,3550010602,1619825619,1892956839,1555621987],[172493064,812095850,3717831211,1192056138,2416781228,3550010602,1619825619,1892956839],[1976037592,172493064,812095850,3717831211,966081741,2416781228,3550010602,1619825619],[2577845017,1976037592,172493064,812095850,3263666206,966081741,2416781228,3550010602],[1078820948,2577845017,1976037592,172493064,2976200464,3263666206,966081741,2416781228],[2556161365,1078820948,2577845017,1976037592,741081741,2976200464,3263666206,966081741],[2062996621,2556161365,1078820948,2577845017,4116679717,741081741,2976200464,3263666206],[3317175470,2062996621,2556161365,1078820948,3850028020,4116679717,741081741,2976200464],[747317945,3317175470,2062996621,2556161365,2677228163,3850028020,4116679717,741081741],[1837942423,747317945,3317175470,2062996621,1726829818,2677228163,3850028020,4116679717],[1690082844,1837942423,747317945,3317175470,2506713973,1726829818,2677228163,3850028020],[1926471693,1690082844,1837942423,747317945,2957685293,2506713973,1726829818,2677228163],[2696613087,1926471693,1690082844,1837942423,1447716390,2957685293,2506713973,1726829818],[300352095,2696613087,1926471693,1690082844,3151463532,1447716390,2957685293,2506713973],[3817927606,300352095,2696613087,1926471693,3436338571,3151463532,1447716390,2957685293],[2705438357,3817927606,300352095,2696613087,197416927,3436338571,3151463532,1447716390],[1151435175,2705438357,3817927606,300352095,1769188034,197416927,3436338571,3151463532],[1679812728,1151435175,2705438357,3817927606,980442793,1769188034,197416927,3436338571],[2694206301,1679812728,1151435175,2705438357,4206914285,980442793,1769188034,197416927],[1457773646,2694206301,1679812728,1151435175,3892832895,4206914285,980442793,1769188034],[2656625711,1457773646,2694206301,1679812728,2242319396,3892832895,4206914285,980442793],[1234768305,2656625711,1457773646,2694206301,1902882853,2242319396,3892832895,4206914285],[4270245939,1234768305,2656625711,1457773646,2224585183,1902882853,2242319396,3892832895],[580450446,4270245939,1234768305,2656625711,4123364073,2224585183,1902882853,2242319396],[3686090155,580450446,4270245939,1234768305,3762306745,4123364073,2224585183,1902882853],[3907209042,3686090155,580450446,4270245939,692219050,3762306745,4123364073,2224585183],[2752082644,3907209042,3686090155,580450446,2855016464,692219050,3762306745,4123364073],[855262251,2752082644,3907209042,3686090155,3531982457,2855016464,692219050,3762306745],[1419259244,855262251,2752082644,3907209042,2322236082,3531982457,2855016464,692219050],[911881421,1419259244,855262251,2752082644,3417569515,2322236082,3531982457,2855016464],[1655188062,911881421,1419259244,855262251,1286303114,3417569515,2322236082,3531982457],[2543384045,1655188062,911881421,1419259244,3909789552,1286303114,3417569515,2322236082],[3244542753,2543384045,1655188062,911881421,906398686,3909789552,1286303114,3417569515],[3579709122,3244542753,2543384045,1655188062,2710884687,906398686,3909789552,1286303114],[2981272720,3579709122,3244542753,2543384045,1134943992,2710884687,906398686,3909789552],[974034039,2981272720,3579709122,3244542753,4254700398,1134943992,2710884687,906398686],[749689034,974034039,2981272720,3579709122,3850954136,4254700398,1134943992,2710884687],[23298068,749689034,974034039,2981272720,2918796810,3850954136,4254700398,1134943992],[2126991890,23298068,749689034,974034039,2035393328,2918796810,3850954136,4254700398],[3891021244,2126991890,23298068,749689034,3802734300,2035393328,2918796810,3850954136],[3911429062,3891021244,2126991890,23298068,148956906,3802734300,2035393328,2918796810],[71572494,3911429062,3891021244,2126991890,2867830852,148956906,3802734300,2035393328],[4095722474,71572494,3911429062,3891021244,477227836,2867830852,148956906,3802734300],[1586299222,4095722474,71572494,3911429062,2232532848,477227836,2867830852,148956906],[3717492111,1586299222,4095722474,71572494,3382061760,2232532848,477227836,2867830852],[2040978907,3717492111,1586299222,4095722474,3600805733,3382061760,2232532848,477227836]]
def H5:List UInt8:=[227,176,196,66,152,252,28,20,154,251,244,200,153,111,185,36,39,174,65,228,100,155,147,76,164,149,153,27,120,82,184,85]
theorem EE:bn (bo 0)=H5:=(lC (m:=[128,0,0,0,0,0,0,0,0,0,0,0,0,0,0,0,0,0,0,0,0,0,0,0,0,0,0,0,0,0,0,0,0,0,0,0,0,0,0,0,0,0,0,0,0,0,0,0,0,0,0,0,0,0,0,0,0,0,0,0,0,0,0,0]) (w:=Ib) (t:=Ia) (by decide+kernel) rfl rfl rfl (by decide+kernel) (by decide+kernel)).trans (by decide+kernel)
def Is:List UInt32:=[1107362176,0,0,0,0,0,0,0,0,0,0,0,0,0,0,24,1107362176,983040,2699077888,1610613702,1099463750,25426944,834374402,3280036238,3036426248,1034355432,4264064947,2729372909,915670732,3716110779,2000263722,1165897113,1039646088,281299352,3980104470,3761427724,3658363895,2305949932,3028413559,1303837579,2832082812,861919844,704850085,842796679,1808702238,1428493387,355076516,262993471,3617218607,4116430181,1277468746,1831645101,997864768,3820563998,3255109888,1037898284,4233045264,807309956,415727611,2688463381,2024334792,1869650284,61815304,1221856994]
def Ig:List (List UInt32):=[[1040812493,1779033703,3144134277,1013904242,3670598690,1359893119,2600822924,528734635],[2933991511,1040812493,1779033703,3144134277,2306459197,3670598690,1359893119,2600822924],[305863567,2933991511,1040812493,1779033703,1911864870,2306459197,3670598690,1359893119],[2689951969,305863567,2933991511,1040812493,3617446406,1911864870,2306459197,3670598690],[548066125,2689951969,305863567,2933991511,1099388481,3617446406,1911864870,2306459197],[4247765051,548066125,2689951969,305863567,315033534,1099388481,3617446406,1911864870],[396587438,4247765051,548066125,2689951969,1209652816,315033534,1099388481,3617446406],[3339597200,396587438,4247765051,548066125,2891510804,1209652816,315033534,1099388481],[2907775726,3339597200,396587438,4247765051,1362660984,2891510804,1209652816,315033534],[1595668996,2907775726,3339597200,396587438,3701338122,1362660984,2891510804,1209652816],[3097299680,1595668996,2907775726,3339597200,1494823656,3701338122,1362660984,2891510804],[2495058246,3097299680,1595668996,2907775726,2443417408,1494823656,3701338122,1362660984],[3937365664,2495058246,3097299680,1595668996,168074123,2443417408,1494823656,3701338122],[3094349113,3937365664,2495058246,3097299680,1823925988,168074123,2443417408,1494823656],[3837998543,3094349113,3937365664,2495058246,1558452064,1823925988,168074123,2443417408],[97767242,3837998543,3094349113,3937365664,1443849710,1558452064,1823925988,168074123],[157455394,97767242,3837998543,3094349113,2602895388,1443849710,1558452064,1823925988],[1168195621,157455394,97767242,3837998543,1328892379,2602895388,1443849710,1558452064],[3503166658,1168195621,157455394,97767242,3664420442,1328892379,2602895388,1443849710],[655817290,3503166658,1168195621,157455394,3230838127,3664420442,1328892379,2602895388],[2070899622,655817290,3503166658,1168195621,1053688013,3230838127,3664420442,1328892379],[2546074497,2070899622,655817290,3503166658,3956158565,1053688013,3230838127,3664420442],[3103291562,2546074497,2070899622,655817290,3767396667,3956158565,1053688013,3230838127],[3462026065,3103291562,2546074497,2070899622,2935844591,3767396667,3956158565,1053688013],[2864794835,3462026065,3103291562,2546074497,117490617,2935844591,3767396667,3956158565],[4287121506,2864794835,3462026065,3103291562,1666426747,117490617,2935844591,3767396667],[2520095682,4287121506,2864794835,3462026065,2190567029,1666426747,117490617,2935844591],[3566786262,2520095682,4287121506,2864794835,914031713,2190567029,1666426747,117490617],[3026728640,3566786262,2520095682,4287121506,667213488,914031713,2190567029,1666426747],[2176691638,3026728640,3566786262,2520095682,2974331702,667213488,914031713,2190567029],[276430399,2176691638,3026728640,3566786262,3599312549,2974331702,667213488,914031713],[2876947361,276430399,2176691638,3026728640,494654400,3599312549,2974331702,667213488],[3855850741,2876947361,276430399,2176691638,3146031214,494654400,3599312549,2974331702],[884922106,3855850741,2876947361,276430399,1146660805,3146031214,494654400,3599312549],[1402976943,884922106,3855850741,2876947361,4235796835,1146660805,3146031214,494654400],[754556834,1402976943,884922106,3855850741,3814518060,4235796835,1146660805,3146031214],[1550721331,754556834,1402976943,884922106,2100336359,3814518060,4235796835,1146660805],[3252933238,1550721331,754556834,1402976943,865945473,2100336359,3814518060,4235796835],[1473052570,3252933238,1550721331,754556834,2985952915,865945473,2100336359,3814518060],[1403004595,1473052570,3252933238,1550721331,3486181957,2985952915,865945473,2100336359],[3948605229,1403004595,1473052570,3252933238,2449457099,3486181957,2985952915,865945473],[2509938093,3948605229,1403004595,1473052570,2612013495,2449457099,3486181957,2985952915],[1524924783,2509938093,3948605229,1403004595,4237955955,2612013495,2449457099,3486181957],[2072908380,1524924783,2509938093,3948605229,2743951822,4237955955,2612013495,2449457099],[1574677093,2072908380,1524924783,2509938093,962518812,2743951822,4237955955,2612013495],[2949412848,1574677093,2072908380,1524924783,2124612093,962518812,2743951822,4237955955],[2150510118,2949412848,1574677093,2072908380,3046824961,2124612093,962518812,2743951822],[1129255911,2150510118,2949412848,1574677093,3347572455,3046824961,2124612093,962518812],[1598741872,1129255911,2150510118,2949412848,3325168739,3347572455,3046824961,2124612093],[3197823805,1598741872,1129255911,2150510118,1408481104,3325168739,3347572455,3046824961],[4279166295,3197823805,1598741872,1129255911,3255467814,1408481104,3325168739,3347572455],[410751663,4279166295,3197823805,1598741872,1842780739,3255467814,1408481104,3325168739],[3066744009,410751663,4279166295,3197823805,2597202916,1842780739,3255467814,1408481104],[944794031,3066744009,410751663,4279166295,399797342,2597202916,1842780739,3255467814],[1866775977,944794031,3066744009,410751663,1932359240,399797342,2597202916,1842780739],[282090807,1866775977,944794031,3066744009,1184764235,1932359240,399797342,2597202916],[1337731485,282090807,1866775977,944794031,1631464235,1184764235,1932359240,399797342],[2855027434,1337731485,282090807,1866775977,2735041572,1631464235,1184764235,1932359240],[580666429,2855027434,1337731485,282090807,2051984567,2735041572,1631464235,1184764235],[1179881486,580666429,2855027434,1337731485,336116513,2051984567,2735041572,1631464235],[2208710711,1179881486,580666429,2855027434,1369389600,336116513,2051984567,2735041572],[1993106377,2208710711,1179881486,580666429,2785874755,1369389600,336116513,2051984567],[1722319979,1993106377,2208710711,1179881486,3490118991,2785874755,1369389600,336116513],[4198305097,1722319979,1993106377,2208710711,2164499240,3490118991,2785874755,1369389600]]
def H4:List UInt8:=[100,70,243,176,34,16,50,240,179,59,87,59,40,246,53,113,210,17,245,167,107,12,101,219,197,144,236,238,173,128,7,57]
theorem EH:bn (bo 1)=H4:=(lC (m:=[66,1,1,128,0,0,0,0,0,0,0,0,0,0,0,0,0,0,0,0,0,0,0,0,0,0,0,0,0,0,0,0,0,0,0,0,0,0,0,0,0,0,0,0,0,0,0,0,0,0,0,0,0,0,0,0,0,0,0,0,0,0,0,24]) (w:=Is) (t:=Ig) (by decide+kernel) rfl rfl rfl (by decide+kernel) (by decide+kernel)).trans (by decide+kernel)
def Il:List UInt32:=[1124139587,16941056,0,0,0,0,0,0,0,0,0,0,0,0,0,48,3810744195,18907136,3238610208,1342195860,2315533044,759996946,2584106364,2825082794,3780632534,2182307592,1680491018,1313476752,2527729170,3830452708,1381894837,3130175299,1232444601,1889327910,3182576678,3565149627,3800348971,339090578,3050780477,97854861,2781692531,4278943766,4017797749,2474762115,2255184555,1350487740,1900803956,999275052,1107640373,1446613587,4085947598,3158374171,4065327008,2330063767,1246901643,3001339339,713557620,1253248229,309444691,221893369,2859793821,2299060968,3071715676,99404356]
def Iq:List (List UInt32):=[[1057589904,1779033703,3144134277,1013904242,3687376101,1359893119,2600822924,528734635],[2330236836,1057589904,1779033703,3144134277,249561725,3687376101,1359893119,2600822924],[2952625882,2330236836,1057589904,1779033703,865584597,249561725,3687376101,1359893119],[2211839873,2952625882,2330236836,1057589904,2501966966,865584597,249561725,3687376101],[1289089281,2211839873,2952625882,2330236836,887231697,2501966966,865584597,249561725],[1289192874,1289089281,2211839873,2952625882,3135962609,887231697,2501966966,865584597],[916623403,1289192874,1289089281,2211839873,3109612191,3135962609,887231697,2501966966],[2451091062,916623403,1289192874,1289089281,40197896,3109612191,3135962609,887231697],[2239294834,2451091062,916623403,1289192874,103872825,40197896,3109612191,3135962609],[601085176,2239294834,2451091062,916623403,2968703906,103872825,40197896,3109612191],[3413854578,601085176,2239294834,2451091062,2657018364,2968703906,103872825,40197896],[1650988189,3413854578,601085176,2239294834,1553445622,2657018364,2968703906,103872825],[3244664986,1650988189,3413854578,601085176,2269109542,1553445622,2657018364,2968703906],[350344466,3244664986,1650988189,3413854578,320837474,2269109542,1553445622,2657018364],[1627290034,350344466,3244664986,1650988189,1092326513,320837474,2269109542,1553445622],[1502232881,1627290034,350344466,3244664986,3468823584,1092326513,320837474,2269109542],[3457802380,1502232881,1627290034,350344466,3349716604,3468823584,1092326513,320837474],[1280799126,3457802380,1502232881,1627290034,3359418660,3349716604,3468823584,1092326513],[289125459,1280799126,3457802380,1502232881,3820807298,3359418660,3349716604,3468823584],[550473630,289125459,1280799126,3457802380,2788603820,3820807298,3359418660,3349716604],[2441531240,550473630,289125459,1280799126,2487508294,2788603820,3820807298,3359418660],[235924764,2441531240,550473630,289125459,79638958,2487508294,2788603820,3820807298],[2821390622,235924764,2441531240,550473630,1677650773,79638958,2487508294,2788603820],[2981348562,2821390622,235924764,2441531240,997690261,1677650773,79638958,2487508294],[3246309241,2981348562,2821390622,235924764,1693422423,997690261,1677650773,79638958],[2782565069,3246309241,2981348562,2821390622,2705504097,1693422423,997690261,1677650773],[3050952480,2782565069,3246309241,2981348562,649692277,2705504097,1693422423,997690261],[1231532091,3050952480,2782565069,3246309241,1645315027,649692277,2705504097,1693422423],[403846042,1231532091,3050952480,2782565069,1718752980,1645315027,649692277,2705504097],[3680510200,403846042,1231532091,3050952480,365747316,1718752980,1645315027,649692277],[2850954302,3680510200,403846042,1231532091,1422430802,365747316,1718752980,1645315027],[1551427412,2850954302,3680510200,403846042,411055101,1422430802,365747316,1718752980],[1624128134,1551427412,2850954302,3680510200,3512122945,411055101,1422430802,365747316],[184953684,1624128134,1551427412,2850954302,143490275,3512122945,411055101,1422430802],[1338214341,184953684,1624128134,1551427412,1888941543,143490275,3512122945,411055101],[3688828661,1338214341,184953684,1624128134,2295087027,1888941543,143490275,3512122945],[1088629599,3688828661,1338214341,184953684,3632761830,2295087027,1888941543,143490275],[846324263,1088629599,3688828661,1338214341,3947187417,3632761830,2295087027,1888941543],[1008002537,846324263,1088629599,3688828661,515361640,3947187417,3632761830,2295087027],[3858954506,1008002537,846324263,1088629599,1570023267,515361640,3947187417,3632761830],[998071185,3858954506,1008002537,846324263,3424387064,1570023267,515361640,3947187417],[2823007980,998071185,3858954506,1008002537,895995303,3424387064,1570023267,515361640],[3069835281,2823007980,998071185,3858954506,4110206827,895995303,3424387064,1570023267],[923220316,3069835281,2823007980,998071185,398239941,4110206827,895995303,3424387064],[3184211690,923220316,3069835281,2823007980,1732236141,398239941,4110206827,895995303],[689804862,3184211690,923220316,3069835281,3835265982,1732236141,398239941,4110206827],[488756834,689804862,3184211690,923220316,1226687022,3835265982,1732236141,398239941],[738821552,488756834,689804862,3184211690,1929778112,1226687022,3835265982,1732236141],[2968668012,738821552,488756834,689804862,1092494996,1929778112,1226687022,3835265982],[3373777451,2968668012,738821552,488756834,3620662399,1092494996,1929778112,1226687022],[3237603739,3373777451,2968668012,738821552,2046091717,3620662399,1092494996,1929778112],[2839057249,3237603739,3373777451,2968668012,3104326460,2046091717,3620662399,1092494996],[3656148329,2839057249,3237603739,3373777451,2929065458,3104326460,2046091717,3620662399],[2677316219,3656148329,2839057249,3237603739,2987592159,2929065458,3104326460,2046091717],[398776029,2677316219,3656148329,2839057249,3635542219,2987592159,2929065458,3104326460],[2032015724,398776029,2677316219,3656148329,2723075718,3635542219,2987592159,2929065458],[2546740428,2032015724,398776029,2677316219,2766272617,2723075718,3635542219,2987592159],[3557301658,2546740428,2032015724,398776029,3903591484,2766272617,2723075718,3635542219],[2209589700,3557301658,2546740428,2032015724,1288279647,3903591484,2766272617,2723075718],[788646974,2209589700,3557301658,2546740428,1881657852,1288279647,3903591484,2766272617],[4199117116,788646974,2209589700,3557301658,504503469,1881657852,1288279647,3903591484],[3445242612,4199117116,788646974,2209589700,1672409445,504503469,1881657852,1288279647],[3197903022,3445242612,4199117116,788646974,3337296605,1672409445,504503469,1881657852],[3373711470,3197903022,3445242612,4199117116,527439296,3337296605,1672409445,504503469]]
def H0:List UInt8:=[51,32,166,213,122,3,207,51,9,201,46,102,159,153,102,118,112,126,104,63,97,240,131,105,131,50,203,16,121,242,233,198]
theorem Et:bn (bo 2)=H0:=(lC (m:=[67,1,2,67,1,2,128,0,0,0,0,0,0,0,0,0,0,0,0,0,0,0,0,0,0,0,0,0,0,0,0,0,0,0,0,0,0,0,0,0,0,0,0,0,0,0,0,0,0,0,0,0,0,0,0,0,0,0,0,0,0,0,0,48]) (w:=Il) (t:=Iq) (by decide+kernel) rfl rfl rfl (by decide+kernel) (by decide+kernel)).trans (by decide+kernel)
def Ii:List UInt32:=[1140917060,16991233,58720256,0,0,0,0,0,0,0,0,0,0,0,0,72,388182412,27739361,41042361,1257031990,1760247271,4256126745,4183122927,1483988035,526097337,2553421177,161039318,3055628671,2269313736,3088255367,178413635,3689017700,1049657886,3020784591,1633468929,1352163298,333438537,3297703059,1691286498,3542784866,3714428513,374239595,1660205554,4294149558,4056242316,4001770671,2479578727,2825521600,47514449,2606633742,1549601676,1978401328,2839736375,1346797053,2894866791,2061679664,1396136360,1125379689,3024278158,2249711822,1047373075,2990048713,2332048730,815665083]
def Iu:List (List UInt32):=[[1074367377,1779033703,3144134277,1013904242,3704153574,1359893119,2600822924,528734635],[3176516285,1074367377,1779033703,3144134277,1695868930,3704153574,1359893119,2600822924],[26902674,3176516285,1074367377,1779033703,3882218862,1695868930,3704153574,1359893119],[1293634117,26902674,3176516285,1074367377,3340157221,3882218862,1695868930,3704153574],[2940876474,1293634117,26902674,3176516285,1978812471,3340157221,3882218862,1695868930],[3962731527,2940876474,1293634117,26902674,1704011504,1978812471,3340157221,3882218862],[4163118845,3962731527,2940876474,1293634117,970999910,1704011504,1978812471,3340157221],[23667932,4163118845,3962731527,2940876474,2296707300,970999910,1704011504,1978812471],[587437523,23667932,4163118845,3962731527,1745122613,2296707300,970999910,1704011504],[2355125510,587437523,23667932,4163118845,4016243276,1745122613,2296707300,970999910],[1576112430,2355125510,587437523,23667932,2321298403,4016243276,1745122613,2296707300],[2317307709,1576112430,2355125510,587437523,2782702691,2321298403,4016243276,1745122613],[2227224665,2317307709,1576112430,2355125510,3036382177,2782702691,2321298403,4016243276],[2484213650,2227224665,2317307709,1576112430,849560408,3036382177,2782702691,2321298403],[210113958,2484213650,2227224665,2317307709,2492919959,849560408,3036382177,2782702691],[1527116642,210113958,2484213650,2227224665,710652834,2492919959,849560408,3036382177],[3368503794,1527116642,210113958,2484213650,392414478,710652834,2492919959,849560408],[4167440128,3368503794,1527116642,210113958,1668316491,392414478,710652834,2492919959],[3852417662,4167440128,3368503794,1527116642,4221286321,1668316491,392414478,710652834],[4228943466,3852417662,4167440128,3368503794,1473662058,4221286321,1668316491,392414478],[2073985712,4228943466,3852417662,4167440128,3118810442,1473662058,4221286321,1668316491],[3750929690,2073985712,4228943466,3852417662,1760261098,3118810442,1473662058,4221286321],[136781122,3750929690,2073985712,4228943466,411931353,1760261098,3118810442,1473662058],[2595776544,136781122,3750929690,2073985712,1187373872,411931353,1760261098,3118810442],[2160957157,2595776544,136781122,3750929690,3685719794,1187373872,411931353,1760261098],[415342372,2160957157,2595776544,136781122,2388800008,3685719794,1187373872,411931353],[2167988794,415342372,2160957157,2595776544,4146737074,2388800008,3685719794,1187373872],[3327806631,2167988794,415342372,2160957157,2385920854,4146737074,2388800008,3685719794],[1508940369,3327806631,2167988794,415342372,1556816942,2385920854,4146737074,2388800008],[746713584,1508940369,3327806631,2167988794,1026234986,1556816942,2385920854,4146737074],[3878429258,746713584,1508940369,3327806631,2553107154,1026234986,1556816942,2385920854],[1786591995,3878429258,746713584,1508940369,2820782819,2553107154,1026234986,1556816942],[2317605531,1786591995,3878429258,746713584,2083999988,2820782819,2553107154,1026234986],[1069545557,2317605531,1786591995,3878429258,3369461210,2083999988,2820782819,2553107154],[106680318,1069545557,2317605531,1786591995,1352704089,3369461210,2083999988,2820782819],[2522343208,106680318,1069545557,2317605531,1631587852,1352704089,3369461210,2083999988],[1735625500,2522343208,106680318,1069545557,2548665615,1631587852,1352704089,3369461210],[1172465236,1735625500,2522343208,106680318,4030391975,2548665615,1631587852,1352704089],[278953827,1172465236,1735625500,2522343208,625246388,4030391975,2548665615,1631587852],[3800549903,278953827,1172465236,1735625500,1949313866,625246388,4030391975,2548665615],[222237638,3800549903,278953827,1172465236,2082035556,1949313866,625246388,4030391975],[2007279354,222237638,3800549903,278953827,3685678282,2082035556,1949313866,625246388],[3425814698,2007279354,222237638,3800549903,1015629818,3685678282,2082035556,1949313866],[1710021656,3425814698,2007279354,222237638,3385223849,1015629818,3685678282,2082035556],[464726823,1710021656,3425814698,2007279354,2021980220,3385223849,1015629818,3685678282],[1117196338,464726823,1710021656,3425814698,420570052,2021980220,3385223849,1015629818],[246283186,1117196338,464726823,1710021656,1236374124,420570052,2021980220,3385223849],[3567535223,246283186,1117196338,464726823,1174675876,1236374124,420570052,2021980220],[599506119,3567535223,246283186,1117196338,2973969487,1174675876,1236374124,420570052],[4174349155,599506119,3567535223,246283186,1955833916,2973969487,1174675876,1236374124],[2327326573,4174349155,599506119,3567535223,3449093489,1955833916,2973969487,1174675876],[2904652266,2327326573,4174349155,599506119,3716818634,3449093489,1955833916,2973969487],[1125555086,2904652266,2327326573,4174349155,3694038821,3716818634,3449093489,1955833916],[4158895903,1125555086,2904652266,2327326573,1319728953,3694038821,3716818634,3449093489],[3163540978,4158895903,1125555086,2904652266,2487817420,1319728953,3694038821,3716818634],[2468231903,3163540978,4158895903,1125555086,1228289851,2487817420,1319728953,3694038821],[1043680106,2468231903,3163540978,4158895903,2129379087,1228289851,2487817420,1319728953],[1013009554,1043680106,2468231903,3163540978,1949609007,2129379087,1228289851,2487817420],[433104357,1013009554,1043680106,2468231903,695152670,1949609007,2129379087,1228289851],[133114063,433104357,1013009554,1043680106,852533809,695152670,1949609007,2129379087],[4131030619,133114063,433104357,1013009554,3681409961,852533809,695152670,1949609007],[2667475899,4131030619,133114063,433104357,2652675044,3681409961,852533809,695152670],[696760596,2667475899,4131030619,133114063,682407608,2652675044,3681409961,852533809],[34514896,696760596,2667475899,4131030619,1863985830,682407608,2652675044,3681409961]]
def HX:List UInt8:=[108,24,142,55,228,239,103,153,219,109,103,45,155,138,123,149,192,40,125,37,195,178,31,68,189,160,117,143,55,78,168,194]
theorem DZ:bn (bo 3)=HX:=(lC (m:=[68,1,3,68,1,3,68,1,3,128,0,0,0,0,0,0,0,0,0,0,0,0,0,0,0,0,0,0,0,0,0,0,0,0,0,0,0,0,0,0,0,0,0,0,0,0,0,0,0,0,0,0,0,0,0,0,0,0,0,0,0,0,0,72]) (w:=Ii) (t:=Iu) (by decide+kernel) rfl rfl rfl (by decide+kernel) (by decide+kernel)).trans (by decide+kernel)
def H9:List UInt32:=[1157694533,17057025,71631108,2147483648,0,0,0,0,0,0,0,0,0,0,0,96,1482933424,1241608244,2954715344,370027548,475941205,3548908109,3985062550,1556051559,3290708721,101042917,2955280308,2022566917,327733686,958622402,2411765748,921434055,4167693370,1855320601,2671403633,2899406949,1444433080,4163654709,1829314888,3950801097,2680592831,1544625443,2074687057,3590621697,597181596,1505529371,458483992,3313405381,565098904,3924790625,2215728022,1892783026,2506497494,3831278732,2458352844,2613239268,3859052678,4120955187,3687966388,369149225,4122030787,798167293,2792361242,805199733]
def Ij:List (List UInt32):=[[1091144850,1779033703,3144134277,1013904242,3720931047,1359893119,2600822924,528734635],[3401082888,1091144850,1779033703,3144134277,3376122503,3720931047,1359893119,2600822924],[3716357130,3401082888,1091144850,1779033703,3147329954,3376122503,3720931047,1359893119],[527271158,3716357130,3401082888,1091144850,1688755943,3147329954,3376122503,3720931047],[3425570780,527271158,3716357130,3401082888,387337784,1688755943,3147329954,3376122503],[1328571049,3425570780,527271158,3716357130,1189555228,387337784,1688755943,3147329954],[3408161992,1328571049,3425570780,527271158,3530472897,1189555228,387337784,1688755943],[1942557634,3408161992,1328571049,3425570780,4275423411,3530472897,1189555228,387337784],[3870601216,1942557634,3408161992,1328571049,1091799453,4275423411,3530472897,1189555228],[1247752676,3870601216,1942557634,3408161992,1249986958,1091799453,4275423411,3530472897],[2005704911,1247752676,3870601216,1942557634,4267822126,1249986958,1091799453,4275423411],[4251862743,2005704911,1247752676,3870601216,561971277,4267822126,1249986958,1091799453],[2443340809,4251862743,2005704911,1247752676,2282346000,561971277,4267822126,1249986958],[1239795462,2443340809,4251862743,2005704911,285369284,2282346000,561971277,4267822126],[3153088120,1239795462,2443340809,4251862743,473923960,285369284,2282346000,561971277],[2041678935,3153088120,1239795462,2443340809,1094669875,473923960,285369284,2282346000],[1592306524,2041678935,3153088120,1239795462,4222768528,1094669875,473923960,285369284],[616800924,1592306524,2041678935,3153088120,46345821,4222768528,1094669875,473923960],[2388047650,616800924,1592306524,2041678935,3121192213,46345821,4222768528,1094669875],[4273952426,2388047650,616800924,1592306524,693168801,3121192213,46345821,4222768528],[2414662440,4273952426,2388047650,616800924,1213938736,693168801,3121192213,46345821],[3736708841,2414662440,4273952426,2388047650,1787463880,1213938736,693168801,3121192213],[1354243236,3736708841,2414662440,4273952426,1507181073,1787463880,1213938736,693168801],[595113329,1354243236,3736708841,2414662440,838951368,1507181073,1787463880,1213938736],[1795414298,595113329,1354243236,3736708841,2796881229,838951368,1507181073,1787463880],[442558204,1795414298,595113329,1354243236,946481345,2796881229,838951368,1507181073],[3828809881,442558204,1795414298,595113329,1454050548,946481345,2796881229,838951368],[1080107388,3828809881,442558204,1795414298,1475711047,1454050548,946481345,2796881229],[3475436133,1080107388,3828809881,442558204,1514795052,1475711047,1454050548,946481345],[1837673856,3475436133,1080107388,3828809881,1217667437,1514795052,1475711047,1454050548],[3257638147,1837673856,3475436133,1080107388,57324965,1217667437,1514795052,1475711047],[386850232,3257638147,1837673856,3475436133,3513010463,57324965,1217667437,1514795052],[2373373785,386850232,3257638147,1837673856,1109210362,3513010463,57324965,1217667437],[3915488159,2373373785,386850232,3257638147,219065777,1109210362,3513010463,57324965],[3820052636,3915488159,2373373785,386850232,2007813048,219065777,1109210362,3513010463],[4198244564,3820052636,3915488159,2373373785,776993997,2007813048,219065777,1109210362],[1661729329,4198244564,3820052636,3915488159,1017519794,776993997,2007813048,219065777],[3259548611,1661729329,4198244564,3820052636,567270255,1017519794,776993997,2007813048],[2065282662,3259548611,1661729329,4198244564,2940143218,567270255,1017519794,776993997],[661518022,2065282662,3259548611,1661729329,1936980095,2940143218,567270255,1017519794],[3662059444,661518022,2065282662,3259548611,1373060316,1936980095,2940143218,567270255],[864091437,3662059444,661518022,2065282662,3910296922,1373060316,1936980095,2940143218],[1681218179,864091437,3662059444,661518022,93127107,3910296922,1373060316,1936980095],[2679033829,1681218179,864091437,3662059444,2090560620,93127107,3910296922,1373060316],[435481691,2679033829,1681218179,864091437,412994425,2090560620,93127107,3910296922],[2440004148,435481691,2679033829,1681218179,807868360,412994425,2090560620,93127107],[1640009882,2440004148,435481691,2679033829,2685362932,807868360,412994425,2090560620],[1200042080,1640009882,2440004148,435481691,3060808838,2685362932,807868360,412994425],[1978906896,1200042080,1640009882,2440004148,3221136380,3060808838,2685362932,807868360],[3789036759,1978906896,1200042080,1640009882,4066963181,3221136380,3060808838,2685362932],[1148192741,3789036759,1978906896,1200042080,3248687549,4066963181,3221136380,3060808838],[2143515582,1148192741,3789036759,1978906896,3006320353,3248687549,4066963181,3221136380],[2284109871,2143515582,1148192741,3789036759,2289731133,3006320353,3248687549,4066963181],[2969166764,2284109871,2143515582,1148192741,3590057415,2289731133,3006320353,3248687549],[1012186034,2969166764,2284109871,2143515582,4044198402,3590057415,2289731133,3006320353],[382705631,1012186034,2969166764,2284109871,3719572279,4044198402,3590057415,2289731133],[1376333768,382705631,1012186034,2969166764,2686191209,3719572279,4044198402,3590057415],[3755781794,1376333768,382705631,1012186034,738776961,2686191209,3719572279,4044198402],[999002063,3755781794,1376333768,382705631,1891057029,738776961,2686191209,3719572279],[430163461,999002063,3755781794,1376333768,910537433,1891057029,738776961,2686191209],[2426673421,430163461,999002063,3755781794,3452539221,910537433,1891057029,738776961],[594512889,2426673421,430163461,999002063,2911303277,3452539221,910537433,1891057029],[3913270616,594512889,2426673421,430163461,1776725259,2911303277,3452539221,910537433],[3937322967,3913270616,594512889,2426673421,1938106743,1776725259,2911303277,3452539221]]
def H3:List UInt8:=[84,184,174,62,164,167,115,221,95,222,127,107,53,244,14,71,196,147,123,246,4,236,21,151,205,10,208,24,41,170,94,110]
theorem DX:bn (bo 4)=H3:=(lC (m:=[69,1,4,69,1,4,69,1,4,69,1,4,128,0,0,0,0,0,0,0,0,0,0,0,0,0,0,0,0,0,0,0,0,0,0,0,0,0,0,0,0,0,0,0,0,0,0,0,0,0,0,0,0,0,0,0,0,0,0,0,0,0,0,96]) (w:=H9) (t:=Ij) (by decide+kernel) rfl rfl rfl (by decide+kernel) (by decide+kernel)).trans (by decide+kernel)
def Ip:List UInt32:=[1174472006,17122817,88473861,1174472064,0,0,0,0,0,0,0,0,0,0,0,120,2577655635,2350601076,3721923420,167302874,83002197,1907637238,297868991,876446517,950496787,1338589013,1690216822,3175514023,4081126744,29988691,3415685839,2143215247,2411765741,1178288788,2011265610,3498442124,2237012830,3124998028,1820871492,1626925787,2556965076,2044513611,450304145,780656460,3771677329,3404485060,1298046685,2821474260,2536625460,3503199596,4082429708,1962723328,545094747,2623036696,2798367542,3543923744,3282434516,3592258802,1041428831,3008631655,678229056,305282415,3000868737,3547768376]
def H6:List (List UInt32):=[[1107922323,1779033703,3144134277,1013904242,3737708520,1359893119,2600822924,528734635],[555264572,1107922323,1779033703,3144134277,1498394887,3737708520,1359893119,2600822924],[3854917243,555264572,1107922323,1779033703,68389883,1498394887,3737708520,1359893119],[1999072993,3854917243,555264572,1107922323,1615868138,68389883,1498394887,3737708520],[3935551999,1999072993,3854917243,555264572,270399930,1615868138,68389883,1498394887],[724912506,3935551999,1999072993,3854917243,2859092336,270399930,1615868138,68389883],[796201445,724912506,3935551999,1999072993,2512995085,2859092336,270399930,1615868138],[2062979530,796201445,724912506,3935551999,3056931648,2512995085,2859092336,270399930],[3939962445,2062979530,796201445,724912506,3746325557,3056931648,2512995085,2859092336],[188882617,3939962445,2062979530,796201445,1989981158,3746325557,3056931648,2512995085],[1705874349,188882617,3939962445,2062979530,1793740086,1989981158,3746325557,3056931648],[3945020464,1705874349,188882617,3939962445,2282009404,1793740086,1989981158,3746325557],[527303671,3945020464,1705874349,188882617,1398955530,2282009404,1793740086,1989981158],[1220875487,527303671,3945020464,1705874349,2221832179,1398955530,2282009404,1793740086],[3263204081,1220875487,527303671,3945020464,2083621739,2221832179,1398955530,2282009404],[2569529046,3263204081,1220875487,527303671,344075869,2083621739,2221832179,1398955530],[1021424452,2569529046,3263204081,1220875487,2221131126,344075869,2083621739,2221832179],[1844713340,1021424452,2569529046,3263204081,172158552,2221131126,344075869,2083621739],[3080109023,1844713340,1021424452,2569529046,3412980660,172158552,2221131126,344075869],[201567586,3080109023,1844713340,1021424452,4248794176,3412980660,172158552,2221131126],[2872749190,201567586,3080109023,1844713340,3554712791,4248794176,3412980660,172158552],[2834387455,2872749190,201567586,3080109023,1133040477,3554712791,4248794176,3412980660],[1562511574,2834387455,2872749190,201567586,3422431609,1133040477,3554712791,4248794176],[906792154,1562511574,2834387455,2872749190,1057292053,3422431609,1133040477,3554712791],[972620793,906792154,1562511574,2834387455,3484527639,1057292053,3422431609,1133040477],[1120155305,972620793,906792154,1562511574,4174713853,3484527639,1057292053,3422431609],[3138739286,1120155305,972620793,906792154,4031356851,4174713853,3484527639,1057292053],[769529145,3138739286,1120155305,972620793,252949959,4031356851,4174713853,3484527639],[1851641733,769529145,3138739286,1120155305,3784880188,252949959,4031356851,4174713853],[2579086735,1851641733,769529145,3138739286,1553891949,3784880188,252949959,4031356851],[3634367821,2579086735,1851641733,769529145,2029203278,1553891949,3784880188,252949959],[2608809179,3634367821,2579086735,1851641733,1412422486,2029203278,1553891949,3784880188],[3976489545,2608809179,3634367821,2579086735,2224605022,1412422486,2029203278,1553891949],[1020121636,3976489545,2608809179,3634367821,3300650597,2224605022,1412422486,2029203278],[1067613549,1020121636,3976489545,2608809179,2979743325,3300650597,2224605022,1412422486],[3629543176,1067613549,1020121636,3976489545,148660928,2979743325,3300650597,2224605022],[3195938740,3629543176,1067613549,1020121636,1456249025,148660928,2979743325,3300650597],[3147928308,3195938740,3629543176,1067613549,1330924807,1456249025,148660928,2979743325],[4162932925,3147928308,3195938740,3629543176,1044855575,1330924807,1456249025,148660928],[2707282164,4162932925,3147928308,3195938740,1089327747,1044855575,1330924807,1456249025],[511720407,2707282164,4162932925,3147928308,2336941121,1089327747,1044855575,1330924807],[2734734655,511720407,2707282164,4162932925,2359906480,2336941121,1089327747,1044855575],[185371910,2734734655,511720407,2707282164,1550014982,2359906480,2336941121,1089327747],[300620288,185371910,2734734655,511720407,3481326292,1550014982,2359906480,2336941121],[3468679402,300620288,185371910,2734734655,1915039260,3481326292,1550014982,2359906480],[3029113298,3468679402,300620288,185371910,3225654801,1915039260,3481326292,1550014982],[2026169738,3029113298,3468679402,300620288,2639270156,3225654801,1915039260,3481326292],[3303871904,2026169738,3029113298,3468679402,945192752,2639270156,3225654801,1915039260],[643798827,3303871904,2026169738,3029113298,3622238592,945192752,2639270156,3225654801],[4214868284,643798827,3303871904,2026169738,1013338549,3622238592,945192752,2639270156],[342733707,4214868284,643798827,3303871904,380087168,1013338549,3622238592,945192752],[16996030,342733707,4214868284,643798827,2682582357,380087168,1013338549,3622238592],[3237077793,16996030,342733707,4214868284,2638053597,2682582357,380087168,1013338549],[1768304600,3237077793,16996030,342733707,3045002533,2638053597,2682582357,380087168],[2218582915,1768304600,3237077793,16996030,1528925684,3045002533,2638053597,2682582357],[1052737880,2218582915,1768304600,3237077793,1890639230,1528925684,3045002533,2638053597],[3773763218,1052737880,2218582915,1768304600,2050414731,1890639230,1528925684,3045002533],[2998255097,3773763218,1052737880,2218582915,113629920,2050414731,1890639230,1528925684],[1467956937,2998255097,3773763218,1052737880,3546642523,113629920,2050414731,1890639230],[69021763,1467956937,2998255097,3773763218,4033814956,3546642523,113629920,2050414731],[171166681,69021763,1467956937,2998255097,2634497209,4033814956,3546642523,113629920],[1546963208,171166681,69021763,1467956937,893355256,2634497209,4033814956,3546642523],[2469774181,1546963208,171166681,69021763,1376994897,893355256,2634497209,4033814956],[1901195306,2469774181,1546963208,171166681,2991379945,1376994897,893355256,2634497209]]
def H2:List UInt8:=[219,91,214,145,78,157,113,234,152,163,188,122,175,131,193,19,3,91,40,104,237,24,174,221,84,195,94,163,248,232,9,210]
theorem Fw:bn (bo 5)=H2:=(lC (m:=[70,1,5,70,1,5,70,1,5,70,1,5,70,1,5,128,0,0,0,0,0,0,0,0,0,0,0,0,0,0,0,0,0,0,0,0,0,0,0,0,0,0,0,0,0,0,0,0,0,0,0,0,0,0,0,0,0,0,0,0,0,0,0,120]) (w:=Ip) (t:=H6) (by decide+kernel) rfl rfl rfl (by decide+kernel) (by decide+kernel)).trans (by decide+kernel)
def HA:List (List UInt8):=[H5,H4,H0,HX,H3,H2]
theorem ra{k:Nat}(h:k<6):bn (bo k)=HA.getD k []:=by
 match k,h with
 |0,_=>exact EE
 |1,_=>exact EH
 |2,_=>exact Et
 |3,_=>exact DZ
 |4,_=>exact DX
 |5,_=>exact Fw
theorem Dh:∀i<6,∀j<6,HA.getD i []=HA.getD j []→i=j:=by decide+kernel
theorem yA{i j:Nat}(hi:i<6)(hj:j<6)(h:bn (bo i)=bn (bo j)):i=j:=Dh i hi j hj (by rw[←ra hi,←ra hj,h])
end Go.Hx
end
section
set_option maxRecDepth 20000
set_option maxHeartbeats 4000000
namespace Go.Proofs.YtmibdabdlgmafaaGreatDoor
open Go.Eng Go.Hx
theorem vR{k:Nat}(hk:k<6):fill [UInt8.ofNat (65+k),1,UInt8.ofNat k] (3*k)=bo k:=by
 match k,hk with
 |0,_=>decide
 |1,_=>decide
 |2,_=>decide
 |3,_=>decide
 |4,_=>decide
 |5,_=>decide
theorem ma{z:Int}{k:Nat}(h0:-9223372036854775808≤z∧z≤9223372036854775807)(hz:ef z 6=(k:Int))(hk:k<6):cf Tryz.prog 27 [.int .i64 z] [] [] (fun v_ X_ S_=>∃v,v_=v∧X_=[aH 5 1 v (3*k) (aW (bo k))]∧S_=[]):=by
 refine aP (N:=15) Tryz.func27 rfl rfl (by simp) fun b=> ?_
 refine ah<|aj<|hy (fun _=>ab rfl)<|ai<|ag<|ah<|aj<|hy (fun _=>aa rfl)<| ?_
 refine hx (aq rfl Tryz.call16 (sA (by omega) (by omega) (by omega)) [] rfl [] rfl ?_)
 rintro _ _ _ ⟨rfl,rfl,rfl⟩
 rw[hz]
 refine hy (fun _=>ab rfl)<|ai<|al (ρ' :=[(3,_),(2,_),(0,_)]) ⟨rfl,rfl,rfl,trivial⟩<|ak (X' :=[]) (S' :=[]) (fun _ m=>m)<|ag<|ah<|aj<|hy (fun _=>aa rfl)<|hy (fun _=>yV (aN rfl rfl (bF (by omega) (by omega))) ((show Value.int .i64 ((65:Int)+(k:Int))= .int .i64 ((65+k:Nat):Int) by congr 1)))<|hy (fun _=>yV (bX rfl Tryz.underlying3 Tryz.underlying5 (ij (65+k))) ((show Value.int .u8 _=B8 (UInt8.ofNat (65+k))from rfl)))<|hy (fun _=>aa rfl)<|hy (fun _=>yV (bX rfl Tryz.underlying3 Tryz.underlying5 (ij k)) ((show Value.int .u8 _=B8 (UInt8.ofNat k)from rfl)))<| ?_
 refine hx (b6 Tryz.underlying27 fk rfl rfl rfl (by simp[Value.cells,B8]) (by decide) (by decide) (fun g11=> ?_))
 have hA_b11:0<3→(some (⟨g11,0,none⟩:Addr))≠none:=fun _ h=>by cases h
 refine hy (fun _=>aa rfl)<|hy (fun _=>yV (fN rfl rfl (bF (by omega) (by omega))) ((show Value.int .i64 ((3:Int)*(k:Int))= .int .i64 ((3*k:Nat):Int)from rfl)))<| ?_
 refine aQ (fun w m=>m.bN 0 rfl (show _=aH 5 1 (.slice (some ⟨g11,0,none⟩) 3 3) 3 (aW [UInt8.ofNat (65+k),1,UInt8.ofNat k])from rfl)) ?_
 refine hx (cI rfl Tryz.call101 (FM (show 3≤140737488351232 by decide) (show 3*k≤1000000 by omega) (l:=[UInt8.ofNat (65+k),1,UInt8.ofNat k])) [] rfl (.x 0 rfl .own .nil) ?_)
 rintro _ _ _ ⟨v,rfl,rfl,rfl⟩
 refine⟨rfl, ?_⟩
 refine aA (fun m=>(m.own 0 rfl).slice) ?_
 rintro⟨A_x,c_x,rfl,hc_x⟩
 refine aA (fun m=>(m.ord 0 rfl).2.1) fun hA_x=> ?_
 refine hy (fun _=>ab rfl)<|ai<|al (ρ' :=[(2,_),(3,_),(0,_)]) ⟨rfl,rfl,rfl,trivial⟩<|ak (X' :=[_,_]) (S' :=[]) (fun _ m=>m)<|ag<|aX<| ?_
 rw[vR hk]
 exact bh trivial rfl rfl [0] rfl [] rfl ⟨_,rfl,rfl,rfl⟩
theorem o7{z:Int}{k:Nat}(h0:-9223372036854775808≤z∧z≤9223372036854775807)(hz:ef z 6=(k:Int))(hk:k<6):cf Tryz.prog 30 [.int .i64 z] [] [ey] (fun v_ X_ S_=>v_=(.agg (aW (bn (bo k))).toArray)∧X_=[]∧S_=[]):=by
 have h32:(aW (bn (bo k))).length=32:=by rw[az,br]
 refine aP (N:=6) Tryz.func30 rfl rfl (by simp) fun b=> ?_
 refine ah<|aj<| ?_
 refine hx (aM cP (fun g2=> ?_))
 refine ai<|ak (X' :=[_]) (S' :=[_]) (fun _ m=>m)<|ag<|ah<|aj<|hy (fun _=>aa rfl)<| ?_
 refine hx (aq rfl Tryz.call27 (ma h0 hz hk) [] rfl [] rfl ?_)
 rintro _ _ _ ⟨v,rfl,rfl,rfl⟩
 refine aA (fun m=>(m.own 0 rfl).slice) ?_
 rintro⟨A_x,c_x,rfl,hc_x⟩
 refine aA (fun m=>(m.ord 0 rfl).2.1) fun hA_x=> ?_
 refine hx (cI rfl Tryz.call56 (pC (by omega)) [] rfl (.x 0 rfl .own .nil) ?_)
 rintro _ _ _ ⟨rfl,rfl,rfl⟩
 refine⟨rfl, ?_⟩
 refine cH (aJ 1 rfl rfl rfl bg h32 aY rfl ?_)
 refine ai<|al (ρ' :=[(2,_),(0,_)]) ⟨rfl,rfl,trivial⟩<|ak (X' :=[_,_]) (S' :=[_]) (fun _ m=>m)<|ag<|aX<| ?_
 exact fw trivial rfl rfl b9 bg h32 (fun m=>(m.aZ 0 rfl).ax) [] rfl [] rfl ⟨rfl,rfl,rfl⟩
end Go.Proofs.YtmibdabdlgmafaaGreatDoor
end
section
set_option maxRecDepth 20000
namespace Go.Proofs.YtmibdabdlgmafaaGreatDoor
open Go.Eng Go.Hx
theorem e8(d:RD):kJ (a7 d):=fun x hx=>by
 obtain⟨p,_,h⟩:=List.mem_filterMap.1 hx
 rw[←j5]at h
 exact(eE h).1
end Go.Proofs.YtmibdabdlgmafaaGreatDoor
end
section
set_option maxRecDepth 20000
set_option maxHeartbeats 4000000
namespace Go.Proofs.YtmibdabdlgmafaaGreatDoor
open Go.Eng Go.Hx
theorem fD(d:RD):(a7 d).length≤d.seen.length:=by
 unfold a7
 have:=List.length_filterMap_le jZ (d.seen.map (·.1))
 rwa [List.length_map]at this
end Go.Proofs.YtmibdabdlgmafaaGreatDoor
end
section
set_option maxRecDepth 20000
set_option maxHeartbeats 4000000
namespace Go.Proofs.YtmibdabdlgmafaaGreatDoor
open Go.Eng Go.Hx
theorem vd{A B:Option Addr}{n c m:Nat}{ds:List (List UInt8)}(hD:kJ ds)(hn:n≤1000000):cf Tryz.prog 19 [.slice A n c,.slice B n m] [] [di 32 A n (dc ds),di 32 B n (dc ds)] (fun v_ X_ S_=>v_=(.bool true)∧X_=[]∧S_=[]):=by
 refine aP (N:=26) Tryz.func19 rfl rfl (by simp) fun b=> ?_
 refine a6 (fun m=>gX (m.rd 0 rfl)) ?_
 rintro⟨hl_r,hA_r⟩
 refine a6 (fun m=>gX (m.rd 1 rfl)) ?_
 rintro⟨hl_q,hA_q⟩
 refine a6 (fun m=>u4 (m.rd 0 rfl) hD) fun hln=> ?_
 refine ah<|aj<|hy (fun _=>ab rfl)<|ai<|ag<|ah<|ah<|aj<|hy (fun _=>aa rfl)<|hy (fun _=>aT rfl Tryz.underlying33)<|hy (fun _=>aa rfl)<|hy (fun _=>aT rfl Tryz.underlying33)<|hy (fun _=>cW rfl rfl)<|ai<|al (ρ' :=[(10,_),(4,_),(0,_),(1,_)]) ⟨rfl,rfl,rfl,rfl,trivial⟩<|ag<| ?_
 refine dB rfl ((decide_eq_false (by simp))) ?_
 refine aB<|ag<|ah<|ah<|aj<|hy (fun _=>ab rfl)<|ai<|ag<|aK<| ?_
 refine dH (fun i=>n-i) (fun i=>[(5,.int .i64 (i:Nat))]) (fun i=>[]) (fun i=>[]) (fun i=>i≤n) 0 [(10,_),(0,_),(1,_)] ⟨rfl,rfl,rfl,trivial⟩ [] rfl [] rfl (Nat.zero_le _) ⟨rfl,trivial⟩ (fun i hi=> ?_)
 refine ah<|ah<|aj<|hy (fun _=>aa rfl)<|hy (fun _=>aa rfl)<|hy (fun _=>aT rfl Tryz.underlying33)<|hy (fun _=>bw rfl rfl)<|ai<|al (ρ' :=[(14,_),(5,_),(10,_),(0,_),(1,_)]) ⟨rfl,rfl,rfl,rfl,rfl,trivial⟩<|ag<| ?_
 refine cG rfl (fun hlt=> ?_) (fun hlt=> ?_)
 ·have hi2:i<ds.length:=by omega
  have hdk:=eT hD hi2
  have h32:(aW (ds.getD i [])).length=32:=by rw[az,hdk]
  refine aB<|ag<|ah<|aK<|ah<|cT [] [(0,some 0),(1,some 0),(2,some 0),(3,some 0),(4,some 0),(5,some 0),(6,some 0),(7,some 0),(8,some 0)] (by kernel_rfl) (by kernel_rfl) rfl 99<|an (aa rfl)<|an (aa rfl)<|an (cD rfl rfl Tryz.underlying33 bg hA_r rfl (by omega))<|cq (fun m=>aU rfl b9 bg h32 ((m.rd 0 rfl).im hD hi2))<|an (aa rfl)<|an (aa rfl)<|an (cD rfl rfl Tryz.underlying33 bg hA_q rfl (by omega))<|cq (fun m=>aU rfl b9 bg h32 ((m.rd 1 rfl).im hD hi2))<|an (yF (o1 rfl rfl hdk hdk) ((decide_eq_false (by simp))))<|bz<|al (ρ' :=[(25,_),(14,_),(5,_),(10,_),(0,_),(1,_)]) ⟨rfl,rfl,rfl,rfl,rfl,rfl,trivial⟩<|ag<| ?_
  refine dB rfl (rfl) ?_
  refine aB<|aO<|ag<|aj<|hy (fun _=>aa rfl)<|hy (fun _=>aN rfl rfl (bF (by omega) (by omega)))<|hy (fun _=>ab rfl)<|ai<|al (ρ' :=[(5,_),(25,_),(14,_),(10,_),(0,_),(1,_)]) ⟨rfl,rfl,rfl,rfl,rfl,rfl,trivial⟩<| ?_
  refine cX (i+1) ⟨rfl,rfl,rfl,rfl,trivial⟩ [] rfl [0,1] rfl ((by omega)) (by omega)
 ·refine bL<|ao<|ao<|aD<|ag<|ah<|aj<|hy (fun _=>ab rfl)<|ai<|ag<|aX<| ?_
  exact bh trivial rfl rfl [] rfl [] rfl ⟨rfl,rfl,rfl⟩
theorem nj:∀(l1 l2:List (RD→RD×Int)) (d:RD),cr (l1++l2) d=if(cr l1 d).2≠0 then cr l1 d else cr l2 (cr l1 d).1
 | [],l2,d=>by rw[if_neg (by show¬(0:Int)≠0;decide)];rfl
 |f::r,l2,d=>by
  rw[List.cons_append,cr,cr]
  by_cases h:(f d).2≠0
  ·rw[if_pos h,if_pos h,if_pos h]
  ·rw[if_neg h,if_neg h]
   exact nj r l2 (f d).1
end Go.Proofs.YtmibdabdlgmafaaGreatDoor
end
section
set_option maxRecDepth 20000
set_option maxHeartbeats 4000000
namespace Go.Proofs.YtmibdabdlgmafaaGreatDoor
open Go.Eng Go.Hx
def cJ(d:RD)(ds:List (List UInt8)):List (List UInt8):=ds.filter fun nm=>decide (d.eH nm≠0)
theorem qj(d:RD){ds:List (List UInt8)}{i:Nat}(h:i<ds.length):cJ d (ds.take (i+1))=cJ d (ds.take i)++(if d.eH (ds.getD i [])≠0 then [ds.getD i []]else []):=by
 have h1:ds.take (i+1)=ds.take i++[ds.getD i []]:=by
  rw[List.take_add_one,List.getElem?_eq_getElem h]
  simp[List.getD,List.getElem?_eq_getElem h]
 unfold cJ
 rw[h1,List.filter_append]
 generalize ds.getD i []=x
 by_cases hq:d.eH x=0 <;> simp[hq]
theorem DQ{g:Nat}{st:cF}{d:RD}{kk:Nat}{A:Option Addr}{n c:Nat}{ds:List (List UInt8)}(hD:DS st d kk)(hds:kJ ds)(hn:n≤1000000):cf Tryz.prog 77 [.pointer (some ⟨g,0,none⟩),.slice A n c] [bk g st] [di 32 A n (dc ds),ey] (fun v_ X_ S_=>∃v k,v_=v∧X_=[bk g st,aH 53 32 v k (dc (cJ d ds))]∧S_=[]∧(k=(cJ d ds).length)):=by
 refine aP (N:=24) Tryz.func77 rfl rfl (by simp) fun b=> ?_
 refine a6 (fun m=>gX (m.rd 0 rfl)) ?_
 rintro⟨hl_r,hA_r⟩
 refine a6 (fun m=>u4 (m.rd 0 rfl) hds) fun hln=> ?_
 refine ah<|aj<|hy (fun _=>ab rfl)<|ai<|ag<|ah<|aj<|hy (fun _=>ab rfl)<|ai<|ag<|ah<|ah<|aj<|hy (fun _=>aa rfl)<|hy (fun _=>aT rfl Tryz.underlying33)<|hy (fun _=>aa rfl)<|ai<|ag<|aK<| ?_
 refine bC (fun w m=>m.dj (r' :=aH 53 32 (.slice none 0 0) 0 []) (.refl _ _) (Own.nil _ _ _ _) (fun k hk=>hk.elim)) ?_
 refine jJ (fun i k A1 c1=>n-i) (fun i k A1 c1=>[(5,.slice A1 k c1),(10,.int .i64 (i:Nat))]) (fun i k A1 c1=>[aH 53 32 (.slice A1 k c1) k (dc (cJ d (ds.take i))),bk g st]) (fun i k A1 c1=>[]) (fun i k A1 c1=>i≤n∧k=(cJ d (ds.take i)).length∧k≤i) 0 0 none 0 [(9,_),(8,_),(4,_),(0,_),(1,_)] ⟨rfl,rfl,rfl,rfl,rfl,trivial⟩ [0,0] rfl [] rfl (⟨Nat.zero_le _,rfl,Nat.le_refl _⟩) ⟨rfl,rfl,trivial⟩ (fun i k A1 c1 ⟨hin,hk,hki⟩=> ?_)
 refine ah<|aj<|hy (fun _=>bw rfl rfl)<|ai<|ag<|ah<| ?_
 refine cG rfl (fun hlt=> ?_) (fun hlt=> ?_)
 ·have hi2:i<ds.length:=by omega
  have hm:(ds.getD i []).length=32:=eT hds hi2
  have h32:(aW (ds.getD i [])).length=32:=by rw[az,hm]
  have hsn:=qj d hi2
  refine aB<|ag<|ah<|aK<|ah<|aj<|hy (fun _=>cD rfl rfl Tryz.underlying33 bg hA_r rfl (by omega))<|hy (fun m=>aU rfl b9 bg h32 ((m.rd 0 rfl).im hds hi2))<| ?_
  refine hx (aM cP (fun g7=> ?_))
  refine cH (aJ 0 rfl rfl rfl bg h32 aY rfl ?_)
  generalize hnm:ds.getD i []=nm at hm h32 hsn ⊢
  refine ai<|al (ρ' :=[(7,_),(11,_),(5,_),(10,_),(9,_),(8,_),(4,_),(0,_),(1,_)]) ⟨rfl,rfl,rfl,rfl,rfl,rfl,rfl,rfl,rfl,trivial⟩<|ak (X' :=[_,_,_]) (S' :=[_,_]) (fun _ m=>m)<|ag<|ah<|aj<|hy (fun _=>aa rfl)<|hy (fun m=>aU rfl b9 bg h32 ((m.aZ 0 rfl).ax))<| ?_
  refine hx (aq rfl Tryz.call145 (Fi hD hm) [2] rfl [1] rfl ?_)
  rintro _ _ _ ⟨rfl,rfl,rfl⟩
  refine hy (fun _=>jK rfl)<|ai<|al (ρ' :=[(17,_),(7,_),(11,_),(5,_),(10,_),(9,_),(8,_),(4,_),(0,_),(1,_)]) ⟨rfl,rfl,rfl,rfl,rfl,rfl,rfl,rfl,rfl,rfl,trivial⟩<|ak (X' :=[_,_,_]) (S' :=[_,_]) (fun _ m=>m)<|ag<| ?_
  refine tc rfl (fun h0=> ?_) (fun h0=> ?_)
  ·have hne:d.eH nm≠0:=by simpa using h0
   rw[if_pos hne]at hsn
   refine aj<|hy (fun _=>aa rfl)<|hy (fun m=>aU rfl b9 bg h32 ((m.aZ 1 rfl).ax))<| ?_
   refine hx (b6 Tryz.underlying33 cP rfl rfl rfl (by simpa[Value.cells,B8]using h32) (by decide) (by decide) (fun g20=> ?_))
   have hA_b20:0<1→(some (⟨g20,0,none⟩:Addr))≠none:=fun _ h=>by cases h
   refine aQ (fun w m=>m.bN 0 rfl (show _=aH 53 32 (.slice (some ⟨g20,0,none⟩) 1 1) 1 (dc [nm])from rfl)) ?_
   refine hx (bx 3 rfl rfl rfl Tryz.underlying33 Tryz.underlying33 (by exact .inl rfl) cP rfl (fun m=>Src.bR (m.ord 0 rfl)) cO (by unfold maxLen;omega) (by omega) (fun u=> ?_))
   refine aA (fun m=>(m.own 0 rfl).slice) ?_
   rintro⟨A_o,c_o,rfl,hc_o⟩
   refine aA (fun m=>(m.ord 0 rfl).2.1) fun hA_o=> ?_
   refine aQ (fun w m=>m.bN 0 rfl (show _=aH 53 32 (.slice A_o (k+1) c_o) (k+1) (dc (cJ d (ds.take (i+1))))from congrArg (aH _ _ _ _) (by rw[hsn,db]))) ?_
   refine hy (fun _=>ab rfl)<|ai<|al (ρ' :=[(5,_),(17,_),(7,_),(11,_),(10,_),(9,_),(8,_),(4,_),(0,_),(1,_)]) ⟨rfl,rfl,rfl,rfl,rfl,rfl,rfl,rfl,rfl,rfl,trivial⟩<|ak (X' :=[_,_,_,_]) (S' :=[_,_]) (fun _ m=>m)<|aO<|ag<|aj<|hy (fun _=>aN rfl rfl (bF (by omega) (by omega)))<|hy (fun _=>aa rfl)<|ai<|al (ρ' :=[(10,_),(5,_),(17,_),(7,_),(11,_),(9,_),(8,_),(4,_),(0,_),(1,_)]) ⟨rfl,rfl,rfl,rfl,rfl,rfl,rfl,rfl,rfl,rfl,trivial⟩<| ?_
   refine eO (i+1) (k+1) A_o c_o ⟨rfl,rfl,rfl,rfl,rfl,rfl,rfl,trivial⟩ [0,1] rfl [0,1] rfl (⟨by omega,by rw[hsn,hk,List.length_append];rfl,by omega⟩) (by omega)
  ·have hne:¬d.eH nm≠0:=by simpa using h0
   rw[if_neg hne,List.append_nil]at hsn
   refine aB<|aO<|ag<|aj<|hy (fun _=>aN rfl rfl (bF (by omega) (by omega)))<|hy (fun _=>aa rfl)<|ai<|al (ρ' :=[(10,_),(17,_),(7,_),(11,_),(5,_),(9,_),(8,_),(4,_),(0,_),(1,_)]) ⟨rfl,rfl,rfl,rfl,rfl,rfl,rfl,rfl,rfl,rfl,trivial⟩<| ?_
   refine ak (fun w m=>m.bN 2 rfl (show _=aH 53 32 (.slice A1 k c1) k (dc (cJ d (ds.take (i+1))))from by rw[hsn])) ?_
   refine eO (i+1) k A1 c1 ⟨rfl,rfl,rfl,rfl,rfl,rfl,rfl,trivial⟩ [0,0] rfl [0,1] rfl (⟨by omega,by rw[hsn,hk],by omega⟩) (by omega)
 ·obtain rfl:i=n:=by omega
  rw[List.take_of_length_le (by omega)]at hk ⊢
  refine bL<|ao<|ao<|aD<|ag<|ah<|aj<|hy (fun _=>aa rfl)<|hy (fun _=>ab rfl)<|ai<|al (ρ' :=[(4,_),(11,_),(5,_),(10,_),(9,_),(8,_),(0,_),(1,_)]) ⟨rfl,rfl,rfl,rfl,rfl,rfl,rfl,rfl,trivial⟩<|ag<|aX<| ?_
  exact bh trivial rfl rfl [1,0] rfl [] rfl ⟨_,_,rfl,rfl,rfl,hk⟩
end Go.Proofs.YtmibdabdlgmafaaGreatDoor
end
section
set_option maxRecDepth 20000
set_option maxHeartbeats 4000000
namespace Go.Proofs.YtmibdabdlgmafaaGreatDoor
open Go.Eng Go.Hx
theorem uW{acc:List (List UInt8)}{p:List UInt8}(h:dJ acc):dJ (jS acc p):=by
 unfold jS
 split
 ·exact kO _ _ h
 ·exact h
theorem np:∀(l acc:List (List UInt8)),dJ acc→dJ (l.foldl jS acc)
 | [],acc,h=>h
 |p::r,acc,h=>np r _ (uW h)
theorem ju{d:RD}(h:kH d.seen):dJ (a7 d):=by
 rw[←pJ h]
 exact np _ _ List.Pairwise.nil
theorem kd{l:List (List UInt8)}(h:dJ l):l.Nodup:=h.imp fun{a b} hab e=>by
 subst e
 rw[mJ]at hab
 omega
theorem ta{l m:List (List UInt8)}(hp:l.Perm m)(hs:dJ m):kn l=m:=
 dJ.ext (tQ (hp.nodup_iff.2 (kd hs))) hs fun x=>by rw[(jW l).mem_iff,hp.mem_iff]
def cR(ns kp:List (List UInt8)):List (List UInt8):=ns.filter fun d=>decide (¬d∈kp)
theorem x3{ns kp kp' :List (List UInt8)}(h:∀x,x∈kp↔x∈kp'):cR ns kp=cR ns kp' :=by
 unfold cR
 congr 1
 funext d
 rw[decide_eq_decide,h]
theorem ke{ns kp:List (List UInt8)}(h:dJ ns):dJ (cR ns kp):=h.filter _
theorem rn{ns kp:List (List UInt8)}(h:kJ ns):kJ (cR ns kp):=fun d hd=>h d (List.mem_filter.1 hd).1
theorem yt{ns kp:List (List UInt8)}:(cR ns kp).length≤ns.length:=List.length_filter_le _ _
def tv(k:Dg):Dg×Value:=(k,.bool true)
theorem D8{l:List Dg}{k:Dg}(h:¬k∈l):cQ (l.map tv) k (.bool true)=(l++[k]).map tv:=by
 have:ck (l.map tv) k=none:=jY.2 (by simpa[cn,tv,Function.comp_def]using h)
 rw[ni this,List.map_append];rfl
theorem yW:∀(l:List Dg) (k:Dg),ej (l.map tv) k=(l.erase k).map tv
 | [],k=>rfl
 |a::r,k=>by
  have ih:=yW r k
  by_cases h:a=k
  ·subst h;simp[tv,ej]
  ·have h2:(a == k)=false:=beq_false_of_ne h
   rw[List.erase_cons,h2,List.map_cons]
   show ej ((a,_)::r.map tv) k=_
   unfold ej
   rw[if_neg h,ih];rfl
theorem B3{ds:List (List UInt8)}(h:kJ ds):∃l:List Dg,l.map (·.1)=ds:=by
 induction ds with
 |nil=>exact⟨[],rfl⟩
 |cons d r ih=>
  obtain⟨l,hl⟩:=ih (fun x hx=>h x (List.mem_cons_of_mem _ hx))
  exact⟨⟨d,h d (List.mem_cons_self ..)⟩::l,by rw[List.map_cons,hl]⟩
def yM(k:Dg):List UInt8:=k.1
theorem CJ(l:List Dg):kJ (l.map yM):=fun d hd=>by
 obtain⟨x,_,rfl⟩:=List.mem_map.1 hd
 exact x.2
theorem xR{l:List Dg}:(l.map yM).Nodup↔l.Nodup:=by
 constructor
 ·exact fun h=>List.Pairwise.of_map _ (fun a b hab e=>hab (by rw[e])) h
 ·exact fun h=>List.Pairwise.map _ (fun a b hab e=>hab (Subtype.ext e)) h
theorem AI{l:List Dg}{i:Nat}{k:Dg}(h:l[i]? =some k):(l.map yM).getD i []=k.1:=by
 obtain⟨hi,rfl⟩:=List.getElem?_eq_some_iff.1 h
 simp[List.getD,hi,yM]
theorem AT{l:List Dg}(hn:l.Nodup){i:Nat}{k:Dg}(h:l[i]? =some k):¬k∈l.take i∧l.take (i+1)=l.take i++[k]:=by
 obtain⟨hi,rfl⟩:=List.getElem?_eq_some_iff.1 h
 have e:=List.take_succ_eq_append_getElem hi
 refine⟨fun hm=> ?_,e⟩
 have h1:(l.take (i+1)).Nodup:=hn.sublist (List.take_sublist _ _)
 rw[e,List.nodup_append]at h1
 exact h1.2.2 _ hm _ (List.mem_singleton.2 rfl) rfl
def jX(l:List Dg)(kp:List (List UInt8)):List Dg:=l.filter fun k=>decide (¬k.1∈kp)
theorem xH{l:List Dg}(hn:l.Nodup)(kp:List (List UInt8))(q:Dg):(jX l kp).erase q=jX l (kp++[q.1]):=by
 have hn2:(jX l kp).Nodup:=hn.filter _
 rw[hn2.erase_eq_filter]
 unfold jX
 rw[List.filter_filter]
 congr 1
 funext k
 by_cases h2:k=q
 ·subst h2;simp
 ·have h3:¬k.1=q.1:=fun e=>h2 (Subtype.ext e)
  simp[h2,h3]
theorem xK{l:List Dg}(hn:l.Nodup){kp:List (List UInt8)}{j:Nat}(hj:j<kp.length)(h32:(kp.getD j []).length=32):(jX l (kp.take j)).erase ⟨kp.getD j [],h32⟩=jX l (kp.take (j+1)):=by
 have e:kp.take (j+1)=kp.take j++[kp.getD j []]:=by rw[List.take_succ_eq_append_getElem hj];simp[List.getD,hj]
 rw[xH hn,e]
theorem Bb(l:List Dg)(kp:List (List UInt8)):(jX l kp).map yM=cR (l.map yM) kp:=by
 unfold jX cR
 rw[List.filter_map]
 rfl
theorem Gq{left:List Dg}{j:Nat}{x:Dg×Value}(h:(left.map tv)[j]? =some x):∃k,left[j]? =some k∧x=tv k:=by
 rw[List.getElem?_map]at h
 cases hk:left[j]? with
 |none=>rw[hk]at h;cases h
 |some k=>rw[hk]at h;exact⟨k,rfl,(Option.some.inj h).symm⟩
theorem zN(left:List Dg)(j:Nat):(left.map tv).eraseIdx j=(left.eraseIdx j).map tv:=(map_eraseIdx ..).symm
theorem Fq{g:Nat}{st:cF}{d:RD}{kk:Nat}{K:Option Addr}{n c:Nat}{L:List IX}(hD:DS st d kk)(hkk:kk≤90000)(hnl:∀x∈d.seen,x.1.length≤1000000)(hL:L.length=n)(hn:n≤100000)(hs:(en L).length≤100000):cf Tryz.prog 66 [.pointer (some ⟨g,0,none⟩),.slice K n c] [bk g st] [di 36 K n (G1 L),oW (L.map IX.wj)] (fun v_ X_ S_=>∃A1 k c1,v_=(.slice A1 k c1)∧X_=[bk g st,aH 53 32 (.slice A1 k c1) k (dc (cR (a7 d) (en L)))]∧S_=[]∧(k=(cR (a7 d) (en L)).length∧k≤c1)):=by
 have hcd:=e8 d
 have hst:=ju hD.mB.files.ord
 have hlen:(a7 d).length≤kk:=Nat.le_trans (fD d) hD.qy.seen
 obtain⟨l,hl⟩:=B3 hcd
 have hl:l.map yM=a7 d:=hl
 rw[←hl]at hst hcd hlen
 have hll:l.length≤kk:=by rw[List.length_map]at hlen;exact hlen
 have hln:l.Nodup:=xR.1 (kd hst)
 obtain⟨hks,hkm⟩:=kU (en L) [] List.Pairwise.nil
 have hkm:∀x,x∈(en L).foldl eL []↔x∈en L:=fun x=>by rw[hkm x];simp
 have hkD:kJ ((en L).foldl eL []):=fun x hx=>mO L x ((hkm x).1 hx)
 have hkl:((en L).foldl eL []).length≤100000:=by
  have:=(yZ (mO L) (en L).length).2
  rw[List.take_length]at this
  omega
 rw[←x3 hkm]
 refine aP (N:=46) Tryz.func66 rfl rfl (by simp) fun b=> ?_
 refine a6 (fun m=>gX (m.rd 0 rfl)) ?_
 rintro⟨hl_r,hA_r⟩
 refine ah<|aj<|hy (fun _=>ab rfl)<|ai<|ag<|ah<|aj<| ?_
 refine hx (nh DK (fun g12=> ?_))
 refine aQ (fun w m=>m.bN 0 rfl (show _=dg DK g12 ((l.take 0).map tv)from rfl)) ?_
 refine hy (fun _=>ab rfl)<|ai<|al (ρ' :=[(5,_),(4,_),(0,_),(1,_)]) ⟨rfl,rfl,rfl,rfl,trivial⟩<|ak (X' :=[_,_]) (S' :=[_,_]) (fun _ m=>m)<|ag<|ah<|ah<|aj<|hy (fun _=>aa rfl)<| ?_
 refine hx (aq rfl Tryz.call20 (vp hD (by omega) hnl) [1] rfl [] rfl ?_)
 rintro _ _ _ ⟨v,k,rfl,rfl,rfl,hk1⟩
 refine aA (fun m=>(m.own 1 rfl).slice) ?_
 rintro⟨A_o,c_o,rfl,hc_o⟩
 refine aA (fun m=>(m.ord 1 rfl).2.1) fun hA_o=> ?_
 refine hy (fun _=>aT rfl Tryz.underlying33)<|hy (fun _=>aa rfl)<|ai<|al (ρ' :=[(16,_),(15,_),(14,_),(5,_),(4,_),(0,_),(1,_)]) ⟨rfl,rfl,rfl,rfl,rfl,rfl,rfl,trivial⟩<|ak (X' :=[_,_,_]) (S' :=[_,_]) (fun _ m=>m)<|ag<|aK<| ?_
 rw[←hl]at hk1
 rw[←hl]
 rw[List.length_map]at hk1
 subst hk1
 refine dH (fun i=>l.length-i) (fun i=>[(16,.int .i64 (i:Nat))]) (fun i=>[dg DK g12 ((l.take i).map tv)]) (fun i=>[]) (fun i=>i≤l.length) 0 [(15,_),(14,_),(5,_),(4,_),(0,_),(1,_)] ⟨rfl,rfl,rfl,rfl,rfl,rfl,trivial⟩ [2] rfl [] rfl (Nat.zero_le _) ⟨rfl,trivial⟩ (fun i hi=> ?_)
 refine ah<|aj<|hy (fun _=>bw rfl rfl)<|ai<|ag<|ah<| ?_
 refine cG rfl (fun hlt=> ?_) (fun hlt=> ?_)
 ·obtain⟨k,hk⟩:∃k,l[i]? =some k:=⟨_,List.getElem?_eq_getElem (by omega)⟩
  have h32:(aW k.1).length=32:=by rw[az,k.2]
  have hgd:=AI hk
  obtain⟨hno,htk⟩:=AT hln hk
  refine aB<|ag<|ah<|aK<|ah<|aj<|hy (fun _=>cD rfl rfl Tryz.underlying33 bg hA_o rfl (by omega))<|hy (fun m=>yV (aU rfl b9 bg (by rw[hgd];exact h32) ((m.ord 2 rfl).im hcd (i:=i) (by rw[List.length_map];omega))) ((show Value.agg (aW ((l.map yM).getD i [])).toArray= .agg (aW k.1).toArray from by rw[hgd])))<| ?_
  refine hx (aM cP (fun g7=> ?_))
  refine cH (aJ 0 rfl rfl rfl bg h32 aY rfl ?_)
  refine ai<|al (ρ' :=[(7,_),(17,_),(16,_),(15,_),(14,_),(5,_),(4,_),(0,_),(1,_)]) ⟨rfl,rfl,rfl,rfl,rfl,rfl,rfl,rfl,rfl,trivial⟩<|ak (X' :=[_,_,_,_]) (S' :=[_,_]) (fun _ m=>m)<|ag<|aj<|hy (fun _=>aa rfl)<|hy (fun m=>yV (aU rfl b9 bg h32 ((m.aZ 0 rfl).ax)) ((rfl:_=DK k)))<| ?_
  refine cH (p9 (enc:=DK) 1 rfl rfl rfl rfl Tryz.underlying225 (zh rfl Tryz.underlying53 Tryz.underlying5 (by kernel_rfl) (by kernel_rfl) (by kernel_rfl)) ?_)
  refine ai<|al (ρ' :=[(7,_),(17,_),(16,_),(15,_),(14,_),(5,_),(4,_),(0,_),(1,_)]) ⟨rfl,rfl,rfl,rfl,rfl,rfl,rfl,rfl,rfl,trivial⟩<|ak (X' :=[_,_,_,_]) (S' :=[_,_]) (fun _ m=>m)<|aO<|ag<|aj<|hy (fun _=>aN rfl rfl (bF (by omega) (by omega)))<|hy (fun _=>aa rfl)<|ai<|al (ρ' :=[(16,_),(7,_),(17,_),(15,_),(14,_),(5,_),(4,_),(0,_),(1,_)]) ⟨rfl,rfl,rfl,rfl,rfl,rfl,rfl,rfl,rfl,trivial⟩<| ?_
  refine ak (fun w m=>m.bN 0 rfl (show _=dg DK g12 ((l.take (i+1)).map tv)from congrArg (dg DK g12) (by rw[D8 hno,htk]))) ?_
  refine cX (i+1) ⟨rfl,rfl,rfl,rfl,rfl,rfl,rfl,trivial⟩ [0,1,1] rfl [0,1] rfl (by omega) (by omega)
 ·obtain rfl:i=l.length:=by omega
  rw[List.take_length]
  refine bL<|ao<|ao<|aD<|ag<|ah<|ah<|aj<|hy (fun _=>aa rfl)<| ?_
  refine hx (aq rfl Tryz.call146 (x5 hL hn hs) [] rfl [0,1] rfl ?_)
  rintro _ _ _ ⟨A1,k2,c1,rfl,rfl,rfl,hk2⟩
  refine hy (fun _=>aT rfl Tryz.underlying33)<|hy (fun _=>aa rfl)<|ai<|al (ρ' :=[(26,_),(25,_),(24,_),(17,_),(16,_),(15,_),(14,_),(5,_),(4,_),(0,_),(1,_)]) ⟨rfl,rfl,rfl,rfl,rfl,rfl,rfl,rfl,rfl,rfl,rfl,trivial⟩<|ak (X' :=[_,_,_,_]) (S' :=[_,_]) (fun _ m=>m)<|ag<|aK<| ?_
  obtain⟨hk2,_⟩:=hk2
  refine a6 (fun m=>(m.ord 0 rfl).2.1) fun hA_o2=> ?_
  generalize hkp:(en L).foldl eL []=kp at hkD hkl hk2 ⊢
  subst hk2
  have hm0:l.map tv=(jX l (kp.take 0)).map tv:=by
   rw[List.take_zero]
   unfold jX
   rw[List.filter_eq_self.2 (fun k _=>by simp)]
  rw[hm0]
  refine dH (fun j=>kp.length-j) (fun j=>[(26,.int .i64 (j:Nat))]) (fun j=>[dg DK g12 ((jX l (kp.take j)).map tv)]) (fun j=>[]) (fun j=>j≤kp.length) 0 [(25,_),(24,_),(17,_),(16,_),(15,_),(14,_),(5,_),(4,_),(0,_),(1,_)] ⟨rfl,rfl,rfl,rfl,rfl,rfl,rfl,rfl,rfl,rfl,trivial⟩ [1] rfl [] rfl (Nat.zero_le _) ⟨rfl,trivial⟩ (fun j hj=> ?_)
  refine ah<|aj<|hy (fun _=>bw rfl rfl)<|ai<|ag<|ah<| ?_
  refine cG rfl (fun hlt2=> ?_) (fun hlt2=> ?_)
  ·have hj2:j<kp.length:=by omega
   have hk3:=eT hkD hj2
   have h32:(aW (kp.getD j [])).length=32:=by rw[az,hk3]
   refine aB<|ag<|ah<|aK<|ah<|aj<|hy (fun _=>cD rfl rfl Tryz.underlying33 bg hA_o2 rfl (by omega))<|hy (fun m=>aU rfl b9 bg h32 ((m.ord 1 rfl).im hkD hj2))<| ?_
   refine hx (aM cP (fun g9=> ?_))
   refine cH (aJ 0 rfl rfl rfl bg h32 aY rfl ?_)
   refine ai<|al (ρ' :=[(9,_),(27,_),(26,_),(25,_),(24,_),(17,_),(16,_),(15,_),(14,_),(5,_),(4,_),(0,_),(1,_)]) ⟨rfl,rfl,rfl,rfl,rfl,rfl,rfl,rfl,rfl,rfl,rfl,rfl,rfl,trivial⟩<|ak (X' :=[_,_,_,_,_]) (S' :=[_,_]) (fun _ m=>m)<|ag<|aj<|hy (fun _=>aa rfl)<|hy (fun m=>yV (aU rfl b9 bg h32 ((m.aZ 0 rfl).ax)) ((rfl:_=DK ⟨kp.getD j [],hk3⟩)))<| ?_
   refine cH (nM (enc:=DK) 1 rfl rfl rfl Tryz.underlying225 (zh rfl Tryz.underlying53 Tryz.underlying5 (by kernel_rfl) (by kernel_rfl) (by kernel_rfl)) ?_)
   refine ai<|al (ρ' :=[(9,_),(27,_),(26,_),(25,_),(24,_),(17,_),(16,_),(15,_),(14,_),(5,_),(4,_),(0,_),(1,_)]) ⟨rfl,rfl,rfl,rfl,rfl,rfl,rfl,rfl,rfl,rfl,rfl,rfl,rfl,trivial⟩<|ak (X' :=[_,_,_,_,_]) (S' :=[_,_]) (fun _ m=>m)<|aO<|ag<|aj<|hy (fun _=>aN rfl rfl (bF (by omega) (by omega)))<|hy (fun _=>aa rfl)<|ai<|al (ρ' :=[(26,_),(9,_),(27,_),(25,_),(24,_),(17,_),(16,_),(15,_),(14,_),(5,_),(4,_),(0,_),(1,_)]) ⟨rfl,rfl,rfl,rfl,rfl,rfl,rfl,rfl,rfl,rfl,rfl,rfl,rfl,trivial⟩<| ?_
   refine ak (fun w m=>m.bN 0 rfl (show _=dg DK g12 ((jX l (kp.take (j+1))).map tv)from congrArg (dg DK g12) (by rw[yW,xK hln hj2 hk3]))) ?_
   refine cX (j+1) ⟨rfl,rfl,rfl,rfl,rfl,rfl,rfl,rfl,rfl,rfl,rfl,trivial⟩ [0,1,1,1] rfl [0,1] rfl (by omega) (by omega)
  ·obtain rfl:j=kp.length:=by omega
   rw[List.take_length]
   have hle:=Bb l kp
   generalize hLL:jX l kp=LL at hle ⊢
   rw[←hle]
   have hsL:dJ (LL.map yM):=by rw[hle];exact ke hst
   have hLlen:LL.length≤kk:=by rw[←hLL];exact Nat.le_trans (List.length_filter_le _ _) hll
   refine bL<|ao<|ao<|aD<|ag<|ah<|aj<|hy (fun _=>ab rfl)<|ai<|ag<|ah<|ah<|aj<|hy (fun _=>aa rfl)<| ?_
   refine hx (py 0 rfl rfl Tryz.underlying225 (fun r34=> ?_))
   refine ai<|al (ρ' :=[(34,_),(10,_),(27,_),(26,_),(25,_),(24,_),(17,_),(16,_),(15,_),(14,_),(5,_),(4,_),(0,_),(1,_)]) ⟨rfl,rfl,rfl,rfl,rfl,rfl,rfl,rfl,rfl,rfl,rfl,rfl,rfl,rfl,trivial⟩<|ak (X' :=[_,_,_,_]) (S' :=[_,_]) (fun _ m=>m)<|ag<|aK<| ?_
   refine bC (fun w m=>m.dj (r' :=aH 53 32 (.slice none 0 0) 0 []) (.refl _ _) (Own.nil _ _ _ _) (fun k hk=>hk.elim)) ?_
   refine n0 (fun left cur A3 k3 c3 ks=>left.length) (fun left cur A3 k3 c3 ks=>[(10,.slice A3 k3 c3)]) (fun left cur A3 k3 c3 ks=>[aH 53 32 (.slice A3 k3 c3) k3 (dc (ks.map yM)),jO DK r34 g12 (LL.map tv) (left.map tv) cur]) (fun left cur A3 k3 c3 ks=>[]) (fun left cur A3 k3 c3 ks=>k3=ks.length∧(ks++left).Perm LL) LL none none 0 0 ([]:List Dg) [(34,_),(27,_),(26,_),(25,_),(24,_),(17,_),(16,_),(15,_),(14,_),(5,_),(4,_),(0,_),(1,_)] ⟨rfl,rfl,rfl,rfl,rfl,rfl,rfl,rfl,rfl,rfl,rfl,rfl,rfl,trivial⟩ [0,0] rfl [] rfl (⟨rfl,List.Perm.refl _⟩) ⟨rfl,trivial⟩ (fun left cur A3 k3 c3 ks ⟨hkn,hpm⟩=> ?_)
   refine ah<|aj<| ?_
   refine hx (sd 1 rfl rfl (fun h0=> ?_) (fun j2 x hx1=> ?_))
   ·obtain rfl:left=[]:=List.map_eq_nil_iff.1 h0
    rw[List.append_nil]at hpm
    refine hy (fun _=>ar rfl rfl)<|ai<|al (ρ' :=[(36,_),(10,_),(34,_),(27,_),(26,_),(25,_),(24,_),(17,_),(16,_),(15,_),(14,_),(5,_),(4,_),(0,_),(1,_)]) ⟨rfl,rfl,rfl,rfl,rfl,rfl,rfl,rfl,rfl,rfl,rfl,rfl,rfl,rfl,rfl,trivial⟩<|ag<|ah<| ?_
    refine dB rfl (rfl) ?_
    refine a6 (fun m=>(Own.rd (m.own 0 rfl)).2.1) fun hcc=> ?_
    have hkl2:=hpm.length_eq
    refine bL<|ao<|ao<|aD<|ag<|ah<|aj<|hy (fun _=>aa rfl)<| ?_
    refine hx (aq rfl Tryz.call147 (rq (CJ ks) (by omega)) [0] rfl [] rfl ?_)
    rintro _ _ _ ⟨rfl,rfl,rfl⟩
    rw[ta (hpm.map yM) hsL]
    refine ai<|al (ρ' :=[(36,_),(10,_),(34,_),(27,_),(26,_),(25,_),(24,_),(17,_),(16,_),(15,_),(14,_),(5,_),(4,_),(0,_),(1,_)]) ⟨rfl,rfl,rfl,rfl,rfl,rfl,rfl,rfl,rfl,rfl,rfl,rfl,rfl,rfl,rfl,trivial⟩<|ak (X' :=[_,_,_,_,_]) (S' :=[_,_]) (fun _ m=>m)<|ag<|ah<|aj<|hy (fun _=>aa rfl)<|hy (fun _=>ab rfl)<|ai<|al (ρ' :=[(4,_),(36,_),(10,_),(34,_),(27,_),(26,_),(25,_),(24,_),(17,_),(16,_),(15,_),(14,_),(5,_),(0,_),(1,_)]) ⟨rfl,rfl,rfl,rfl,rfl,rfl,rfl,rfl,rfl,rfl,rfl,rfl,rfl,rfl,rfl,trivial⟩<|ag<|aX<| ?_
    refine ak (fun w m=>m.vF 1 rfl) ?_
    exact bh trivial rfl rfl [3,1] rfl [] rfl ⟨_,_,_,rfl,rfl,rfl,⟨by rw[List.length_map];omega,hcc⟩⟩
   ·obtain⟨kx,hkx,rfl⟩:=Gq hx1
    have h32:(aW kx.1).length=32:=by rw[az,kx.2]
    have hlt3:=(List.getElem?_eq_some_iff.1 hkx).1
    have hp2:(ks++[kx]++left.eraseIdx j2).Perm LL:=by
     rw[List.append_assoc]
     exact((List.Perm.append_left ks (l9 hkx)).symm.trans hpm)
    have hkl2:=hpm.length_eq
    rw[List.length_append]at hkl2
    refine hy (fun _=>ar rfl rfl)<|ai<|al (ρ' :=[(36,_),(10,_),(34,_),(27,_),(26,_),(25,_),(24,_),(17,_),(16,_),(15,_),(14,_),(5,_),(4,_),(0,_),(1,_)]) ⟨rfl,rfl,rfl,rfl,rfl,rfl,rfl,rfl,rfl,rfl,rfl,rfl,rfl,rfl,rfl,trivial⟩<|ag<|ah<| ?_
    refine gY rfl (rfl) ?_
    refine aB<|ag<|aK<|ah<|aj<|hy (fun m=>p4 rfl (m.EO 0 rfl))<| ?_
    refine hy (fun _=>yV (ar rfl rfl) ((rfl:_=Value.agg (aW kx.1).toArray)))<| ?_
    refine hx (aM cP (fun g11=> ?_))
    refine cH (aJ 0 rfl rfl rfl bg h32 aY rfl ?_)
    refine ai<|al (ρ' :=[(11,_),(36,_),(10,_),(34,_),(27,_),(26,_),(25,_),(24,_),(17,_),(16,_),(15,_),(14,_),(5,_),(4,_),(0,_),(1,_)]) ⟨rfl,rfl,rfl,rfl,rfl,rfl,rfl,rfl,rfl,rfl,rfl,rfl,rfl,rfl,rfl,rfl,trivial⟩<|ak (X' :=[_,_,_,_,_,_]) (S' :=[_,_]) (fun _ m=>m)<|ag<|aj<|hy (fun _=>aa rfl)<|hy (fun m=>aU rfl b9 bg h32 ((m.aZ 0 rfl).ax))<| ?_
    refine hx (b6 Tryz.underlying33 cP rfl rfl rfl (by simpa[Value.cells,B8]using h32) (by decide) (by decide) (fun g41=> ?_))
    have hA_b41:0<1→(some (⟨g41,0,none⟩:Addr))≠none:=fun _ h=>by cases h
    refine aQ (fun w m=>m.bN 0 rfl (show _=aH 53 32 (.slice (some ⟨g41,0,none⟩) 1 1) 1 (dc [kx.1])from rfl)) ?_
    refine hx (bx 3 rfl rfl rfl Tryz.underlying33 Tryz.underlying33 (by exact .inl rfl) cP rfl (fun m=>Src.bR (m.ord 0 rfl)) cO (by unfold maxLen;omega) (by omega) (fun u=> ?_))
    refine aA (fun m=>(m.own 0 rfl).slice) ?_
    rintro⟨A_z,c_z,rfl,hc_z⟩
    refine aA (fun m=>(m.ord 0 rfl).2.1) fun hA_z=> ?_
    refine aQ (fun w m=>m.bN 0 rfl (show _=aH 53 32 (.slice A_z (k3+1) c_z) (k3+1) (dc ((ks++[kx]).map yM))from congrArg (aH _ _ _ _) (by rw[List.map_append,db];rfl))) ?_
    refine hy (fun _=>ab rfl)<|ai<|al (ρ' :=[(10,_),(11,_),(36,_),(34,_),(27,_),(26,_),(25,_),(24,_),(17,_),(16,_),(15,_),(14,_),(5,_),(4,_),(0,_),(1,_)]) ⟨rfl,rfl,rfl,rfl,rfl,rfl,rfl,rfl,rfl,rfl,rfl,rfl,rfl,rfl,rfl,rfl,trivial⟩<|ak (X' :=[_,_,_,_,_,_,_]) (S' :=[_,_]) (fun _ m=>m)<|aO<| ?_
    refine ak (fun w m=>m.bN 3 rfl (show _=jO DK r34 g12 (LL.map tv) ((left.eraseIdx j2).map tv) (some (tv kx))from congrArg (fun q=>jO DK r34 g12 (LL.map tv) q (some (tv kx))) (zN left j2))) ?_
    refine eX (left.eraseIdx j2) (some (tv kx)) A_z (k3+1) c_z (ks++[kx]) ⟨rfl,rfl,rfl,rfl,rfl,rfl,rfl,rfl,rfl,rfl,rfl,rfl,rfl,rfl,trivial⟩ [1,0,2,2,2] rfl [0,1] rfl (⟨by rw[List.length_append,hkn];rfl,hp2⟩) (by rw[List.length_eraseIdx,if_pos hlt3];omega)
end Go.Proofs.YtmibdabdlgmafaaGreatDoor
end
section
set_option maxRecDepth 20000
set_option maxHeartbeats 4000000
namespace Go.Proofs.YtmibdabdlgmafaaGreatDoor
open Go.Eng Go.Hx
def c5(ns:List (List UInt8)):List (RD→RD×Int):=ns.map fun nm=>nZ (aG nm)
def RD.rm(d:RD)(ns:List (List UInt8)):RD×Int:=if ns=[]then(d,0)else cr (c5 ns++[cE]) d
theorem pY(a b:List (List UInt8)):c5 (a++b)=c5 a++c5 b:=List.map_append
theorem wT{d y:RD}{ns:List (List UInt8)}{i:Nat}(hi:i<ns.length)(hr:cr (c5 (ns.take i)) d=(y,0))(he:y.cj (aG (ns.getD i []))≠0):d.rm ns=(y,y.cj (aG (ns.getD i []))):=by
 have hs:ns=ns.take i++ns.getD i []::ns.drop (i+1):=by
  have:=List.take_append_drop i ns
  rw[List.drop_eq_getElem_cons hi]at this
  simpa[List.getD,hi]using this.symm
 have hne:ns≠ []:=fun e=>by rw[e]at hi;exact absurd hi (Nat.not_lt_zero _)
 unfold RD.rm
 rw[if_neg hne]
 generalize ns.getD i []=nm at hs he ⊢
 rw[hs,pY,List.append_assoc,nj,hr,if_neg (by show¬(0:Int)≠0;decide)]
 show cr (nZ (aG nm)::(c5 (ns.drop (i+1))++[cE])) y=_
 rw[cr,if_pos (by exact he)]
 exact Prod.ext (by show y.remove (aG nm)=y;rw[RD.remove,if_neg he]) rfl
theorem wB{d y:RD}{ns:List (List UInt8)}{i:Nat}(hi:i<ns.length)(hr:cr (c5 (ns.take i)) d=(y,0))(he:y.cj (aG (ns.getD i []))=0):cr (c5 (ns.take (i+1))) d=(y.remove (aG (ns.getD i [])),0):=by
 have e:ns.take (i+1)=ns.take i++[ns.getD i []]:=by rw[List.take_succ_eq_append_getElem hi];simp[List.getD,hi]
 rw[e,pY,nj,hr,if_neg (by show¬(0:Int)≠0;decide)]
 show cr [nZ (aG (ns.getD i []))] y=_
 rw[cr,if_neg (by show¬y.cj _≠0;rw[he];decide)]
 rfl
theorem yO{d y:RD}{ns:List (List UInt8)}(hn:ns≠ [])(hr:cr (c5 ns) d=(y,0)):d.rm ns=(y.sync,y.dx):=by
 unfold RD.rm
 rw[if_neg hn,nj,hr,if_neg (by show¬(0:Int)≠0;decide)]
 show cr [cE] y=_
 rw[cr]
 by_cases h2:(cE y).2=0
 ·rw[if_neg (fun q=>q h2)]
  exact Prod.ext rfl h2.symm
 ·rw[if_pos h2];rfl
theorem wz{d y:RD}{ns:List (List UInt8)}(hn:ns.length=0)(hr:cr (c5 (ns.take 0)) d=(y,0)):y=d∧d.rm ns=(d,0):=by
 rw[List.take_zero]at hr
 refine⟨(congrArg Prod.fst hr).symm, ?_⟩
 unfold RD.rm
 rw[if_pos (List.eq_nil_of_length_eq_zero hn)]
theorem tg{g:Nat}{st:cF}{d:RD}{kk:Nat}{A:Option Addr}{n c:Nat}{ns:List (List UInt8)}(hD:DS st d kk)(hkk:kk≤40000)(h32:kJ ns)(hl:ns.length=n)(hn:n≤40000):cf Tryz.prog 144 [.pointer (some ⟨g,0,none⟩),.slice A n c] [bk g st] [di 32 A n (dc ns)] (fun v_ X_ S_=>∃st1,v_=(.int .i64 (d.rm ns).2)∧X_=[bk g st1]∧S_=[]∧(DS st1 (d.rm ns).1 (kk+n))):=by
 refine aP (N:=27) Tryz.func144 rfl rfl (by simp) fun b=> ?_
 refine a6 (fun m=>gX (m.rd 0 rfl)) ?_
 rintro⟨hl_r,hA_r⟩
 refine ah<|aj<|hy (fun _=>ab rfl)<|ai<|ag<|ah<|ah<|aj<|hy (fun _=>aa rfl)<|hy (fun _=>aT rfl Tryz.underlying33)<|hy (fun _=>aa rfl)<|ai<|ag<|aK<| ?_
 refine fS (fun i st2 y=>n-i) (fun i st2 y=>[(10,.int .i64 (i:Nat))]) (fun i st2 y=>[bk g st2]) (fun i st2 y=>[]) (fun i st2 y=>i≤n∧cr (c5 (ns.take i)) d=(y,0)∧DS st2 y (kk+i)) 0 st d [(9,_),(8,_),(0,_),(1,_)] ⟨rfl,rfl,rfl,rfl,trivial⟩ [0] rfl [] rfl (⟨Nat.zero_le _,rfl,hD⟩) ⟨rfl,trivial⟩ (fun i st2 y ⟨hin,hr,hDi⟩=> ?_)
 refine ah<|aj<|hy (fun _=>bw rfl rfl)<|ai<|ag<|ah<| ?_
 refine cG rfl (fun hlt=> ?_) (fun hlt=> ?_)
 ·have hi:i<ns.length:=by omega
  have hm:=eT h32 hi
  have hm2:(aW (ns.getD i [])).length=32:=by rw[az,hm]
  refine aB<|ag<|ah<|aK<|ah<|aj<|hy (fun _=>cD rfl rfl Tryz.underlying33 bg hA_r rfl (by omega))<|hy (fun m=>aU rfl b9 bg hm2 ((m.rd 0 rfl).im h32 hi))<| ?_
  refine hx (aM cP (fun g6=> ?_))
  refine cH (aJ 0 rfl rfl rfl bg hm2 aY rfl ?_)
  refine ai<|al (ρ' :=[(6,_),(11,_),(10,_),(9,_),(8,_),(0,_),(1,_)]) ⟨rfl,rfl,rfl,rfl,rfl,rfl,rfl,trivial⟩<|ak (X' :=[_,_]) (S' :=[_]) (fun _ m=>m)<|ag<|ah<|aj<|hy (fun _=>aa rfl)<|hy (fun m=>aU rfl b9 bg hm2 ((m.aZ 0 rfl).ax))<| ?_
  refine hx (aq rfl Tryz.call94 (sD hm) [] rfl [] rfl ?_)
  rintro _ _ _ ⟨rfl,rfl,rfl⟩
  refine hx (aq rfl Tryz.call79 (Bo hDi (by omega) (p:=(aG (ns.getD i [])))) [1] rfl [] rfl ?_)
  rintro _ _ _ ⟨st1,rfl,rfl,rfl,hE1⟩
  refine hy (fun _=>ab rfl)<|ai<|al (ρ' :=[(7,_),(6,_),(11,_),(10,_),(9,_),(8,_),(0,_),(1,_)]) ⟨rfl,rfl,rfl,rfl,rfl,rfl,rfl,rfl,trivial⟩<|ak (X' :=[_,_]) (S' :=[_]) (fun _ m=>m)<|ag<|ah<|aj<|hy (fun _=>aa rfl)<|hy (fun _=>cW rfl rfl)<|ai<|al (ρ' :=[(19,_),(7,_),(6,_),(11,_),(10,_),(9,_),(8,_),(0,_),(1,_)]) ⟨rfl,rfl,rfl,rfl,rfl,rfl,rfl,rfl,rfl,trivial⟩<|ag<| ?_
  refine cG rfl (fun he=> ?_) (fun he=> ?_)
  ·rw[wT hi hr he]
   rw[RD.remove,if_neg he]at hE1
   refine ah<|aj<|hy (fun _=>aa rfl)<|hy (fun _=>ab rfl)<|ai<|al (ρ' :=[(4,_),(19,_),(7,_),(6,_),(11,_),(10,_),(9,_),(8,_),(0,_),(1,_)]) ⟨rfl,rfl,rfl,rfl,rfl,rfl,rfl,rfl,rfl,rfl,trivial⟩<|ag<|aX<|bf<|ay<|ay<|bf<|ay<| ?_
   exact bh trivial rfl rfl [0] rfl [] rfl ⟨st1,rfl,rfl,rfl,hE1.le (by omega)⟩
  ·have he:=Decidable.not_not.1 he
   refine aB<|aO<|ag<|aj<|hy (fun _=>aN rfl rfl (bF (by omega) (by omega)))<|hy (fun _=>aa rfl)<|ai<|al (ρ' :=[(10,_),(19,_),(7,_),(6,_),(11,_),(9,_),(8,_),(0,_),(1,_)]) ⟨rfl,rfl,rfl,rfl,rfl,rfl,rfl,rfl,rfl,trivial⟩<| ?_
   refine fG (i+1) st1 (y.remove (aG (ns.getD i []))) ⟨rfl,rfl,rfl,rfl,rfl,trivial⟩ [0] rfl [0] rfl (⟨by omega,wB hi hr he,hE1.le (by omega)⟩) (by omega)
 ·obtain rfl:i=n:=by omega
  refine bL<|ao<|ao<|aD<|ag<|ah<|ah<|aj<|hy (fun _=>aa rfl)<|hy (fun _=>aT rfl Tryz.underlying33)<|hy (fun _=>cM rfl rfl)<|ai<|al (ρ' :=[(24,_),(11,_),(10,_),(9,_),(8,_),(0,_),(1,_)]) ⟨rfl,rfl,rfl,rfl,rfl,rfl,rfl,trivial⟩<|ag<| ?_
  refine cG rfl (fun hz=> ?_) (fun hz=> ?_)
  ·obtain rfl:i=0:=by omega
   obtain⟨rfl,e0⟩:=wz hl hr
   rw[e0]
   refine ah<|aj<|hy (fun _=>ab rfl)<|ai<|ag<|aX<|ay<| ?_
   exact bh trivial rfl rfl [0] rfl [] rfl ⟨st2,rfl,rfl,rfl,hDi⟩
  ·have hne:ns≠ []:=fun q=>hz (by rw[q]at hl;rw[←hl];rfl)
   rw[List.take_of_length_le (by omega)]at hr
   rw[yO hne hr]
   refine aB<|ag<|ah<|aj<|hy (fun _=>aa rfl)<| ?_
   refine hx (aq rfl Tryz.call110 (vz hDi) [0] rfl [] rfl ?_)
   rintro _ _ _ ⟨st1,rfl,rfl,rfl,hE1⟩
   refine hy (fun _=>ab rfl)<|ai<|al (ρ' :=[(4,_),(24,_),(11,_),(10,_),(9,_),(8,_),(0,_),(1,_)]) ⟨rfl,rfl,rfl,rfl,rfl,rfl,rfl,rfl,trivial⟩<|ak (X' :=[_]) (S' :=[_]) (fun _ m=>m)<|ag<|aX<| ?_
   exact bh trivial rfl rfl [0] rfl [] rfl ⟨st1,rfl,rfl,rfl,hE1⟩
def RD.prune(d:RD)(kp:List (List UInt8)):RD×Int×Int:=
 if d.pw=0 then(d,0,6)else if(d.rm (cR (a7 d) kp)).2≠0 then((d.rm (cR (a7 d) kp)).1,0,(d.rm (cR (a7 d) kp)).2)else((d.rm (cR (a7 d) kp)).1,(((cR (a7 d) kp).length:Nat):Int),0)
theorem vm{d:RD}{kp:List (List UInt8)}(h:d.pw=0):d.prune kp=(d,0,6):=by unfold RD.prune;rw[if_pos h]
theorem vg{d:RD}{kp:List (List UInt8)}(h:¬d.pw=0)(h2:(d.rm (cR (a7 d) kp)).2≠0):d.prune kp=((d.rm (cR (a7 d) kp)).1,0,(d.rm (cR (a7 d) kp)).2):=by unfold RD.prune;rw[if_neg h,if_pos h2]
theorem qt{d:RD}{kp:List (List UInt8)}(h:¬d.pw=0)(h2:(d.rm (cR (a7 d) kp)).2=0):d.prune kp=((d.rm (cR (a7 d) kp)).1,(((cR (a7 d) kp).length:Nat):Int),0):=by unfold RD.prune;rw[if_neg h,if_neg (fun q=>q h2)]
theorem Cw{g:Nat}{st:cF}{d:RD}{kk:Nat}{K:Option Addr}{n c:Nat}{L:List IX}(hD:DS st d kk)(hkk:kk≤30000)(hnl:∀x∈d.seen,x.1.length≤1000000)(hL:L.length=n)(hn:n≤100000)(hs:(en L).length≤100000):cf Tryz.prog 62 [.pointer (some ⟨g,0,none⟩),.slice K n c] [bk g st] [di 36 K n (G1 L),oW (L.map IX.wj)] (fun v_ X_ S_=>∃st1,v_=(.tuple #[.int .i64 (d.prune (en L)).2.1,.int .i64 (d.prune (en L)).2.2])∧X_=[bk g st1]∧S_=[]∧(DS st1 (d.prune (en L)).1 (kk+kk))):=by
 have hlen:(a7 d).length≤kk:=Nat.le_trans (fD d) hD.qy.seen
 have hpw:=hD.mB.bW
 have hl0:(cR (a7 d) (en L)).length≤kk:=Nat.le_trans yt hlen
 have hl32:kJ (cR (a7 d) (en L)):=rn (e8 d)
 refine aP (N:=22) Tryz.func62 rfl rfl (by simp) fun b=> ?_
 refine a6 (fun m=>gX (m.rd 0 rfl)) ?_
 rintro⟨hl_r,hA_r⟩
 refine ah<|aj<|hy (fun _=>ab rfl)<|hy (fun _=>ab rfl)<|ai<|ag<|ah<|ah<|aj<|hy (fun _=>aa rfl)<| ?_
 refine hx (aq rfl Tryz.call87 (FH) [0] rfl [] rfl ?_)
 rintro _ _ _ ⟨rfl,rfl,rfl⟩
 refine hy (fun _=>(jl rfl))<|ai<|al (ρ' :=[(10,_),(5,_),(4,_),(0,_),(1,_)]) ⟨rfl,rfl,rfl,rfl,rfl,trivial⟩<|ak (X' :=[_]) (S' :=[_,_]) (fun _ m=>m)<|ag<| ?_
 by_cases h0:d.pw=0
 ·rw[vm h0]
  refine gY rfl ((by rw[hpw,h0];rfl)) ?_
  refine ah<|aj<|hy (fun _=>ab rfl)<|hy (fun _=>ab rfl)<|ai<|ag<|aX<|ay<| ?_
  exact dy trivial rfl rfl rfl [0] rfl [] rfl ⟨st,rfl,rfl,rfl,hD.le (by omega)⟩
 ·refine dB rfl ((by rw[hpw];simp[h0])) ?_
  refine aB<|ag<|ah<|aj<|hy (fun _=>aa rfl)<|hy (fun _=>aa rfl)<| ?_
  refine hx (aq rfl Tryz.call66 (Fq hD (by omega) hnl hL hn hs) [0] rfl [0,1] rfl ?_)
  rintro _ _ _ ⟨A1,k,c1,rfl,rfl,rfl,hk1⟩
  obtain⟨hk1,_⟩:=hk1
  refine hy (fun _=>ab rfl)<|ai<|al (ρ' :=[(6,_),(10,_),(5,_),(4,_),(0,_),(1,_)]) ⟨rfl,rfl,rfl,rfl,rfl,rfl,trivial⟩<|ak (X' :=[_,_]) (S' :=[_,_]) (fun _ m=>m)<|ag<|ah<|ah<|aj<|hy (fun _=>aa rfl)<|hy (fun _=>aa rfl)<| ?_
  refine hx (cI rfl Tryz.call144 (tg hD (by omega) hl32 hk1.symm (by omega)) [0] rfl (.x 0 rfl .own .nil) ?_)
  rintro _ _ _ ⟨st1,rfl,rfl,rfl,hE1⟩
  refine⟨rfl, ?_⟩
  refine hy (fun _=>ab rfl)<|ai<|al (ρ' :=[(7,_),(6,_),(10,_),(5,_),(4,_),(0,_),(1,_)]) ⟨rfl,rfl,rfl,rfl,rfl,rfl,rfl,trivial⟩<|ak (X' :=[_,_]) (S' :=[_,_]) (fun _ m=>m)<|ag<|ah<|aj<|hy (fun _=>aa rfl)<|hy (fun _=>cW rfl rfl)<|ai<|al (ρ' :=[(18,_),(7,_),(6,_),(10,_),(5,_),(4,_),(0,_),(1,_)]) ⟨rfl,rfl,rfl,rfl,rfl,rfl,rfl,rfl,trivial⟩<|ag<| ?_
  refine cG rfl (fun he=> ?_) (fun he=> ?_)
  ·rw[vg h0 he]
   refine ah<|aj<|hy (fun _=>aa rfl)<|hy (fun _=>ab rfl)<|hy (fun _=>ab rfl)<|ai<|al (ρ' :=[(5,_),(4,_),(18,_),(7,_),(6,_),(10,_),(0,_),(1,_)]) ⟨rfl,rfl,rfl,rfl,rfl,rfl,rfl,rfl,trivial⟩<|ag<|aX<|ay<| ?_
   exact dy trivial rfl rfl rfl [0] rfl [] rfl ⟨st1,rfl,rfl,rfl,hE1.le (by omega)⟩
  ·rw[qt h0 (Decidable.not_not.1 he),←hk1]
   refine aB<|ag<|ah<|aj<|hy (fun _=>aa rfl)<|hy (fun _=>aT rfl Tryz.underlying33)<|hy (fun _=>ab rfl)<|hy (fun _=>ab rfl)<|ai<|al (ρ' :=[(5,_),(4,_),(18,_),(7,_),(6,_),(10,_),(0,_),(1,_)]) ⟨rfl,rfl,rfl,rfl,rfl,rfl,rfl,rfl,trivial⟩<|ag<|aX<| ?_
   exact dy trivial rfl rfl rfl [0] rfl [] rfl ⟨st1,rfl,rfl,rfl,hE1.le (by omega)⟩
def RD.ec(d:RD):RD×List (List UInt8)×Int:=
 if d.pw=0 then(d,[],6)else if(d.rm (cJ d (a7 d))).2≠0 then((d.rm (cJ d (a7 d))).1,[],(d.rm (cJ d (a7 d))).2)else((d.rm (cJ d (a7 d))).1,cJ d (a7 d),0)
theorem pV{d:RD}(h:d.pw=0):d.ec=(d,[],6):=by unfold RD.ec;rw[if_pos h]
theorem pW{d:RD}(h:¬d.pw=0)(h2:(d.rm (cJ d (a7 d))).2≠0):d.ec=((d.rm (cJ d (a7 d))).1,[],(d.rm (cJ d (a7 d))).2):=by unfold RD.ec;rw[if_neg h,if_pos h2]
theorem tL{d:RD}(h:¬d.pw=0)(h2:(d.rm (cJ d (a7 d))).2=0):d.ec=((d.rm (cJ d (a7 d))).1,cJ d (a7 d),0):=by unfold RD.ec;rw[if_neg h,if_neg (fun q=>q h2)]
theorem qn{d:RD}{ns:List (List UInt8)}(h:kJ ns):kJ (cJ d ns):=fun x hx=>h x (List.mem_filter.1 hx).1
theorem ld{d:RD}{ns:List (List UInt8)}:(cJ d ns).length≤ns.length:=List.length_filter_le _ _
theorem BO{g:Nat}{st:cF}{d:RD}{kk:Nat}(hD:DS st d kk)(hkk:kk≤30000)(hnl:∀x∈d.seen,x.1.length≤1000000):cf Tryz.prog 76 [.pointer (some ⟨g,0,none⟩)] [bk g st] [ey] (fun v_ X_ S_=>∃st1 A1 k c1,v_=(.tuple #[.slice A1 k c1,.int .i64 (d.ec).2.2])∧X_=[bk g st1,aH 53 32 (.slice A1 k c1) k (dc (d.ec).2.1)]∧S_=[]∧(DS st1 (d.ec).1 (kk+kk)∧k=(d.ec).2.1.length)):=by
 have hlen:(a7 d).length≤kk:=Nat.le_trans (fD d) hD.qy.seen
 have hpw:=hD.mB.bW
 have hcD:=e8 d
 have hl0:(cJ d (a7 d)).length≤kk:=Nat.le_trans ld hlen
 refine aP (N:=20) Tryz.func76 rfl rfl (by simp) fun b=> ?_
 refine ah<|aj<|hy (fun _=>ab rfl)<|hy (fun _=>ab rfl)<|ai<|ag<|ah<|ah<|aj<|hy (fun _=>aa rfl)<| ?_
 refine hx (aq rfl Tryz.call87 (FH) [0] rfl [] rfl ?_)
 rintro _ _ _ ⟨rfl,rfl,rfl⟩
 refine hy (fun _=>(jl rfl))<|ai<|al (ρ' :=[(8,_),(3,_),(2,_),(0,_)]) ⟨rfl,rfl,rfl,rfl,trivial⟩<|ak (X' :=[_]) (S' :=[_]) (fun _ m=>m)<|ag<| ?_
 by_cases h0:d.pw=0
 ·rw[pV h0]
  refine gY rfl ((by rw[hpw,h0];rfl)) ?_
  refine ah<|aj<|hy (fun _=>ab rfl)<|hy (fun _=>ab rfl)<|ai<|ag<|aX<|ay<| ?_
  refine ak (fun w m=>m.dj (r' :=aH 53 32 (.slice none 0 0) 0 []) (.refl _ _) (Own.nil _ _ _ _) (fun k hk=>hk.elim)) ?_
  exact dy trivial rfl rfl rfl [1,0] rfl [] rfl ⟨st,none,0,0,rfl,rfl,rfl,⟨hD.le (by omega),rfl⟩⟩
 ·refine dB rfl ((by rw[hpw];simp[h0])) ?_
  refine aB<|ag<|ah<|aj<|hy (fun _=>aa rfl)<|hy (fun _=>aa rfl)<| ?_
  refine hx (aq rfl Tryz.call20 (vp hD (by omega) hnl) [0] rfl [] rfl ?_)
  rintro _ _ _ ⟨v,k,rfl,rfl,rfl,hk1⟩
  refine aA (fun m=>(m.own 1 rfl).slice) ?_
  rintro⟨A_o,c_o,rfl,hc_o⟩
  refine aA (fun m=>(m.ord 1 rfl).2.1) fun hA_o=> ?_
  refine hx (cI rfl Tryz.call77 (DQ hD hcD (by omega)) [0] rfl (.x 0 rfl .own (.s 0 rfl .nil)) ?_)
  rintro _ _ _ ⟨v2,k2,rfl,rfl,rfl,hk2⟩
  refine⟨rfl, ?_⟩
  refine aA (fun m=>(m.own 1 rfl).slice) ?_
  rintro⟨A_o2,c_o2,rfl,hc_o2⟩
  refine aA (fun m=>(m.ord 1 rfl).2.1) fun hA_o2=> ?_
  subst hk2
  refine hy (fun _=>ab rfl)<|ai<|al (ρ' :=[(4,_),(8,_),(3,_),(2,_),(0,_)]) ⟨rfl,rfl,rfl,rfl,rfl,trivial⟩<|ak (X' :=[_,_,_]) (S' :=[_]) (fun _ m=>m)<|ag<|ah<|ah<|aj<|hy (fun _=>aa rfl)<|hy (fun _=>aa rfl)<| ?_
  refine hx (cI rfl Tryz.call144 (tg hD (by omega) (qn hcD) rfl (by omega)) [0] rfl (.x 0 rfl .own .nil) ?_)
  rintro _ _ _ ⟨st1,rfl,rfl,rfl,hE1⟩
  refine⟨rfl, ?_⟩
  refine hy (fun _=>ab rfl)<|ai<|al (ρ' :=[(5,_),(4,_),(8,_),(3,_),(2,_),(0,_)]) ⟨rfl,rfl,rfl,rfl,rfl,rfl,trivial⟩<|ak (X' :=[_,_,_]) (S' :=[_]) (fun _ m=>m)<|ag<|ah<|aj<|hy (fun _=>aa rfl)<|hy (fun _=>cW rfl rfl)<|ai<|al (ρ' :=[(17,_),(5,_),(4,_),(8,_),(3,_),(2,_),(0,_)]) ⟨rfl,rfl,rfl,rfl,rfl,rfl,rfl,trivial⟩<|ag<| ?_
  refine cG rfl (fun he=> ?_) (fun he=> ?_)
  ·rw[pW h0 he]
   refine ah<|aj<|hy (fun _=>aa rfl)<|hy (fun _=>ab rfl)<|hy (fun _=>ab rfl)<|ai<|al (ρ' :=[(3,_),(2,_),(17,_),(5,_),(4,_),(8,_),(0,_)]) ⟨rfl,rfl,rfl,rfl,rfl,rfl,rfl,trivial⟩<|ag<|aX<|ay<| ?_
   refine ak (fun w m=>m.dj (r' :=aH 53 32 (.slice none 0 0) 0 []) (.refl _ _) (Own.nil _ _ _ _) (fun k hk=>hk.elim)) ?_
   exact dy trivial rfl rfl rfl [1,0] rfl [] rfl ⟨st1,none,0,0,rfl,rfl,rfl,⟨hE1.le (by omega),rfl⟩⟩
  ·rw[tL h0 (Decidable.not_not.1 he)]
   refine aB<|ag<|ah<|aj<|hy (fun _=>aa rfl)<|hy (fun _=>ab rfl)<|hy (fun _=>ab rfl)<|ai<|al (ρ' :=[(3,_),(2,_),(17,_),(5,_),(4,_),(8,_),(0,_)]) ⟨rfl,rfl,rfl,rfl,rfl,rfl,rfl,trivial⟩<|ag<|aX<| ?_
   exact dy trivial rfl rfl rfl [0,0] rfl [] rfl ⟨st1,_,_,_,rfl,rfl,rfl,⟨hE1.le (by omega),rfl⟩⟩
end Go.Proofs.YtmibdabdlgmafaaGreatDoor
end
section
set_option maxRecDepth 20000
set_option maxHeartbeats 4000000
namespace Go.Proofs.YtmibdabdlgmafaaGreatDoor
open Go.Eng Go.Hx
theorem F2{x:RX}{kk:Nat}(ok:xP x.d kk)(hkk:kk≤90000)(hsrt:kH x.d.seen)(hnl:∀y∈x.d.seen,y.1.length≤1000000)(hrd:∀p,(x.d.cC p).length≤10000000):cf Tryz.prog 157 [.agg x.cs.toArray] [] [c6 x,ey] (fun v_ X_ S_=>∃A1 k c1,v_=(.slice A1 k c1)∧X_=[aH 53 32 (.slice A1 k c1) k (dc (cJ x.d (a7 x.d)))]∧S_=[]∧(k=(cJ x.d (a7 x.d)).length)):=by
 have hcd:=e8 x.d
 have hls:=pJ hsrt
 have hlen:(a7 x.d).length≤kk:=Nat.le_trans (fD x.d) ok.seen
 refine aP (N:=35) Tryz.func157 rfl rfl (by simp) fun b=> ?_
 refine ah<|aj<| ?_
 refine hx (cw rfl (fun g1=> ?_))
 refine aQ (fun w m=>m.bN 0 rfl (show _=aL g1 39 x.cs from congrArg (aL _ _) (bu _))) ?_
 refine hy (fun _=>ab rfl)<|ai<|ak (X' :=[_]) (S' :=[_,_]) (fun _ m=>m)<|ag<|ah<|aj<|hy (fun m=>yV (aU rfl ca bj rfl ((m.aZ 0 rfl).ax)) ((rfl:_=Value.agg x.cs.toArray)))<| ?_
 refine hx (aq rfl Tryz.call21 (AA ok (by omega) hnl) [] rfl [0] rfl ?_)
 rintro _ _ _ ⟨A1,k,c1,rfl,rfl,rfl,hk1⟩
 rw[hls]at hk1
 subst hk1
 rw[hls]
 generalize hns:a7 x.d=ns at hcd hlen ⊢
 refine hy (fun _=>ab rfl)<|ai<|al (ρ' :=[(3,_),(2,_),(1,_),(0,_)]) ⟨rfl,rfl,rfl,rfl,trivial⟩<|ak (X' :=[_,_]) (S' :=[_,_]) (fun _ m=>m)<|ag<|ah<|aj<|hy (fun _=>ab rfl)<|ai<|ag<|ah<|ah<|aj<|hy (fun _=>ab rfl)<|ai<|ag<|aK<| ?_
 refine a6 (fun m=>(m.ord 0 rfl).2.1) fun hA_o=> ?_
 refine bC (fun w m=>m.dj (r' :=aH 53 32 (.slice none 0 0) 0 []) (.refl _ _) (Own.nil _ _ _ _) (fun k hk=>hk.elim)) ?_
 refine jJ (fun i k3 A3 c3=>ns.length-i) (fun i k3 A3 c3=>[(4,.slice A3 k3 c3),(5,.int .i64 (i:Nat))]) (fun i k3 A3 c3=>[aH 53 32 (.slice A3 k3 c3) k3 (dc (cJ x.d (ns.take i)))]) (fun i k3 A3 c3=>[]) (fun i k3 A3 c3=>i≤ns.length∧k3=(cJ x.d (ns.take i)).length) 0 0 none 0 [(3,_),(2,_),(1,_),(0,_)] ⟨rfl,rfl,rfl,rfl,trivial⟩ [0] rfl [] rfl (⟨Nat.zero_le _,rfl⟩) ⟨rfl,rfl,trivial⟩ (fun i k3 A3 c3 ⟨hi,hk3⟩=> ?_)
 refine ah<|ah<|aj<|hy (fun _=>aa rfl)<|hy (fun _=>aa rfl)<|hy (fun _=>aT rfl Tryz.underlying33)<|hy (fun _=>bw rfl rfl)<|ai<|al (ρ' :=[(13,_),(4,_),(5,_),(3,_),(2,_),(1,_),(0,_)]) ⟨rfl,rfl,rfl,rfl,rfl,rfl,rfl,trivial⟩<|ag<| ?_
 refine cG rfl (fun hlt=> ?_) (fun hlt=> ?_)
 ·have hi2:i<ns.length:=by omega
  have hdk:=eT hcd hi2
  have hls2:=qj x.d hi2
  have hll:(cJ x.d (ns.take i)).length≤kk:=Nat.le_trans ld (by rw[List.length_take];omega)
  have h32:(aW (ns.getD i [])).length=32:=by rw[az,hdk]
  refine aB<|ag<|ah<|aK<|ah<|cT [5] [(0,some 0),(1,some 0),(2,some 0),(3,some 0),(4,some 0),(5,none),(6,some 1),(7,some 1),(8,some 1),(9,some 1),(10,some 1)] (by kernel_rfl) (by kernel_rfl) rfl 99<|cq (fun m=>yV (aU rfl ca bj rfl ((m.aZ 2 rfl).ax)) ((rfl:_=Value.agg x.cs.toArray)))<|an (aa rfl)<|an (aa rfl)<|an (cD rfl rfl Tryz.underlying33 bg hA_o rfl (by omega))<|cq (fun m=>aU rfl b9 bg h32 ((m.ord 1 rfl).im hcd hi2))<| ?_
  refine ek (aq rfl Tryz.call74 (Ds ok (by omega) hdk (hrd _)) [] rfl [0,1] rfl ?_)
  rintro _ _ _ ⟨rfl,rfl,rfl⟩
  refine⟨(fun _=>wk [0,0,0] [0,1] rfl rfl), ?_⟩
  refine an (aa rfl)<|an (ar rfl rfl)<|an (ar rfl rfl)<|an (ab rfl)<|an (ab rfl)<|bz<|al (ρ' :=[(7,_),(13,_),(4,_),(5,_),(3,_),(2,_),(1,_),(0,_)]) ⟨rfl,rfl,rfl,rfl,rfl,rfl,rfl,rfl,trivial⟩<|ak (X' :=[_,_,_]) (S' :=[_,_]) (fun _ m=>m)<|ag<|ah<|aj<|hy (fun _=>aa rfl)<|hy (fun _=>cW rfl rfl)<|ai<|al (ρ' :=[(26,_),(7,_),(13,_),(4,_),(5,_),(3,_),(2,_),(1,_),(0,_)]) ⟨rfl,rfl,rfl,rfl,rfl,rfl,rfl,rfl,rfl,trivial⟩<|ag<| ?_
  refine cG rfl (fun hm=> ?_) (fun hm=> ?_)
  ·rw[if_pos hm]at hls2
   refine aj<|hy (fun _=>aa rfl)<|hy (fun _=>aa rfl)<|hy (fun _=>aa rfl)<|hy (fun _=>cD rfl rfl Tryz.underlying33 bg hA_o rfl (by omega))<|hy (fun m=>aU rfl b9 bg h32 ((m.ord 1 rfl).im hcd hi2))<| ?_
   refine hx (b6 Tryz.underlying33 cP rfl rfl rfl (by simpa[Value.cells,B8]using h32) (by decide) (by decide) (fun g32=> ?_))
   have hA_b32:0<1→(some (⟨g32,0,none⟩:Addr))≠none:=fun _ h=>by cases h
   refine aQ (fun w m=>m.bN 0 rfl (show _=aH 53 32 (.slice (some ⟨g32,0,none⟩) 1 1) 1 (dc [ns.getD i []])from rfl)) ?_
   refine hx (bx 1 rfl rfl rfl Tryz.underlying33 Tryz.underlying33 (by exact .inl rfl) cP rfl (fun m=>Src.bR (m.ord 0 rfl)) cO (by unfold maxLen;omega) (by omega) (fun u=> ?_))
   refine aA (fun m=>(m.own 0 rfl).slice) ?_
   rintro⟨A_z,c_z,rfl,hc_z⟩
   refine aA (fun m=>(m.ord 0 rfl).2.1) fun hA_z=> ?_
   refine aQ (fun w m=>m.bN 0 rfl (show _=aH 53 32 (.slice A_z (k3+1) c_z) (k3+1) (dc (cJ x.d (ns.take (i+1))))from congrArg (aH _ _ _ _) (by rw[hls2,db]))) ?_
   refine hy (fun _=>ab rfl)<|ai<|al (ρ' :=[(4,_),(26,_),(7,_),(13,_),(5,_),(3,_),(2,_),(1,_),(0,_)]) ⟨rfl,rfl,rfl,rfl,rfl,rfl,rfl,rfl,rfl,trivial⟩<|ak (X' :=[_,_,_,_]) (S' :=[_,_]) (fun _ m=>m)<|aO<|ag<|aj<|hy (fun _=>aa rfl)<|hy (fun _=>aN rfl rfl (bF (by omega) (by omega)))<|hy (fun _=>ab rfl)<|ai<|al (ρ' :=[(5,_),(4,_),(26,_),(7,_),(13,_),(3,_),(2,_),(1,_),(0,_)]) ⟨rfl,rfl,rfl,rfl,rfl,rfl,rfl,rfl,rfl,trivial⟩<| ?_
   refine eO (i+1) (k3+1) A_z c_z ⟨rfl,rfl,rfl,rfl,rfl,rfl,trivial⟩ [0,1,1] rfl [0,1] rfl (⟨by omega,by rw[hls2,List.length_append,hk3];rfl⟩) (by omega)
  ·rw[if_neg hm,List.append_nil]at hls2
   refine aB<|aO<|ag<|aj<|hy (fun _=>aa rfl)<|hy (fun _=>aN rfl rfl (bF (by omega) (by omega)))<|hy (fun _=>ab rfl)<|ai<|al (ρ' :=[(5,_),(26,_),(7,_),(13,_),(4,_),(3,_),(2,_),(1,_),(0,_)]) ⟨rfl,rfl,rfl,rfl,rfl,rfl,rfl,rfl,rfl,trivial⟩<| ?_
   rw[←hls2]at hk3
   rw[←hls2]
   refine eO (i+1) k3 A3 c3 ⟨rfl,rfl,rfl,rfl,rfl,rfl,trivial⟩ [0,0,0] rfl [0,1] rfl (⟨by omega,hk3⟩) (by omega)
 ·obtain rfl:i=ns.length:=by omega
  rw[List.take_length]at hk3
  rw[List.take_length]
  refine bL<|ao<|ao<|aD<|ag<|ah<|aj<|hy (fun _=>aa rfl)<|hy (fun _=>ab rfl)<|ai<|al (ρ' :=[(2,_),(13,_),(4,_),(5,_),(3,_),(1,_),(0,_)]) ⟨rfl,rfl,rfl,rfl,rfl,rfl,rfl,trivial⟩<|ag<|aX<| ?_
  exact bh trivial rfl rfl [0] rfl [] rfl ⟨_,_,_,rfl,rfl,rfl,hk3⟩
def RD.y6(d:RD)(ns:List (List UInt8)):RD×Int:=if d.pw=0 then(d,6)else d.rm ns
theorem zV{d:RD}{ns:List (List UInt8)}(h:d.pw=0):d.y6 ns=(d,6):=by unfold RD.y6;rw[if_pos h]
theorem Ex{d:RD}{ns:List (List UInt8)}(h:¬d.pw=0):d.y6 ns=d.rm ns:=by unfold RD.y6;rw[if_neg h]
end Go.Proofs.YtmibdabdlgmafaaGreatDoor
end
section
set_option maxRecDepth 20000
set_option maxHeartbeats 4000000
namespace Go.Proofs.YtmibdabdlgmafaaGreatDoor
open Go.Eng Go.Hx
theorem vA{x:RX}{kk:Nat}{A:Option Addr}{n c:Nat}{ns:List (List UInt8)}(hD:x.d.ok kk)(hkk:kk≤40000)(h32:kJ ns)(hl:ns.length=n)(hn:n≤40000):cf Tryz.prog 151 [.agg x.cs.toArray,.slice A n c] [] [c6 x,di 32 A n (dc ns)] (fun v_ X_ S_=>∃y,v_=(.tuple #[.agg y.cs.toArray,.int .i64 (x.d.y6 ns).2])∧X_=[]∧S_=[c6 y]∧(y.d=(x.d.y6 ns).1)):=by
 refine aP (N:=42) Tryz.func151 rfl rfl (by simp) fun b=> ?_
 refine a6 (fun m=>gX (m.rd 1 rfl)) ?_
 rintro⟨hl_rn,hA_rn⟩
 refine ah<|aj<| ?_
 refine hx (cw rfl (fun g2=> ?_))
 refine aQ (fun w m=>m.bN 0 rfl (show _=aL g2 39 x.cs from congrArg (aL _ _) (bu _))) ?_
 refine hx (aM fO (fun g4=> ?_))
 refine hy (fun _=>ab rfl)<|ai<|ak (X' :=[_,_]) (S' :=[_,_]) (fun _ m=>m)<|ag<|ah<|ah<|aj<|hy (fun _=>aI rfl hO (by decide))<|hy (fun m=>aw rfl fZ (aE (m.aZ 1 rfl) (i:=4) rfl))<|hy (fun _=>cM rfl rfl)<|ai<|al (ρ' :=[(11,_),(5,_),(4,_),(2,_),(0,_),(1,_)]) ⟨rfl,rfl,rfl,rfl,rfl,rfl,trivial⟩<|ag<| ?_
 refine cG rfl (fun h0=> ?_) (fun h0=> ?_)
 ·rw[zV h0]
  refine ah<|aj<|hy (fun m=>yV (aU rfl ca bj rfl ((m.aZ 1 rfl).ax)) ((rfl:_=Value.agg x.cs.toArray)))<| ?_
  refine cH (aJ 0 rfl rfl rfl bj rfl bA rfl ?_)
  refine hy (fun _=>ab rfl)<|ai<|al (ρ' :=[(5,_),(11,_),(4,_),(2,_),(0,_),(1,_)]) ⟨rfl,rfl,rfl,rfl,rfl,rfl,trivial⟩<|ak (X' :=[_,_]) (S' :=[_,_]) (fun _ m=>m)<|ag<|aX<|ay<| ?_
  exact dX trivial rfl rfl rfl ca bj rfl (fun m=>(m.aZ 0 rfl).ax) [] rfl [0] rfl ⟨x,rfl,rfl,rfl,rfl⟩
 ·rw[Ex h0]
  refine aB<|ag<|ah<|ah<|aj<|hy (fun _=>ab rfl)<|ai<|ag<|aK<| ?_
  refine vW (fun i y=>n-i) (fun i y=>[(6,.int .i64 (i:Nat))]) (fun i y=>[aL g2 39 (y:RX).cs]) (fun i y=>[c6 y]) (fun i y=>i≤n∧cr (c5 (ns.take i)) x.d=(y.d,0)∧y.d.ok (kk+i)) 0 x [(11,_),(4,_),(2,_),(0,_),(1,_)] ⟨rfl,rfl,rfl,rfl,rfl,trivial⟩ [1] rfl [0] rfl (⟨Nat.zero_le _,rfl,hD⟩) ⟨rfl,trivial⟩ (fun i y ⟨hin,hr,hok⟩=> ?_)
  refine ah<|ah<|aj<|hy (fun _=>aa rfl)<|hy (fun _=>aa rfl)<|hy (fun _=>aT rfl Tryz.underlying33)<|hy (fun _=>bw rfl rfl)<|ai<|al (ρ' :=[(16,_),(6,_),(11,_),(4,_),(2,_),(0,_),(1,_)]) ⟨rfl,rfl,rfl,rfl,rfl,rfl,rfl,trivial⟩<|ag<| ?_
  refine cG rfl (fun hlt=> ?_) (fun hlt=> ?_)
  ·have hi:i<ns.length:=by omega
   have hm:=eT h32 hi
   have hm2:(aW (ns.getD i [])).length=32:=by rw[az,hm]
   refine aB<|ag<|ah<|aK<|ah<| ?_
   refine pr (fun(z:RX) (g7:Nat)=>[(7,.pointer (some ⟨g7,0,none⟩)),(8,.int .i64 ((y:RX).d.cj (aG (ns.getD i []))))]) (fun(z:RX) (g7:Nat)=>[aL g7 39 z.cs]) (fun(z:RX) (g7:Nat)=>[c6 z]) (fun(z:RX) (g7:Nat)=>z.d=y.d.remove (aG (ns.getD i []))) [(16,_),(6,_),(11,_),(4,_),(2,_),(0,_),(1,_)] ⟨rfl,rfl,rfl,rfl,rfl,rfl,rfl,trivial⟩ [] rfl ?_ (fun z g7 hz=> ?_)
   ·refine ui [5,6,10,11] (.take 0 3<|.take 1 3<|.take 2 3<|.take 3 3<|.take 4 3<|.alt 5 (.alt 6 (.take 7 3<|.take 8 3<|.take 9 4<|.alt 10 (.alt 11 (.take 12 4<|.done) (.stop)) (.stop)) (.alt 10 (.alt 6 (.take 7 3<|.take 8 3<|.take 9 4<|.alt 11 (.take 12 4<|.done) (.stop)) (.stop)) (.stop))) (.alt 10 (.alt 5 (.alt 6 (.take 7 3<|.take 8 3<|.take 9 4<|.alt 11 (.take 12 4<|.done) (.stop)) (.stop)) (.stop)) (.stop))) (by kernel_rfl) (by kernel_rfl) rfl 3<|GQ (fun m=>yV (aU rfl ca bj rfl ((m.aZ 0 rfl).ax)) ((rfl:_=Value.agg (y:RX).cs.toArray)))<|bV (aa rfl)<|bV (aa rfl)<|bV (cD rfl rfl Tryz.underlying33 bg hA_rn rfl (by omega))<|GQ (fun m=>aU rfl b9 bg hm2 ((m.rd 2 rfl).im h32 hi))<| ?_
    refine er ?_ ?_
    ·refine fx (aq rfl Tryz.call29 (lR hm) [] rfl [] rfl ?_)
     rintro _ _ _ ⟨rfl,rfl,rfl⟩
     refine⟨(fun _=>wk [0,0] [0,1,2] rfl rfl), ?_⟩
     refine er ?_ ?_
     ·refine fx (aq rfl Tryz.call78 (pN hok.qy (by omega) (p:=(aG (ns.getD i [])))) [] rfl [0] rfl ?_)
      rintro _ _ _ ⟨y2,rfl,rfl,rfl,hz⟩
      refine⟨(fun _=>wk [0,0] [1,2,3] rfl rfl), ?_⟩
      refine bV (aa rfl)<|bV (ar rfl rfl)<|bV (ar rfl rfl)<| ?_
      refine fx (aM fO (fun g7=>⟨(fun _=>wk [1,1] [1,2,3] rfl rfl), ?_⟩))
      refine ee (aJ 0 rfl rfl rfl bj rfl bA rfl ⟨(fun h=>absurd h (by decide)), ?_⟩)
      refine bV (ab rfl)<|eJ<|al (ρ' :=[(8,_),(7,_),(16,_),(6,_),(11,_),(4,_),(2,_),(0,_),(1,_)]) ⟨rfl,rfl,rfl,rfl,rfl,rfl,rfl,rfl,rfl,trivial⟩<|ak (X' :=[_,_,_]) (S' :=[_,_,_,_]) (fun _ m=>m)<| ?_
      exact dr (R:=fun(z:RX) (g7:Nat)=>[(7,.pointer (some ⟨g7,0,none⟩)),(8,.int .i64 ((y:RX).d.cj (aG (ns.getD i []))))]) (X1:=fun(z:RX) (g7:Nat)=>[aL g7 39 z.cs]) (S1:=fun(z:RX) (g7:Nat)=>[c6 z]) (I:=fun(z:RX) (g7:Nat)=>z.d=y.d.remove (aG (ns.getD i []))) y2 g7 ⟨rfl,rfl,rfl,rfl,rfl,rfl,rfl,rfl,rfl,trivial⟩ [0,0,0] rfl [0,1,2,3] rfl hz
     ·refine fx (aM fO (fun g7=>⟨(fun _=>wk [1,1] [0,1,2] rfl rfl), ?_⟩))
      refine fx (aq rfl Tryz.call78 (pN hok.qy (by omega) (p:=(aG (ns.getD i [])))) [] rfl [0] rfl ?_)
      rintro _ _ _ ⟨y2,rfl,rfl,rfl,hz⟩
      refine⟨(fun _=>wk [1,1] [1,2,3] rfl rfl), ?_⟩
      refine bV (aa rfl)<|bV (ar rfl rfl)<|bV (ar rfl rfl)<| ?_
      refine ee (aJ 0 rfl rfl rfl bj rfl bA rfl ⟨(fun h=>absurd h (by decide)), ?_⟩)
      refine bV (ab rfl)<|eJ<|al (ρ' :=[(8,_),(7,_),(16,_),(6,_),(11,_),(4,_),(2,_),(0,_),(1,_)]) ⟨rfl,rfl,rfl,rfl,rfl,rfl,rfl,rfl,rfl,trivial⟩<|ak (X' :=[_,_,_]) (S' :=[_,_,_,_]) (fun _ m=>m)<| ?_
      exact dr (R:=fun(z:RX) (g7:Nat)=>[(7,.pointer (some ⟨g7,0,none⟩)),(8,.int .i64 ((y:RX).d.cj (aG (ns.getD i []))))]) (X1:=fun(z:RX) (g7:Nat)=>[aL g7 39 z.cs]) (S1:=fun(z:RX) (g7:Nat)=>[c6 z]) (I:=fun(z:RX) (g7:Nat)=>z.d=y.d.remove (aG (ns.getD i []))) y2 g7 ⟨rfl,rfl,rfl,rfl,rfl,rfl,rfl,rfl,rfl,trivial⟩ [0,0,0] rfl [0,1,2,3] rfl hz
    ·refine fx (aM fO (fun g7=>⟨(fun _=>wk [1,1] [0,1,2] rfl rfl), ?_⟩))
     refine fx (aq rfl Tryz.call29 (lR hm) [] rfl [] rfl ?_)
     rintro _ _ _ ⟨rfl,rfl,rfl⟩
     refine⟨(fun _=>wk [1,1] [0,1,2] rfl rfl), ?_⟩
     refine fx (aq rfl Tryz.call78 (pN hok.qy (by omega) (p:=(aG (ns.getD i [])))) [] rfl [0] rfl ?_)
     rintro _ _ _ ⟨y2,rfl,rfl,rfl,hz⟩
     refine⟨(fun _=>wk [1,1] [1,2,3] rfl rfl), ?_⟩
     refine bV (aa rfl)<|bV (ar rfl rfl)<|bV (ar rfl rfl)<| ?_
     refine ee (aJ 0 rfl rfl rfl bj rfl bA rfl ⟨(fun h=>absurd h (by decide)), ?_⟩)
     refine bV (ab rfl)<|eJ<|al (ρ' :=[(8,_),(7,_),(16,_),(6,_),(11,_),(4,_),(2,_),(0,_),(1,_)]) ⟨rfl,rfl,rfl,rfl,rfl,rfl,rfl,rfl,rfl,trivial⟩<|ak (X' :=[_,_,_]) (S' :=[_,_,_,_]) (fun _ m=>m)<| ?_
     exact dr (R:=fun(z:RX) (g7:Nat)=>[(7,.pointer (some ⟨g7,0,none⟩)),(8,.int .i64 ((y:RX).d.cj (aG (ns.getD i []))))]) (X1:=fun(z:RX) (g7:Nat)=>[aL g7 39 z.cs]) (S1:=fun(z:RX) (g7:Nat)=>[c6 z]) (I:=fun(z:RX) (g7:Nat)=>z.d=y.d.remove (aG (ns.getD i []))) y2 g7 ⟨rfl,rfl,rfl,rfl,rfl,rfl,rfl,rfl,rfl,trivial⟩ [0,0,0] rfl [0,1,2,3] rfl hz
   ·refine ag<|ah<|ah<|aj<|hy (fun _=>aa rfl)<|hy (fun _=>cW rfl rfl)<|ai<|al (ρ' :=[(30,_),(7,_),(8,_),(16,_),(6,_),(11,_),(4,_),(2,_),(0,_),(1,_)]) ⟨rfl,rfl,rfl,rfl,rfl,rfl,rfl,rfl,rfl,rfl,trivial⟩<|ag<| ?_
    refine cG rfl (fun he=> ?_) (fun he=> ?_)
    ·rw[wT hi hr he]
     refine ah<|aj<|hy (fun m=>yV (aU rfl ca bj rfl ((m.aZ 1 rfl).ax)) ((rfl:_=Value.agg (y:RX).cs.toArray)))<|hy (fun _=>aa rfl)<| ?_
     refine cH (aJ 2 rfl rfl rfl bj rfl bA rfl ?_)
     refine hy (fun _=>ab rfl)<|ai<|al (ρ' :=[(5,_),(30,_),(7,_),(8,_),(16,_),(6,_),(11,_),(4,_),(2,_),(0,_),(1,_)]) ⟨rfl,rfl,rfl,rfl,rfl,rfl,rfl,rfl,rfl,rfl,rfl,trivial⟩<|ak (X' :=[_,_,_]) (S' :=[_,_,_,_]) (fun _ m=>m)<|ag<|aX<|ay<|bf<|ay<|ay<|bf<|ay<| ?_
     exact dX trivial rfl rfl rfl ca bj rfl (fun m=>(m.aZ 0 rfl).ax) [] rfl [1] rfl ⟨y,rfl,rfl,rfl,rfl⟩
    ·have he:=Decidable.not_not.1 he
     have hr2:=wB hi hr he
     rw[←hz]at hr2
     have hok2:z.d.ok (kk+(i+1)):=by rw[hz];exact hok.remove
     refine aB<|ag<|aj<|hy (fun m=>yV (aU rfl ca bj rfl ((m.aZ 0 rfl).ax)) ((rfl:_=Value.agg z.cs.toArray)))<| ?_
     refine cH (aJ 1 rfl rfl rfl bj rfl bA rfl ?_)
     refine ai<|al (ρ' :=[(30,_),(7,_),(8,_),(16,_),(6,_),(11,_),(4,_),(2,_),(0,_),(1,_)]) ⟨rfl,rfl,rfl,rfl,rfl,rfl,rfl,rfl,rfl,rfl,trivial⟩<|ak (X' :=[_,_,_]) (S' :=[_,_,_,_]) (fun _ m=>m)<|aO<|ag<|aj<|hy (fun _=>aa rfl)<|hy (fun _=>aN rfl rfl (bF (by omega) (by omega)))<|hy (fun _=>ab rfl)<|ai<|al (ρ' :=[(6,_),(30,_),(7,_),(8,_),(16,_),(11,_),(4,_),(2,_),(0,_),(1,_)]) ⟨rfl,rfl,rfl,rfl,rfl,rfl,rfl,rfl,rfl,rfl,trivial⟩<| ?_
     refine sR (i+1) z ⟨rfl,rfl,rfl,rfl,rfl,rfl,trivial⟩ [0,1] rfl [0,2,3] rfl (⟨by omega,hr2,hok2⟩) (by omega)
  ·obtain rfl:i=n:=by omega
   refine bL<|ao<|ao<|aD<|ag<|ah<|ah<|aj<|hy (fun _=>aa rfl)<|hy (fun _=>aT rfl Tryz.underlying33)<|hy (fun _=>cM rfl rfl)<|ai<|al (ρ' :=[(36,_),(16,_),(6,_),(11,_),(4,_),(2,_),(0,_),(1,_)]) ⟨rfl,rfl,rfl,rfl,rfl,rfl,rfl,rfl,trivial⟩<|ag<| ?_
   refine cG rfl (fun hz0=> ?_) (fun hz0=> ?_)
   ·obtain rfl:i=0:=by omega
    obtain⟨hyd,e0⟩:=wz hl hr
    rw[e0]
    refine ah<|aj<|hy (fun m=>yV (aU rfl ca bj rfl ((m.aZ 0 rfl).ax)) ((rfl:_=Value.agg (y:RX).cs.toArray)))<| ?_
    refine cH (aJ 1 rfl rfl rfl bj rfl bA rfl ?_)
    refine hy (fun _=>ab rfl)<|ai<|al (ρ' :=[(5,_),(36,_),(16,_),(6,_),(11,_),(4,_),(2,_),(0,_),(1,_)]) ⟨rfl,rfl,rfl,rfl,rfl,rfl,rfl,rfl,rfl,trivial⟩<|ak (X' :=[_,_]) (S' :=[_,_,_]) (fun _ m=>m)<|ag<|aX<|ay<| ?_
    exact dX trivial rfl rfl rfl ca bj rfl (fun m=>(m.aZ 0 rfl).ax) [] rfl [0] rfl ⟨y,rfl,rfl,rfl,hyd⟩
   ·have hne:ns≠ []:=fun e=>hz0 (by rw[e]at hl;rw[←hl];rfl)
    rw[List.take_of_length_le (by omega)]at hr
    rw[yO hne hr]
    refine aB<|ag<|ah<|aj<|hy (fun m=>yV (aU rfl ca bj rfl ((m.aZ 0 rfl).ax)) ((rfl:_=Value.agg (y:RX).cs.toArray)))<| ?_
    refine hx (aq rfl Tryz.call99 (s5 hok.qy) [] rfl [0] rfl ?_)
    rintro _ _ _ ⟨y2,rfl,rfl,rfl,hv⟩
    refine hy (fun _=>ar rfl rfl)<|hy (fun _=>ar rfl rfl)<| ?_
    refine cH (aJ 1 rfl rfl rfl bj rfl bA rfl ?_)
    refine hy (fun _=>ab rfl)<|ai<|al (ρ' :=[(5,_),(36,_),(16,_),(6,_),(11,_),(4,_),(2,_),(0,_),(1,_)]) ⟨rfl,rfl,rfl,rfl,rfl,rfl,rfl,rfl,rfl,trivial⟩<|ak (X' :=[_,_]) (S' :=[_,_,_,_]) (fun _ m=>m)<|ag<|aX<| ?_
    exact dX trivial rfl rfl rfl ca bj rfl (fun m=>(m.aZ 0 rfl).ax) [] rfl [0] rfl ⟨y2,rfl,rfl,rfl,hv⟩
theorem yK{d:RD}:d.ec=if(d.y6 (cJ d (a7 d))).2≠0 then((d.y6 (cJ d (a7 d))).1,[],(d.y6 (cJ d (a7 d))).2)else((d.y6 (cJ d (a7 d))).1,cJ d (a7 d),0):=by
 unfold RD.ec RD.y6
 by_cases h:d.pw=0
 ·rw[if_pos h,if_pos h,if_pos (by show(6:Int)≠0;decide)]
 ·rw[if_neg h,if_neg h]
theorem CI{x:RX}{kk:Nat}(hD:x.d.ok kk)(hkk:kk≤30000)(hsrt:kH x.d.seen)(hnl:∀y∈x.d.seen,y.1.length≤1000000)(hrd:∀p,(x.d.cC p).length≤10000000):cf Tryz.prog 75 [.agg x.cs.toArray] [] [c6 x,ey] (fun v_ X_ S_=>∃y A1 k c1,v_=(.tuple #[.agg y.cs.toArray,.slice A1 k c1,.int .i64 (x.d.ec).2.2])∧X_=[]∧S_=[c6 y,di 32 A1 k (dc (x.d.ec).2.1)]∧(y.d=(x.d.ec).1∧k=(x.d.ec).2.1.length)):=by
 have ok:=hD.qy
 have hlen:(a7 x.d).length≤kk:=Nat.le_trans (fD x.d) ok.seen
 have hcD:=e8 x.d
 have hl0:(cJ x.d (a7 x.d)).length≤kk:=Nat.le_trans ld hlen
 refine aP (N:=22) Tryz.func75 rfl rfl (by simp) fun b=> ?_
 refine ah<|aj<| ?_
 refine hx (cw rfl (fun g1=> ?_))
 refine aQ (fun w m=>m.bN 0 rfl (show _=aL g1 39 x.cs from congrArg (aL _ _) (bu _))) ?_
 refine hx (aM fO (fun g2=> ?_))
 refine hy (fun _=>ab rfl)<|hy (fun _=>ab rfl)<|ai<|ak (X' :=[_,_]) (S' :=[_,_]) (fun _ m=>m)<|ag<|ah<|aj<|hy (fun m=>yV (aU rfl ca bj rfl ((m.aZ 1 rfl).ax)) ((rfl:_=Value.agg x.cs.toArray)))<| ?_
 refine hx (aq rfl Tryz.call157 (F2 ok (by omega) hsrt hnl hrd) [] rfl [0,1] rfl ?_)
 rintro _ _ _ ⟨A1,k,c1,rfl,rfl,rfl,hk1⟩
 subst hk1
 refine aQ (fun w m=>(m.perm (au [0] _ [_] _ rfl)).freeze) ?_
 refine aQ (fun w m=>m.jL 0 rfl .own) ?_
 refine aA (fun m=>gX (m.rd 0 rfl)) ?_
 rintro⟨hl_or,hA_or⟩
 rw[yK]
 refine hy (fun _=>ab rfl)<|ai<|al (ρ' :=[(5,_),(4,_),(3,_),(2,_),(1,_),(0,_)]) ⟨rfl,rfl,rfl,rfl,rfl,rfl,trivial⟩<|ak (X' :=[_,_]) (S' :=[_,_,_,_]) (fun _ m=>m)<|ag<|ah<|aj<|hy (fun m=>yV (aU rfl ca bj rfl ((m.aZ 1 rfl).ax)) ((rfl:_=Value.agg x.cs.toArray)))<|hy (fun _=>aa rfl)<| ?_
 refine hx (aq rfl Tryz.call151 (vA hD (by omega) (qn hcD) rfl (by omega)) [] rfl [2,0] rfl ?_)
 rintro _ _ _ ⟨y,rfl,rfl,rfl,hyd⟩
 refine hy (fun _=>aa rfl)<|hy (fun _=>ar rfl rfl)<|hy (fun _=>ar rfl rfl)<| ?_
 refine hx (aM fO (fun g6=> ?_))
 refine cH (aJ 0 rfl rfl rfl bj rfl bA rfl ?_)
 refine hy (fun _=>ab rfl)<|ai<|al (ρ' :=[(7,_),(6,_),(5,_),(4,_),(3,_),(2,_),(1,_),(0,_)]) ⟨rfl,rfl,rfl,rfl,rfl,rfl,rfl,rfl,trivial⟩<|ak (X' :=[_,_,_]) (S' :=[_,_,_,_,_]) (fun _ m=>m)<|ag<|ah<|ah<|aj<|hy (fun _=>aa rfl)<|hy (fun _=>cW rfl rfl)<|ai<|al (ρ' :=[(17,_),(7,_),(6,_),(5,_),(4,_),(3,_),(2,_),(1,_),(0,_)]) ⟨rfl,rfl,rfl,rfl,rfl,rfl,rfl,rfl,rfl,trivial⟩<|ag<| ?_
 refine cG rfl (fun he=> ?_) (fun he=> ?_)
 ·rw[if_pos he]
  refine ah<|aj<|hy (fun m=>yV (aU rfl ca bj rfl ((m.aZ 0 rfl).ax)) ((rfl:_=Value.agg y.cs.toArray)))<|hy (fun _=>aa rfl)<| ?_
  refine cH (aJ 1 rfl rfl rfl bj rfl bA rfl ?_)
  refine hy (fun _=>ab rfl)<|hy (fun _=>ab rfl)<|ai<|al (ρ' :=[(4,_),(3,_),(17,_),(7,_),(6,_),(5,_),(2,_),(1,_),(0,_)]) ⟨rfl,rfl,rfl,rfl,rfl,rfl,rfl,rfl,rfl,trivial⟩<|ak (X' :=[_,_,_]) (S' :=[_,_,_,_,_]) (fun _ m=>m)<|ag<|aX<|ay<| ?_
  refine ak (fun w m=>m.ob (r' :=di 32 none 0 []) (.refl _ _) (Rd.nil _ _ _) (fun k hk=>absurd rfl hk.1)) ?_
  have hA_z:0<0→(none:Option Addr)≠none:=fun h=>absurd h (by decide)
  exact wE trivial rfl rfl rfl rfl ca bj rfl (fun m=>(m.aZ 0 rfl).ax) [] rfl [1,0] rfl ⟨y,none,0,0,rfl,rfl,rfl,⟨hyd,rfl⟩⟩
 ·rw[if_neg he]
  refine aB<|ag<|ah<|aj<|hy (fun m=>yV (aU rfl ca bj rfl ((m.aZ 0 rfl).ax)) ((rfl:_=Value.agg y.cs.toArray)))<|hy (fun _=>aa rfl)<| ?_
  refine cH (aJ 1 rfl rfl rfl bj rfl bA rfl ?_)
  refine hy (fun _=>ab rfl)<|hy (fun _=>ab rfl)<|ai<|al (ρ' :=[(4,_),(3,_),(17,_),(7,_),(6,_),(5,_),(2,_),(1,_),(0,_)]) ⟨rfl,rfl,rfl,rfl,rfl,rfl,rfl,rfl,rfl,trivial⟩<|ak (X' :=[_,_,_]) (S' :=[_,_,_,_,_]) (fun _ m=>m)<|ag<|aX<| ?_
  exact wE trivial rfl rfl rfl rfl ca bj rfl (fun m=>(m.aZ 0 rfl).ax) [] rfl [0,1] rfl ⟨y,_,_,_,rfl,rfl,rfl,⟨hyd,rfl⟩⟩
end Go.Proofs.YtmibdabdlgmafaaGreatDoor
end
section
namespace Go.Proofs.YtmibdabdlgmafaaGreatDoor
open Go.Eng Go.Hx
theorem fp.names{fs:dm}{l:List FP}(h:fp fs l){ks:List (List UInt8)}(hk:ks.Perm (cn fs)):uZ ks=l.map (·.1):=by
 have hle:∀a b:List UInt8,(decide (a≤b)=true)↔a≤b:=fun a b=>by simp
 have h1:(uZ ks).Perm (l.map (·.1)):=(List.mergeSort_perm _ _).trans (hk.trans h.keys)
 have h2:(uZ ks).Pairwise (· ≤·):=by
  have:=List.pairwise_mergeSort (le:=fun x y:List UInt8=>decide (x≤y)) (fun a b c hab hbc=>by simpa using List.le_trans (by simpa using hab) (by simpa using hbc)) (fun a b=>by simpa using List.le_total a b) ks
  exact this.imp (fun hab=>by simpa using hab)
 have h3:(l.map (·.1)).Pairwise (· ≤·):=h.ord.imp (fun hlt=>List.le_of_lt hlt)
 exact h1.eq_of_pairwise (fun a b _ _ hab hba=>List.le_antisymm hab hba) h2 h3
end Go.Proofs.YtmibdabdlgmafaaGreatDoor
end
section
set_option maxRecDepth 20000
namespace Go.Proofs.YtmibdabdlgmafaaGreatDoor
open Go.Eng Go.Hx
theorem pre_nil(l:List (List UInt8)):l.filter (pre [])=l:=List.filter_eq_self.2 (fun a _=>by simp[pre])
end Go.Proofs.YtmibdabdlgmafaaGreatDoor
end
section
set_option maxRecDepth 20000
set_option maxHeartbeats 4000000
namespace Go.Proofs.YtmibdabdlgmafaaGreatDoor
open Go.Eng Go.Hx
theorem tr{w:World}{g:Nat}{t:TypeId}{p:Value}{x:RX}(h:fi w g t (p::x.cs)):∀(j:Nat) (u:Value),x.cs[j]? =some u→w.cell? ((⟨g,0,none⟩:Addr).add 1|>.add j)=some u:=fun j u hu=>by
 rw[add_add]
 exact h.ax (1+j) u (by rw[Nat.add_comm];exact hu)
end Go.Proofs.YtmibdabdlgmafaaGreatDoor
end
section
set_option maxRecDepth 20000
set_option maxHeartbeats 4000000
namespace Go.Proofs.YtmibdabdlgmafaaGreatDoor
open Go.Eng Go.Hx
theorem ny{p:Value}{x y:RX}:bJ (p::x.cs) 1 y.cs=p::y.cs:=rfl
end Go.Proofs.YtmibdabdlgmafaaGreatDoor
end
section
namespace Go.Proofs.YtmibdabdlgmafaaGreatDoor
open Go.Eng Go.Hx
def Ch(d:RD):Nat:=(d.waits.filter fun c=>decide (c.1≠2)).length
structure Bd(d:RD)(B W:Nat):Prop where
 sn:d.seen.length≤B
 la:d.b4.length+Ch d≤B
 wt:d.waits.length≤W
 nS:∀y∈d.seen,y.1.length≤1000
 nL:∀y∈d.b4,y.1.length≤1000
 nW:∀c∈d.waits,(c.1=0→c.2.1.length≤1000)∧c.2.2.1.length≤1000
theorem Bd.le{d:RD}{B W B' W' :Nat}(h:Bd d B W)(hB:B≤B')(hW:W≤W'):Bd d B' W' :=⟨Nat.le_trans h.sn hB,Nat.le_trans h.la hB,Nat.le_trans h.wt hW,h.nS,h.nL,h.nW⟩
theorem Bd.new(room:Int):Bd (RD.new room) 0 0:=⟨Nat.le_refl _,Nat.le_refl _,Nat.le_refl _,fun y h=>(List.not_mem_nil h).elim,fun y h=>(List.not_mem_nil h).elim,fun y h=>(List.not_mem_nil h).elim⟩
theorem qa:∀(l:List FP) (x:FP),(iq l x).length≤l.length+1
 | [],x=>Nat.le_refl _
 |a::r,x=>by
  unfold iq
  have:=qa r x
  split
  ·simp only[List.length_cons];omega
  ·rw[List.length_cons];exact Nat.succ_le_succ (List.length_filter_le _ _)
theorem tf(l:List FP)(x:FP):(gT l x).length≤l.length+1:=by
 rw[jR]
 exact qa l x
theorem xo{l:List FP}{p b:List UInt8}(h:∀y∈l,y.1.length≤1000)(hp:p.length≤1000):∀y∈gT l (p,b),y.1.length≤1000:=by
 intro y hy
 rw[jR]at hy
 rcases wM hy with rfl|hy
 ·exact hp
 ·exact h y hy
theorem sw{l:List FP}{k:Int}{p t b:List UInt8}(h:∀y∈l,y.1.length≤1000)(hp:k=0→p.length≤1000)(ht:t.length≤1000):∀y∈dG l k p t b,y.1.length≤1000:=by
 unfold dG
 split
 ·exact xo h (hp (by assumption))
 ·split
  ·exact h
  ·split
   ·exact fun y hy=>h y (List.mem_filter.1 hy).1
   ·exact xo (fun y hy=>h y (List.mem_filter.1 hy).1) ht
theorem qi{l:List FP}{k:Int}{p t b:List UInt8}:(dG l k p t b).length≤l.length+(if k≠2 then 1 else 0):=by
 by_cases h0:k=0
 ·rw[dG,if_pos h0,if_pos (by rw[h0];decide)];exact tf _ _
 ·rw[dG,if_neg h0]
  cases hq:l[cK l p]? with
  |none=>exact Nat.le_add_right _ _
  |some x=>
   by_cases h2:k=2
   ·simp only[if_pos h2]
    exact Nat.le_trans (List.length_filter_le _ _) (Nat.le_add_right _ _)
   ·simp only[if_neg h2]
    rw[if_pos h2]
    exact Nat.le_trans (tf _ _) (Nat.succ_le_succ (List.length_filter_le _ _))
theorem Bd.gz{d:RD}{B W:Nat}(h:Bd d B W){k:Int}{p t b:List UInt8}(hp:k=0→p.length≤1000)(ht:t.length≤1000):Bd (d.gz k p t b) (B+(if k≠2 then 1 else 0)) (W+1):=by
 have h1:=h.sn
 have h2:=h.la
 have h3:=h.wt
 refine⟨Nat.le_trans qi (Nat.add_le_add_right h1 _), ?_, ?_,sw h.nS hp ht,h.nL,fun c hc=> ?_⟩
 ·have:Ch (d.gz k p t b)=Ch d+(if k≠2 then 1 else 0):=by
   show((d.waits++[(k,p,t,b)]).filter _).length=_
   rw[List.filter_append,List.length_append]
   congr 1
   by_cases hk:k=2
   ·simp[hk]
   ·simp[hk]
  rw[this]
  show d.b4.length+_≤_
  omega
 ·show(d.waits++[_]).length≤_
  rw[List.length_append]
  exact Nat.add_le_add_right h3 1
 ·rcases List.mem_append.1 hc with hc|hc
  ·exact h.nW c hc
  ·rw[List.mem_singleton.1 hc];exact⟨hp,ht⟩
theorem Bd.write{d:RD}{B W:Nat}(h:Bd d B W){p l:List UInt8}(hp:p.length≤1000):Bd (d.write p l) (B+1) (W+1):=by
 unfold RD.write
 split
 ·exact h.gz (fun _=>hp) (by decide)
 ·exact h.le (by omega) (by omega)
theorem Bd.rename{d:RD}{B W:Nat}(h:Bd d B W){a c:List UInt8}(hc:c.length≤1000):Bd (d.rename a c) (B+1) (W+1):=by
 unfold RD.rename
 split
 ·exact h.gz (fun e=>absurd e (by decide)) hc
 ·exact h.le (by omega) (by omega)
theorem Bd.remove{d:RD}{B W:Nat}(h:Bd d B W){p:List UInt8}:Bd (d.remove p) B (W+1):=by
 unfold RD.remove
 split
 ·exact h.gz (fun e=>absurd e (by decide)) (by decide)
 ·exact h.le (by omega) (by omega)
theorem Bd.sync{d:RD}{B W:Nat}(h:Bd d B W):Bd d.sync B W:=by
 unfold RD.sync
 split
 ·exact h
 ·exact⟨h.sn,h.sn,Nat.zero_le _,h.nS,h.nS,fun c hc=>(List.not_mem_nil hc).elim⟩
theorem Bd.bW{d:RD}{B W:Nat}(h:Bd d B W){n:Int}:Bd (d.bW n) B W:=⟨h.sn,h.la,h.wt,h.nS,h.nL,h.nW⟩
theorem wR:∀(cs:List RC) (ks:List Bool) (l:List FP),(∀y∈l,y.1.length≤1000)→(∀c∈cs,(c.1=0→c.2.1.length≤1000)∧c.2.2.1.length≤1000)→
  (∀y∈(cs.foldl jm (ks,l)).2,y.1.length≤1000)∧(cs.foldl jm (ks,l)).2.length≤l.length+(cs.filter fun c=>decide (c.1≠2)).length
 | [],ks,l,h,_=>⟨h,Nat.le_refl _⟩
 |c::cs,ks,l,h,hc=>by
  have hc0:=hc c (List.mem_cons_self ..)
  have hk:∃ks1 l1,jm (ks,l) c=(ks1,l1)∧(∀y∈l1,y.1.length≤1000)∧l1.length≤l.length+(if c.1≠2 then 1 else 0):=by
   unfold jm
   split
   ·split
    ·exact⟨_,_,rfl,sw h hc0.1 hc0.2,qi⟩
    ·exact⟨_,_,rfl,sw h hc0.1 hc0.2,qi⟩
   ·exact⟨_,_,rfl,h,Nat.le_add_right _ _⟩
  obtain⟨ks1,l1,e,h1,h2⟩:=hk
  have ih:=wR cs ks1 l1 h1 (fun c hc' =>hc c (List.mem_cons_of_mem _ hc'))
  rw[List.foldl_cons,e]
  refine⟨ih.1,Nat.le_trans ih.2 ?_⟩
  rw[List.filter_cons]
  by_cases hk:c.1=2
  ·rw[if_neg (by simp[hk])]at h2
   rw[if_neg (by simp[hk])]
   omega
  ·rw[if_pos hk]at h2
   rw[if_pos (by simp[hk]),List.length_cons]
   omega
theorem Bd.ea{d:RD}{B W:Nat}(h:Bd d B W)(keep:List Bool):Bd (d.ea keep) B W:=by
 obtain⟨h1,h2⟩:=wR d.waits keep d.b4 h.nL h.nW
 have e:(dfold keep d d.waits.length).2=(d.waits.foldl jm (keep,d.b4)).2:=by unfold dfold;rw[List.take_length]
 have hl:=h.la
 unfold Ch at hl
 unfold RD.ea
 rw[e]
 exact⟨Nat.le_trans h2 hl,Nat.le_trans (show _+0≤_ from h2) hl,Nat.zero_le _,h1,h1,fun c hc=>(List.not_mem_nil hc).elim⟩
theorem Bd.cr(a:Nat):∀(Fs:List (RD→RD×Int)) {d:RD} {B W:Nat},(∀F∈Fs,∀d B W,Bd d B W→Bd (F d).1 (B+a) (W+1))→Bd d B W→Bd (cr Fs d).1 (B+a*Fs.length) (W+Fs.length)
 | [],d,B,W,_,h=>h
 |F::r,d,B,W,hF,h=>by
  have h1:=hF F (List.mem_cons_self ..) d B W h
  rw[Go.Proofs.YtmibdabdlgmafaaGreatDoor.cr]
  split
  ·refine h1.le ?_ (by rw[List.length_cons];omega)
   rw[List.length_cons,Nat.mul_succ];omega
  ·refine(Bd.cr a r (fun G hG=>hF G (List.mem_cons_of_mem _ hG)) h1).le ?_ (by rw[List.length_cons];omega)
   rw[List.length_cons,Nat.mul_succ];omega
theorem Bd.put{d:RD}{B W:Nat}(h:Bd d B W)(bb:List UInt8):Bd (d.put bb).1 (B+4) (W+4):=by
 have hm:=br bb
 have hR:Bd (d.iY bb).1 (B+4) (W+4):=Bd.cr 1 (wx (bU (bn bb)) bb (bn bb)) (fun F hF d B W h=>by
  simp only[List.mem_cons,List.not_mem_nil,or_false]at hF
  rcases hF with rfl|rfl|rfl|rfl
  ·exact h.write (by rw[jI hm];decide)
  ·exact h.sync.le (by omega) (by omega)
  ·exact h.rename (by rw[eg hm];decide)
  ·exact h.sync.le (by omega) (by omega)) h
 unfold RD.put
 split
 ·exact h.le (by omega) (by omega)
 ·split
  ·exact h.le (by omega) (by omega)
  ·split
   ·exact h.le (by omega) (by omega)
   ·exact hR
end Go.Proofs.YtmibdabdlgmafaaGreatDoor
end
section
set_option maxRecDepth 20000
set_option maxHeartbeats 4000000
namespace Go.Proofs.YtmibdabdlgmafaaGreatDoor
open Go.Eng Go.Hx
def ints(l:List Int):List Value:=l.map (Value.int .i64)
def s9(l:List Int):Prop:=∀z∈l,-9223372036854775808≤z∧z≤9223372036854775807
theorem m9{l:List Int}{i:Nat}(h:i<l.length):(ints l)[i]? =some (.int .i64 (l.getD i 0)):=by simp[ints,List.getElem?_map,List.getElem?_eq_getElem h,List.getD]
theorem s9.at{l:List Int}(h:s9 l){i:Nat}(hi:i<l.length):-9223372036854775808≤l.getD i 0∧l.getD i 0≤9223372036854775807:=by
 rw[List.getD,List.getElem?_eq_getElem hi]
 exact h _ (List.getElem_mem hi)
theorem qW{P:RD→Prop}:∀(Fs:List (RD→RD×Int)) (d:RD),(∀F∈Fs,∀d,P d→P (F d).1)→P d→P (cr Fs d).1
 | [],d,_,h=>h
 |F::r,d,hF,h=>by
  have h1:=hF F (List.mem_cons_self ..) d h
  rw[cr]
  split
  ·exact h1
  ·exact qW r _ (fun G hG=>hF G (List.mem_cons_of_mem _ hG)) h1
theorem BW(d:RD)(bb:List UInt8):(d.put bb).2.1.length=32:=by
 unfold RD.put
 split
 ·exact fu
 ·split
  ·exact fu
  ·split
   ·exact br _
   ·show(if _ then _ else _:List UInt8).length=32
    split
    ·exact br _
    ·exact fu
theorem y5(z:Int):∃k:Nat,ef z 6=(k:Int)∧k<6:=by
 have:=n9 z 6 (by decide)
 exact⟨(ef z 6).toNat,by omega,by omega⟩
theorem xW{P:Program}{e:TypeId}(he:P.underlying e=some (.int .i64)):∀{n:Nat} {ys:List Cell},ys.length=n→(∀i,i<n→Ty P e ((ys.drop i).take 1))→∃l:List Int,ys.map Cell.val=ints l∧l.length=n∧s9 l:=by
 intro n ys hl h
 have hg:∀i,i<n→∃z:Int,ys[i]? =some (.v (.int .i64 z))∧-9223372036854775808≤z∧z≤9223372036854775807:=fun i hi=>by
  obtain⟨z,hz,hb⟩:=EN he (h i hi)
  have h2:((ys.drop i).take 1)[0]? =some (.v (.int .i64 z)):=by rw[hz];rfl
  rw[List.getElem?_take,if_pos (by omega),List.getElem?_drop,Nat.add_zero]at h2
  exact⟨z,h2,hb⟩
 refine⟨ys.map fun y=>match y.val with| .int _ z=>z|_=>0, ?_,by simpa using hl,fun z hz=> ?_⟩
 ·apply List.ext_getElem?
  intro i
  simp only[ints,List.map_map,List.getElem?_map]
  by_cases hi:i<n
  ·obtain⟨z,hz,_⟩:=hg i hi
   rw[hz]
   simp[Cell.val]
  ·rw[List.getElem?_eq_none (by omega)]
   rfl
 ·obtain⟨y,hy,rfl⟩:=List.mem_map.1 hz
  obtain⟨i,hi⟩:=List.mem_iff_getElem?.1 hy
  have hin:i<n:=by rw[←hl];exact(List.getElem?_eq_some_iff.1 hi).1
  obtain⟨z,hz2,hb⟩:=hg i hin
  rw[hi]at hz2
  cases hz2
  exact hb
theorem xk{xs:List Cell}(h:Ty Tryz.prog 44 xs):∃A n c ys l,xs=[.s 1 A n c ys]∧ys.map Cell.val=ints l∧s9 l:=by
 obtain⟨A,n,c,ys,rfl,h1,h2,h3,h4⟩:=ue Tryz.underlying44 h
 have c1:Tryz.prog.cellsOf 3=1:=by kernel_rfl
 rw[c1]at h3 h4 ⊢
 obtain⟨l,h5,h6,h7⟩:=xW Tryz.underlying3 (by omega:ys.length=n) (fun i hi=>by have:=h4 i hi;rwa [Nat.mul_one]at this)
 exact⟨A,n,c,ys,l,rfl,h5,h7⟩
end Go.Proofs.YtmibdabdlgmafaaGreatDoor
end
section
set_option maxRecDepth 20000
set_option maxHeartbeats 4000000
namespace Go.Proofs.YtmibdabdlgmafaaGreatDoor
open Go.Eng Go.Hx
def jy(z:Int):List UInt8:=bo (ef z 6).toNat
def fo(d:RD)(zl:List Int):RD:=zl.foldl (fun d z=>(d.put (jy z)).1) d
def jF(d:RD)(zb:List Int)(bb:List UInt8):RD:=zb.foldl (fun d z=>d.write (aG (bn (jy z))) bb) d
def gE(zl zb:List Int)(bb:List UInt8):RD:=(jF (fo (RD.new 2000) (zl.take 6)) (zb.take 3) (bb.take 30)).sync
theorem uF{d:RD}{zl:List Int}{i:Nat}(h:i<zl.length):fo d (zl.take (i+1))=((fo d (zl.take i)).put (jy (zl.getD i 0))).1:=by
 rw[List.take_succ_eq_append_getElem h,fo,List.foldl_append,List.getD,List.getElem?_eq_getElem h];rfl
theorem tM{d:RD}{zb:List Int}{bb:List UInt8}{i:Nat}(h:i<zb.length):jF d (zb.take (i+1)) bb=(jF d (zb.take i) bb).write (aG (bn (jy (zb.getD i 0)))) bb:=by
 rw[List.take_succ_eq_append_getElem h,jF,List.foldl_append,List.getD,List.getElem?_eq_getElem h];rfl
theorem lG{z:Int}{k:Nat}(h:ef z 6=(k:Int)):jy z=bo k:=by unfold jy;rw[h];rfl
theorem iB{l:List Int}{i n:Nat}(h:¬(i<l.length∧i<n))(hi:i≤l.length)(hn:i≤n):l.take i=l.take n:=by
 by_cases h1:i<l.length
 ·have:i=n:=by omega
  rw[this]
 ·rw[List.take_of_length_le (by omega),List.take_of_length_le (by omega)]
theorem BN{P:Program}{pl:Nat→Option (Nat×Nat)}{A:Option Addr}{x:RX}{zs:List Value}(hz:zs.length=6)(p0:pl 0=some (0,1))(p1:pl 1=some (1,5)):
  wm P pl zs [(0,.pointer A),(1,.agg x.cs.toArray)] (.pointer A::x.cs):=by
 match zs,hz with
 | [_,_,_,_,_,_],_=>exact .cons (vs:=[.pointer A]) p0 rfl rfl (by show 0+1≤6;decide) (.cons (vs:=x.cs) p1 rfl rfl (by show 1+5≤6;decide) .nil)
theorem tU{A B C:Option Addr}{n c m mc_ k kc:Nat}{zl zb:List Int}{bb:List UInt8}(hzl:s9 zl)(hzb:s9 zb)(hkc:k≤kc)(hkb:k≤140737488351232):cf Tryz.prog 61 [.slice A n c,.slice B m mc_,.slice C k kc] [] [di 1 A n (ints zl),di 1 B m (ints zb),di 1 C k (aW bb),ey] (fun v_ X_ S_=>∃gw gd st y,v_=(.pointer (some ⟨gw,0,none⟩))∧X_=[aL gw 121 (.pointer (some ⟨gd,0,none⟩)::y.cs),bk gd st]∧S_=[c6 y]∧(y.d=gE zl zb bb∧DS st y.d 100∧Bd y.d 27 27)):=by
 refine aP (N:=130) Tryz.func61 rfl rfl (by simp) fun b=> ?_
 refine a6 (fun m=>gX (m.rd 0 rfl)) ?_
 rintro⟨hl_rl,hA_rl⟩
 refine a6 (fun m=>gX (m.rd 1 rfl)) ?_
 rintro⟨hl_rb,hA_rb⟩
 refine a6 (fun m=>ig (m.rd 2 rfl)) ?_
 rintro⟨hl_rc,hA_rc⟩
 refine ah<|aj<|hy (fun _=>ab rfl)<|ai<|ag<|ah<|aj<| ?_
 refine hx (aq rfl Tryz.call24 (HJ (by decide) (by decide)) [] rfl [] rfl ?_)
 rintro _ _ _ ⟨g,gs,gl,rfl,rfl,rfl⟩
 refine hy (fun _=>aa rfl)<|hy (fun _=>ar rfl rfl)<|hy (fun _=>ar rfl rfl)<|hy (fun _=>ab rfl)<|hy (fun _=>ab rfl)<|ai<|al (ρ' :=[(8,_),(7,_),(6,_),(0,_),(1,_),(2,_)]) ⟨rfl,rfl,rfl,rfl,rfl,rfl,trivial⟩<|ak (X' :=[_]) (S' :=[_,_,_,_]) (fun _ m=>m)<|ag<|ah<|ah<|aj<|hy (fun _=>aa rfl)<|hy (fun _=>vU rfl rfl (by kernel_rfl))<|hy (fun _=>aa rfl)<| ?_
 refine dW (o:=_) rfl rfl rfl (fun _=>aa rfl)<|dW (o:=_) rfl rfl rfl (fun _=>cW rfl rfl)<|hy (fun _=>bD rfl rfl)<|ai<|al (ρ' :=[(29,_),(8,_),(7,_),(6,_),(0,_),(1,_),(2,_)]) ⟨rfl,rfl,rfl,rfl,rfl,rfl,rfl,trivial⟩<|ag<| ?_
 refine dB rfl ((by decide)) ?_
 refine aB<|ag<|ah<|aj<|hy (fun _=>aa rfl)<| ?_
 refine hx (aq rfl Tryz.call25 (Gp) [] rfl [] rfl ?_)
 rintro _ _ _ ⟨y,rfl,rfl,rfl,hy1⟩
 refine hy (fun _=>cA GP rfl rfl (by kernel_rfl) (BN rfl BT BP))<| ?_
 refine hx (cw rfl (fun g33=> ?_))
 refine aQ (fun w m=>m.bN 0 rfl (show _=aL g33 121 (.pointer (some ⟨g,0,none⟩)::y.cs)from congrArg (aL _ _) (bu _))) ?_
 refine aA (fun m=>(m.rd 1 rfl).1) fun hln1=> ?_
 refine aA (fun m=>(m.rd 2 rfl).1) fun hln2=> ?_
 refine aA (fun m=>(m.rd 3 rfl).1) fun hln3=> ?_
 have hln1:zl.length=n:=by rw[ints,List.length_map,Nat.mul_one]at hln1;exact hln1
 have hln2:zb.length=m:=by rw[ints,List.length_map,Nat.mul_one]at hln2;exact hln2
 have hln3:bb.length=k:=by rw[az,Nat.mul_one]at hln3;exact hln3
 have hD0:DS (nE 2000 gs gl) y.d 0:=by rw[hy1];exact DS.init (by decide)
 have hB0:Bd y.d 0 0:=by rw[hy1];exact Bd.new _
 have hbt:(bb.take 30).length=min k 30:=by rw[List.length_take,hln3,Nat.min_comm]
 refine hy (fun _=>ab rfl)<|ai<|al (ρ' :=[(9,_),(29,_),(8,_),(7,_),(6,_),(0,_),(1,_),(2,_)]) ⟨rfl,rfl,rfl,rfl,rfl,rfl,rfl,rfl,trivial⟩<|ak (X' :=[_,_]) (S' :=[_,_,_,_,_]) (fun _ m=>m)<|ag<|ah<|ah<|aj<|hy (fun _=>ab rfl)<|ai<|ag<| ?_
 refine pr (fun(st1:cF) (x1:RX)=>[]) (fun(st1:cF) (x1:RX)=>[aL g33 121 (.pointer (some ⟨g,0,none⟩)::x1.cs),bk g st1]) (fun(st1:cF) (x1:RX)=>[c6 x1]) (fun(st1:cF) (x1:RX)=>x1.d=fo (RD.new 2000) (zl.take 6)∧DS st1 x1.d 24∧Bd x1.d 24 24) [(9,_),(29,_),(8,_),(7,_),(6,_),(0,_),(1,_),(2,_)] ⟨rfl,rfl,rfl,rfl,rfl,rfl,rfl,rfl,trivial⟩ [0,0] rfl ?_ (fun st1 x1 ⟨hE1,hD1,hB1⟩=> ?_)
 ·refine aK<| ?_
  refine fS (fun i st x=>n-i) (fun i st x=>[(10,.int .i64 (i:Nat))]) (fun i st x=>[aL g33 121 (.pointer (some ⟨g,0,none⟩)::x.cs),bk g st]) (fun i st x=>[c6 x]) (fun i st x=>i≤n∧i≤6∧x.d=fo (RD.new 2000) (zl.take i)∧DS st x.d (4*i)∧Bd x.d (4*i) (4*i)) 0 (nE 2000 gs gl) y [(9,_),(29,_),(8,_),(7,_),(6,_),(0,_),(1,_),(2,_)] ⟨rfl,rfl,rfl,rfl,rfl,rfl,rfl,rfl,trivial⟩ [0,0] rfl [0] rfl (⟨Nat.zero_le _,Nat.zero_le _,hy1,hD0,hB0⟩) ⟨rfl,trivial⟩ (fun i st x ⟨hin,hi6,hE,hD,hB⟩=> ?_)
  refine ah<|ah<|aj<|hy (fun _=>aa rfl)<|hy (fun _=>aa rfl)<|hy (fun _=>aT rfl Tryz.underlying44)<|hy (fun _=>bw rfl rfl)<|hy (fun _=>aa rfl)<| ?_
  refine eY 38 rfl (fun h1=> ?_) (fun h1=> ?_)
  ·refine dW (o:=_) rfl rfl rfl (fun _=>aa rfl)<|dW (o:=_) rfl rfl rfl (fun _=>bw rfl rfl)<|hy (fun _=>bT rfl rfl)<|ai<|al (ρ' :=[(41,_),(10,_),(9,_),(29,_),(8,_),(7,_),(6,_),(0,_),(1,_),(2,_)]) ⟨rfl,rfl,rfl,rfl,rfl,rfl,rfl,rfl,rfl,rfl,trivial⟩<|ag<| ?_
   refine cG rfl (fun h2=> ?_) (fun h2=> ?_)
   ·obtain⟨k6,hk6,hk6l⟩:=y5 (zl.getD i 0)
    have hil:i<zl.length:=by omega
    have hz:=hzl.at hil
    have hcl:=jD k6
    have hDo:x.d.ok (4*i):=⟨st,hD⟩
    have hcz:=lG hk6
    have hp32:(aW (x.d.put (bo k6)).2.1).length=32:=by
     rw[az]
     exact BW _ _
    refine aB<|ag<|ah<|aK<|ah<| ?_
    refine pr (fun(y2:RX) (g11:Nat)=>[(11,.pointer (some ⟨g11,0,none⟩))]) (fun(y2:RX) (g11:Nat)=>[aL g11 39 y2.cs]) (fun(y2:RX) (g11:Nat)=>[c6 y2]) (fun(y2:RX) (g11:Nat)=>y2.d=(x.d.put (bo k6)).1) [(41,_),(10,_),(9,_),(29,_),(8,_),(7,_),(6,_),(0,_),(1,_),(2,_)] ⟨rfl,rfl,rfl,rfl,rfl,rfl,rfl,rfl,rfl,rfl,trivial⟩ [] rfl ?_ (fun y2 g11 hyd2=> ?_)
    ·refine ui [8,9,14,15,16,17] (.take 0 4<|.take 1 4<|.take 2 4<|.take 3 4<|.take 4 4<|.take 5 4<|.take 6 4<|.take 7 4<|.alt 8 (.alt 9 (.take 10 4<|.take 11 4<|.take 12 5<|.take 13 6<|.alt 14 (.alt 15 (.alt 16 (.alt 17 (.take 18 6<|.done) (.stop)) (.stop)) (.stop)) (.alt 15 (.alt 14 (.alt 16 (.alt 17 (.take 18 6<|.done) (.stop)) (.stop)) (.stop)) (.stop))) (.alt 14 (.alt 9 (.take 10 4<|.take 11 4<|.take 12 5<|.take 13 6<|.alt 15 (.alt 16 (.alt 17 (.take 18 6<|.done) (.stop)) (.stop)) (.stop)) (.alt 15 (.alt 9 (.take 10 4<|.take 11 4<|.take 12 5<|.take 13 6<|.alt 16 (.alt 17 (.take 18 6<|.done) (.stop)) (.stop)) (.stop)) (.stop))) (.alt 15 (.alt 9 (.take 10 4<|.take 11 4<|.take 12 5<|.take 13 6<|.alt 14 (.alt 16 (.alt 17 (.take 18 6<|.done) (.stop)) (.stop)) (.stop)) (.alt 14 (.alt 9 (.take 10 4<|.take 11 4<|.take 12 5<|.take 13 6<|.alt 16 (.alt 17 (.take 18 6<|.done) (.stop)) (.stop)) (.stop)) (.stop))) (.stop)))) (.alt 14 (.alt 8 (.alt 9 (.take 10 4<|.take 11 4<|.take 12 5<|.take 13 6<|.alt 15 (.alt 16 (.alt 17 (.take 18 6<|.done) (.stop)) (.stop)) (.stop)) (.alt 15 (.alt 9 (.take 10 4<|.take 11 4<|.take 12 5<|.take 13 6<|.alt 16 (.alt 17 (.take 18 6<|.done) (.stop)) (.stop)) (.stop)) (.stop))) (.alt 15 (.alt 8 (.alt 9 (.take 10 4<|.take 11 4<|.take 12 5<|.take 13 6<|.alt 16 (.alt 17 (.take 18 6<|.done) (.stop)) (.stop)) (.stop)) (.stop)) (.stop))) (.alt 15 (.alt 8 (.alt 9 (.take 10 4<|.take 11 4<|.take 12 5<|.take 13 6<|.alt 14 (.alt 16 (.alt 17 (.take 18 6<|.done) (.stop)) (.stop)) (.stop)) (.alt 14 (.alt 9 (.take 10 4<|.take 11 4<|.take 12 5<|.take 13 6<|.alt 16 (.alt 17 (.take 18 6<|.done) (.stop)) (.stop)) (.stop)) (.stop))) (.alt 14 (.alt 8 (.alt 9 (.take 10 4<|.take 11 4<|.take 12 5<|.take 13 6<|.alt 16 (.alt 17 (.take 18 6<|.done) (.stop)) (.stop)) (.stop)) (.stop)) (.stop))) (.stop)))) (by kernel_rfl) (by kernel_rfl) rfl 4<|bV (aa rfl)<|bV (ba rfl)<|bV (aI rfl eP (by decide))<|GQ (fun m=>yV (aU rfl ca bj rfl (tr (m.aZ 0 rfl))) ((rfl:_=Value.agg x.cs.toArray)))<|bV (aa rfl)<|bV (aa rfl)<|bV (aS rfl rfl Tryz.underlying44 s7 hA_rl rfl (by omega))<|GQ (fun m=>aw rfl fZ ((m.rd 2 rfl).cell (m9 hil)))<| ?_
     refine er ?_ ?_
     ·refine fx (aq rfl Tryz.call27 (ma hz hk6 hk6l) [] rfl [] rfl ?_)
      rintro _ _ _ ⟨v,rfl,rfl,rfl⟩
      refine⟨(fun _=>wk [1,1] [0,1,2,3,4,5] rfl rfl), ?_⟩
      refine fW (fun m=>(m.own 0 rfl).slice) ?_
      rintro⟨A_x,c_x,rfl,hc_x⟩
      refine fW (fun m=>(m.ord 0 rfl).2.1) fun hA_x=> ?_
      refine lW (fun w m=>(m.perm (au [0] _ [_] _ rfl)).freeze) ?_
      refine lW (fun w m=>m.jL 0 rfl .own) ?_
      refine er ?_ ?_
      ·refine fx (aq rfl Tryz.call26 (kM hDo (by omega) hc_x hcl (by omega)) [] rfl [2,0,7] rfl ?_)
       rintro _ _ _ ⟨y2,rfl,rfl,rfl,hyd2⟩
       refine⟨(fun _=>wk [0,0] [3,4,5,6,7,8] rfl rfl), ?_⟩
       refine bV (aa rfl)<|bV (ar rfl rfl)<|bV (ar rfl rfl)<|bV (ar rfl rfl)<| ?_
       refine er ?_ ?_
       ·refine fx (aM fO (fun g11=>⟨(fun _=>wk [1,1] [3,4,5,6,7,8] rfl rfl), ?_⟩))
        refine fx (aM cP (fun g12=>⟨(fun _=>wk [2,2] [3,4,5,6,7,8] rfl rfl), ?_⟩))
        refine ee (aJ 1 rfl rfl rfl bj rfl bA rfl ⟨(fun h=>absurd h (by decide)), ?_⟩)
        refine ee (aJ 1 rfl rfl rfl bg hp32 aY rfl ⟨(fun h=>absurd h (by decide)), ?_⟩)
        refine bV (ab rfl)<|eJ<|al (ρ' :=[(11,_),(41,_),(10,_),(9,_),(29,_),(8,_),(7,_),(6,_),(0,_),(1,_),(2,_)]) ⟨rfl,rfl,rfl,rfl,rfl,rfl,rfl,rfl,rfl,rfl,rfl,trivial⟩<|ak (X' :=[_,_,_,_]) (S' :=[_,_,_,_,_,_,_,_,_]) (fun _ m=>m)<| ?_
        exact dr (R:=fun(y2:RX) (g11:Nat)=>[(11,.pointer (some ⟨g11,0,none⟩))]) (X1:=fun(y2:RX) (g11:Nat)=>[aL g11 39 y2.cs]) (S1:=fun(y2:RX) (g11:Nat)=>[c6 y2]) (I:=fun(y2:RX) (g11:Nat)=>y2.d=(x.d.put (bo k6)).1) y2 g11 ⟨rfl,rfl,rfl,rfl,rfl,rfl,rfl,rfl,rfl,rfl,rfl,trivial⟩ [1,1,1] rfl [0,3,4,5,6,7,8] rfl hyd2
       ·refine fx (aM cP (fun g12=>⟨(fun _=>wk [1,1] [3,4,5,6,7,8] rfl rfl), ?_⟩))
        refine fx (aM fO (fun g11=>⟨(fun _=>wk [2,2] [3,4,5,6,7,8] rfl rfl), ?_⟩))
        refine ee (aJ 0 rfl rfl rfl bj rfl bA rfl ⟨(fun h=>absurd h (by decide)), ?_⟩)
        refine ee (aJ 1 rfl rfl rfl bg hp32 aY rfl ⟨(fun h=>absurd h (by decide)), ?_⟩)
        refine bV (ab rfl)<|eJ<|al (ρ' :=[(11,_),(41,_),(10,_),(9,_),(29,_),(8,_),(7,_),(6,_),(0,_),(1,_),(2,_)]) ⟨rfl,rfl,rfl,rfl,rfl,rfl,rfl,rfl,rfl,rfl,rfl,trivial⟩<|ak (X' :=[_,_,_,_]) (S' :=[_,_,_,_,_,_,_,_,_]) (fun _ m=>m)<| ?_
        exact dr (R:=fun(y2:RX) (g11:Nat)=>[(11,.pointer (some ⟨g11,0,none⟩))]) (X1:=fun(y2:RX) (g11:Nat)=>[aL g11 39 y2.cs]) (S1:=fun(y2:RX) (g11:Nat)=>[c6 y2]) (I:=fun(y2:RX) (g11:Nat)=>y2.d=(x.d.put (bo k6)).1) y2 g11 ⟨rfl,rfl,rfl,rfl,rfl,rfl,rfl,rfl,rfl,rfl,rfl,trivial⟩ [1,1,1] rfl [0,3,4,5,6,7,8] rfl hyd2
      ·refine er ?_ ?_
       ·refine fx (aM fO (fun g11=>⟨(fun _=>wk [1,1] [2,3,4,5,6,7] rfl rfl), ?_⟩))
        refine er ?_ ?_
        ·refine fx (aq rfl Tryz.call26 (kM hDo (by omega) hc_x hcl (by omega)) [] rfl [2,0,7] rfl ?_)
         rintro _ _ _ ⟨y2,rfl,rfl,rfl,hyd2⟩
         refine⟨(fun _=>wk [1,1] [3,4,5,6,7,8] rfl rfl), ?_⟩
         refine bV (aa rfl)<|bV (ar rfl rfl)<|bV (ar rfl rfl)<|bV (ar rfl rfl)<| ?_
         refine fx (aM cP (fun g12=>⟨(fun _=>wk [2,2] [3,4,5,6,7,8] rfl rfl), ?_⟩))
         refine ee (aJ 1 rfl rfl rfl bj rfl bA rfl ⟨(fun h=>absurd h (by decide)), ?_⟩)
         refine ee (aJ 1 rfl rfl rfl bg hp32 aY rfl ⟨(fun h=>absurd h (by decide)), ?_⟩)
         refine bV (ab rfl)<|eJ<|al (ρ' :=[(11,_),(41,_),(10,_),(9,_),(29,_),(8,_),(7,_),(6,_),(0,_),(1,_),(2,_)]) ⟨rfl,rfl,rfl,rfl,rfl,rfl,rfl,rfl,rfl,rfl,rfl,trivial⟩<|ak (X' :=[_,_,_,_]) (S' :=[_,_,_,_,_,_,_,_,_]) (fun _ m=>m)<| ?_
         exact dr (R:=fun(y2:RX) (g11:Nat)=>[(11,.pointer (some ⟨g11,0,none⟩))]) (X1:=fun(y2:RX) (g11:Nat)=>[aL g11 39 y2.cs]) (S1:=fun(y2:RX) (g11:Nat)=>[c6 y2]) (I:=fun(y2:RX) (g11:Nat)=>y2.d=(x.d.put (bo k6)).1) y2 g11 ⟨rfl,rfl,rfl,rfl,rfl,rfl,rfl,rfl,rfl,rfl,rfl,trivial⟩ [1,1,1] rfl [0,3,4,5,6,7,8] rfl hyd2
        ·refine fx (aM cP (fun g12=>⟨(fun _=>wk [2,2] [2,3,4,5,6,7] rfl rfl), ?_⟩))
         refine fx (aq rfl Tryz.call26 (kM hDo (by omega) hc_x hcl (by omega)) [] rfl [2,0,7] rfl ?_)
         rintro _ _ _ ⟨y2,rfl,rfl,rfl,hyd2⟩
         refine⟨(fun _=>wk [2,2] [3,4,5,6,7,8] rfl rfl), ?_⟩
         refine bV (aa rfl)<|bV (ar rfl rfl)<|bV (ar rfl rfl)<|bV (ar rfl rfl)<| ?_
         refine ee (aJ 1 rfl rfl rfl bj rfl bA rfl ⟨(fun h=>absurd h (by decide)), ?_⟩)
         refine ee (aJ 1 rfl rfl rfl bg hp32 aY rfl ⟨(fun h=>absurd h (by decide)), ?_⟩)
         refine bV (ab rfl)<|eJ<|al (ρ' :=[(11,_),(41,_),(10,_),(9,_),(29,_),(8,_),(7,_),(6,_),(0,_),(1,_),(2,_)]) ⟨rfl,rfl,rfl,rfl,rfl,rfl,rfl,rfl,rfl,rfl,rfl,trivial⟩<|ak (X' :=[_,_,_,_]) (S' :=[_,_,_,_,_,_,_,_,_]) (fun _ m=>m)<| ?_
         exact dr (R:=fun(y2:RX) (g11:Nat)=>[(11,.pointer (some ⟨g11,0,none⟩))]) (X1:=fun(y2:RX) (g11:Nat)=>[aL g11 39 y2.cs]) (S1:=fun(y2:RX) (g11:Nat)=>[c6 y2]) (I:=fun(y2:RX) (g11:Nat)=>y2.d=(x.d.put (bo k6)).1) y2 g11 ⟨rfl,rfl,rfl,rfl,rfl,rfl,rfl,rfl,rfl,rfl,rfl,trivial⟩ [1,1,1] rfl [0,3,4,5,6,7,8] rfl hyd2
       ·refine fx (aM cP (fun g12=>⟨(fun _=>wk [1,1] [2,3,4,5,6,7] rfl rfl), ?_⟩))
        refine er ?_ ?_
        ·refine fx (aq rfl Tryz.call26 (kM hDo (by omega) hc_x hcl (by omega)) [] rfl [2,0,7] rfl ?_)
         rintro _ _ _ ⟨y2,rfl,rfl,rfl,hyd2⟩
         refine⟨(fun _=>wk [1,1] [3,4,5,6,7,8] rfl rfl), ?_⟩
         refine bV (aa rfl)<|bV (ar rfl rfl)<|bV (ar rfl rfl)<|bV (ar rfl rfl)<| ?_
         refine fx (aM fO (fun g11=>⟨(fun _=>wk [2,2] [3,4,5,6,7,8] rfl rfl), ?_⟩))
         refine ee (aJ 0 rfl rfl rfl bj rfl bA rfl ⟨(fun h=>absurd h (by decide)), ?_⟩)
         refine ee (aJ 1 rfl rfl rfl bg hp32 aY rfl ⟨(fun h=>absurd h (by decide)), ?_⟩)
         refine bV (ab rfl)<|eJ<|al (ρ' :=[(11,_),(41,_),(10,_),(9,_),(29,_),(8,_),(7,_),(6,_),(0,_),(1,_),(2,_)]) ⟨rfl,rfl,rfl,rfl,rfl,rfl,rfl,rfl,rfl,rfl,rfl,trivial⟩<|ak (X' :=[_,_,_,_]) (S' :=[_,_,_,_,_,_,_,_,_]) (fun _ m=>m)<| ?_
         exact dr (R:=fun(y2:RX) (g11:Nat)=>[(11,.pointer (some ⟨g11,0,none⟩))]) (X1:=fun(y2:RX) (g11:Nat)=>[aL g11 39 y2.cs]) (S1:=fun(y2:RX) (g11:Nat)=>[c6 y2]) (I:=fun(y2:RX) (g11:Nat)=>y2.d=(x.d.put (bo k6)).1) y2 g11 ⟨rfl,rfl,rfl,rfl,rfl,rfl,rfl,rfl,rfl,rfl,rfl,trivial⟩ [1,1,1] rfl [0,3,4,5,6,7,8] rfl hyd2
        ·refine fx (aM fO (fun g11=>⟨(fun _=>wk [2,2] [2,3,4,5,6,7] rfl rfl), ?_⟩))
         refine fx (aq rfl Tryz.call26 (kM hDo (by omega) hc_x hcl (by omega)) [] rfl [2,0,7] rfl ?_)
         rintro _ _ _ ⟨y2,rfl,rfl,rfl,hyd2⟩
         refine⟨(fun _=>wk [2,2] [3,4,5,6,7,8] rfl rfl), ?_⟩
         refine bV (aa rfl)<|bV (ar rfl rfl)<|bV (ar rfl rfl)<|bV (ar rfl rfl)<| ?_
         refine ee (aJ 0 rfl rfl rfl bj rfl bA rfl ⟨(fun h=>absurd h (by decide)), ?_⟩)
         refine ee (aJ 1 rfl rfl rfl bg hp32 aY rfl ⟨(fun h=>absurd h (by decide)), ?_⟩)
         refine bV (ab rfl)<|eJ<|al (ρ' :=[(11,_),(41,_),(10,_),(9,_),(29,_),(8,_),(7,_),(6,_),(0,_),(1,_),(2,_)]) ⟨rfl,rfl,rfl,rfl,rfl,rfl,rfl,rfl,rfl,rfl,rfl,trivial⟩<|ak (X' :=[_,_,_,_]) (S' :=[_,_,_,_,_,_,_,_,_]) (fun _ m=>m)<| ?_
         exact dr (R:=fun(y2:RX) (g11:Nat)=>[(11,.pointer (some ⟨g11,0,none⟩))]) (X1:=fun(y2:RX) (g11:Nat)=>[aL g11 39 y2.cs]) (S1:=fun(y2:RX) (g11:Nat)=>[c6 y2]) (I:=fun(y2:RX) (g11:Nat)=>y2.d=(x.d.put (bo k6)).1) y2 g11 ⟨rfl,rfl,rfl,rfl,rfl,rfl,rfl,rfl,rfl,rfl,rfl,trivial⟩ [1,1,1] rfl [0,3,4,5,6,7,8] rfl hyd2
     ·refine er ?_ ?_
      ·refine fx (aM fO (fun g11=>⟨(fun _=>wk [1,1] [0,1,2,3,4,5] rfl rfl), ?_⟩))
       refine er ?_ ?_
       ·refine fx (aq rfl Tryz.call27 (ma hz hk6 hk6l) [] rfl [] rfl ?_)
        rintro _ _ _ ⟨v,rfl,rfl,rfl⟩
        refine⟨(fun _=>wk [2,2] [0,1,2,3,4,5] rfl rfl), ?_⟩
        refine fW (fun m=>(m.own 0 rfl).slice) ?_
        rintro⟨A_x,c_x,rfl,hc_x⟩
        refine fW (fun m=>(m.ord 0 rfl).2.1) fun hA_x=> ?_
        refine lW (fun w m=>(m.perm (au [0] _ [_] _ rfl)).freeze) ?_
        refine lW (fun w m=>m.jL 0 rfl .own) ?_
        refine er ?_ ?_
        ·refine fx (aq rfl Tryz.call26 (kM hDo (by omega) hc_x hcl (by omega)) [] rfl [2,0,7] rfl ?_)
         rintro _ _ _ ⟨y2,rfl,rfl,rfl,hyd2⟩
         refine⟨(fun _=>wk [1,1] [3,4,5,6,7,8] rfl rfl), ?_⟩
         refine bV (aa rfl)<|bV (ar rfl rfl)<|bV (ar rfl rfl)<|bV (ar rfl rfl)<| ?_
         refine fx (aM cP (fun g12=>⟨(fun _=>wk [2,2] [3,4,5,6,7,8] rfl rfl), ?_⟩))
         refine ee (aJ 1 rfl rfl rfl bj rfl bA rfl ⟨(fun h=>absurd h (by decide)), ?_⟩)
         refine ee (aJ 1 rfl rfl rfl bg hp32 aY rfl ⟨(fun h=>absurd h (by decide)), ?_⟩)
         refine bV (ab rfl)<|eJ<|al (ρ' :=[(11,_),(41,_),(10,_),(9,_),(29,_),(8,_),(7,_),(6,_),(0,_),(1,_),(2,_)]) ⟨rfl,rfl,rfl,rfl,rfl,rfl,rfl,rfl,rfl,rfl,rfl,trivial⟩<|ak (X' :=[_,_,_,_]) (S' :=[_,_,_,_,_,_,_,_,_]) (fun _ m=>m)<| ?_
         exact dr (R:=fun(y2:RX) (g11:Nat)=>[(11,.pointer (some ⟨g11,0,none⟩))]) (X1:=fun(y2:RX) (g11:Nat)=>[aL g11 39 y2.cs]) (S1:=fun(y2:RX) (g11:Nat)=>[c6 y2]) (I:=fun(y2:RX) (g11:Nat)=>y2.d=(x.d.put (bo k6)).1) y2 g11 ⟨rfl,rfl,rfl,rfl,rfl,rfl,rfl,rfl,rfl,rfl,rfl,trivial⟩ [1,1,1] rfl [0,3,4,5,6,7,8] rfl hyd2
        ·refine fx (aM cP (fun g12=>⟨(fun _=>wk [2,2] [2,3,4,5,6,7] rfl rfl), ?_⟩))
         refine fx (aq rfl Tryz.call26 (kM hDo (by omega) hc_x hcl (by omega)) [] rfl [2,0,7] rfl ?_)
         rintro _ _ _ ⟨y2,rfl,rfl,rfl,hyd2⟩
         refine⟨(fun _=>wk [2,2] [3,4,5,6,7,8] rfl rfl), ?_⟩
         refine bV (aa rfl)<|bV (ar rfl rfl)<|bV (ar rfl rfl)<|bV (ar rfl rfl)<| ?_
         refine ee (aJ 1 rfl rfl rfl bj rfl bA rfl ⟨(fun h=>absurd h (by decide)), ?_⟩)
         refine ee (aJ 1 rfl rfl rfl bg hp32 aY rfl ⟨(fun h=>absurd h (by decide)), ?_⟩)
         refine bV (ab rfl)<|eJ<|al (ρ' :=[(11,_),(41,_),(10,_),(9,_),(29,_),(8,_),(7,_),(6,_),(0,_),(1,_),(2,_)]) ⟨rfl,rfl,rfl,rfl,rfl,rfl,rfl,rfl,rfl,rfl,rfl,trivial⟩<|ak (X' :=[_,_,_,_]) (S' :=[_,_,_,_,_,_,_,_,_]) (fun _ m=>m)<| ?_
         exact dr (R:=fun(y2:RX) (g11:Nat)=>[(11,.pointer (some ⟨g11,0,none⟩))]) (X1:=fun(y2:RX) (g11:Nat)=>[aL g11 39 y2.cs]) (S1:=fun(y2:RX) (g11:Nat)=>[c6 y2]) (I:=fun(y2:RX) (g11:Nat)=>y2.d=(x.d.put (bo k6)).1) y2 g11 ⟨rfl,rfl,rfl,rfl,rfl,rfl,rfl,rfl,rfl,rfl,rfl,trivial⟩ [1,1,1] rfl [0,3,4,5,6,7,8] rfl hyd2
       ·refine fx (aM cP (fun g12=>⟨(fun _=>wk [2,2] [0,1,2,3,4,5] rfl rfl), ?_⟩))
        refine fx (aq rfl Tryz.call27 (ma hz hk6 hk6l) [] rfl [] rfl ?_)
        rintro _ _ _ ⟨v,rfl,rfl,rfl⟩
        refine⟨(fun _=>wk [3,3] [0,1,2,3,4,5] rfl rfl), ?_⟩
        refine fW (fun m=>(m.own 0 rfl).slice) ?_
        rintro⟨A_x,c_x,rfl,hc_x⟩
        refine fW (fun m=>(m.ord 0 rfl).2.1) fun hA_x=> ?_
        refine lW (fun w m=>(m.perm (au [0] _ [_] _ rfl)).freeze) ?_
        refine lW (fun w m=>m.jL 0 rfl .own) ?_
        refine fx (aq rfl Tryz.call26 (kM hDo (by omega) hc_x hcl (by omega)) [] rfl [2,0,7] rfl ?_)
        rintro _ _ _ ⟨y2,rfl,rfl,rfl,hyd2⟩
        refine⟨(fun _=>wk [2,2] [3,4,5,6,7,8] rfl rfl), ?_⟩
        refine bV (aa rfl)<|bV (ar rfl rfl)<|bV (ar rfl rfl)<|bV (ar rfl rfl)<| ?_
        refine ee (aJ 1 rfl rfl rfl bj rfl bA rfl ⟨(fun h=>absurd h (by decide)), ?_⟩)
        refine ee (aJ 1 rfl rfl rfl bg hp32 aY rfl ⟨(fun h=>absurd h (by decide)), ?_⟩)
        refine bV (ab rfl)<|eJ<|al (ρ' :=[(11,_),(41,_),(10,_),(9,_),(29,_),(8,_),(7,_),(6,_),(0,_),(1,_),(2,_)]) ⟨rfl,rfl,rfl,rfl,rfl,rfl,rfl,rfl,rfl,rfl,rfl,trivial⟩<|ak (X' :=[_,_,_,_]) (S' :=[_,_,_,_,_,_,_,_,_]) (fun _ m=>m)<| ?_
        exact dr (R:=fun(y2:RX) (g11:Nat)=>[(11,.pointer (some ⟨g11,0,none⟩))]) (X1:=fun(y2:RX) (g11:Nat)=>[aL g11 39 y2.cs]) (S1:=fun(y2:RX) (g11:Nat)=>[c6 y2]) (I:=fun(y2:RX) (g11:Nat)=>y2.d=(x.d.put (bo k6)).1) y2 g11 ⟨rfl,rfl,rfl,rfl,rfl,rfl,rfl,rfl,rfl,rfl,rfl,trivial⟩ [1,1,1] rfl [0,3,4,5,6,7,8] rfl hyd2
      ·refine fx (aM cP (fun g12=>⟨(fun _=>wk [1,1] [0,1,2,3,4,5] rfl rfl), ?_⟩))
       refine er ?_ ?_
       ·refine fx (aq rfl Tryz.call27 (ma hz hk6 hk6l) [] rfl [] rfl ?_)
        rintro _ _ _ ⟨v,rfl,rfl,rfl⟩
        refine⟨(fun _=>wk [2,2] [0,1,2,3,4,5] rfl rfl), ?_⟩
        refine fW (fun m=>(m.own 0 rfl).slice) ?_
        rintro⟨A_x,c_x,rfl,hc_x⟩
        refine fW (fun m=>(m.ord 0 rfl).2.1) fun hA_x=> ?_
        refine lW (fun w m=>(m.perm (au [0] _ [_] _ rfl)).freeze) ?_
        refine lW (fun w m=>m.jL 0 rfl .own) ?_
        refine er ?_ ?_
        ·refine fx (aq rfl Tryz.call26 (kM hDo (by omega) hc_x hcl (by omega)) [] rfl [2,0,7] rfl ?_)
         rintro _ _ _ ⟨y2,rfl,rfl,rfl,hyd2⟩
         refine⟨(fun _=>wk [1,1] [3,4,5,6,7,8] rfl rfl), ?_⟩
         refine bV (aa rfl)<|bV (ar rfl rfl)<|bV (ar rfl rfl)<|bV (ar rfl rfl)<| ?_
         refine fx (aM fO (fun g11=>⟨(fun _=>wk [2,2] [3,4,5,6,7,8] rfl rfl), ?_⟩))
         refine ee (aJ 0 rfl rfl rfl bj rfl bA rfl ⟨(fun h=>absurd h (by decide)), ?_⟩)
         refine ee (aJ 1 rfl rfl rfl bg hp32 aY rfl ⟨(fun h=>absurd h (by decide)), ?_⟩)
         refine bV (ab rfl)<|eJ<|al (ρ' :=[(11,_),(41,_),(10,_),(9,_),(29,_),(8,_),(7,_),(6,_),(0,_),(1,_),(2,_)]) ⟨rfl,rfl,rfl,rfl,rfl,rfl,rfl,rfl,rfl,rfl,rfl,trivial⟩<|ak (X' :=[_,_,_,_]) (S' :=[_,_,_,_,_,_,_,_,_]) (fun _ m=>m)<| ?_
         exact dr (R:=fun(y2:RX) (g11:Nat)=>[(11,.pointer (some ⟨g11,0,none⟩))]) (X1:=fun(y2:RX) (g11:Nat)=>[aL g11 39 y2.cs]) (S1:=fun(y2:RX) (g11:Nat)=>[c6 y2]) (I:=fun(y2:RX) (g11:Nat)=>y2.d=(x.d.put (bo k6)).1) y2 g11 ⟨rfl,rfl,rfl,rfl,rfl,rfl,rfl,rfl,rfl,rfl,rfl,trivial⟩ [1,1,1] rfl [0,3,4,5,6,7,8] rfl hyd2
        ·refine fx (aM fO (fun g11=>⟨(fun _=>wk [2,2] [2,3,4,5,6,7] rfl rfl), ?_⟩))
         refine fx (aq rfl Tryz.call26 (kM hDo (by omega) hc_x hcl (by omega)) [] rfl [2,0,7] rfl ?_)
         rintro _ _ _ ⟨y2,rfl,rfl,rfl,hyd2⟩
         refine⟨(fun _=>wk [2,2] [3,4,5,6,7,8] rfl rfl), ?_⟩
         refine bV (aa rfl)<|bV (ar rfl rfl)<|bV (ar rfl rfl)<|bV (ar rfl rfl)<| ?_
         refine ee (aJ 0 rfl rfl rfl bj rfl bA rfl ⟨(fun h=>absurd h (by decide)), ?_⟩)
         refine ee (aJ 1 rfl rfl rfl bg hp32 aY rfl ⟨(fun h=>absurd h (by decide)), ?_⟩)
         refine bV (ab rfl)<|eJ<|al (ρ' :=[(11,_),(41,_),(10,_),(9,_),(29,_),(8,_),(7,_),(6,_),(0,_),(1,_),(2,_)]) ⟨rfl,rfl,rfl,rfl,rfl,rfl,rfl,rfl,rfl,rfl,rfl,trivial⟩<|ak (X' :=[_,_,_,_]) (S' :=[_,_,_,_,_,_,_,_,_]) (fun _ m=>m)<| ?_
         exact dr (R:=fun(y2:RX) (g11:Nat)=>[(11,.pointer (some ⟨g11,0,none⟩))]) (X1:=fun(y2:RX) (g11:Nat)=>[aL g11 39 y2.cs]) (S1:=fun(y2:RX) (g11:Nat)=>[c6 y2]) (I:=fun(y2:RX) (g11:Nat)=>y2.d=(x.d.put (bo k6)).1) y2 g11 ⟨rfl,rfl,rfl,rfl,rfl,rfl,rfl,rfl,rfl,rfl,rfl,trivial⟩ [1,1,1] rfl [0,3,4,5,6,7,8] rfl hyd2
       ·refine fx (aM fO (fun g11=>⟨(fun _=>wk [2,2] [0,1,2,3,4,5] rfl rfl), ?_⟩))
        refine fx (aq rfl Tryz.call27 (ma hz hk6 hk6l) [] rfl [] rfl ?_)
        rintro _ _ _ ⟨v,rfl,rfl,rfl⟩
        refine⟨(fun _=>wk [3,3] [0,1,2,3,4,5] rfl rfl), ?_⟩
        refine fW (fun m=>(m.own 0 rfl).slice) ?_
        rintro⟨A_x,c_x,rfl,hc_x⟩
        refine fW (fun m=>(m.ord 0 rfl).2.1) fun hA_x=> ?_
        refine lW (fun w m=>(m.perm (au [0] _ [_] _ rfl)).freeze) ?_
        refine lW (fun w m=>m.jL 0 rfl .own) ?_
        refine fx (aq rfl Tryz.call26 (kM hDo (by omega) hc_x hcl (by omega)) [] rfl [2,0,7] rfl ?_)
        rintro _ _ _ ⟨y2,rfl,rfl,rfl,hyd2⟩
        refine⟨(fun _=>wk [2,2] [3,4,5,6,7,8] rfl rfl), ?_⟩
        refine bV (aa rfl)<|bV (ar rfl rfl)<|bV (ar rfl rfl)<|bV (ar rfl rfl)<| ?_
        refine ee (aJ 0 rfl rfl rfl bj rfl bA rfl ⟨(fun h=>absurd h (by decide)), ?_⟩)
        refine ee (aJ 1 rfl rfl rfl bg hp32 aY rfl ⟨(fun h=>absurd h (by decide)), ?_⟩)
        refine bV (ab rfl)<|eJ<|al (ρ' :=[(11,_),(41,_),(10,_),(9,_),(29,_),(8,_),(7,_),(6,_),(0,_),(1,_),(2,_)]) ⟨rfl,rfl,rfl,rfl,rfl,rfl,rfl,rfl,rfl,rfl,rfl,trivial⟩<|ak (X' :=[_,_,_,_]) (S' :=[_,_,_,_,_,_,_,_,_]) (fun _ m=>m)<| ?_
        exact dr (R:=fun(y2:RX) (g11:Nat)=>[(11,.pointer (some ⟨g11,0,none⟩))]) (X1:=fun(y2:RX) (g11:Nat)=>[aL g11 39 y2.cs]) (S1:=fun(y2:RX) (g11:Nat)=>[c6 y2]) (I:=fun(y2:RX) (g11:Nat)=>y2.d=(x.d.put (bo k6)).1) y2 g11 ⟨rfl,rfl,rfl,rfl,rfl,rfl,rfl,rfl,rfl,rfl,rfl,trivial⟩ [1,1,1] rfl [0,3,4,5,6,7,8] rfl hyd2
    ·refine ag<|ah<|aj<|hy (fun _=>aa rfl)<|hy (fun m=>yV (aU rfl ca bj rfl ((m.aZ 0 rfl).ax)) ((rfl:_=Value.agg y2.cs.toArray)))<|hy (fun _=>ba rfl)<|hy (fun _=>aI rfl eP (by decide))<| ?_
     refine cH (lD 1 rfl rfl rfl bj rfl bA (show 6≤6 from Nat.le_refl 6) ?_)
     refine aQ (fun w m=>m.bN 0 rfl (show _=aL g33 121 (.pointer (some ⟨g,0,none⟩)::y2.cs)from congrArg (aL _ _) ny)) ?_
     refine ai<|al (ρ' :=[(11,_),(41,_),(10,_),(9,_),(29,_),(8,_),(7,_),(6,_),(0,_),(1,_),(2,_)]) ⟨rfl,rfl,rfl,rfl,rfl,rfl,rfl,rfl,rfl,rfl,rfl,trivial⟩<|ak (X' :=[_,_,_]) (S' :=[_,_,_,_,_,_,_]) (fun _ m=>m)<|ag<|pT [0,0] [0,1,2,3,4,5,6] rfl rfl [8,9] [(0,some 1),(1,some 1),(2,some 1),(3,some 1),(4,some 0),(5,some 0),(6,some 0),(7,some 0),(8,none),(9,none)] (by kernel_rfl) (by kernel_rfl) rfl 99<|an (aa rfl)<|an (ba rfl)<|an (aI rfl eR (by decide))<|cq (fun m=>aw rfl kv (aE (m.aZ 0 rfl) (i:=0) rfl))<|an (aa rfl)<|an (aa rfl)<|an (aS rfl rfl Tryz.underlying44 s7 hA_rl rfl (by omega))<|cq (fun m=>aw rfl fZ ((m.rd 3 rfl).cell (m9 hil)))<| ?_
     refine ek (aq rfl Tryz.call27 (ma hz hk6 hk6l) [] rfl [] rfl ?_)
     rintro _ _ _ ⟨v,rfl,rfl,rfl⟩
     refine⟨(fun _=>wk [1,1] [0,1,2,3,4,5,6] rfl rfl), ?_⟩
     refine cm (fun m=>(m.own 0 rfl).slice) ?_
     rintro⟨A_x,c_x,rfl,hc_x⟩
     refine cm (fun m=>(m.ord 0 rfl).2.1) fun hA_x=> ?_
     refine ek (cI rfl Tryz.call28 (G3 hD (by omega) hc_x hcl (by omega)) [3] rfl (.x 0 rfl .own (.s 6 rfl .nil)) ?_)
     rintro _ _ _ ⟨st1,rfl,rfl,rfl,hD2⟩
     refine⟨rfl, ?_⟩
     refine⟨(fun _=>wk [2,2] [0,1,2,3,4,5,6] rfl rfl), ?_⟩
     refine bz<|al (ρ' :=[(11,_),(41,_),(10,_),(9,_),(29,_),(8,_),(7,_),(6,_),(0,_),(1,_),(2,_)]) ⟨rfl,rfl,rfl,rfl,rfl,rfl,rfl,rfl,rfl,rfl,rfl,trivial⟩<|ak (X' :=[_,_,_,_]) (S' :=[_,_,_,_,_,_,_]) (fun _ m=>m)<|aO<|ag<|aj<|hy (fun _=>aa rfl)<|hy (fun _=>aN rfl rfl (bF (by omega) (by omega)))<|hy (fun _=>ab rfl)<|ai<|al (ρ' :=[(10,_),(11,_),(41,_),(9,_),(29,_),(8,_),(7,_),(6,_),(0,_),(1,_),(2,_)]) ⟨rfl,rfl,rfl,rfl,rfl,rfl,rfl,rfl,rfl,rfl,rfl,trivial⟩<| ?_
     rw[←hyd2]at hD2
     have hB2:Bd y2.d (4*(i+1)) (4*(i+1)):=by rw[hyd2];exact(hB.put _).le (by omega) (by omega)
     have hE2:y2.d=fo (RD.new 2000) (zl.take (i+1)):=by rw[hyd2,uF hil,←hE,hcz]
     refine fG (i+1) st1 y2 ⟨rfl,rfl,rfl,rfl,rfl,rfl,rfl,rfl,rfl,trivial⟩ [2,0] rfl [0,2,3,4,5,6] rfl (⟨by omega,by omega,hE2,hD2.le (by omega),hB2⟩) (by omega)
   ·refine bL<|ao<|ao<|aD<| ?_
    have htm:=iB (l:=zl) (i:=i) (n:=6) (by omega) (by omega) hi6
    rw[htm]at hE
    exact dr (R:=fun(st1:cF) (x1:RX)=>[]) (X1:=fun(st1:cF) (x1:RX)=>[aL g33 121 (.pointer (some ⟨g,0,none⟩)::x1.cs),bk g st1]) (S1:=fun(st1:cF) (x1:RX)=>[c6 x1]) (I:=fun(st1:cF) (x1:RX)=>x1.d=fo (RD.new 2000) (zl.take 6)∧DS st1 x1.d 24∧Bd x1.d 24 24) st x ⟨rfl,rfl,rfl,rfl,rfl,rfl,rfl,rfl,trivial⟩ [0,0] rfl [0,1,2,3,4,5] rfl (⟨hE,hD.le (by omega),hB.le (by omega) (by omega)⟩)
  ·refine bI rfl rfl rfl (by decide)<|bI rfl rfl rfl (by decide)<|hy (fun _=>bD rfl rfl)<|ai<|al (ρ' :=[(41,_),(10,_),(9,_),(29,_),(8,_),(7,_),(6,_),(0,_),(1,_),(2,_)]) ⟨rfl,rfl,rfl,rfl,rfl,rfl,rfl,rfl,rfl,rfl,trivial⟩<|ag<| ?_
   refine dB rfl (rfl) ?_
   refine bL<|ao<|ao<|aD<| ?_
   have htm:=iB (l:=zl) (i:=i) (n:=6) (by omega) (by omega) hi6
   rw[htm]at hE
   exact dr (R:=fun(st1:cF) (x1:RX)=>[]) (X1:=fun(st1:cF) (x1:RX)=>[aL g33 121 (.pointer (some ⟨g,0,none⟩)::x1.cs),bk g st1]) (S1:=fun(st1:cF) (x1:RX)=>[c6 x1]) (I:=fun(st1:cF) (x1:RX)=>x1.d=fo (RD.new 2000) (zl.take 6)∧DS st1 x1.d 24∧Bd x1.d 24 24) st x ⟨rfl,rfl,rfl,rfl,rfl,rfl,rfl,rfl,trivial⟩ [0,0] rfl [0,1,2,3,4,5] rfl (⟨hE,hD.le (by omega),hB.le (by omega) (by omega)⟩)
 ·refine ag<|ah<|ah<|aj<|hy (fun _=>ab rfl)<|ai<|ag<| ?_
  refine pr (fun(st2:cF) (x2:RX)=>[]) (fun(st2:cF) (x2:RX)=>[aL g33 121 (.pointer (some ⟨g,0,none⟩)::x2.cs),bk g st2]) (fun(st2:cF) (x2:RX)=>[c6 x2]) (fun(st2:cF) (x2:RX)=>x2.d=jF (fo (RD.new 2000) (zl.take 6)) (zb.take 3) (bb.take 30)∧DS st2 x2.d 27∧Bd x2.d 27 27) [(9,_),(29,_),(8,_),(7,_),(6,_),(0,_),(1,_),(2,_)] ⟨rfl,rfl,rfl,rfl,rfl,rfl,rfl,rfl,trivial⟩ [0,0] rfl ?_ (fun st2 x2 ⟨hE2,hD2,hB2⟩=> ?_)
  ·refine aK<| ?_
   refine fS (fun i st x=>m-i) (fun i st x=>[(14,.int .i64 (i:Nat))]) (fun i st x=>[aL g33 121 (.pointer (some ⟨g,0,none⟩)::x.cs),bk g st]) (fun i st x=>[c6 x]) (fun i st x=>i≤m∧i≤3∧x.d=jF (fo (RD.new 2000) (zl.take 6)) (zb.take i) (bb.take 30)∧DS st x.d (24+i)∧Bd x.d (24+i) (24+i)) 0 st1 x1 [(9,_),(29,_),(8,_),(7,_),(6,_),(0,_),(1,_),(2,_)] ⟨rfl,rfl,rfl,rfl,rfl,rfl,rfl,rfl,trivial⟩ [0,0] rfl [0] rfl (⟨Nat.zero_le _,Nat.zero_le _,hE1,hD1,hB1⟩) ⟨rfl,trivial⟩ (fun i st x ⟨hin,hi6,hE,hD,hB⟩=> ?_)
   refine ah<|ah<|aj<|hy (fun _=>aa rfl)<|hy (fun _=>aa rfl)<|hy (fun _=>aT rfl Tryz.underlying44)<|hy (fun _=>bw rfl rfl)<|hy (fun _=>aa rfl)<| ?_
   refine eY 76 rfl (fun h1=> ?_) (fun h1=> ?_)
   ·refine dW (o:=_) rfl rfl rfl (fun _=>aa rfl)<|dW (o:=_) rfl rfl rfl (fun _=>bw rfl rfl)<|hy (fun _=>bT rfl rfl)<|ai<|al (ρ' :=[(79,_),(14,_),(9,_),(29,_),(8,_),(7,_),(6,_),(0,_),(1,_),(2,_)]) ⟨rfl,rfl,rfl,rfl,rfl,rfl,rfl,rfl,rfl,rfl,trivial⟩<|ag<| ?_
    refine cG rfl (fun h2=> ?_) (fun h2=> ?_)
    ·obtain⟨k6,hk6,hk6l⟩:=y5 (zb.getD i 0)
     have hil:i<zb.length:=by omega
     have hz:=hzb.at hil
     have hm:=br (bo k6)
     have hDo:x.d.ok (24+i):=⟨st,hD⟩
     have hcz:=lG hk6
     have hbl:(bb.take 30).length≤30:=by rw[hbt];omega
     refine aB<|ag<|ah<|aK<|ah<|aj<|hy (fun _=>aa rfl)<|hy (fun _=>aa rfl)<|hy (fun _=>aS rfl rfl Tryz.underlying44 s7 hA_rb rfl (by omega))<|hy (fun m=>aw rfl fZ ((m.rd 4 rfl).cell (m9 hil)))<| ?_
     refine hx (aq rfl Tryz.call30 (o7 hz hk6 hk6l) [] rfl [6] rfl ?_)
     rintro _ _ _ ⟨rfl,rfl,rfl⟩
     refine hx (aq rfl Tryz.call29 (lR hm) [] rfl [] rfl ?_)
     rintro _ _ _ ⟨rfl,rfl,rfl⟩
     refine hy (fun _=>ab rfl)<|ai<|al (ρ' :=[(15,_),(79,_),(14,_),(9,_),(29,_),(8,_),(7,_),(6,_),(0,_),(1,_),(2,_)]) ⟨rfl,rfl,rfl,rfl,rfl,rfl,rfl,rfl,rfl,rfl,rfl,trivial⟩<|ak (X' :=[_,_]) (S' :=[_,_,_,_,_,_,_]) (fun _ m=>m)<|ag<|ah<| ?_
     have hbs:=tM (d:=fo (RD.new 2000) (zl.take 6)) (bb:=bb.take 30) hil
     rw[hcz,←hE]at hbs
     generalize hpp:aG (bn (bo k6))=pp at hbs ⊢
     have hpl:pp.length=69:=by rw[←hpp,eg hm]
     refine pr (fun(y2:RX) (g16:Nat)=>[(16,.pointer (some ⟨g16,0,none⟩))]) (fun(y2:RX) (g16:Nat)=>[aL g16 39 y2.cs]) (fun(y2:RX) (g16:Nat)=>[c6 y2]) (fun(y2:RX) (g16:Nat)=>y2.d=x.d.write pp (bb.take 30)) [(15,_),(79,_),(14,_),(9,_),(29,_),(8,_),(7,_),(6,_),(0,_),(1,_),(2,_)] ⟨rfl,rfl,rfl,rfl,rfl,rfl,rfl,rfl,rfl,rfl,rfl,trivial⟩ [] rfl ?_ (fun y2 g16 hyd2=> ?_)
     ·refine ui [6,7,8,12,13] (.take 0 4<|.take 1 4<|.take 2 4<|.take 3 4<|.take 4 4<|.take 5 4<|.alt 6 (.alt 7 (.alt 8 (.take 9 4<|.take 10 4<|.take 11 5<|.alt 12 (.alt 13 (.take 14 5<|.done) (.stop)) (.stop)) (.alt 12 (.alt 8 (.take 9 4<|.take 10 4<|.take 11 5<|.alt 13 (.take 14 5<|.done) (.stop)) (.stop)) (.stop))) (.alt 12 (.alt 7 (.alt 8 (.take 9 4<|.take 10 4<|.take 11 5<|.alt 13 (.take 14 5<|.done) (.stop)) (.stop)) (.stop)) (.stop))) (.alt 12 (.alt 6 (.alt 7 (.alt 8 (.take 9 4<|.take 10 4<|.take 11 5<|.alt 13 (.take 14 5<|.done) (.stop)) (.stop)) (.stop)) (.stop)) (.stop))) (by kernel_rfl) (by kernel_rfl) rfl 4<|bV (aa rfl)<|bV (ba rfl)<|bV (aI rfl eP (by decide))<|GQ (fun m=>yV (aU rfl ca bj rfl (tr (m.aZ 0 rfl))) ((rfl:_=Value.agg x.cs.toArray)))<|bV (aa rfl)<|bV (aa rfl)<| ?_
      refine er ?_ ?_
      ·refine fx (aq rfl Tryz.call32 (D7 hkc hkb (m:=30)) [] rfl [5] rfl ?_)
       rintro _ _ _ ⟨v,rfl,rfl,rfl⟩
       refine⟨(fun _=>wk [1,1] [0,1,2,3,4,5,6] rfl rfl), ?_⟩
       refine fW (fun m=>(m.own 0 rfl).slice) ?_
       rintro⟨A_x,c_x,rfl,hc_x⟩
       refine fW (fun m=>(m.ord 0 rfl).2.1) fun hA_x=> ?_
       refine er ?_ ?_
       ·refine fx<|mX (fun m=>kF rfl Tryz.underlying27 Tryz.underlying5 Tryz.underlying9 (m.ord 0 rfl))<|And.intro (fun _=>wk [1,1] [0,1,2,3,4,5,6] rfl rfl)<| ?_
        refine er ?_ ?_
        ·refine fx (aq rfl Tryz.call31 (nb hDo.qy (by omega) (by omega) (by omega) (p:=pp) (bb:=(bb.take 30))) [] rfl [0] rfl ?_)
         rintro _ _ _ ⟨y2,rfl,rfl,rfl,hyd2⟩
         refine⟨(fun _=>wk [1,1] [1,2,3,4,5,6,7] rfl rfl), ?_⟩
         refine bV (aa rfl)<|bV (ar rfl rfl)<|bV (ar rfl rfl)<| ?_
         refine fx (aM fO (fun g16=>⟨(fun _=>wk [2,2] [1,2,3,4,5,6,7] rfl rfl), ?_⟩))
         refine ee (aJ 0 rfl rfl rfl bj rfl bA rfl ⟨(fun h=>absurd h (by decide)), ?_⟩)
         refine bV (ab rfl)<|eJ<|al (ρ' :=[(16,_),(15,_),(79,_),(14,_),(9,_),(29,_),(8,_),(7,_),(6,_),(0,_),(1,_),(2,_)]) ⟨rfl,rfl,rfl,rfl,rfl,rfl,rfl,rfl,rfl,rfl,rfl,rfl,trivial⟩<|ak (X' :=[_,_,_,_]) (S' :=[_,_,_,_,_,_,_,_]) (fun _ m=>m)<| ?_
         exact dr (R:=fun(y2:RX) (g16:Nat)=>[(16,.pointer (some ⟨g16,0,none⟩))]) (X1:=fun(y2:RX) (g16:Nat)=>[aL g16 39 y2.cs]) (S1:=fun(y2:RX) (g16:Nat)=>[c6 y2]) (I:=fun(y2:RX) (g16:Nat)=>y2.d=x.d.write pp (bb.take 30)) y2 g16 ⟨rfl,rfl,rfl,rfl,rfl,rfl,rfl,rfl,rfl,rfl,rfl,rfl,trivial⟩ [0,1,1] rfl [0,1,2,3,4,5,6,7] rfl hyd2
        ·refine fx (aM fO (fun g16=>⟨(fun _=>wk [2,2] [0,1,2,3,4,5,6] rfl rfl), ?_⟩))
         refine fx (aq rfl Tryz.call31 (nb hDo.qy (by omega) (by omega) (by omega) (p:=pp) (bb:=(bb.take 30))) [] rfl [0] rfl ?_)
         rintro _ _ _ ⟨y2,rfl,rfl,rfl,hyd2⟩
         refine⟨(fun _=>wk [2,2] [1,2,3,4,5,6,7] rfl rfl), ?_⟩
         refine bV (aa rfl)<|bV (ar rfl rfl)<|bV (ar rfl rfl)<| ?_
         refine ee (aJ 0 rfl rfl rfl bj rfl bA rfl ⟨(fun h=>absurd h (by decide)), ?_⟩)
         refine bV (ab rfl)<|eJ<|al (ρ' :=[(16,_),(15,_),(79,_),(14,_),(9,_),(29,_),(8,_),(7,_),(6,_),(0,_),(1,_),(2,_)]) ⟨rfl,rfl,rfl,rfl,rfl,rfl,rfl,rfl,rfl,rfl,rfl,rfl,trivial⟩<|ak (X' :=[_,_,_,_]) (S' :=[_,_,_,_,_,_,_,_]) (fun _ m=>m)<| ?_
         exact dr (R:=fun(y2:RX) (g16:Nat)=>[(16,.pointer (some ⟨g16,0,none⟩))]) (X1:=fun(y2:RX) (g16:Nat)=>[aL g16 39 y2.cs]) (S1:=fun(y2:RX) (g16:Nat)=>[c6 y2]) (I:=fun(y2:RX) (g16:Nat)=>y2.d=x.d.write pp (bb.take 30)) y2 g16 ⟨rfl,rfl,rfl,rfl,rfl,rfl,rfl,rfl,rfl,rfl,rfl,rfl,trivial⟩ [0,1,1] rfl [0,1,2,3,4,5,6,7] rfl hyd2
       ·refine fx (aM fO (fun g16=>⟨(fun _=>wk [2,2] [0,1,2,3,4,5,6] rfl rfl), ?_⟩))
        refine fx<|mX (fun m=>kF rfl Tryz.underlying27 Tryz.underlying5 Tryz.underlying9 (m.ord 1 rfl))<|And.intro (fun _=>wk [2,2] [0,1,2,3,4,5,6] rfl rfl)<| ?_
        refine fx (aq rfl Tryz.call31 (nb hDo.qy (by omega) (by omega) (by omega) (p:=pp) (bb:=(bb.take 30))) [] rfl [0] rfl ?_)
        rintro _ _ _ ⟨y2,rfl,rfl,rfl,hyd2⟩
        refine⟨(fun _=>wk [2,2] [1,2,3,4,5,6,7] rfl rfl), ?_⟩
        refine bV (aa rfl)<|bV (ar rfl rfl)<|bV (ar rfl rfl)<| ?_
        refine ee (aJ 0 rfl rfl rfl bj rfl bA rfl ⟨(fun h=>absurd h (by decide)), ?_⟩)
        refine bV (ab rfl)<|eJ<|al (ρ' :=[(16,_),(15,_),(79,_),(14,_),(9,_),(29,_),(8,_),(7,_),(6,_),(0,_),(1,_),(2,_)]) ⟨rfl,rfl,rfl,rfl,rfl,rfl,rfl,rfl,rfl,rfl,rfl,rfl,trivial⟩<|ak (X' :=[_,_,_,_]) (S' :=[_,_,_,_,_,_,_,_]) (fun _ m=>m)<| ?_
        exact dr (R:=fun(y2:RX) (g16:Nat)=>[(16,.pointer (some ⟨g16,0,none⟩))]) (X1:=fun(y2:RX) (g16:Nat)=>[aL g16 39 y2.cs]) (S1:=fun(y2:RX) (g16:Nat)=>[c6 y2]) (I:=fun(y2:RX) (g16:Nat)=>y2.d=x.d.write pp (bb.take 30)) y2 g16 ⟨rfl,rfl,rfl,rfl,rfl,rfl,rfl,rfl,rfl,rfl,rfl,rfl,trivial⟩ [0,1,1] rfl [0,1,2,3,4,5,6,7] rfl hyd2
      ·refine fx (aM fO (fun g16=>⟨(fun _=>wk [1,1] [0,1,2,3,4,5,6] rfl rfl), ?_⟩))
       refine fx (aq rfl Tryz.call32 (D7 hkc hkb (m:=30)) [] rfl [5] rfl ?_)
       rintro _ _ _ ⟨v,rfl,rfl,rfl⟩
       refine⟨(fun _=>wk [2,2] [0,1,2,3,4,5,6] rfl rfl), ?_⟩
       refine fW (fun m=>(m.own 0 rfl).slice) ?_
       rintro⟨A_x,c_x,rfl,hc_x⟩
       refine fW (fun m=>(m.ord 0 rfl).2.1) fun hA_x=> ?_
       refine fx<|mX (fun m=>kF rfl Tryz.underlying27 Tryz.underlying5 Tryz.underlying9 (m.ord 0 rfl))<|And.intro (fun _=>wk [2,2] [0,1,2,3,4,5,6] rfl rfl)<| ?_
       refine fx (aq rfl Tryz.call31 (nb hDo.qy (by omega) (by omega) (by omega) (p:=pp) (bb:=(bb.take 30))) [] rfl [0] rfl ?_)
       rintro _ _ _ ⟨y2,rfl,rfl,rfl,hyd2⟩
       refine⟨(fun _=>wk [2,2] [1,2,3,4,5,6,7] rfl rfl), ?_⟩
       refine bV (aa rfl)<|bV (ar rfl rfl)<|bV (ar rfl rfl)<| ?_
       refine ee (aJ 1 rfl rfl rfl bj rfl bA rfl ⟨(fun h=>absurd h (by decide)), ?_⟩)
       refine bV (ab rfl)<|eJ<|al (ρ' :=[(16,_),(15,_),(79,_),(14,_),(9,_),(29,_),(8,_),(7,_),(6,_),(0,_),(1,_),(2,_)]) ⟨rfl,rfl,rfl,rfl,rfl,rfl,rfl,rfl,rfl,rfl,rfl,rfl,trivial⟩<|ak (X' :=[_,_,_,_]) (S' :=[_,_,_,_,_,_,_,_]) (fun _ m=>m)<| ?_
       exact dr (R:=fun(y2:RX) (g16:Nat)=>[(16,.pointer (some ⟨g16,0,none⟩))]) (X1:=fun(y2:RX) (g16:Nat)=>[aL g16 39 y2.cs]) (S1:=fun(y2:RX) (g16:Nat)=>[c6 y2]) (I:=fun(y2:RX) (g16:Nat)=>y2.d=x.d.write pp (bb.take 30)) y2 g16 ⟨rfl,rfl,rfl,rfl,rfl,rfl,rfl,rfl,rfl,rfl,rfl,rfl,trivial⟩ [0,1,1] rfl [0,1,2,3,4,5,6,7] rfl hyd2
     ·refine ag<|ah<|aj<|hy (fun _=>aa rfl)<|hy (fun m=>yV (aU rfl ca bj rfl ((m.aZ 0 rfl).ax)) ((rfl:_=Value.agg y2.cs.toArray)))<|hy (fun _=>ba rfl)<|hy (fun _=>aI rfl eP (by decide))<| ?_
      refine cH (lD 1 rfl rfl rfl bj rfl bA (show 6≤6 from Nat.le_refl 6) ?_)
      refine aQ (fun w m=>m.bN 0 rfl (show _=aL g33 121 (.pointer (some ⟨g,0,none⟩)::y2.cs)from congrArg (aL _ _) ny)) ?_
      refine ai<|al (ρ' :=[(16,_),(15,_),(79,_),(14,_),(9,_),(29,_),(8,_),(7,_),(6,_),(0,_),(1,_),(2,_)]) ⟨rfl,rfl,rfl,rfl,rfl,rfl,rfl,rfl,rfl,rfl,rfl,rfl,trivial⟩<|ak (X' :=[_,_,_]) (S' :=[_,_,_,_,_,_,_,_]) (fun _ m=>m)<|ag<|pT [0,0] [0,1,2,3,4,5,6,7] rfl rfl [6,7] [(0,some 1),(1,some 1),(2,some 1),(3,some 1),(4,some 1),(5,some 0),(6,none),(7,none)] (by kernel_rfl) (by kernel_rfl) rfl 99<|an (aa rfl)<|an (ba rfl)<|an (aI rfl eR (by decide))<|cq (fun m=>aw rfl kv (aE (m.aZ 0 rfl) (i:=0) rfl))<|an (aa rfl)<|an (aa rfl)<| ?_
      refine ek (aq rfl Tryz.call32 (D7 hkc hkb (m:=30)) [] rfl [6] rfl ?_)
      rintro _ _ _ ⟨v,rfl,rfl,rfl⟩
      refine⟨(fun _=>wk [1,1] [0,1,2,3,4,5,6,7] rfl rfl), ?_⟩
      refine cm (fun m=>(m.own 0 rfl).slice) ?_
      rintro⟨A_x,c_x,rfl,hc_x⟩
      refine cm (fun m=>(m.ord 0 rfl).2.1) fun hA_x=> ?_
      refine ek (cI rfl Tryz.call33 (wZ hD (by omega) hbt (Nat.le_trans (Nat.min_le_right _ _) (by decide)) (p:=pp) (l:=(bb.take 30))) [3] rfl (.x 0 rfl .own .nil) ?_)
      rintro _ _ _ ⟨st12,rfl,rfl,rfl,hD2⟩
      refine⟨rfl, ?_⟩
      refine⟨(fun _=>wk [2,2] [0,1,2,3,4,5,6,7] rfl rfl), ?_⟩
      refine bz<|al (ρ' :=[(16,_),(15,_),(79,_),(14,_),(9,_),(29,_),(8,_),(7,_),(6,_),(0,_),(1,_),(2,_)]) ⟨rfl,rfl,rfl,rfl,rfl,rfl,rfl,rfl,rfl,rfl,rfl,rfl,trivial⟩<|ak (X' :=[_,_,_,_]) (S' :=[_,_,_,_,_,_,_,_]) (fun _ m=>m)<|aO<|ag<|aj<|hy (fun _=>aa rfl)<|hy (fun _=>aN rfl rfl (bF (by omega) (by omega)))<|hy (fun _=>ab rfl)<|ai<|al (ρ' :=[(14,_),(16,_),(15,_),(79,_),(9,_),(29,_),(8,_),(7,_),(6,_),(0,_),(1,_),(2,_)]) ⟨rfl,rfl,rfl,rfl,rfl,rfl,rfl,rfl,rfl,rfl,rfl,rfl,trivial⟩<| ?_
      rw[←hyd2]at hD2
      have hB2:Bd y2.d (24+(i+1)) (24+(i+1)):=by rw[hyd2];exact(hB.write (by omega)).le (by omega) (by omega)
      have hE2:y2.d=jF (fo (RD.new 2000) (zl.take 6)) (zb.take (i+1)) (bb.take 30):=by rw[hyd2,hbs]
      refine fG (i+1) _ y2 ⟨rfl,rfl,rfl,rfl,rfl,rfl,rfl,rfl,rfl,trivial⟩ [2,0] rfl [0,2,3,4,5,6,7] rfl (⟨by omega,by omega,hE2,hD2.le (by omega),hB2⟩) (by omega)
    ·refine bL<|ao<|ao<|aD<| ?_
     have htm:=iB (l:=zb) (i:=i) (n:=3) (by omega) (by omega) hi6
     rw[htm]at hE
     exact dr (R:=fun(st2:cF) (x2:RX)=>[]) (X1:=fun(st2:cF) (x2:RX)=>[aL g33 121 (.pointer (some ⟨g,0,none⟩)::x2.cs),bk g st2]) (S1:=fun(st2:cF) (x2:RX)=>[c6 x2]) (I:=fun(st2:cF) (x2:RX)=>x2.d=jF (fo (RD.new 2000) (zl.take 6)) (zb.take 3) (bb.take 30)∧DS st2 x2.d 27∧Bd x2.d 27 27) st x ⟨rfl,rfl,rfl,rfl,rfl,rfl,rfl,rfl,trivial⟩ [0,0] rfl [0,1,2,3,4,5,6] rfl (⟨hE,hD.le (by omega),hB.le (by omega) (by omega)⟩)
   ·refine bI rfl rfl rfl (by decide)<|bI rfl rfl rfl (by decide)<|hy (fun _=>bD rfl rfl)<|ai<|al (ρ' :=[(79,_),(14,_),(9,_),(29,_),(8,_),(7,_),(6,_),(0,_),(1,_),(2,_)]) ⟨rfl,rfl,rfl,rfl,rfl,rfl,rfl,rfl,rfl,rfl,trivial⟩<|ag<| ?_
    refine dB rfl (rfl) ?_
    refine bL<|ao<|ao<|aD<| ?_
    have htm:=iB (l:=zb) (i:=i) (n:=3) (by omega) (by omega) hi6
    rw[htm]at hE
    exact dr (R:=fun(st2:cF) (x2:RX)=>[]) (X1:=fun(st2:cF) (x2:RX)=>[aL g33 121 (.pointer (some ⟨g,0,none⟩)::x2.cs),bk g st2]) (S1:=fun(st2:cF) (x2:RX)=>[c6 x2]) (I:=fun(st2:cF) (x2:RX)=>x2.d=jF (fo (RD.new 2000) (zl.take 6)) (zb.take 3) (bb.take 30)∧DS st2 x2.d 27∧Bd x2.d 27 27) st x ⟨rfl,rfl,rfl,rfl,rfl,rfl,rfl,rfl,trivial⟩ [0,0] rfl [0,1,2,3,4,5,6] rfl (⟨hE,hD.le (by omega),hB.le (by omega) (by omega)⟩)
  ·have hEe:x2.d.sync=gE zl zb bb:=by rw[hE2];rfl
   refine ag<|ah<|aj<|hy (fun _=>aa rfl)<|hy (fun _=>ba rfl)<|hy (fun _=>aI rfl eP (by decide))<|hy (fun m=>yV (aU rfl ca bj rfl (tr (m.aZ 0 rfl))) ((rfl:_=Value.agg x2.cs.toArray)))<| ?_
   refine hx (aq rfl Tryz.call99 (s5 hD2.qy) [] rfl [0] rfl ?_)
   rintro _ _ _ ⟨y2,rfl,rfl,rfl,hyv⟩
   refine hy (fun _=>aa rfl)<|hy (fun _=>ar rfl rfl)<|hy (fun _=>ar rfl rfl)<| ?_
   refine hx (aM fO (fun g18=> ?_))
   refine cH (aJ 0 rfl rfl rfl bj rfl bA rfl ?_)
   refine hy (fun _=>ab rfl)<|ai<|al (ρ' :=[(18,_),(9,_),(29,_),(8,_),(7,_),(6,_),(0,_),(1,_),(2,_)]) ⟨rfl,rfl,rfl,rfl,rfl,rfl,rfl,rfl,rfl,trivial⟩<|ak (X' :=[_,_,_]) (S' :=[_,_,_,_,_,_,_,_]) (fun _ m=>m)<|ag<|ah<|aj<|hy (fun _=>aa rfl)<|hy (fun m=>yV (aU rfl ca bj rfl ((m.aZ 0 rfl).ax)) ((rfl:_=Value.agg y2.cs.toArray)))<|hy (fun _=>ba rfl)<|hy (fun _=>aI rfl eP (by decide))<| ?_
   refine cH (lD 1 rfl rfl rfl bj rfl bA (show 6≤6 from Nat.le_refl 6) ?_)
   refine aQ (fun w m=>m.bN 0 rfl (show _=aL g33 121 (.pointer (some ⟨g,0,none⟩)::y2.cs)from congrArg (aL _ _) ny)) ?_
   refine ai<|al (ρ' :=[(18,_),(9,_),(29,_),(8,_),(7,_),(6,_),(0,_),(1,_),(2,_)]) ⟨rfl,rfl,rfl,rfl,rfl,rfl,rfl,rfl,rfl,trivial⟩<|ak (X' :=[_,_,_]) (S' :=[_,_,_,_,_,_,_,_]) (fun _ m=>m)<|ag<|ah<|aj<|hy (fun _=>aa rfl)<|hy (fun _=>ba rfl)<|hy (fun _=>aI rfl eR (by decide))<|hy (fun m=>aw rfl kv (aE (m.aZ 0 rfl) (i:=0) rfl))<| ?_
   refine hx (aq rfl Tryz.call110 (vz hD2) [2] rfl [] rfl ?_)
   rintro _ _ _ ⟨st12,rfl,rfl,rfl,hD3⟩
   refine ai<|al (ρ' :=[(18,_),(9,_),(29,_),(8,_),(7,_),(6,_),(0,_),(1,_),(2,_)]) ⟨rfl,rfl,rfl,rfl,rfl,rfl,rfl,rfl,rfl,trivial⟩<|ak (X' :=[_,_,_]) (S' :=[_,_,_,_,_,_,_,_]) (fun _ m=>m)<|ag<|ah<|aj<|hy (fun _=>aa rfl)<|hy (fun _=>ab rfl)<|ai<|al (ρ' :=[(6,_),(18,_),(9,_),(29,_),(8,_),(7,_),(0,_),(1,_),(2,_)]) ⟨rfl,rfl,rfl,rfl,rfl,rfl,rfl,rfl,rfl,trivial⟩<|ag<|aX<| ?_
   exact bh trivial rfl rfl [1,0] rfl [0] rfl ⟨g33,g,_,y2,rfl,rfl,rfl,⟨by rw[hyv,hEe],by rw[hyv];exact hD3.le (by omega),by rw[hyv];exact hB2.sync⟩⟩
end Go.Proofs.YtmibdabdlgmafaaGreatDoor
end
section
namespace Go.Proofs.YtmibdabdlgmafaaGreatDoor
open Go.Eng Go.Hx
theorem ki{d:RD}{x:List UInt8}:x∈a7 d↔x.length=32∧lk d.seen (aG x)≠none:=by
 unfold a7
 rw[List.mem_filterMap]
 constructor
 ·rintro⟨p,hp,h⟩
  rw[←j5]at h
  have h2:=eE h
  refine⟨h2.1, ?_⟩
  rw[←h2.2]
  exact u0.2 hp
 ·rintro⟨h1,h2⟩
  exact⟨aG x,u0.1 h2,by
   have:jZ (aG x)=some x:=by
    unfold jZ
    rw[if_pos (eg h1),jr h1]
    exact pk h1
   exact this⟩
theorem we{d d' :RD}{nm:List UInt8}(h:d.pw≠0)(h' :d'.pw≠0)(e:lk d'.seen (aG nm)=lk d.seen (aG nm)):d'.eH nm=d.eH nm∧d'.qu nm=d.qu nm:=by
 have e2:(d'.seen[cK d'.seen (aG nm)]?).map (·.2)=(d.seen[cK d.seen (aG nm)]?).map (·.2):=by rw[fT,fT,e]
 have hE:d'.cj (aG nm)=d.cj (aG nm):=by
  unfold RD.cj
  rw[if_neg h,if_neg h']
  cases h1:d'.seen[cK d'.seen (aG nm)]? with
  |none=>
   rw[h1]at e2
   have:d.seen[cK d.seen (aG nm)]? =none:=by
    cases h2:d.seen[cK d.seen (aG nm)]? with
    |none=>rfl
    |some y=>rw[h2]at e2;cases e2
   rw[this]
  |some x=>
   rw[h1]at e2
   cases h2:d.seen[cK d.seen (aG nm)]? with
   |none=>rw[h2]at e2;cases e2
   |some y=>rw[if_neg (by simp),if_neg (by simp)]
 have hB:d'.cC (aG nm)=d.cC (aG nm):=by
  unfold RD.cC
  rw[if_neg h,if_neg h',e2]
 have ho:d'.xE nm=d.xE nm:=by unfold RD.xE;rw[hB]
 have hg:d'.eH nm=d.eH nm:=by unfold RD.eH;rw[hE,ho]
 refine⟨hg, ?_⟩
 unfold RD.qu
 rw[hg,ho]
structure GI(d0 d:RD)(ps:List (List UInt8)):Prop where
 seen:∀q,¬q∈ps→lk d.seen q=lk d0.seen q
 b4:∀q,¬q∈ps→lk d.b4 q=lk d0.seen q
 waits:∀c∈d.waits,c.1=2∧c.2.1∈ps
theorem pj{l:List FP}{p q:List UInt8}(h:q≠p):lk (dA l p) q=lk l q:=by
 unfold dA
 rw[iI,if_neg h]
theorem G4{l:List FP}{p t b:List UInt8}{q:List UInt8}(h:q≠p):lk (dG l 2 p t b) q=lk l q:=by
 unfold dG
 rw[if_neg (by decide)]
 split
 ·rfl
 ·rw[if_pos rfl];exact pj h
theorem sL:∀(ns:List (List UInt8)) {d:RD},(cr (c5 ns++[cE]) d).2=0→(∀q,lk (cr (c5 ns++[cE]) d).1.seen q=if q∈ns.map aG then none else lk d.seen q)∧(cr (c5 ns++[cE]) d).1.b4=(cr (c5 ns++[cE]) d).1.seen∧(cr (c5 ns++[cE]) d).1.waits=[]
 | [],d,h=>by
  have h0:d.pw≠0:=fun e=>by
   change (cr [cE] d).2=0 at h
   rw[cr]at h
   have:(cE d).2=6:=by show d.dx=6;rw[RD.dx,if_pos e]
   rw[if_pos (by rw[this];decide),this]at h
   exact absurd h (by decide)
  have e:(cr (c5 []++[cE]) d).1=d.sync:=by
   show(cr [cE] d).1=_
   rw[cr]
   split <;> rfl
  rw[e]
  have es:d.sync={d with b4:=d.seen,waits:=[],pw:=dU d.pw}:=by rw[RD.sync,if_neg h0]
  rw[es]
  exact⟨fun q=>by rw[if_neg (by simp)],rfl,rfl⟩
 |nm::r,d,h=>by
  have hE:d.cj (aG nm)=0:=by
   refine Decidable.byContradiction fun hn=> ?_
   change (cr (nZ (aG nm)::(c5 r++[cE])) d).2=0 at h
   rw[cr,if_pos (by exact hn)]at h
   exact hn h
  have e:cr (c5 (nm::r)++[cE]) d=cr (c5 r++[cE]) (d.remove (aG nm)):=by
   show cr (nZ (aG nm)::(c5 r++[cE])) d=_
   rw[cr,if_neg (by show¬d.cj (aG nm)≠0;rw[hE];decide)]
   rfl
  rw[e]at h ⊢
  obtain⟨h1,h2⟩:=sL r h
  refine⟨fun q=> ?_,h2⟩
  have hs:(d.remove (aG nm)).seen=dA d.seen (aG nm):=by
   rw[RD.remove,if_pos hE]
   show dG d.seen 2 (aG nm) [] []=_
   have h3:d.seen[cK d.seen (aG nm)]? ≠none:=fun e=>by
    unfold RD.cj at hE
    split at hE
    ·exact absurd hE (by decide)
    ·exact absurd hE (by decide)
   unfold dG
   rw[if_neg (by decide)]
   split
   ·next h4=>exact absurd h4 h3
   ·rw[if_pos rfl]
  rw[h1 q,hs,List.map_cons]
  by_cases hq:q∈r.map aG
  ·rw[if_pos hq,if_pos (List.mem_cons_of_mem _ hq)]
  ·rw[if_neg hq]
   by_cases hp:q=aG nm
   ·subst hp;rw[if_pos (List.mem_cons_self ..)];unfold dA;rw[iI,if_pos rfl]
   ·rw[if_neg (fun h=>(List.mem_cons.1 h).elim hp hq),pj hp]
theorem DD:∀(ns:List (List UInt8)) {d:RD},d.pw=-1→(ns.map aG).Nodup→(∀nm∈ns,lk d.seen (aG nm)≠none)→(cr (c5 ns++[cE]) d).2=0∧(cr (c5 ns++[cE]) d).1.pw=-1
 | [],d,hp,_,_=>by
  show(cr [cE] d).2=0∧_
  have e0:(cE d).2=0:=by show d.dx=0;rw[RD.dx,if_neg (by rw[hp];decide)]
  have e1:cr (c5 []++[cE]) d=(d.sync,0):=by
   show cr [cE] d=_
   rw[cr,if_neg (by rw[e0];decide)];rfl
  rw[e1]
  refine⟨by show(cr [cE] d).2=0;rw[show cr [cE] d=(d.sync,0)from e1], ?_⟩
  show d.sync.pw=-1
  rw[RD.sync,if_neg (by rw[hp];decide)]
  show dU d.pw=-1
  rw[hp];rfl
 |nm::r,d,hp,hnd,hl=>by
  rw[List.map_cons,List.nodup_cons]at hnd
  have h0:=hl nm (List.mem_cons_self ..)
  have hE:d.cj (aG nm)=0:=by
   unfold RD.cj
   rw[if_neg (by rw[hp];decide),if_neg]
   intro e
   rw[←fT,e]at h0
   exact h0 rfl
  have hp2:(d.remove (aG nm)).pw=-1:=by
   rw[RD.remove,if_pos hE]
   show dU d.pw=-1
   rw[hp];rfl
  have e:cr (c5 (nm::r)++[cE]) d=cr (c5 r++[cE]) (d.remove (aG nm)):=by
   show cr (nZ (aG nm)::(c5 r++[cE])) d=_
   rw[cr,if_neg (by show¬d.cj (aG nm)≠0;rw[hE];decide)]
   rfl
  rw[e]
  refine DD r hp2 hnd.2 fun x hx=> ?_
  have hne:aG x≠aG nm:=fun e=>hnd.1 (by rw[←e];exact List.mem_map_of_mem hx)
  have hk:GI d (d.remove (aG nm)) [aG nm]∨True:=.inr trivial
  have:lk (d.remove (aG nm)).seen (aG x)=lk d.seen (aG x):=by
   rw[RD.remove,if_pos hE]
   show lk (dG d.seen 2 (aG nm) [] []) (aG x)=_
   exact G4 hne
  rw[this]
  exact hl x (List.mem_cons_of_mem _ hx)
theorem sJ{ns:List (List UInt8)}(h:ns.Nodup)(h32:kJ ns):(ns.map aG).Nodup:=by
 induction ns with
 |nil=>exact List.nodup_nil
 |cons a r ih=>
  rw[List.nodup_cons]at h
  rw[List.map_cons,List.nodup_cons]
  refine⟨fun hm=> ?_,ih h.2 (fun x hx=>h32 x (List.mem_cons_of_mem _ hx))⟩
  obtain⟨b,hb,e⟩:=List.mem_map.1 hm
  have:=ka (h32 b (List.mem_cons_of_mem _ hb)) (h32 a (List.mem_cons_self ..)) e
  subst this
  exact h.1 hb
theorem zT{d:RD}{kp:List (List UInt8)}(hp:d.pw=-1)(hs:kH d.seen)(hl:d.b4=d.seen)(hw:d.waits=[]):
  d.prune kp=((d.prune kp).1,(((cR (a7 d) kp).length:Nat):Int),0)∧(d.prune kp).1.pw=-1∧(d.prune kp).1.b4=(d.prune kp).1.seen∧(d.prune kp).1.waits=[]∧
   ∀q,lk (d.prune kp).1.seen q=if q∈(cR (a7 d) kp).map aG then none else lk d.seen q:=by
 have h0:¬d.pw=0:=by rw[hp];decide
 have hst:=ju hs
 have h32:kJ (cR (a7 d) kp):=rn (e8 d)
 by_cases hn:cR (a7 d) kp=[]
 ·have e:d.rm (cR (a7 d) kp)=(d,0):=by unfold RD.rm;rw[if_pos hn]
  have e2:d.prune kp=(d,0,0):=by
   rw[qt h0 (by rw[e]),e,hn];rfl
  rw[e2,hn]
  exact⟨rfl,hp,hl,hw,fun q=>by rw[if_neg (by simp)]⟩
 ·have e:d.rm (cR (a7 d) kp)=cr (c5 (cR (a7 d) kp)++[cE]) d:=by unfold RD.rm;rw[if_neg hn]
  obtain⟨h1,h2⟩:=DD (cR (a7 d) kp) hp (sJ (kd (ke hst)) h32) (fun nm hm=>(ki.1 (List.mem_filter.1 hm).1).2)
  obtain⟨h3,h4,h5⟩:=sL _ h1
  have e2:=qt (kp:=kp) h0 (by rw[e];exact h1)
  rw[e]at e2
  rw[e2]
  exact⟨rfl,h2,h4,h5,h3⟩
theorem uK{d:RD}{p l:List UInt8}(h:d.pw=-1):(d.write p l).pw=-1:=by
 unfold RD.write
 split
 ·show dU d.pw=-1;rw[h];rfl
 ·exact h
theorem yc{d:RD}{a c:List UInt8}(h:d.pw=-1):(d.rename a c).pw=-1:=by
 unfold RD.rename
 split
 ·show dU d.pw=-1;rw[h];rfl
 ·exact h
theorem sK{d:RD}(h:d.pw=-1):d.sync.pw=-1∧d.sync.b4=d.sync.seen∧d.sync.waits=[]:=by
 have e:d.sync={d with b4:=d.seen,waits:=[],pw:=dU d.pw}:=by rw[RD.sync,if_neg (by rw[h];decide)]
 rw[e]
 exact⟨by show dU d.pw=-1;rw[h];rfl,rfl,rfl⟩
theorem Em{d:RD}(h:d.pw=-1)(bb:List UInt8):(d.put bb).1.pw=-1:=by
 have hR:(d.iY bb).1.pw=-1:=qW (P:=fun d=>d.pw=-1) _ _ (fun F hF d h=>by
  simp only[List.mem_cons,List.not_mem_nil,or_false]at hF
  rcases hF with rfl|rfl|rfl|rfl
  ·exact uK h
  ·exact(sK h).1
  ·exact yc h
  ·exact(sK h).1) h
 unfold RD.put
 split
 ·exact h
 ·split
  ·exact h
  ·split
   ·exact h
   ·exact hR
theorem rZ:∀(zl:List Int) {d:RD},d.pw=-1→(fo d zl).pw=-1
 | [],d,h=>h
 |z::r,d,h=>rZ r (Em h _)
theorem rI:∀(zl:List Int) {d:RD} {bb:List UInt8},d.pw=-1→(jF d zl bb).pw=-1
 | [],d,_,h=>h
 |z::r,d,_,h=>rI r (uK h)
theorem vE(zl zb:List Int)(bb:List UInt8):(gE zl zb bb).pw=-1∧(gE zl zb bb).b4=(gE zl zb bb).seen∧(gE zl zb bb).waits=[]:=sK (rI _ (rZ _ rfl))
theorem u9{d:RD}(hs:kH d.seen)(hl:d.b4=d.seen)(hw:d.waits=[])(he:(d.ec).2.2=0):cJ (d.ec.1.ea []) (a7 (d.ec.1.ea []))=[]:=by
 have h0:¬d.pw=0:=fun e=>by rw[pV e]at he;exact absurd he (by show¬(6:Int)=0;decide)
 have hrm:(d.rm (cJ d (a7 d))).2=0:=Decidable.byContradiction fun hn=>by rw[pW h0 hn]at he;exact hn he
 have e1:d.ec.1=(d.rm (cJ d (a7 d))).1:=by rw[tL h0 hrm]
 rw[e1]
 have key:∃y,y=(d.rm (cJ d (a7 d))).1∧y.b4=y.seen∧y.waits=[]∧∀q,lk y.seen q=if q∈(cJ d (a7 d)).map aG then none else lk d.seen q:=by
  by_cases hn:cJ d (a7 d)=[]
  ·refine⟨d, ?_,hl,hw,fun q=> ?_⟩
   ·unfold RD.rm;rw[if_pos hn]
   ·rw[hn,if_neg (by simp)]
  ·have e:d.rm (cJ d (a7 d))=cr (c5 (cJ d (a7 d))++[cE]) d:=by unfold RD.rm;rw[if_neg hn]
   rw[e]at hrm ⊢
   obtain⟨h3,h4,h5⟩:=sL _ hrm
   exact⟨_,rfl,h4,h5,h3⟩
 obtain⟨y,hy,h3,h4,h5⟩:=key
 rw[←hy]
 have hse:(y.ea []).seen=y.seen:=by
  show(dfold [] y y.waits.length).2=_
  rw[h4,←h3];simp[dfold]
 unfold cJ
 rw[List.filter_eq_nil_iff]
 intro nm hm
 rw[ki,hse,h5]at hm
 have hno:¬aG nm∈(cJ d (a7 d)).map aG:=fun h=>hm.2 (if_pos h)
 have hlk:lk (y.ea []).seen (aG nm)=lk d.seen (aG nm):=by rw[hse,h5,if_neg hno]
 rw[if_neg hno]at hm
 have hpw:(y.ea []).pw≠0:=by show(-1:Int)≠0;decide
 rw[(we h0 hpw hlk).1]
 have hg:d.eH nm=0:=Decidable.byContradiction fun hn=>hno (List.mem_map_of_mem (by
  unfold cJ
  rw[List.mem_filter,ki]
  exact⟨hm,decide_eq_true hn⟩))
 simp[hg]
end Go.Proofs.YtmibdabdlgmafaaGreatDoor
end
