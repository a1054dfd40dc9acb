/- Part. -/
import Derived.Test.YtmibdabdlgmafaaGreatDoorSWP5
import Derived.Test.YtmibdabdlgmafaaGreatDoorProg
import Derived.Conc.MuLib
import Derived.KernelRfl
set_option linter.all false
section
set_option maxRecDepth 20000
set_option maxHeartbeats 4000000
namespace Go.Proofs.YtmibdabdlgmafaaGreatDoor
open Go.Eng Go.Hx
abbrev It:=oV×Int
structure IX where
 mn:Int
 av:Int
 mx:Int
 wz:oV
 j1:List It
 A:Option Addr
 c:Nat
def xJ(t:It):List Value:=aV t.1.b++[.int .i64 t.2]
def zT(l:List It):List Value:=l.flatMap xJ
theorem ll(t:It):(xJ t).length=33:=by simp[xJ,az,t.1.h]
theorem wx(t:It):∀u∈xJ t,u.oneCell' =true:=by
 intro u hu
 rcases List.mem_append.1 hu with h|h
 ·exact gL u h
 ·rw[List.mem_singleton.1 h];rfl
theorem vu(a b:List It):zT (a++b)=zT a++zT b:=by simp[zT]
theorem Cz{l:List It}:∀u∈zT l,u.oneCell' =true:=by
 intro u hu
 obtain⟨t,_,h⟩:=List.mem_flatMap.1 hu
 exact wx t u h
def IX.cs(x:IX):List Value:=[.int .i64 x.mn,.int .i64 x.av,.int .i64 x.mx]++aV x.wz.b++[.slice x.A x.j1.length x.c]
theorem IX.eg(x:IX):x.cs.length=36:=by simp[IX.cs,az,x.wz.h]
theorem IX.bz(x:IX):∀u∈x.cs,u.oneCell' =true:=by
 intro u hu
 rcases List.mem_append.1 hu with h|h
 ·rcases List.mem_append.1 h with h|h
  ·simp only[List.mem_cons,List.not_mem_nil,or_false]at h
   rcases h with rfl|rfl|rfl <;> rfl
  ·exact gL u h
 ·rw[List.mem_singleton.1 h];rfl
theorem IX.Bu(x:IX):x.cs[35]? =some (.slice x.A x.j1.length x.c):=by
 have:([Value.int .i64 x.mn,.int .i64 x.av,.int .i64 x.mx]++aV x.wz.b).length=35:=by simp[az,x.wz.h]
 unfold IX.cs
 rw[List.getElem?_append_right (by omega),this]
 rfl
def nb(L:List IX):List Value:=L.flatMap IX.cs
theorem vk(a b:List IX):nb (a++b)=nb a++nb b:=by simp[nb]
theorem wh{L:List IX}:∀u∈nb L,u.oneCell' =true:=by
 intro u hu
 obtain⟨t,_,h⟩:=List.mem_flatMap.1 hu
 exact IX.bz t u h
def IX.fi(x:IX):bn:=dr 33 x.A x.j1.length (zT x.j1)
def IX.names(x:IX):List (List UInt8):=x.j1.map (·.1.b)
def cg(L:List IX):List (List UInt8):=L.flatMap IX.names
theorem rQ(x:IX):j8 x.names:=fun d hd=>by
 obtain⟨t,_,rfl⟩:=List.mem_map.1 hd
 exact t.1.h
theorem iJ(L:List IX):j8 (cg L):=fun d hd=>by
 obtain⟨x,_,h⟩:=List.mem_flatMap.1 hd
 exact rQ x d h
theorem nT{L:List IX}{i:Nat}{x:IX}(h:L[i]? =some x):cg (L.take (i+1))=cg (L.take i)++x.names:=by
 obtain⟨hi,rfl⟩:=List.getElem?_eq_some_iff.1 h
 rw[List.take_succ_eq_append_getElem hi,cg,List.flatMap_append,List.flatMap_cons,List.flatMap_nil,List.append_nil]
 rfl
theorem pQ{x:IX}{j:Nat}{t:It}(h:x.j1[j]? =some t):x.names.take (j+1)=x.names.take j++[t.1.b]:=by
 obtain⟨hj,rfl⟩:=List.getElem?_eq_some_iff.1 h
 have hj2:j<x.names.length:=by rw[IX.names,List.length_map];exact hj
 rw[List.take_succ_eq_append_getElem hj2]
 simp[IX.names]
theorem jS(x:IX):x.names.length=x.j1.length:=List.length_map ..
theorem wm{L:List IX}{i:Nat}{x:IX}(h:L[i]? =some x):(cg (L.take i)).length+x.j1.length≤(cg L).length:=by
 have h1:=nT h
 have h2:cg L=cg (L.take (i+1))++cg (L.drop (i+1)):=by
  unfold cg
  rw[←List.flatMap_append,List.take_append_drop]
 rw[h2,h1,List.length_append,List.length_append,jS]
 omega
theorem wI{w:World}{g:Nat}{ty:TypeId}{a b:List Value}(h:e8 w g ty (a++b)):∀(j:Nat) (u:Value),a[j]? =some u→w.cell? (((⟨g,0,none⟩:Addr).add 0).add j)=some u:=fun j u hu=>by
 have:=h.ax j u (by rw[List.getElem?_append_left (List.getElem?_eq_some_iff.1 hu).1];exact hu)
 rw[add_add,Nat.zero_add]
 exact this
theorem Ep{w:World}{A:Option Addr}{n i:Nat}{l:List It}{t:It}(h:Rd w 33 A n (zT l))(hx:l[i]? =some t):∀(j:Nat) (u:Value),(aV t.1.b)[j]? =some u→w.cell? ((((A.getD d0).add (i*33)).add 0).add j)=some u:=fun j u hu=>by
 have:=iO (f:=xJ) ll h hx j u (by rw[xJ,List.getElem?_append_left (List.getElem?_eq_some_iff.1 hu).1];exact hu)
 rw[add_add,Nat.zero_add]
 exact this
theorem zP{w:World}{A:Option Addr}{n i:Nat}{L:List IX}{x:IX}(h:Rd w 36 A n (nb L))(hx:L[i]? =some x):w.cell? (((A.getD d0).add (i*36)).add 35)=some (.slice x.A x.j1.length x.c):=iO (f:=IX.cs) IX.eg h hx 35 _ x.Bu
theorem xz{K:Option Addr}{n c:Nat}{L:List IX}(hL:L.length=n)(hn:n≤100000)(hs:(cg L).length≤100000):ck Tryz.prog 146 [.slice K n c] [] [dr 36 K n (nb L),gn (L.map IX.fi)] (fun v_ X_ S_=>∃A1 k c1,v_=(.slice A1 k c1)∧X_=[aG 53 32 (.slice A1 k c1) k (dc ((cg L).foldl dz []))]∧S_=[]∧(k=((cg L).foldl dz []).length∧k≤c1)):=by
 refine aP (N:=32) Tryz.func146 rfl rfl (by simp) fun b=> ?_
 refine aY (fun m=>gE (m.rd 0 rfl)) ?_
 rintro⟨hl_r,hA_r⟩
 refine ah<|aj<|hy (fun _=>ab rfl)<|ai<|ag<|ah<|aj<|hy (fun _=>ab rfl)<|ai<|ag<|ah<|ah<|aj<|hy (fun _=>aa rfl)<|hy (fun _=>aS rfl Tryz.underlying125)<|hy (fun _=>aa rfl)<|ai<|ag<|aI<| ?_
 refine bx (fun w m=>m.dm (r' :=aG 53 32 (.slice none 0 0) 0 []) (.refl _ _) (Own.nil _ _ _ _) (fun k hk=>hk.elim)) ?_
 refine iG (fun i k A1 c1=>n-i) (fun i k A1 c1=>[(3,.slice A1 k c1),(10,.int .i64 (i:Nat))]) (fun i k A1 c1=>[aG 53 32 (.slice A1 k c1) k (dc (cg (L.take i)))]) (fun i k A1 c1=>[]) (fun i k A1 c1=>i≤n∧k=(cg (L.take i)).length) 0 0 none 0 [(9,_),(8,_),(2,_),(0,_)] ⟨rfl,rfl,rfl,rfl,trivial⟩ [0] rfl [] rfl (⟨Nat.zero_le _,rfl⟩) ⟨rfl,rfl,trivial⟩ (fun i k A1 c1 ⟨hin,hk⟩=> ?_)
 refine ah<|aj<|hy (fun _=>bq rfl rfl)<|ai<|ag<|ah<| ?_
 refine cD rfl (fun hlt=> ?_) (fun hlt=> ?_)
 ·have hi:i<L.length:=by omega
  obtain⟨x,hxi⟩:∃x,L[i]? =some x:=⟨_,List.getElem?_eq_getElem hi⟩
  have hle:=wm hxi
  have hsu:=nT hxi
  refine bx (fun w m=>m.iW 1 rfl (View.oN i (by rw[List.getElem?_map,hxi];rfl))) ?_
  refine aY (fun m=>gE (m.rd 0 rfl)) ?_
  rintro⟨hl_it,hA_it⟩
  refine aY (fun m=>(m.rd 0 rfl).2.1) fun hA_it=> ?_
  refine aD<|ag<|ah<|aI<|ah<|aj<|hy (fun _=>cq rfl rfl Tryz.underlying125 Ak hA_r rfl (by omega))<|hy (fun m=>yV (aU rfl GG Ak x.eg (iO (f:=IX.cs) IX.eg (m.rd 1 rfl) hxi)) ((rfl:_=Value.agg x.cs.toArray)))<| ?_
  refine hx (aN xp (fun g5=> ?_))
  refine cL (aJ 0 rfl rfl rfl Ak x.eg x.bz rfl ?_)
  refine ai<|al (ρ' :=[(5,_),(11,_),(3,_),(10,_),(9,_),(8,_),(2,_),(0,_)]) ⟨rfl,rfl,rfl,rfl,rfl,rfl,rfl,rfl,trivial⟩<|ak (X' :=[_,_]) (S' :=[_,_,_]) (fun _ m=>m)<|ag<|ah<|aj<|hy (fun _=>aK rfl DG (by decide))<|hy (fun m=>ay rfl AI (aE (m.a6 0 rfl) (i:=35) x.Bu))<|hy (fun _=>aS rfl Tryz.underlying80)<|hy (fun _=>aa rfl)<|ai<|al (ρ' :=[(17,_),(16,_),(15,_),(5,_),(11,_),(3,_),(10,_),(9,_),(8,_),(2,_),(0,_)]) ⟨rfl,rfl,rfl,rfl,rfl,rfl,rfl,rfl,rfl,rfl,rfl,trivial⟩<|ag<|aI<| ?_
  have e0:dc (cg (L.take i))=dc (cg (L.take i)++x.names.take 0):=by rw[List.take_zero,List.append_nil]
  rw[e0]
  refine iG (fun j k2 A2 c2=>x.j1.length-j) (fun j k2 A2 c2=>[(3,.slice A2 k2 c2),(17,.int .i64 (j:Nat))]) (fun j k2 A2 c2=>[aG 53 32 (.slice A2 k2 c2) k2 (dc (cg (L.take i)++x.names.take j))]) (fun j k2 A2 c2=>[]) (fun j k2 A2 c2=>j≤x.j1.length∧k2=k+j) 0 k A1 c1 [(16,_),(15,_),(5,_),(11,_),(10,_),(9,_),(8,_),(2,_),(0,_)] ⟨rfl,rfl,rfl,rfl,rfl,rfl,rfl,rfl,rfl,trivial⟩ [1] rfl [] rfl (⟨Nat.zero_le _,rfl⟩) ⟨rfl,rfl,trivial⟩ (fun j k2 A2 c2 ⟨hj,hk2⟩=> ?_)
  refine ah<|aj<|hy (fun _=>bq rfl rfl)<|ai<|ag<|ah<| ?_
  refine cD rfl (fun hlt2=> ?_) (fun hlt2=> ?_)
  ·have hj2:j<x.j1.length:=by omega
   obtain⟨t,ht⟩:∃t,x.j1[j]? =some t:=⟨_,List.getElem?_eq_getElem hj2⟩
   have hns:=pQ ht
   have h32:(aV t.1.b).length=32:=by rw[az,t.1.h]
   refine aD<|ag<|ah<|aI<|ah<|aj<|hy (fun _=>cq rfl rfl Tryz.underlying80 w6 hA_it rfl (by omega))<|hy (fun m=>yV (aU rfl Fz w6 (ll t) (iO (f:=xJ) ll (m.rd 0 rfl) ht)) ((rfl:_=Value.agg (xJ t).toArray)))<| ?_
   refine hx (aN wD (fun g7=> ?_))
   refine cL (aJ 0 rfl rfl rfl w6 (ll t) (wx t) rfl ?_)
   refine ai<|al (ρ' :=[(7,_),(18,_),(3,_),(17,_),(16,_),(15,_),(5,_),(11,_),(10,_),(9,_),(8,_),(2,_),(0,_)]) ⟨rfl,rfl,rfl,rfl,rfl,rfl,rfl,rfl,rfl,rfl,rfl,rfl,rfl,trivial⟩<|ak (X' :=[_,_,_]) (S' :=[_,_,_]) (fun _ m=>m)<|ag<|aj<|hy (fun _=>aa rfl)<|hy (fun _=>aK rfl wT (by decide))<|hy (fun m=>aU rfl b9 bf h32 (wI (m.a6 0 rfl)))<| ?_
   refine hx (b5 Tryz.underlying33 cS rfl rfl rfl (by simpa[Value.cells,B8]using h32) (by decide) (by decide) (fun g24=> ?_))
   have hA_b24:0<1→(some (⟨g24,0,none⟩:Addr))≠none:=fun _ h=>by cases h
   refine aO (fun w m=>m.bQ 0 rfl (show _=aG 53 32 (.slice (some ⟨g24,0,none⟩) 1 1) 1 (dc [t.1.b])from rfl)) ?_
   refine hx (bu 2 rfl rfl rfl Tryz.underlying33 Tryz.underlying33 (by exact .inl rfl) cS rfl (fun m=>Src.bP (m.ord 0 rfl)) cP (by unfold maxLen;omega) (by omega) (fun u=> ?_))
   refine aA (fun m=>(m.own 0 rfl).slice) ?_
   rintro⟨A_o,c_o,rfl,hc_o⟩
   refine aA (fun m=>(m.ord 0 rfl).2.1) fun hA_o=> ?_
   refine aO (fun w m=>m.bQ 0 rfl (show _=aG 53 32 (.slice A_o (k2+1) c_o) (k2+1) (dc (cg (L.take i)++x.names.take (j+1)))from congrArg (aG _ _ _ _) (by rw[hns,←List.append_assoc,dj _ [t.1.b]]))) ?_
   refine hy (fun _=>ab rfl)<|ai<|al (ρ' :=[(3,_),(7,_),(18,_),(17,_),(16,_),(15,_),(5,_),(11,_),(10,_),(9,_),(8,_),(2,_),(0,_)]) ⟨rfl,rfl,rfl,rfl,rfl,rfl,rfl,rfl,rfl,rfl,rfl,rfl,rfl,trivial⟩<|ak (X' :=[_,_,_,_]) (S' :=[_,_,_]) (fun _ m=>m)<|aQ<|ag<|aj<|hy (fun _=>aM rfl rfl (bG (by omega) (by omega)))<|hy (fun _=>aa rfl)<|ai<|al (ρ' :=[(17,_),(3,_),(7,_),(18,_),(16,_),(15,_),(5,_),(11,_),(10,_),(9,_),(8,_),(2,_),(0,_)]) ⟨rfl,rfl,rfl,rfl,rfl,rfl,rfl,rfl,rfl,rfl,rfl,rfl,rfl,trivial⟩<| ?_
   refine eJ (j+1) (k2+1) A_o c_o ⟨rfl,rfl,rfl,rfl,rfl,rfl,rfl,rfl,rfl,rfl,rfl,trivial⟩ [0,2] rfl [0,1,2] rfl (⟨by omega,by omega⟩) (by omega)
  ·obtain rfl:j=x.j1.length:=by omega
   have e1:cg (L.take i)++x.names.take x.j1.length=cg (L.take (i+1)):=by rw[hsu,List.take_of_length_le (l:=x.names) (by rw[jS];exact Nat.le_refl _)]
   rw[e1]
   refine bJ<|ao<|ao<|aB<|aQ<|ag<|aj<|hy (fun _=>aM rfl rfl (bG (by omega) (by omega)))<|hy (fun _=>aa rfl)<|ai<|al (ρ' :=[(10,_),(18,_),(3,_),(17,_),(16,_),(15,_),(5,_),(11,_),(9,_),(8,_),(2,_),(0,_)]) ⟨rfl,rfl,rfl,rfl,rfl,rfl,rfl,rfl,rfl,rfl,rfl,rfl,trivial⟩<| ?_
   refine eJ (i+1) k2 A2 c2 ⟨rfl,rfl,rfl,rfl,rfl,rfl,trivial⟩ [0] rfl [1,2] rfl (⟨by omega,by rw[hsu,List.length_append,jS];omega⟩) (by omega)
 ·obtain rfl:i=n:=by omega
  have e2:L.take i=L:=List.take_of_length_le (by omega)
  rw[e2]at hk
  rw[e2]
  have hsl:=tn (cg L)
  have hsD:j8 (j4 (cg L)):=fun d hd=>iJ L d ((jT _).mem_iff.1 hd)
  refine aY (fun m=>(Own.rd (m.own 0 rfl)).2.1) fun hcc=> ?_
  refine bJ<|ao<|ao<|aB<|ag<|ah<|aj<|hy (fun _=>aa rfl)<| ?_
  refine hx (aq rfl Tryz.call147 (rZ (iJ L) (by omega)) [0] rfl [] rfl ?_)
  rintro _ _ _ ⟨rfl,rfl,rfl⟩
  refine ai<|al (ρ' :=[(11,_),(3,_),(10,_),(9,_),(8,_),(2,_),(0,_)]) ⟨rfl,rfl,rfl,rfl,rfl,rfl,rfl,trivial⟩<|ak (X' :=[_]) (S' :=[_,_]) (fun _ m=>m)<|ag<|ah<|aj<|hy (fun _=>aa rfl)<| ?_
  refine hx (aq rfl Tryz.call205 (AV hsD (by omega) hcc (by omega)) [0] rfl [] rfl ?_)
  rintro _ _ _ ⟨k2,rfl,rfl,rfl,hk3⟩
  refine hy (fun _=>ab rfl)<|ai<|al (ρ' :=[(2,_),(11,_),(3,_),(10,_),(9,_),(8,_),(0,_)]) ⟨rfl,rfl,rfl,rfl,rfl,rfl,rfl,trivial⟩<|ak (X' :=[_]) (S' :=[_,_]) (fun _ m=>m)<|ag<|aX<| ?_
  have hk4:=vP (j4 (cg L))
  rw[tL]at hk3 hk4
  rw[tL]
  exact bg trivial rfl rfl [0] rfl [] rfl ⟨_,_,_,rfl,rfl,rfl,⟨hk3,by omega⟩⟩
theorem vi{K:Option Addr}{n c:Nat}{L:List IX}(hL:L.length=n)(hn:n≤100000)(hs:(cg L).length≤100000):ck Tryz.prog 149 [.slice K n c] [] [dr 36 K n (nb L),gn (L.map IX.fi)] (fun v_ X_ S_=>∃A1 k c1,v_=(.slice A1 k c1)∧X_=[aG 53 32 (.slice A1 k c1) k (dc ((cg L).foldl dz []))]∧S_=[]∧(k=((cg L).foldl dz []).length)):=by
 have hfl:∀l:List (List UInt8),j8 l→(l.foldl dz []).length≤l.length∧j8 (l.foldl dz []):=fun l h=>by
  have:=qH h l.length
  rw[List.take_length]at this
  exact⟨this.2,this.1⟩
 refine aP (N:=34) Tryz.func149 rfl rfl (by simp) fun b=> ?_
 refine aY (fun m=>gE (m.rd 0 rfl)) ?_
 rintro⟨hl_r,hA_r⟩
 refine ah<|aj<|hy (fun _=>ab rfl)<|ai<|ag<|ah<|aj<|hy (fun _=>ab rfl)<|ai<|ag<|ah<|ah<|aj<|hy (fun _=>ab rfl)<|ai<|ag<|aI<| ?_
 refine bx (fun w m=>m.dm (r' :=aG 53 32 (.slice none 0 0) 0 []) (.refl _ _) (Own.nil _ _ _ _) (fun k hk=>hk.elim)) ?_
 refine iG (fun i k A1 c1=>n-i) (fun i k A1 c1=>[(3,.slice A1 k c1),(4,.int .i64 (i:Nat))]) (fun i k A1 c1=>[aG 53 32 (.slice A1 k c1) k (dc ((cg (L.take i)).foldl dz []))]) (fun i k A1 c1=>[]) (fun i k A1 c1=>i≤n∧k=((cg (L.take i)).foldl dz []).length) 0 0 none 0 [(2,_),(0,_)] ⟨rfl,rfl,trivial⟩ [0] rfl [] rfl (⟨Nat.zero_le _,rfl⟩) ⟨rfl,rfl,trivial⟩ (fun i k A1 c1 ⟨hin,hk⟩=> ?_)
 refine ah<|ah<|aj<|hy (fun _=>aa rfl)<|hy (fun _=>aa rfl)<|hy (fun _=>aS rfl Tryz.underlying105)<|hy (fun _=>bq rfl rfl)<|ai<|al (ρ' :=[(9,_),(3,_),(4,_),(2,_),(0,_)]) ⟨rfl,rfl,rfl,rfl,rfl,trivial⟩<|ag<| ?_
 refine cD rfl (fun hlt=> ?_) (fun hlt=> ?_)
 ·have hi:i<L.length:=by omega
  obtain⟨x,hxi⟩:∃x,L[i]? =some x:=⟨_,List.getElem?_eq_getElem hi⟩
  have hle:=wm hxi
  have hsu:=nT hxi
  refine bx (fun w m=>m.iW 1 rfl (View.oN i (by rw[List.getElem?_map,hxi];rfl))) ?_
  refine aY (fun m=>gE (m.rd 0 rfl)) ?_
  rintro⟨hl_it,hA_it⟩
  refine aY (fun m=>(m.rd 0 rfl).2.1) fun hA_it=> ?_
  refine aD<|ag<|ah<|aI<|ah<|aj<|hy (fun _=>ab rfl)<|ai<|ag<|aI<| ?_
  have e0:dc ((cg (L.take i)).foldl dz [])=dc ((cg (L.take i)++x.names.take 0).foldl dz []):=by rw[List.take_zero,List.append_nil]
  rw[e0]
  refine iG (fun j k2 A2 c2=>x.j1.length-j) (fun j k2 A2 c2=>[(3,.slice A2 k2 c2),(5,.int .i64 (j:Nat))]) (fun j k2 A2 c2=>[aG 53 32 (.slice A2 k2 c2) k2 (dc ((cg (L.take i)++x.names.take j).foldl dz []))]) (fun j k2 A2 c2=>[]) (fun j k2 A2 c2=>j≤x.j1.length∧k2=((cg (L.take i)++x.names.take j).foldl dz []).length) 0 k A1 c1 [(9,_),(4,_),(2,_),(0,_)] ⟨rfl,rfl,rfl,rfl,trivial⟩ [0] rfl [] rfl (⟨Nat.zero_le _,by rw[List.take_zero,List.append_nil];exact hk⟩) ⟨rfl,rfl,trivial⟩ (fun j k2 A2 c2 ⟨hj,hk2⟩=> ?_)
  refine ah<|ah<|aj<|hy (fun _=>aa rfl)<|hy (fun _=>aa rfl)<|hy (fun _=>aa rfl)<|hy (fun _=>cq rfl rfl Tryz.underlying105 pf hA_r rfl (by omega))<|hy (fun _=>aK rfl qz (by decide))<|hy (fun m=>ay rfl AI (zP (m.rd 1 rfl) hxi))<|hy (fun _=>aS rfl Tryz.underlying80)<|hy (fun _=>bq rfl rfl)<|ai<|al (ρ' :=[(19,_),(3,_),(5,_),(9,_),(4,_),(2,_),(0,_)]) ⟨rfl,rfl,rfl,rfl,rfl,rfl,rfl,trivial⟩<|ag<| ?_
  refine cD rfl (fun hlt2=> ?_) (fun hlt2=> ?_)
  ·have hj2:j<x.j1.length:=by omega
   obtain⟨t,ht⟩:∃t,x.j1[j]? =some t:=⟨_,List.getElem?_eq_getElem hj2⟩
   have hns:=pQ ht
   have h32:(aV t.1.b).length=32:=by rw[az,t.1.h]
   have hDa:j8 (cg (L.take i)++x.names.take j):=fun d hd=>by
    rcases List.mem_append.1 hd with h|h
    ·exact iJ _ d h
    ·exact rQ x d (List.mem_of_mem_take h)
   obtain⟨hfa,hfb⟩:=hfl _ hDa
   have hfc:(cg (L.take i)++x.names.take j).length≤100000:=by rw[List.length_append,List.length_take,jS];omega
   have e3:dz ((cg (L.take i)++x.names.take j).foldl dz []) t.1.b=(cg (L.take i)++x.names.take (j+1)).foldl dz []:=by
    rw[hns,←List.append_assoc,List.foldl_append (l' :=[t.1.b])];rfl
   refine aD<|ag<|ah<|aI<|aj<|hy (fun _=>aa rfl)<|hy (fun _=>aa rfl)<|hy (fun _=>aa rfl)<|hy (fun _=>cq rfl rfl Tryz.underlying105 pf hA_r rfl (by omega))<|hy (fun _=>aK rfl qz (by decide))<|hy (fun m=>ay rfl AI (zP (m.rd 1 rfl) hxi))<|hy (fun _=>aa rfl)<|hy (fun _=>cq rfl rfl Tryz.underlying80 w6 hA_it rfl (by omega))<|hy (fun _=>aK rfl wT (by decide))<|hy (fun m=>aU rfl b9 bf h32 (Ep (m.rd 0 rfl) ht))<| ?_
   refine hx (aq rfl Tryz.call96 (yL hfb t.1.h (by omega)) [0] rfl [] rfl ?_)
   rintro _ _ _ ⟨A12,n1,c12,rfl,rfl,rfl,hn1⟩
   refine hy (fun _=>ab rfl)<|ai<|al (ρ' :=[(3,_),(19,_),(5,_),(9,_),(4,_),(2,_),(0,_)]) ⟨rfl,rfl,rfl,rfl,rfl,rfl,rfl,trivial⟩<|ak (X' :=[_]) (S' :=[_,_,_]) (fun _ m=>m)<|aQ<|ag<|aj<|hy (fun _=>aa rfl)<|hy (fun _=>aM rfl rfl (bG (by omega) (by omega)))<|hy (fun _=>ab rfl)<|ai<|al (ρ' :=[(5,_),(3,_),(19,_),(9,_),(4,_),(2,_),(0,_)]) ⟨rfl,rfl,rfl,rfl,rfl,rfl,rfl,trivial⟩<| ?_
   rw[e3]at hn1
   rw[e3]
   refine eJ (j+1) _ _ _ ⟨rfl,rfl,rfl,rfl,rfl,rfl,trivial⟩ [0] rfl [0,1,2] rfl (⟨by omega,hn1⟩) (by omega)
  ·obtain rfl:j=x.j1.length:=by omega
   have e1:cg (L.take i)++x.names.take x.j1.length=cg (L.take (i+1)):=by rw[hsu,List.take_of_length_le (l:=x.names) (by rw[jS];exact Nat.le_refl _)]
   rw[e1]at hk2
   rw[e1]
   refine bJ<|ao<|ao<|aB<|aQ<|ag<|aj<|hy (fun _=>aa rfl)<|hy (fun _=>aM rfl rfl (bG (by omega) (by omega)))<|hy (fun _=>ab rfl)<|ai<|al (ρ' :=[(4,_),(19,_),(3,_),(5,_),(9,_),(2,_),(0,_)]) ⟨rfl,rfl,rfl,rfl,rfl,rfl,rfl,trivial⟩<| ?_
   refine eJ (i+1) k2 A2 c2 ⟨rfl,rfl,rfl,rfl,trivial⟩ [0] rfl [1,2] rfl (⟨by omega,hk2⟩) (by omega)
 ·obtain rfl:i=n:=by omega
  have e2:L.take i=L:=List.take_of_length_le (by omega)
  rw[e2]at hk
  rw[e2]
  refine bJ<|ao<|ao<|aB<|ag<|ah<|aj<|hy (fun _=>aa rfl)<|hy (fun _=>ab rfl)<|ai<|al (ρ' :=[(2,_),(9,_),(3,_),(4,_),(0,_)]) ⟨rfl,rfl,rfl,rfl,rfl,trivial⟩<|ag<|aX<| ?_
  exact bg trivial rfl rfl [0] rfl [] rfl ⟨_,_,_,rfl,rfl,rfl,hk⟩
end Go.Proofs.YtmibdabdlgmafaaGreatDoor
end
section
namespace Go.Proofs.YtmibdabdlgmafaaGreatDoor
open Go.Eng Go.Hx
theorem tk:∀{a b:List UInt8},a<b→cb a b<0
 | [],[],h=>absurd h (List.lt_irrefl _)
 | [],y::s,_=>by show(-1:Int)<0;decide
 |x::r,[],h=>absurd h (List.not_lt_nil _)
 |x::r,y::s,h=>by
  rw[List.cons_lt_cons_iff]at h
  rw[gz]
  rcases h with h|⟨rfl,h⟩
  ·rw[if_pos h];decide
  ·rw[if_neg (UInt8.lt_irrefl _),if_neg (UInt8.lt_irrefl _)]
   exact tk h
theorem yO{a b:List UInt8}(ha:a.length=32)(hb:b.length=32)(h:aH a<aH b):cb a b<0:=by
 have eK:∀{n:List UInt8},n.length=32→∃x y r,cf n=x::y::r∧aH n=99::47::x::y::47::cf n:=fun{n} hn=>by
  have h64:(cf n).length=64:=by rw[dQ,hn]
  match hq:cf n with
  | []=>rw[hq]at h64;cases h64
  | [_]=>rw[hq]at h64;cases h64
  |x::y::r=>exact⟨x,y,r,rfl,by unfold aH;rw[hq];rfl⟩
 obtain⟨x,y,r,h1,h2⟩:=eK ha
 obtain⟨x',y',r',h3,h4⟩:=eK hb
 rw[h2,h4]at h
 rw[←wg]
 apply tk
 simp only[List.cons_lt_cons_iff,UInt8.lt_irrefl,false_or,true_and]at h
 rw[h1,h3]at h ⊢
 simp only[List.cons_lt_cons_iff]at h ⊢
 rcases h with h|⟨rfl,h⟩
 ·exact .inl h
 ·rcases h with h|⟨rfl,h⟩
  ·exact .inr ⟨rfl,.inl h⟩
  ·exact h
theorem nG:∀(l acc:List (List UInt8)),l.Pairwise (· <·)→(∀a∈acc,∀p∈l,∀nm,jF p=some nm→cb a nm<0)→l.foldl jQ acc=acc++l.filterMap jF
 | [],acc,_,_=>by simp
 |p::r,acc,hs,hA=>by
  rw[List.pairwise_cons]at hs
  rw[List.foldl_cons,List.filterMap_cons]
  cases hq:jF p with
  |none=>
   have:jQ acc p=acc:=by unfold jQ;rw[hq]
   rw[this]
   exact nG r acc hs.2 (fun a ha q hq2 nm h=>hA a ha q (List.mem_cons_of_mem _ hq2) nm h)
  |some nm=>
   have hp:nm.length=32∧p=aH nm:=by
    rw[←jI]at hq
    exact ez hq
   have hd:jQ acc p=acc++[nm]:=by
    unfold jQ
    rw[hq]
    have:=o4 acc nm acc.length (Nat.le_refl _) (fun i hi=>by
     rw[List.getD,List.getElem?_eq_getElem hi]
     exact hA _ (List.getElem_mem hi) p (List.mem_cons_self ..) nm hq) (fun h=>absurd h (Nat.lt_irrefl _))
    rw[if_neg (fun h=>absurd h.1 (Nat.lt_irrefl _)),List.take_length,List.drop_length,List.append_nil]at this
    exact this
   rw[hd,nG r (acc++[nm]) hs.2 (fun a ha q hq2 nm2 h=>by
    rcases List.mem_append.1 ha with ha|ha
    ·exact hA a ha q (List.mem_cons_of_mem _ hq2) nm2 h
    ·rw[List.mem_singleton.1 ha]
     have hp2:nm2.length=32∧q=aH nm2:=by
      rw[←jI]at h
      exact ez h
     refine yO hp.1 hp2.1 ?_
     rw[←hp.2,←hp2.2]
     exact hs.1 q hq2)]
   simp
theorem qe{d:RD}(h:lQ d.seen):cU d d.seen.length=bw d:=by
 unfold cU bw
 rw[List.take_length,nG _ _ h (fun a ha=>(List.not_mem_nil ha).elim)]
 rfl
end Go.Proofs.YtmibdabdlgmafaaGreatDoor
end
section
set_option maxRecDepth 100000
namespace Go.Hx
def Gm(b:List UInt8)(w:List UInt32):Bool:=(List.range 64).all fun i=>w.getD i 0 == (if i<16 then k8 b (4*i)else ny w i)
theorem xh{b:List UInt8}{w:List UInt32}(hl:w.length=64)(h:Gm b w=true):∀n,n≤64→wl b n=w.take n
 |0,_=>by simp[wl]
 |n+1,hn=>by
  have ih:=xh hl h n (by omega)
  have hc:w.getD n 0=(if n<16 then k8 b (4*n)else ny w n):=by
   have:=List.all_eq_true.1 h n (List.mem_range.2 (by omega))
   exact eq_of_beq this
  have hg:∀j,j<n→(w.take n).getD j 0=w.getD j 0:=fun j hj=>by simp only[List.getD,List.getElem?_take,if_pos hj]
  have hw:w.take (n+1)=w.take n++[w.getD n 0]:=by
   rw[List.take_add_one,List.getElem?_eq_getElem (by omega)]
   simp[List.getD,List.getElem?_eq_getElem (show n<w.length by omega)]
  rw[wl,ih,hw,hc]
  congr 2
  split
  ·rfl
  ·unfold ny
   rw[hg _ (by omega),hg _ (by omega),hg _ (by omega),hg _ (by omega)]
def BA(w v:List UInt32):List (List UInt32)→List UInt32→List UInt32→Bool
 | [],_,_=>true
 |y::r,k,u=>y == He v (k.getD 0 0) (u.getD 0 0) && BA w y r k.tail u.tail
theorem tZ{w v:List UInt32}:∀(t:List (List UInt32)) (n:Nat) (s:List UInt32),kM w v n=s→BA w s t (fM.drop n) (w.drop n)=true→kM w v (n+t.length)=(s::t).getLastD []
 | [],n,s,hs,_=>by simpa using hs
 |y::r,n,s,hs,h=>by
  simp only[BA,Bool.and_eq_true]at h
  have e:kM w v (n+1)=y:=by
   rw[eq_of_beq h.1,kM,hs]
   simp only[List.getD,List.getElem?_drop,Nat.add_zero]
  have:=tZ r (n+1) y e (by rw[←List.tail_drop,←List.tail_drop];exact h.2)
  rw[List.length_cons,show n+(r.length+1)=n+1+r.length by omega,this]
  rfl
theorem lu{b m:List UInt8}{w:List UInt32}{t:List (List UInt32)}(hp:jx b=m)(hm:m.length=64)(hw:w.length=64)(ht:t.length=64)(h1:Gm m w=true)(h2:BA w mw t fM w=true):
  bk b=eU (fT ((mw::t).getLastD []) mw 8):=by
 have e1:fz mw m=eC mw m:=by
  unfold fz
  rw[hm]
  show oC 0 (eC mw (m.take 64)) (m.drop 64)=_
  rw[List.take_of_length_le (by omega)]
  rfl
 have e2:wl m 64=w:=by rw[xh hw h1 64 (Nat.le_refl _),List.take_of_length_le (by omega)]
 have e3:=tZ (w:=w) (v:=mw) t 0 mw rfl (by simpa using h2)
 rw[Nat.zero_add,ht]at e3
 unfold bk
 rw[hp,e1,eC,e2,e3]
def bm(k:Nat):List UInt8:=(List.range (3*k)).map fun i=>[UInt8.ofNat (65+k),1,UInt8.ofNat k].getD (i % 3) 0
theorem jy(k:Nat):(bm k).length=3*k:=by simp[bm]
def H2:List UInt32:=[2147483648,0,0,0,0,0,0,0,0,0,0,0,0,0,0,0,2147483648,0,2117632,0,570427392,0,84448578,2147483648,1476919296,4235264,1451269,1711282176,3592562048,337794312,3594910044,3374850048,3287351444,676112230,109604294,2742808854,1904000662,4274181962,2813755136,2165675682,2561075048,62000258,1562224585,2975250741,3286092305,614207615,3297584367,1575308336,3741240933,748767245,1008022316,30329261,369937616,195877528,907775968,3526495142,43741191,1967544444,133517113,4161330627,3704256008,1581412744,1153231965,996066459]
def HS:List (List UInt32):=[[2080933965,1779033703,3144134277,1013904242,415752866,1359893119,2600822924,528734635],[2632279248,2080933965,1779033703,3144134277,536982102,415752866,1359893119,2600822924],[3299628326,2632279248,2080933965,1779033703,1876632314,536982102,415752866,1359893119],[1277422283,3299628326,2632279248,2080933965,808968629,1876632314,536982102,415752866],[1130821424,1277422283,3299628326,2632279248,3889194014,808968629,1876632314,536982102],[690895682,1130821424,1277422283,3299628326,1332035834,3889194014,808968629,1876632314],[4028650896,690895682,1130821424,1277422283,2196627567,1332035834,3889194014,808968629],[2060825014,4028650896,690895682,1130821424,1408847307,2196627567,1332035834,3889194014],[4113392549,2060825014,4028650896,690895682,2058339864,1408847307,2196627567,1332035834],[4025007953,4113392549,2060825014,4028650896,1392976521,2058339864,1408847307,2196627567],[361478433,4025007953,4113392549,2060825014,3795207118,1392976521,2058339864,1408847307],[4114828352,361478433,4025007953,4113392549,3621813394,3795207118,1392976521,2058339864],[553833165,4114828352,361478433,4025007953,3455974994,3621813394,3795207118,1392976521],[1170215847,553833165,4114828352,361478433,725774998,3455974994,3621813394,3795207118],[3096116699,1170215847,553833165,4114828352,483372089,725774998,3455974994,3621813394],[3019933109,3096116699,1170215847,553833165,1555621987,483372089,725774998,3455974994],[1192056138,3019933109,3096116699,1170215847,1892956839,1555621987,483372089,725774998],[3717831211,1192056138,3019933109,3096116699,1619825619,1892956839,1555621987,483372089],[812095850,3717831211,1192056138,3019933109,3550010602,1619825619,1892956839,1555621987],[172493064,812095850,3717831211,1192056138,2416781228,3550010602,1619825619,1892956839],[1976037592,172493064,812095850,3717831211,966081741,2416781228,3550010602,1619825619],[2577845017,1976037592,172493064,812095850,3263666206,966081741,2416781228,3550010602],[1078820948,2577845017,1976037592,172493064,2976200464,3263666206,966081741,2416781228],[2556161365,1078820948,2577845017,1976037592,741081741,2976200464,3263666206,966081741],[2062996621,2556161365,1078820948,2577845017,4116679717,741081741,2976200464,3263666206],[3317175470,2062996621,2556161365,1078820948,3850028020,4116679717,741081741,2976200464],[747317945,3317175470,2062996621,2556161365,2677228163,3850028020,4116679717,741081741],[1837942423,747317945,3317175470,2062996621,1726829818,2677228163,3850028020,4116679717],[1690082844,1837942423,747317945,3317175470,2506713973,1726829818,2677228163,3850028020],[1926471693,1690082844,1837942423,747317945,2957685293,2506713973,1726829818,2677228163],[2696613087,1926471693,1690082844,1837942423,1447716390,2957685293,2506713973,1726829818],[300352095,2696613087,1926471693,1690082844,3151463532,1447716390,2957685293,2506713973],[3817927606,300352095,2696613087,1926471693,3436338571,3151463532,1447716390,2957685293],[2705438357,3817927606,300352095,2696613087,197416927,3436338571,3151463532,1447716390],[1151435175,2705438357,3817927606,300352095,1769188034,197416927,3436338571,3151463532],[1679812728,1151435175,2705438357,3817927606,980442793,1769188034,197416927,3436338571],[2694206301,1679812728,1151435175,2705438357,4206914285,980442793,1769188034,197416927],[1457773646,2694206301,1679812728,1151435175,3892832895,4206914285,980442793,1769188034],[2656625711,1457773646,2694206301,1679812728,2242319396,3892832895,4206914285,980442793],[1234768305,2656625711,1457773646,2694206301,1902882853,2242319396,3892832895,4206914285],[4270245939,1234768305,2656625711,1457773646,2224585183,1902882853,2242319396,3892832895],[580450446,4270245939,1234768305,2656625711,4123364073,2224585183,1902882853,2242319396],[3686090155,580450446,4270245939,1234768305,3762306745,4123364073,2224585183,1902882853],[3907209042,3686090155,580450446,4270245939,692219050,3762306745,4123364073,2224585183],[2752082644,3907209042,3686090155,580450446,2855016464,692219050,3762306745,4123364073],[855262251,2752082644,3907209042,3686090155,3531982457,2855016464,692219050,3762306745],[1419259244,855262251,2752082644,3907209042,2322236082,3531982457,2855016464,692219050],[911881421,1419259244,855262251,2752082644,3417569515,2322236082,3531982457,2855016464],[1655188062,911881421,1419259244,855262251,1286303114,3417569515,2322236082,3531982457],[2543384045,1655188062,911881421,1419259244,3909789552,1286303114,3417569515,2322236082],[3244542753,2543384045,1655188062,911881421,906398686,3909789552,1286303114,3417569515],[3579709122,3244542753,2543384045,1655188062,2710884687,906398686,3909789552,1286303114],[2981272720,3579709122,3244542753,2543384045,1134943992,2710884687,906398686,3909789552],[974034039,2981272720,3579709122,3244542753,4254700398,1134943992,2710884687,906398686],[749689034,974034039,2981272720,3579709122,3850954136,4254700398,1134943992,2710884687],[23298068,749689034,974034039,2981272720,2918796810,3850954136,4254700398,1134943992],[2126991890,23298068,749689034,974034039,2035393328,2918796810,3850954136,4254700398],[3891021244,2126991890,23298068,749689034,3802734300,2035393328,2918796810,3850954136],[3911429062,3891021244,2126991890,23298068,148956906,3802734300,2035393328,2918796810],[71572494,3911429062,3891021244,2126991890,2867830852,148956906,3802734300,2035393328],[4095722474,71572494,3911429062,3891021244,477227836,2867830852,148956906,3802734300],[1586299222,4095722474,71572494,3911429062,2232532848,477227836,2867830852,148956906],[3717492111,1586299222,4095722474,71572494,3382061760,2232532848,477227836,2867830852],[2040978907,3717492111,1586299222,4095722474,3600805733,3382061760,2232532848,477227836]]
def HK:List UInt8:=[227,176,196,66,152,252,28,20,154,251,244,200,153,111,185,36,39,174,65,228,100,155,147,76,164,149,153,27,120,82,184,85]
theorem Ed:bk (bm 0)=HK:=(lu (m:=[128,0,0,0,0,0,0,0,0,0,0,0,0,0,0,0,0,0,0,0,0,0,0,0,0,0,0,0,0,0,0,0,0,0,0,0,0,0,0,0,0,0,0,0,0,0,0,0,0,0,0,0,0,0,0,0,0,0,0,0,0,0,0,0]) (w:=H2) (t:=HS) (by decide+kernel) rfl rfl rfl (by decide+kernel) (by decide+kernel)).trans (by decide+kernel)
def HV:List UInt32:=[1107362176,0,0,0,0,0,0,0,0,0,0,0,0,0,0,24,1107362176,983040,2699077888,1610613702,1099463750,25426944,834374402,3280036238,3036426248,1034355432,4264064947,2729372909,915670732,3716110779,2000263722,1165897113,1039646088,281299352,3980104470,3761427724,3658363895,2305949932,3028413559,1303837579,2832082812,861919844,704850085,842796679,1808702238,1428493387,355076516,262993471,3617218607,4116430181,1277468746,1831645101,997864768,3820563998,3255109888,1037898284,4233045264,807309956,415727611,2688463381,2024334792,1869650284,61815304,1221856994]
def HO:List (List UInt32):=[[1040812493,1779033703,3144134277,1013904242,3670598690,1359893119,2600822924,528734635],[2933991511,1040812493,1779033703,3144134277,2306459197,3670598690,1359893119,2600822924],[305863567,2933991511,1040812493,1779033703,1911864870,2306459197,3670598690,1359893119],[2689951969,305863567,2933991511,1040812493,3617446406,1911864870,2306459197,3670598690],[548066125,2689951969,305863567,2933991511,1099388481,3617446406,1911864870,2306459197],[4247765051,548066125,2689951969,305863567,315033534,1099388481,3617446406,1911864870],[396587438,4247765051,548066125,2689951969,1209652816,315033534,1099388481,3617446406],[3339597200,396587438,4247765051,548066125,2891510804,1209652816,315033534,1099388481],[2907775726,3339597200,396587438,4247765051,1362660984,2891510804,1209652816,315033534],[1595668996,2907775726,3339597200,396587438,3701338122,1362660984,2891510804,1209652816],[3097299680,1595668996,2907775726,3339597200,1494823656,3701338122,1362660984,2891510804],[2495058246,3097299680,1595668996,2907775726,2443417408,1494823656,3701338122,1362660984],[3937365664,2495058246,3097299680,1595668996,168074123,2443417408,1494823656,3701338122],[3094349113,3937365664,2495058246,3097299680,1823925988,168074123,2443417408,1494823656],[3837998543,3094349113,3937365664,2495058246,1558452064,1823925988,168074123,2443417408],[97767242,3837998543,3094349113,3937365664,1443849710,1558452064,1823925988,168074123],[157455394,97767242,3837998543,3094349113,2602895388,1443849710,1558452064,1823925988],[1168195621,157455394,97767242,3837998543,1328892379,2602895388,1443849710,1558452064],[3503166658,1168195621,157455394,97767242,3664420442,1328892379,2602895388,1443849710],[655817290,3503166658,1168195621,157455394,3230838127,3664420442,1328892379,2602895388],[2070899622,655817290,3503166658,1168195621,1053688013,3230838127,3664420442,1328892379],[2546074497,2070899622,655817290,3503166658,3956158565,1053688013,3230838127,3664420442],[3103291562,2546074497,2070899622,655817290,3767396667,3956158565,1053688013,3230838127],[3462026065,3103291562,2546074497,2070899622,2935844591,3767396667,3956158565,1053688013],[2864794835,3462026065,3103291562,2546074497,117490617,2935844591,3767396667,3956158565],[4287121506,2864794835,3462026065,3103291562,1666426747,117490617,2935844591,3767396667],[2520095682,4287121506,2864794835,3462026065,2190567029,1666426747,117490617,2935844591],[3566786262,2520095682,4287121506,2864794835,914031713,2190567029,1666426747,117490617],[3026728640,3566786262,2520095682,4287121506,667213488,914031713,2190567029,1666426747],[2176691638,3026728640,3566786262,2520095682,2974331702,667213488,914031713,2190567029],[276430399,2176691638,3026728640,3566786262,3599312549,2974331702,667213488,914031713],[2876947361,276430399,2176691638,3026728640,494654400,3599312549,2974331702,667213488],[3855850741,2876947361,276430399,2176691638,3146031214,494654400,3599312549,2974331702],[884922106,3855850741,2876947361,276430399,1146660805,3146031214,494654400,3599312549],[1402976943,884922106,3855850741,2876947361,4235796835,1146660805,3146031214,494654400],[754556834,1402976943,884922106,3855850741,3814518060,4235796835,1146660805,3146031214],[1550721331,754556834,1402976943,884922106,2100336359,3814518060,4235796835,1146660805],[3252933238,1550721331,754556834,1402976943,865945473,2100336359,3814518060,4235796835],[1473052570,3252933238,1550721331,754556834,2985952915,865945473,2100336359,3814518060],[1403004595,1473052570,3252933238,1550721331,3486181957,2985952915,865945473,2100336359],[3948605229,1403004595,1473052570,3252933238,2449457099,3486181957,2985952915,865945473],[2509938093,3948605229,1403004595,1473052570,2612013495,2449457099,3486181957,2985952915],[1524924783,2509938093,3948605229,1403004595,4237955955,2612013495,2449457099,3486181957],[2072908380,1524924783,2509938093,3948605229,2743951822,4237955955,2612013495,2449457099],[1574677093,2072908380,1524924783,2509938093,962518812,2743951822,4237955955,2612013495],[2949412848,1574677093,2072908380,1524924783,2124612093,962518812,2743951822,4237955955],[2150510118,2949412848,1574677093,2072908380,3046824961,2124612093,962518812,2743951822],[1129255911,2150510118,2949412848,1574677093,3347572455,3046824961,2124612093,962518812],[1598741872,1129255911,2150510118,2949412848,3325168739,3347572455,3046824961,2124612093],[3197823805,1598741872,1129255911,2150510118,1408481104,3325168739,3347572455,3046824961],[4279166295,3197823805,1598741872,1129255911,3255467814,1408481104,3325168739,3347572455],[410751663,4279166295,3197823805,1598741872,1842780739,3255467814,1408481104,3325168739],[3066744009,410751663,4279166295,3197823805,2597202916,1842780739,3255467814,1408481104],[944794031,3066744009,410751663,4279166295,399797342,2597202916,1842780739,3255467814],[1866775977,944794031,3066744009,410751663,1932359240,399797342,2597202916,1842780739],[282090807,1866775977,944794031,3066744009,1184764235,1932359240,399797342,2597202916],[1337731485,282090807,1866775977,944794031,1631464235,1184764235,1932359240,399797342],[2855027434,1337731485,282090807,1866775977,2735041572,1631464235,1184764235,1932359240],[580666429,2855027434,1337731485,282090807,2051984567,2735041572,1631464235,1184764235],[1179881486,580666429,2855027434,1337731485,336116513,2051984567,2735041572,1631464235],[2208710711,1179881486,580666429,2855027434,1369389600,336116513,2051984567,2735041572],[1993106377,2208710711,1179881486,580666429,2785874755,1369389600,336116513,2051984567],[1722319979,1993106377,2208710711,1179881486,3490118991,2785874755,1369389600,336116513],[4198305097,1722319979,1993106377,2208710711,2164499240,3490118991,2785874755,1369389600]]
def HF:List UInt8:=[100,70,243,176,34,16,50,240,179,59,87,59,40,246,53,113,210,17,245,167,107,12,101,219,197,144,236,238,173,128,7,57]
theorem DY:bk (bm 1)=HF:=(lu (m:=[66,1,1,128,0,0,0,0,0,0,0,0,0,0,0,0,0,0,0,0,0,0,0,0,0,0,0,0,0,0,0,0,0,0,0,0,0,0,0,0,0,0,0,0,0,0,0,0,0,0,0,0,0,0,0,0,0,0,0,0,0,0,0,24]) (w:=HV) (t:=HO) (by decide+kernel) rfl rfl rfl (by decide+kernel) (by decide+kernel)).trans (by decide+kernel)
def H7:List UInt32:=[1124139587,16941056,0,0,0,0,0,0,0,0,0,0,0,0,0,48,3810744195,18907136,3238610208,1342195860,2315533044,759996946,2584106364,2825082794,3780632534,2182307592,1680491018,1313476752,2527729170,3830452708,1381894837,3130175299,1232444601,1889327910,3182576678,3565149627,3800348971,339090578,3050780477,97854861,2781692531,4278943766,4017797749,2474762115,2255184555,1350487740,1900803956,999275052,1107640373,1446613587,4085947598,3158374171,4065327008,2330063767,1246901643,3001339339,713557620,1253248229,309444691,221893369,2859793821,2299060968,3071715676,99404356]
def H4:List (List UInt32):=[[1057589904,1779033703,3144134277,1013904242,3687376101,1359893119,2600822924,528734635],[2330236836,1057589904,1779033703,3144134277,249561725,3687376101,1359893119,2600822924],[2952625882,2330236836,1057589904,1779033703,865584597,249561725,3687376101,1359893119],[2211839873,2952625882,2330236836,1057589904,2501966966,865584597,249561725,3687376101],[1289089281,2211839873,2952625882,2330236836,887231697,2501966966,865584597,249561725],[1289192874,1289089281,2211839873,2952625882,3135962609,887231697,2501966966,865584597],[916623403,1289192874,1289089281,2211839873,3109612191,3135962609,887231697,2501966966],[2451091062,916623403,1289192874,1289089281,40197896,3109612191,3135962609,887231697],[2239294834,2451091062,916623403,1289192874,103872825,40197896,3109612191,3135962609],[601085176,2239294834,2451091062,916623403,2968703906,103872825,40197896,3109612191],[3413854578,601085176,2239294834,2451091062,2657018364,2968703906,103872825,40197896],[1650988189,3413854578,601085176,2239294834,1553445622,2657018364,2968703906,103872825],[3244664986,1650988189,3413854578,601085176,2269109542,1553445622,2657018364,2968703906],[350344466,3244664986,1650988189,3413854578,320837474,2269109542,1553445622,2657018364],[1627290034,350344466,3244664986,1650988189,1092326513,320837474,2269109542,1553445622],[1502232881,1627290034,350344466,3244664986,3468823584,1092326513,320837474,2269109542],[3457802380,1502232881,1627290034,350344466,3349716604,3468823584,1092326513,320837474],[1280799126,3457802380,1502232881,1627290034,3359418660,3349716604,3468823584,1092326513],[289125459,1280799126,3457802380,1502232881,3820807298,3359418660,3349716604,3468823584],[550473630,289125459,1280799126,3457802380,2788603820,3820807298,3359418660,3349716604],[2441531240,550473630,289125459,1280799126,2487508294,2788603820,3820807298,3359418660],[235924764,2441531240,550473630,289125459,79638958,2487508294,2788603820,3820807298],[2821390622,235924764,2441531240,550473630,1677650773,79638958,2487508294,2788603820],[2981348562,2821390622,235924764,2441531240,997690261,1677650773,79638958,2487508294],[3246309241,2981348562,2821390622,235924764,1693422423,997690261,1677650773,79638958],[2782565069,3246309241,2981348562,2821390622,2705504097,1693422423,997690261,1677650773],[3050952480,2782565069,3246309241,2981348562,649692277,2705504097,1693422423,997690261],[1231532091,3050952480,2782565069,3246309241,1645315027,649692277,2705504097,1693422423],[403846042,1231532091,3050952480,2782565069,1718752980,1645315027,649692277,2705504097],[3680510200,403846042,1231532091,3050952480,365747316,1718752980,1645315027,649692277],[2850954302,3680510200,403846042,1231532091,1422430802,365747316,1718752980,1645315027],[1551427412,2850954302,3680510200,403846042,411055101,1422430802,365747316,1718752980],[1624128134,1551427412,2850954302,3680510200,3512122945,411055101,1422430802,365747316],[184953684,1624128134,1551427412,2850954302,143490275,3512122945,411055101,1422430802],[1338214341,184953684,1624128134,1551427412,1888941543,143490275,3512122945,411055101],[3688828661,1338214341,184953684,1624128134,2295087027,1888941543,143490275,3512122945],[1088629599,3688828661,1338214341,184953684,3632761830,2295087027,1888941543,143490275],[846324263,1088629599,3688828661,1338214341,3947187417,3632761830,2295087027,1888941543],[1008002537,846324263,1088629599,3688828661,515361640,3947187417,3632761830,2295087027],[3858954506,1008002537,846324263,1088629599,1570023267,515361640,3947187417,3632761830],[998071185,3858954506,1008002537,846324263,3424387064,1570023267,515361640,3947187417],[2823007980,998071185,3858954506,1008002537,895995303,3424387064,1570023267,515361640],[3069835281,2823007980,998071185,3858954506,4110206827,895995303,3424387064,1570023267],[923220316,3069835281,2823007980,998071185,398239941,4110206827,895995303,3424387064],[3184211690,923220316,3069835281,2823007980,1732236141,398239941,4110206827,895995303],[689804862,3184211690,923220316,3069835281,3835265982,1732236141,398239941,4110206827],[488756834,689804862,3184211690,923220316,1226687022,3835265982,1732236141,398239941],[738821552,488756834,689804862,3184211690,1929778112,1226687022,3835265982,1732236141],[2968668012,738821552,488756834,689804862,1092494996,1929778112,1226687022,3835265982],[3373777451,2968668012,738821552,488756834,3620662399,1092494996,1929778112,1226687022],[3237603739,3373777451,2968668012,738821552,2046091717,3620662399,1092494996,1929778112],[2839057249,3237603739,3373777451,2968668012,3104326460,2046091717,3620662399,1092494996],[3656148329,2839057249,3237603739,3373777451,2929065458,3104326460,2046091717,3620662399],[2677316219,3656148329,2839057249,3237603739,2987592159,2929065458,3104326460,2046091717],[398776029,2677316219,3656148329,2839057249,3635542219,2987592159,2929065458,3104326460],[2032015724,398776029,2677316219,3656148329,2723075718,3635542219,2987592159,2929065458],[2546740428,2032015724,398776029,2677316219,2766272617,2723075718,3635542219,2987592159],[3557301658,2546740428,2032015724,398776029,3903591484,2766272617,2723075718,3635542219],[2209589700,3557301658,2546740428,2032015724,1288279647,3903591484,2766272617,2723075718],[788646974,2209589700,3557301658,2546740428,1881657852,1288279647,3903591484,2766272617],[4199117116,788646974,2209589700,3557301658,504503469,1881657852,1288279647,3903591484],[3445242612,4199117116,788646974,2209589700,1672409445,504503469,1881657852,1288279647],[3197903022,3445242612,4199117116,788646974,3337296605,1672409445,504503469,1881657852],[3373711470,3197903022,3445242612,4199117116,527439296,3337296605,1672409445,504503469]]
def HH:List UInt8:=[51,32,166,213,122,3,207,51,9,201,46,102,159,153,102,118,112,126,104,63,97,240,131,105,131,50,203,16,121,242,233,198]
theorem Fj:bk (bm 2)=HH:=(lu (m:=[67,1,2,67,1,2,128,0,0,0,0,0,0,0,0,0,0,0,0,0,0,0,0,0,0,0,0,0,0,0,0,0,0,0,0,0,0,0,0,0,0,0,0,0,0,0,0,0,0,0,0,0,0,0,0,0,0,0,0,0,0,0,0,48]) (w:=H7) (t:=H4) (by decide+kernel) rfl rfl rfl (by decide+kernel) (by decide+kernel)).trans (by decide+kernel)
def HZ:List UInt32:=[1140917060,16991233,58720256,0,0,0,0,0,0,0,0,0,0,0,0,72,388182412,27739361,41042361,1257031990,1760247271,4256126745,4183122927,1483988035,526097337,2553421177,161039318,3055628671,2269313736,3088255367,178413635,3689017700,1049657886,3020784591,1633468929,1352163298,333438537,3297703059,1691286498,3542784866,3714428513,374239595,1660205554,4294149558,4056242316,4001770671,2479578727,2825521600,47514449,2606633742,1549601676,1978401328,2839736375,1346797053,2894866791,2061679664,1396136360,1125379689,3024278158,2249711822,1047373075,2990048713,2332048730,815665083]
def HX:List (List UInt32):=[[1074367377,1779033703,3144134277,1013904242,3704153574,1359893119,2600822924,528734635],[3176516285,1074367377,1779033703,3144134277,1695868930,3704153574,1359893119,2600822924],[26902674,3176516285,1074367377,1779033703,3882218862,1695868930,3704153574,1359893119],[1293634117,26902674,3176516285,1074367377,3340157221,3882218862,1695868930,3704153574],[2940876474,1293634117,26902674,3176516285,1978812471,3340157221,3882218862,1695868930],[3962731527,2940876474,1293634117,26902674,1704011504,1978812471,3340157221,3882218862],[4163118845,3962731527,2940876474,1293634117,970999910,1704011504,1978812471,3340157221],[23667932,4163118845,3962731527,2940876474,2296707300,970999910,1704011504,1978812471],[587437523,23667932,4163118845,3962731527,1745122613,2296707300,970999910,1704011504],[2355125510,587437523,23667932,4163118845,4016243276,1745122613,2296707300,970999910],[1576112430,2355125510,587437523,23667932,2321298403,4016243276,1745122613,2296707300],[2317307709,1576112430,2355125510,587437523,2782702691,2321298403,4016243276,1745122613],[2227224665,2317307709,1576112430,2355125510,3036382177,2782702691,2321298403,4016243276],[2484213650,2227224665,2317307709,1576112430,849560408,3036382177,2782702691,2321298403],[210113958,2484213650,2227224665,2317307709,2492919959,849560408,3036382177,2782702691],[1527116642,210113958,2484213650,2227224665,710652834,2492919959,849560408,3036382177],[3368503794,1527116642,210113958,2484213650,392414478,710652834,2492919959,849560408],[4167440128,3368503794,1527116642,210113958,1668316491,392414478,710652834,2492919959],[3852417662,4167440128,3368503794,1527116642,4221286321,1668316491,392414478,710652834],[4228943466,3852417662,4167440128,3368503794,1473662058,4221286321,1668316491,392414478],[2073985712,4228943466,3852417662,4167440128,3118810442,1473662058,4221286321,1668316491],[3750929690,2073985712,4228943466,3852417662,1760261098,3118810442,1473662058,4221286321],[136781122,3750929690,2073985712,4228943466,411931353,1760261098,3118810442,1473662058],[2595776544,136781122,3750929690,2073985712,1187373872,411931353,1760261098,3118810442],[2160957157,2595776544,136781122,3750929690,3685719794,1187373872,411931353,1760261098],[415342372,2160957157,2595776544,136781122,2388800008,3685719794,1187373872,411931353],[2167988794,415342372,2160957157,2595776544,4146737074,2388800008,3685719794,1187373872],[3327806631,2167988794,415342372,2160957157,2385920854,4146737074,2388800008,3685719794],[1508940369,3327806631,2167988794,415342372,1556816942,2385920854,4146737074,2388800008],[746713584,1508940369,3327806631,2167988794,1026234986,1556816942,2385920854,4146737074],[3878429258,746713584,1508940369,3327806631,2553107154,1026234986,1556816942,2385920854],[1786591995,3878429258,746713584,1508940369,2820782819,2553107154,1026234986,1556816942],[2317605531,1786591995,3878429258,746713584,2083999988,2820782819,2553107154,1026234986],[1069545557,2317605531,1786591995,3878429258,3369461210,2083999988,2820782819,2553107154],[106680318,1069545557,2317605531,1786591995,1352704089,3369461210,2083999988,2820782819],[2522343208,106680318,1069545557,2317605531,1631587852,1352704089,3369461210,2083999988],[1735625500,2522343208,106680318,1069545557,2548665615,1631587852,1352704089,3369461210],[1172465236,1735625500,2522343208,106680318,4030391975,2548665615,1631587852,1352704089],[278953827,1172465236,1735625500,2522343208,625246388,4030391975,2548665615,1631587852],[3800549903,278953827,1172465236,1735625500,1949313866,625246388,4030391975,2548665615],[222237638,3800549903,278953827,1172465236,2082035556,1949313866,625246388,4030391975],[2007279354,222237638,3800549903,278953827,3685678282,2082035556,1949313866,625246388],[3425814698,2007279354,222237638,3800549903,1015629818,3685678282,2082035556,1949313866],[1710021656,3425814698,2007279354,222237638,3385223849,1015629818,3685678282,2082035556],[464726823,1710021656,3425814698,2007279354,2021980220,3385223849,1015629818,3685678282],[1117196338,464726823,1710021656,3425814698,420570052,2021980220,3385223849,1015629818],[246283186,1117196338,464726823,1710021656,1236374124,420570052,2021980220,3385223849],[3567535223,246283186,1117196338,464726823,1174675876,1236374124,420570052,2021980220],[599506119,3567535223,246283186,1117196338,2973969487,1174675876,1236374124,420570052],[4174349155,599506119,3567535223,246283186,1955833916,2973969487,1174675876,1236374124],[2327326573,4174349155,599506119,3567535223,3449093489,1955833916,2973969487,1174675876],[2904652266,2327326573,4174349155,599506119,3716818634,3449093489,1955833916,2973969487],[1125555086,2904652266,2327326573,4174349155,3694038821,3716818634,3449093489,1955833916],[4158895903,1125555086,2904652266,2327326573,1319728953,3694038821,3716818634,3449093489],[3163540978,4158895903,1125555086,2904652266,2487817420,1319728953,3694038821,3716818634],[2468231903,3163540978,4158895903,1125555086,1228289851,2487817420,1319728953,3694038821],[1043680106,2468231903,3163540978,4158895903,2129379087,1228289851,2487817420,1319728953],[1013009554,1043680106,2468231903,3163540978,1949609007,2129379087,1228289851,2487817420],[433104357,1013009554,1043680106,2468231903,695152670,1949609007,2129379087,1228289851],[133114063,433104357,1013009554,1043680106,852533809,695152670,1949609007,2129379087],[4131030619,133114063,433104357,1013009554,3681409961,852533809,695152670,1949609007],[2667475899,4131030619,133114063,433104357,2652675044,3681409961,852533809,695152670],[696760596,2667475899,4131030619,133114063,682407608,2652675044,3681409961,852533809],[34514896,696760596,2667475899,4131030619,1863985830,682407608,2652675044,3681409961]]
def HA:List UInt8:=[108,24,142,55,228,239,103,153,219,109,103,45,155,138,123,149,192,40,125,37,195,178,31,68,189,160,117,143,55,78,168,194]
theorem DW:bk (bm 3)=HA:=(lu (m:=[68,1,3,68,1,3,68,1,3,128,0,0,0,0,0,0,0,0,0,0,0,0,0,0,0,0,0,0,0,0,0,0,0,0,0,0,0,0,0,0,0,0,0,0,0,0,0,0,0,0,0,0,0,0,0,0,0,0,0,0,0,0,0,72]) (w:=HZ) (t:=HX) (by decide+kernel) rfl rfl rfl (by decide+kernel) (by decide+kernel)).trans (by decide+kernel)
def H9:List UInt32:=[1157694533,17057025,71631108,2147483648,0,0,0,0,0,0,0,0,0,0,0,96,1482933424,1241608244,2954715344,370027548,475941205,3548908109,3985062550,1556051559,3290708721,101042917,2955280308,2022566917,327733686,958622402,2411765748,921434055,4167693370,1855320601,2671403633,2899406949,1444433080,4163654709,1829314888,3950801097,2680592831,1544625443,2074687057,3590621697,597181596,1505529371,458483992,3313405381,565098904,3924790625,2215728022,1892783026,2506497494,3831278732,2458352844,2613239268,3859052678,4120955187,3687966388,369149225,4122030787,798167293,2792361242,805199733]
def HN:List (List UInt32):=[[1091144850,1779033703,3144134277,1013904242,3720931047,1359893119,2600822924,528734635],[3401082888,1091144850,1779033703,3144134277,3376122503,3720931047,1359893119,2600822924],[3716357130,3401082888,1091144850,1779033703,3147329954,3376122503,3720931047,1359893119],[527271158,3716357130,3401082888,1091144850,1688755943,3147329954,3376122503,3720931047],[3425570780,527271158,3716357130,3401082888,387337784,1688755943,3147329954,3376122503],[1328571049,3425570780,527271158,3716357130,1189555228,387337784,1688755943,3147329954],[3408161992,1328571049,3425570780,527271158,3530472897,1189555228,387337784,1688755943],[1942557634,3408161992,1328571049,3425570780,4275423411,3530472897,1189555228,387337784],[3870601216,1942557634,3408161992,1328571049,1091799453,4275423411,3530472897,1189555228],[1247752676,3870601216,1942557634,3408161992,1249986958,1091799453,4275423411,3530472897],[2005704911,1247752676,3870601216,1942557634,4267822126,1249986958,1091799453,4275423411],[4251862743,2005704911,1247752676,3870601216,561971277,4267822126,1249986958,1091799453],[2443340809,4251862743,2005704911,1247752676,2282346000,561971277,4267822126,1249986958],[1239795462,2443340809,4251862743,2005704911,285369284,2282346000,561971277,4267822126],[3153088120,1239795462,2443340809,4251862743,473923960,285369284,2282346000,561971277],[2041678935,3153088120,1239795462,2443340809,1094669875,473923960,285369284,2282346000],[1592306524,2041678935,3153088120,1239795462,4222768528,1094669875,473923960,285369284],[616800924,1592306524,2041678935,3153088120,46345821,4222768528,1094669875,473923960],[2388047650,616800924,1592306524,2041678935,3121192213,46345821,4222768528,1094669875],[4273952426,2388047650,616800924,1592306524,693168801,3121192213,46345821,4222768528],[2414662440,4273952426,2388047650,616800924,1213938736,693168801,3121192213,46345821],[3736708841,2414662440,4273952426,2388047650,1787463880,1213938736,693168801,3121192213],[1354243236,3736708841,2414662440,4273952426,1507181073,1787463880,1213938736,693168801],[595113329,1354243236,3736708841,2414662440,838951368,1507181073,1787463880,1213938736],[1795414298,595113329,1354243236,3736708841,2796881229,838951368,1507181073,1787463880],[442558204,1795414298,595113329,1354243236,946481345,2796881229,838951368,1507181073],[3828809881,442558204,1795414298,595113329,1454050548,946481345,2796881229,838951368],[1080107388,3828809881,442558204,1795414298,1475711047,1454050548,946481345,2796881229],[3475436133,1080107388,3828809881,442558204,1514795052,1475711047,1454050548,946481345],[1837673856,3475436133,1080107388,3828809881,1217667437,1514795052,1475711047,1454050548],[3257638147,1837673856,3475436133,1080107388,57324965,1217667437,1514795052,1475711047],[386850232,3257638147,1837673856,3475436133,3513010463,57324965,1217667437,1514795052],[2373373785,386850232,3257638147,1837673856,1109210362,3513010463,57324965,1217667437],[3915488159,2373373785,386850232,3257638147,219065777,1109210362,3513010463,57324965],[3820052636,3915488159,2373373785,386850232,2007813048,219065777,1109210362,3513010463],[4198244564,3820052636,3915488159,2373373785,776993997,2007813048,219065777,1109210362],[1661729329,4198244564,3820052636,3915488159,1017519794,776993997,2007813048,219065777],[3259548611,1661729329,4198244564,3820052636,567270255,1017519794,776993997,2007813048],[2065282662,3259548611,1661729329,4198244564,2940143218,567270255,1017519794,776993997],[661518022,2065282662,3259548611,1661729329,1936980095,2940143218,567270255,1017519794],[3662059444,661518022,2065282662,3259548611,1373060316,1936980095,2940143218,567270255],[864091437,3662059444,661518022,2065282662,3910296922,1373060316,1936980095,2940143218],[1681218179,864091437,3662059444,661518022,93127107,3910296922,1373060316,1936980095],[2679033829,1681218179,864091437,3662059444,2090560620,93127107,3910296922,1373060316],[435481691,2679033829,1681218179,864091437,412994425,2090560620,93127107,3910296922],[2440004148,435481691,2679033829,1681218179,807868360,412994425,2090560620,93127107],[1640009882,2440004148,435481691,2679033829,2685362932,807868360,412994425,2090560620],[1200042080,1640009882,2440004148,435481691,3060808838,2685362932,807868360,412994425],[1978906896,1200042080,1640009882,2440004148,3221136380,3060808838,2685362932,807868360],[3789036759,1978906896,1200042080,1640009882,4066963181,3221136380,3060808838,2685362932],[1148192741,3789036759,1978906896,1200042080,3248687549,4066963181,3221136380,3060808838],[2143515582,1148192741,3789036759,1978906896,3006320353,3248687549,4066963181,3221136380],[2284109871,2143515582,1148192741,3789036759,2289731133,3006320353,3248687549,4066963181],[2969166764,2284109871,2143515582,1148192741,3590057415,2289731133,3006320353,3248687549],[1012186034,2969166764,2284109871,2143515582,4044198402,3590057415,2289731133,3006320353],[382705631,1012186034,2969166764,2284109871,3719572279,4044198402,3590057415,2289731133],[1376333768,382705631,1012186034,2969166764,2686191209,3719572279,4044198402,3590057415],[3755781794,1376333768,382705631,1012186034,738776961,2686191209,3719572279,4044198402],[999002063,3755781794,1376333768,382705631,1891057029,738776961,2686191209,3719572279],[430163461,999002063,3755781794,1376333768,910537433,1891057029,738776961,2686191209],[2426673421,430163461,999002063,3755781794,3452539221,910537433,1891057029,738776961],[594512889,2426673421,430163461,999002063,2911303277,3452539221,910537433,1891057029],[3913270616,594512889,2426673421,430163461,1776725259,2911303277,3452539221,910537433],[3937322967,3913270616,594512889,2426673421,1938106743,1776725259,2911303277,3452539221]]
def HB:List UInt8:=[84,184,174,62,164,167,115,221,95,222,127,107,53,244,14,71,196,147,123,246,4,236,21,151,205,10,208,24,41,170,94,110]
theorem Eu:bk (bm 4)=HB:=(lu (m:=[69,1,4,69,1,4,69,1,4,69,1,4,128,0,0,0,0,0,0,0,0,0,0,0,0,0,0,0,0,0,0,0,0,0,0,0,0,0,0,0,0,0,0,0,0,0,0,0,0,0,0,0,0,0,0,0,0,0,0,0,0,0,0,96]) (w:=H9) (t:=HN) (by decide+kernel) rfl rfl rfl (by decide+kernel) (by decide+kernel)).trans (by decide+kernel)
def HY:List UInt32:=[1174472006,17122817,88473861,1174472064,0,0,0,0,0,0,0,0,0,0,0,120,2577655635,2350601076,3721923420,167302874,83002197,1907637238,297868991,876446517,950496787,1338589013,1690216822,3175514023,4081126744,29988691,3415685839,2143215247,2411765741,1178288788,2011265610,3498442124,2237012830,3124998028,1820871492,1626925787,2556965076,2044513611,450304145,780656460,3771677329,3404485060,1298046685,2821474260,2536625460,3503199596,4082429708,1962723328,545094747,2623036696,2798367542,3543923744,3282434516,3592258802,1041428831,3008631655,678229056,305282415,3000868737,3547768376]
def H5:List (List UInt32):=[[1107922323,1779033703,3144134277,1013904242,3737708520,1359893119,2600822924,528734635],[555264572,1107922323,1779033703,3144134277,1498394887,3737708520,1359893119,2600822924],[3854917243,555264572,1107922323,1779033703,68389883,1498394887,3737708520,1359893119],[1999072993,3854917243,555264572,1107922323,1615868138,68389883,1498394887,3737708520],[3935551999,1999072993,3854917243,555264572,270399930,1615868138,68389883,1498394887],[724912506,3935551999,1999072993,3854917243,2859092336,270399930,1615868138,68389883],[796201445,724912506,3935551999,1999072993,2512995085,2859092336,270399930,1615868138],[2062979530,796201445,724912506,3935551999,3056931648,2512995085,2859092336,270399930],[3939962445,2062979530,796201445,724912506,3746325557,3056931648,2512995085,2859092336],[188882617,3939962445,2062979530,796201445,1989981158,3746325557,3056931648,2512995085],[1705874349,188882617,3939962445,2062979530,1793740086,1989981158,3746325557,3056931648],[3945020464,1705874349,188882617,3939962445,2282009404,1793740086,1989981158,3746325557],[527303671,3945020464,1705874349,188882617,1398955530,2282009404,1793740086,1989981158],[1220875487,527303671,3945020464,1705874349,2221832179,1398955530,2282009404,1793740086],[3263204081,1220875487,527303671,3945020464,2083621739,2221832179,1398955530,2282009404],[2569529046,3263204081,1220875487,527303671,344075869,2083621739,2221832179,1398955530],[1021424452,2569529046,3263204081,1220875487,2221131126,344075869,2083621739,2221832179],[1844713340,1021424452,2569529046,3263204081,172158552,2221131126,344075869,2083621739],[3080109023,1844713340,1021424452,2569529046,3412980660,172158552,2221131126,344075869],[201567586,3080109023,1844713340,1021424452,4248794176,3412980660,172158552,2221131126],[2872749190,201567586,3080109023,1844713340,3554712791,4248794176,3412980660,172158552],[2834387455,2872749190,201567586,3080109023,1133040477,3554712791,4248794176,3412980660],[1562511574,2834387455,2872749190,201567586,3422431609,1133040477,3554712791,4248794176],[906792154,1562511574,2834387455,2872749190,1057292053,3422431609,1133040477,3554712791],[972620793,906792154,1562511574,2834387455,3484527639,1057292053,3422431609,1133040477],[1120155305,972620793,906792154,1562511574,4174713853,3484527639,1057292053,3422431609],[3138739286,1120155305,972620793,906792154,4031356851,4174713853,3484527639,1057292053],[769529145,3138739286,1120155305,972620793,252949959,4031356851,4174713853,3484527639],[1851641733,769529145,3138739286,1120155305,3784880188,252949959,4031356851,4174713853],[2579086735,1851641733,769529145,3138739286,1553891949,3784880188,252949959,4031356851],[3634367821,2579086735,1851641733,769529145,2029203278,1553891949,3784880188,252949959],[2608809179,3634367821,2579086735,1851641733,1412422486,2029203278,1553891949,3784880188],[3976489545,2608809179,3634367821,2579086735,2224605022,1412422486,2029203278,1553891949],[1020121636,3976489545,2608809179,3634367821,3300650597,2224605022,1412422486,2029203278],[1067613549,1020121636,3976489545,2608809179,2979743325,3300650597,2224605022,1412422486],[3629543176,1067613549,1020121636,3976489545,148660928,2979743325,3300650597,2224605022],[3195938740,3629543176,1067613549,1020121636,1456249025,148660928,2979743325,3300650597],[3147928308,3195938740,3629543176,1067613549,1330924807,1456249025,148660928,2979743325],[4162932925,3147928308,3195938740,3629543176,1044855575,1330924807,1456249025,148660928],[2707282164,4162932925,3147928308,3195938740,1089327747,1044855575,1330924807,1456249025],[511720407,2707282164,4162932925,3147928308,2336941121,1089327747,1044855575,1330924807],[2734734655,511720407,2707282164,4162932925,2359906480,2336941121,1089327747,1044855575],[185371910,2734734655,511720407,2707282164,1550014982,2359906480,2336941121,1089327747],[300620288,185371910,2734734655,511720407,3481326292,1550014982,2359906480,2336941121],[3468679402,300620288,185371910,2734734655,1915039260,3481326292,1550014982,2359906480],[3029113298,3468679402,300620288,185371910,3225654801,1915039260,3481326292,1550014982],[2026169738,3029113298,3468679402,300620288,2639270156,3225654801,1915039260,3481326292],[3303871904,2026169738,3029113298,3468679402,945192752,2639270156,3225654801,1915039260],[643798827,3303871904,2026169738,3029113298,3622238592,945192752,2639270156,3225654801],[4214868284,643798827,3303871904,2026169738,1013338549,3622238592,945192752,2639270156],[342733707,4214868284,643798827,3303871904,380087168,1013338549,3622238592,945192752],[16996030,342733707,4214868284,643798827,2682582357,380087168,1013338549,3622238592],[3237077793,16996030,342733707,4214868284,2638053597,2682582357,380087168,1013338549],[1768304600,3237077793,16996030,342733707,3045002533,2638053597,2682582357,380087168],[2218582915,1768304600,3237077793,16996030,1528925684,3045002533,2638053597,2682582357],[1052737880,2218582915,1768304600,3237077793,1890639230,1528925684,3045002533,2638053597],[3773763218,1052737880,2218582915,1768304600,2050414731,1890639230,1528925684,3045002533],[2998255097,3773763218,1052737880,2218582915,113629920,2050414731,1890639230,1528925684],[1467956937,2998255097,3773763218,1052737880,3546642523,113629920,2050414731,1890639230],[69021763,1467956937,2998255097,3773763218,4033814956,3546642523,113629920,2050414731],[171166681,69021763,1467956937,2998255097,2634497209,4033814956,3546642523,113629920],[1546963208,171166681,69021763,1467956937,893355256,2634497209,4033814956,3546642523],[2469774181,1546963208,171166681,69021763,1376994897,893355256,2634497209,4033814956],[1901195306,2469774181,1546963208,171166681,2991379945,1376994897,893355256,2634497209]]
def HJ:List UInt8:=[219,91,214,145,78,157,113,234,152,163,188,122,175,131,193,19,3,91,40,104,237,24,174,221,84,195,94,163,248,232,9,210]
theorem ET:bk (bm 5)=HJ:=(lu (m:=[70,1,5,70,1,5,70,1,5,70,1,5,70,1,5,128,0,0,0,0,0,0,0,0,0,0,0,0,0,0,0,0,0,0,0,0,0,0,0,0,0,0,0,0,0,0,0,0,0,0,0,0,0,0,0,0,0,0,0,0,0,0,0,120]) (w:=HY) (t:=H5) (by decide+kernel) rfl rfl rfl (by decide+kernel) (by decide+kernel)).trans (by decide+kernel)
def Hc:List (List UInt8):=[HK,HF,HH,HA,HB,HJ]
theorem rf{k:Nat}(h:k<6):bk (bm k)=Hc.getD k []:=by
 match k,h with
 |0,_=>exact Ed
 |1,_=>exact DY
 |2,_=>exact Fj
 |3,_=>exact DW
 |4,_=>exact Eu
 |5,_=>exact ET
theorem CU:∀i<6,∀j<6,Hc.getD i []=Hc.getD j []→i=j:=by decide+kernel
theorem xA{i j:Nat}(hi:i<6)(hj:j<6)(h:bk (bm i)=bk (bm j)):i=j:=CU i hi j hj (by rw[←rf hi,←rf hj,h])
end Go.Hx
end
section
set_option maxRecDepth 20000
set_option maxHeartbeats 4000000
namespace Go.Proofs.YtmibdabdlgmafaaGreatDoor
open Go.Eng Go.Hx
theorem uT{k:Nat}(hk:k<6):fill [UInt8.ofNat (65+k),1,UInt8.ofNat k] (3*k)=bm k:=by
 match k,hk with
 |0,_=>decide
 |1,_=>decide
 |2,_=>decide
 |3,_=>decide
 |4,_=>decide
 |5,_=>decide
theorem mf{z:Int}{k:Nat}(h0:-9223372036854775808≤z∧z≤9223372036854775807)(hz:ef z 6=(k:Int))(hk:k<6):ck Tryz.prog 27 [.int .i64 z] [] [] (fun v_ X_ S_=>∃v,v_=v∧X_=[aG 5 1 v (3*k) (aV (bm k))]∧S_=[]):=by
 refine aP (N:=15) Tryz.func27 rfl rfl (by simp) fun b=> ?_
 refine ah<|aj<|hy (fun _=>ab rfl)<|ai<|ag<|ah<|aj<|hy (fun _=>aa rfl)<| ?_
 refine hx (aq rfl Tryz.call16 (sa (by omega) (by omega) (by omega)) [] rfl [] rfl ?_)
 rintro _ _ _ ⟨rfl,rfl,rfl⟩
 rw[hz]
 refine hy (fun _=>ab rfl)<|ai<|al (ρ' :=[(3,_),(2,_),(0,_)]) ⟨rfl,rfl,rfl,trivial⟩<|ak (X' :=[]) (S' :=[]) (fun _ m=>m)<|ag<|ah<|aj<|hy (fun _=>aa rfl)<|hy (fun _=>yV (aM rfl rfl (bG (by omega) (by omega))) ((show Value.int .i64 ((65:Int)+(k:Int))= .int .i64 ((65+k:Nat):Int) by congr 1)))<|hy (fun _=>yV (bX rfl Tryz.underlying3 Tryz.underlying5 (gX (65+k))) ((show Value.int .u8 _=B8 (UInt8.ofNat (65+k))from rfl)))<|hy (fun _=>aa rfl)<|hy (fun _=>yV (bX rfl Tryz.underlying3 Tryz.underlying5 (gX k)) ((show Value.int .u8 _=B8 (UInt8.ofNat k)from rfl)))<| ?_
 refine hx (b5 Tryz.underlying27 fa rfl rfl rfl (by simp[Value.cells,B8]) (by decide) (by decide) (fun g11=> ?_))
 have hA_b11:0<3→(some (⟨g11,0,none⟩:Addr))≠none:=fun _ h=>by cases h
 refine hy (fun _=>aa rfl)<|hy (fun _=>yV (fB rfl rfl (bG (by omega) (by omega))) ((show Value.int .i64 ((3:Int)*(k:Int))= .int .i64 ((3*k:Nat):Int)from rfl)))<| ?_
 refine aO (fun w m=>m.bQ 0 rfl (show _=aG 5 1 (.slice (some ⟨g11,0,none⟩) 3 3) 3 (aV [UInt8.ofNat (65+k),1,UInt8.ofNat k])from rfl)) ?_
 refine hx (cM rfl Tryz.call101 (F5 (show 3≤140737488351232 by decide) (show 3*k≤1000000 by omega) (l:=[UInt8.ofNat (65+k),1,UInt8.ofNat k])) [] rfl (.x 0 rfl .own .nil) ?_)
 rintro _ _ _ ⟨v,rfl,rfl,rfl⟩
 refine⟨rfl, ?_⟩
 refine aA (fun m=>(m.own 0 rfl).slice) ?_
 rintro⟨A_x,c_x,rfl,hc_x⟩
 refine aA (fun m=>(m.ord 0 rfl).2.1) fun hA_x=> ?_
 refine hy (fun _=>ab rfl)<|ai<|al (ρ' :=[(2,_),(3,_),(0,_)]) ⟨rfl,rfl,rfl,trivial⟩<|ak (X' :=[_,_]) (S' :=[]) (fun _ m=>m)<|ag<|aX<| ?_
 rw[uT hk]
 exact bg trivial rfl rfl [0] rfl [] rfl ⟨_,rfl,rfl,rfl⟩
theorem o6{z:Int}{k:Nat}(h0:-9223372036854775808≤z∧z≤9223372036854775807)(hz:ef z 6=(k:Int))(hk:k<6):ck Tryz.prog 30 [.int .i64 z] [] [fh] (fun v_ X_ S_=>v_=(.agg (aV (bk (bm k))).toArray)∧X_=[]∧S_=[]):=by
 have h32:(aV (bk (bm k))).length=32:=by rw[az,br]
 refine aP (N:=6) Tryz.func30 rfl rfl (by simp) fun b=> ?_
 refine ah<|aj<| ?_
 refine hx (aN cS (fun g2=> ?_))
 refine ai<|ak (X' :=[_]) (S' :=[_]) (fun _ m=>m)<|ag<|ah<|aj<|hy (fun _=>aa rfl)<| ?_
 refine hx (aq rfl Tryz.call27 (mf h0 hz hk) [] rfl [] rfl ?_)
 rintro _ _ _ ⟨v,rfl,rfl,rfl⟩
 refine aA (fun m=>(m.own 0 rfl).slice) ?_
 rintro⟨A_x,c_x,rfl,hc_x⟩
 refine aA (fun m=>(m.ord 0 rfl).2.1) fun hA_x=> ?_
 refine hx (cM rfl Tryz.call56 (qI (by omega)) [] rfl (.x 0 rfl .own .nil) ?_)
 rintro _ _ _ ⟨rfl,rfl,rfl⟩
 refine⟨rfl, ?_⟩
 refine cL (aJ 1 rfl rfl rfl bf h32 aZ rfl ?_)
 refine ai<|al (ρ' :=[(2,_),(0,_)]) ⟨rfl,rfl,trivial⟩<|ak (X' :=[_,_]) (S' :=[_]) (fun _ m=>m)<|ag<|aX<| ?_
 exact fl trivial rfl rfl b9 bf h32 (fun m=>(m.a6 0 rfl).ax) [] rfl [] rfl ⟨rfl,rfl,rfl⟩
end Go.Proofs.YtmibdabdlgmafaaGreatDoor
end
section
set_option maxRecDepth 20000
namespace Go.Proofs.YtmibdabdlgmafaaGreatDoor
open Go.Eng Go.Hx
theorem fZ(d:RD):j8 (bw d):=fun x hx=>by
 obtain⟨p,_,h⟩:=List.mem_filterMap.1 hx
 rw[←jI]at h
 exact(ez h).1
end Go.Proofs.YtmibdabdlgmafaaGreatDoor
end
section
set_option maxRecDepth 20000
set_option maxHeartbeats 4000000
namespace Go.Proofs.YtmibdabdlgmafaaGreatDoor
open Go.Eng Go.Hx
theorem iz(d:RD):(bw d).length≤d.seen.length:=by
 unfold bw
 have:=List.length_filterMap_le jF (d.seen.map (·.1))
 rwa [List.length_map]at this
end Go.Proofs.YtmibdabdlgmafaaGreatDoor
end
section
set_option maxRecDepth 20000
set_option maxHeartbeats 4000000
namespace Go.Proofs.YtmibdabdlgmafaaGreatDoor
open Go.Eng Go.Hx
theorem vC{A B:Option Addr}{n c m:Nat}{ds:List (List UInt8)}(hD:j8 ds)(hn:n≤1000000):ck Tryz.prog 19 [.slice A n c,.slice B n m] [] [dr 32 A n (dc ds),dr 32 B n (dc ds)] (fun v_ X_ S_=>v_=(.bool true)∧X_=[]∧S_=[]):=by
 refine aP (N:=26) Tryz.func19 rfl rfl (by simp) fun b=> ?_
 refine aY (fun m=>gE (m.rd 0 rfl)) ?_
 rintro⟨hl_r,hA_r⟩
 refine aY (fun m=>gE (m.rd 1 rfl)) ?_
 rintro⟨hl_q,hA_q⟩
 refine aY (fun m=>A8 (m.rd 0 rfl) hD) fun hln=> ?_
 refine ah<|aj<|hy (fun _=>ab rfl)<|ai<|ag<|ah<|ah<|aj<|hy (fun _=>aa rfl)<|hy (fun _=>aS rfl Tryz.underlying33)<|hy (fun _=>aa rfl)<|hy (fun _=>aS rfl Tryz.underlying33)<|hy (fun _=>db rfl rfl)<|ai<|al (ρ' :=[(10,_),(4,_),(0,_),(1,_)]) ⟨rfl,rfl,rfl,rfl,trivial⟩<|ag<| ?_
 refine dB rfl ((decide_eq_false (by simp))) ?_
 refine aD<|ag<|ah<|ah<|aj<|hy (fun _=>ab rfl)<|ai<|ag<|aI<| ?_
 refine dx (fun i=>n-i) (fun i=>[(5,.int .i64 (i:Nat))]) (fun i=>[]) (fun i=>[]) (fun i=>i≤n) 0 [(10,_),(0,_),(1,_)] ⟨rfl,rfl,rfl,trivial⟩ [] rfl [] rfl (Nat.zero_le _) ⟨rfl,trivial⟩ (fun i hi=> ?_)
 refine ah<|ah<|aj<|hy (fun _=>aa rfl)<|hy (fun _=>aa rfl)<|hy (fun _=>aS rfl Tryz.underlying33)<|hy (fun _=>bq rfl rfl)<|ai<|al (ρ' :=[(14,_),(5,_),(10,_),(0,_),(1,_)]) ⟨rfl,rfl,rfl,rfl,rfl,trivial⟩<|ag<| ?_
 refine cD rfl (fun hlt=> ?_) (fun hlt=> ?_)
 ·have hi2:i<ds.length:=by omega
  have hdk:=eL hD hi2
  have h32:(aV (ds.getD i [])).length=32:=by rw[az,hdk]
  refine aD<|ag<|ah<|aI<|ah<|c5 [] [(0,some 0),(1,some 0),(2,some 0),(3,some 0),(4,some 0),(5,some 0),(6,some 0),(7,some 0),(8,some 0)] (by kernel_rfl) (by kernel_rfl) rfl 99<|an (aa rfl)<|an (aa rfl)<|an (cq rfl rfl Tryz.underlying33 bf hA_r rfl (by omega))<|cr (fun m=>aU rfl b9 bf h32 ((m.rd 0 rfl).im hD hi2))<|an (aa rfl)<|an (aa rfl)<|an (cq rfl rfl Tryz.underlying33 bf hA_q rfl (by omega))<|cr (fun m=>aU rfl b9 bf h32 ((m.rd 1 rfl).im hD hi2))<|an (yF (o1 rfl rfl hdk hdk) ((decide_eq_false (by simp))))<|bD<|al (ρ' :=[(25,_),(14,_),(5,_),(10,_),(0,_),(1,_)]) ⟨rfl,rfl,rfl,rfl,rfl,rfl,trivial⟩<|ag<| ?_
  refine dB rfl (rfl) ?_
  refine aD<|aQ<|ag<|aj<|hy (fun _=>aa rfl)<|hy (fun _=>aM rfl rfl (bG (by omega) (by omega)))<|hy (fun _=>ab rfl)<|ai<|al (ρ' :=[(5,_),(25,_),(14,_),(10,_),(0,_),(1,_)]) ⟨rfl,rfl,rfl,rfl,rfl,rfl,trivial⟩<| ?_
  refine cR (i+1) ⟨rfl,rfl,rfl,rfl,trivial⟩ [] rfl [0,1] rfl ((by omega)) (by omega)
 ·refine bJ<|ao<|ao<|aB<|ag<|ah<|aj<|hy (fun _=>ab rfl)<|ai<|ag<|aX<| ?_
  exact bg trivial rfl rfl [] rfl [] rfl ⟨rfl,rfl,rfl⟩
theorem mQ:∀(l1 l2:List (RD→RD×Int)) (d:RD),cB (l1++l2) d=if(cB l1 d).2≠0 then cB l1 d else cB l2 (cB l1 d).1
 | [],l2,d=>by rw[if_neg (by show¬(0:Int)≠0;decide)];rfl
 |f::r,l2,d=>by
  rw[List.cons_append,cB,cB]
  by_cases h:(f d).2≠0
  ·rw[if_pos h,if_pos h,if_pos h]
  ·rw[if_neg h,if_neg h]
   exact mQ r l2 (f d).1
end Go.Proofs.YtmibdabdlgmafaaGreatDoor
end
section
set_option maxRecDepth 20000
set_option maxHeartbeats 4000000
namespace Go.Proofs.YtmibdabdlgmafaaGreatDoor
open Go.Eng Go.Hx
theorem uD{acc:List (List UInt8)}{p:List UInt8}(h:dI acc):dI (jQ acc p):=by
 unfold jQ
 split
 ·exact k4 _ _ h
 ·exact h
theorem np:∀(l acc:List (List UInt8)),dI acc→dI (l.foldl jQ acc)
 | [],acc,h=>h
 |p::r,acc,h=>np r _ (uD h)
theorem jB{d:RD}(h:lQ d.seen):dI (bw d):=by
 rw[←qe h]
 exact np _ _ List.Pairwise.nil
theorem kh{l:List (List UInt8)}(h:dI l):l.Nodup:=h.imp fun{a b} hab e=>by
 subst e
 rw[mM]at hab
 omega
theorem sI{l m:List (List UInt8)}(hp:l.Perm m)(hs:dI m):j4 l=m:=
 dI.ext (tj (hp.nodup_iff.2 (kh hs))) hs fun x=>by rw[(jT l).mem_iff,hp.mem_iff]
def bV(ns kp:List (List UInt8)):List (List UInt8):=ns.filter fun d=>decide (¬d∈kp)
theorem rl{ns kp kp' :List (List UInt8)}(h:∀x,x∈kp↔x∈kp'):bV ns kp=bV ns kp' :=by
 unfold bV
 congr 1
 funext d
 rw[decide_eq_decide,h]
theorem j6{ns kp:List (List UInt8)}(h:dI ns):dI (bV ns kp):=h.filter _
theorem lh{ns kp:List (List UInt8)}(h:j8 ns):j8 (bV ns kp):=fun d hd=>h d (List.mem_filter.1 hd).1
theorem lx{ns kp:List (List UInt8)}:(bV ns kp).length≤ns.length:=List.length_filter_le _ _
def tv(k:Dg):Dg×Value:=(k,.bool true)
theorem EB{l:List Dg}{k:Dg}(h:¬k∈l):c9 (l.map tv) k (.bool true)=(l++[k]).map tv:=by
 have:cm (l.map tv) k=none:=jW.2 (by simpa[cp,tv,Function.comp_def]using h)
 rw[mG this,List.map_append];rfl
theorem Am:∀(l:List Dg) (k:Dg),eO (l.map tv) k=(l.erase k).map tv
 | [],k=>rfl
 |a::r,k=>by
  have ih:=Am r k
  by_cases h:a=k
  ·subst h;simp[tv,eO]
  ·have h2:(a == k)=false:=beq_false_of_ne h
   rw[List.erase_cons,h2,List.map_cons]
   show eO ((a,_)::r.map tv) k=_
   unfold eO
   rw[if_neg h,ih];rfl
theorem CV{ds:List (List UInt8)}(h:j8 ds):∃l:List Dg,l.map (·.1)=ds:=by
 induction ds with
 |nil=>exact⟨[],rfl⟩
 |cons d r ih=>
  obtain⟨l,hl⟩:=ih (fun x hx=>h x (List.mem_cons_of_mem _ hx))
  exact⟨⟨d,h d (List.mem_cons_self ..)⟩::l,by rw[List.map_cons,hl]⟩
def yx(k:Dg):List UInt8:=k.1
theorem Cv(l:List Dg):j8 (l.map yx):=fun d hd=>by
 obtain⟨x,_,rfl⟩:=List.mem_map.1 hd
 exact x.2
theorem yq{l:List Dg}:(l.map yx).Nodup↔l.Nodup:=by
 constructor
 ·exact fun h=>List.Pairwise.of_map _ (fun a b hab e=>hab (by rw[e])) h
 ·exact fun h=>List.Pairwise.map _ (fun a b hab e=>hab (Subtype.ext e)) h
theorem yZ{l:List Dg}{i:Nat}{k:Dg}(h:l[i]? =some k):(l.map yx).getD i []=k.1:=by
 obtain⟨hi,rfl⟩:=List.getElem?_eq_some_iff.1 h
 simp[List.getD,hi,yx]
theorem Aw{l:List Dg}(hn:l.Nodup){i:Nat}{k:Dg}(h:l[i]? =some k):¬k∈l.take i∧l.take (i+1)=l.take i++[k]:=by
 obtain⟨hi,rfl⟩:=List.getElem?_eq_some_iff.1 h
 have e:=List.take_succ_eq_append_getElem hi
 refine⟨fun hm=> ?_,e⟩
 have h1:(l.take (i+1)).Nodup:=hn.sublist (List.take_sublist _ _)
 rw[e,List.nodup_append]at h1
 exact h1.2.2 _ hm _ (List.mem_singleton.2 rfl) rfl
def jZ(l:List Dg)(kp:List (List UInt8)):List Dg:=l.filter fun k=>decide (¬k.1∈kp)
theorem xQ{l:List Dg}(hn:l.Nodup)(kp:List (List UInt8))(q:Dg):(jZ l kp).erase q=jZ l (kp++[q.1]):=by
 have hn2:(jZ l kp).Nodup:=hn.filter _
 rw[hn2.erase_eq_filter]
 unfold jZ
 rw[List.filter_filter]
 congr 1
 funext k
 by_cases h2:k=q
 ·subst h2;simp
 ·have h3:¬k.1=q.1:=fun e=>h2 (Subtype.ext e)
  simp[h2,h3]
theorem xK{l:List Dg}(hn:l.Nodup){kp:List (List UInt8)}{j:Nat}(hj:j<kp.length)(h32:(kp.getD j []).length=32):(jZ l (kp.take j)).erase ⟨kp.getD j [],h32⟩=jZ l (kp.take (j+1)):=by
 have e:kp.take (j+1)=kp.take j++[kp.getD j []]:=by rw[List.take_succ_eq_append_getElem hj];simp[List.getD,hj]
 rw[xQ hn,e]
theorem yB(l:List Dg)(kp:List (List UInt8)):(jZ l kp).map yx=bV (l.map yx) kp:=by
 unfold jZ bV
 rw[List.filter_map]
 rfl
theorem Gf{left:List Dg}{j:Nat}{x:Dg×Value}(h:(left.map tv)[j]? =some x):∃k,left[j]? =some k∧x=tv k:=by
 rw[List.getElem?_map]at h
 cases hk:left[j]? with
 |none=>rw[hk]at h;cases h
 |some k=>rw[hk]at h;exact⟨k,rfl,(Option.some.inj h).symm⟩
theorem AE(left:List Dg)(j:Nat):(left.map tv).eraseIdx j=(left.eraseIdx j).map tv:=(map_eraseIdx ..).symm
theorem zi{g:Nat}{st:cN}{d:RD}{kk:Nat}{K:Option Addr}{n c:Nat}{L:List IX}(hD:DS st d kk)(hkk:kk≤90000)(hnl:∀x∈d.seen,x.1.length≤1000000)(hL:L.length=n)(hn:n≤100000)(hs:(cg L).length≤100000):ck Tryz.prog 66 [.pointer (some ⟨g,0,none⟩),.slice K n c] [bs g st] [dr 36 K n (nb L),gn (L.map IX.fi)] (fun v_ X_ S_=>∃A1 k c1,v_=(.slice A1 k c1)∧X_=[bs g st,aG 53 32 (.slice A1 k c1) k (dc (bV (bw d) (cg L)))]∧S_=[]∧(k=(bV (bw d) (cg L)).length∧k≤c1)):=by
 have hcd:=fZ d
 have hst:=jB hD.mE.files.ord
 have hlen:(bw d).length≤kk:=Nat.le_trans (iz d) hD.qM.seen
 obtain⟨l,hl⟩:=CV hcd
 have hl:l.map yx=bw d:=hl
 rw[←hl]at hst hcd hlen
 have hll:l.length≤kk:=by rw[List.length_map]at hlen;exact hlen
 have hln:l.Nodup:=yq.1 (kh hst)
 obtain⟨hks,hkm⟩:=jj (cg L) [] List.Pairwise.nil
 have hkm:∀x,x∈(cg L).foldl dz []↔x∈cg L:=fun x=>by rw[hkm x];simp
 have hkD:j8 ((cg L).foldl dz []):=fun x hx=>iJ L x ((hkm x).1 hx)
 have hkl:((cg L).foldl dz []).length≤100000:=by
  have:=(qH (iJ L) (cg L).length).2
  rw[List.take_length]at this
  omega
 rw[←rl hkm]
 refine aP (N:=46) Tryz.func66 rfl rfl (by simp) fun b=> ?_
 refine aY (fun m=>gE (m.rd 0 rfl)) ?_
 rintro⟨hl_r,hA_r⟩
 refine ah<|aj<|hy (fun _=>ab rfl)<|ai<|ag<|ah<|aj<| ?_
 refine hx (nz DK (fun g12=> ?_))
 refine aO (fun w m=>m.bQ 0 rfl (show _=dC DK g12 ((l.take 0).map tv)from rfl)) ?_
 refine hy (fun _=>ab rfl)<|ai<|al (ρ' :=[(5,_),(4,_),(0,_),(1,_)]) ⟨rfl,rfl,rfl,rfl,trivial⟩<|ak (X' :=[_,_]) (S' :=[_,_]) (fun _ m=>m)<|ag<|ah<|ah<|aj<|hy (fun _=>aa rfl)<| ?_
 refine hx (aq rfl Tryz.call20 (EJ hD (by omega) hnl) [1] rfl [] rfl ?_)
 rintro _ _ _ ⟨v,k,rfl,rfl,rfl,hk1⟩
 refine aA (fun m=>(m.own 1 rfl).slice) ?_
 rintro⟨A_o,c_o,rfl,hc_o⟩
 refine aA (fun m=>(m.ord 1 rfl).2.1) fun hA_o=> ?_
 refine hy (fun _=>aS rfl Tryz.underlying33)<|hy (fun _=>aa rfl)<|ai<|al (ρ' :=[(16,_),(15,_),(14,_),(5,_),(4,_),(0,_),(1,_)]) ⟨rfl,rfl,rfl,rfl,rfl,rfl,rfl,trivial⟩<|ak (X' :=[_,_,_]) (S' :=[_,_]) (fun _ m=>m)<|ag<|aI<| ?_
 rw[←hl]at hk1
 rw[←hl]
 rw[List.length_map]at hk1
 subst hk1
 refine dx (fun i=>l.length-i) (fun i=>[(16,.int .i64 (i:Nat))]) (fun i=>[dC DK g12 ((l.take i).map tv)]) (fun i=>[]) (fun i=>i≤l.length) 0 [(15,_),(14,_),(5,_),(4,_),(0,_),(1,_)] ⟨rfl,rfl,rfl,rfl,rfl,rfl,trivial⟩ [2] rfl [] rfl (Nat.zero_le _) ⟨rfl,trivial⟩ (fun i hi=> ?_)
 refine ah<|aj<|hy (fun _=>bq rfl rfl)<|ai<|ag<|ah<| ?_
 refine cD rfl (fun hlt=> ?_) (fun hlt=> ?_)
 ·obtain⟨k,hk⟩:∃k,l[i]? =some k:=⟨_,List.getElem?_eq_getElem (by omega)⟩
  have h32:(aV k.1).length=32:=by rw[az,k.2]
  have hgd:=yZ hk
  obtain⟨hno,htk⟩:=Aw hln hk
  refine aD<|ag<|ah<|aI<|ah<|aj<|hy (fun _=>cq rfl rfl Tryz.underlying33 bf hA_o rfl (by omega))<|hy (fun m=>yV (aU rfl b9 bf (by rw[hgd];exact h32) ((m.ord 2 rfl).im hcd (i:=i) (by rw[List.length_map];omega))) ((show Value.agg (aV ((l.map yx).getD i [])).toArray= .agg (aV k.1).toArray from by rw[hgd])))<| ?_
  refine hx (aN cS (fun g7=> ?_))
  refine cL (aJ 0 rfl rfl rfl bf h32 aZ rfl ?_)
  refine ai<|al (ρ' :=[(7,_),(17,_),(16,_),(15,_),(14,_),(5,_),(4,_),(0,_),(1,_)]) ⟨rfl,rfl,rfl,rfl,rfl,rfl,rfl,rfl,rfl,trivial⟩<|ak (X' :=[_,_,_,_]) (S' :=[_,_]) (fun _ m=>m)<|ag<|aj<|hy (fun _=>aa rfl)<|hy (fun m=>yV (aU rfl b9 bf h32 ((m.a6 0 rfl).ax)) ((rfl:_=DK k)))<| ?_
  refine cL (qc (enc:=DK) 1 rfl rfl rfl rfl Tryz.underlying225 (zH rfl Tryz.underlying53 Tryz.underlying5 (by kernel_rfl) (by kernel_rfl) (by kernel_rfl)) ?_)
  refine ai<|al (ρ' :=[(7,_),(17,_),(16,_),(15,_),(14,_),(5,_),(4,_),(0,_),(1,_)]) ⟨rfl,rfl,rfl,rfl,rfl,rfl,rfl,rfl,rfl,trivial⟩<|ak (X' :=[_,_,_,_]) (S' :=[_,_]) (fun _ m=>m)<|aQ<|ag<|aj<|hy (fun _=>aM rfl rfl (bG (by omega) (by omega)))<|hy (fun _=>aa rfl)<|ai<|al (ρ' :=[(16,_),(7,_),(17,_),(15,_),(14,_),(5,_),(4,_),(0,_),(1,_)]) ⟨rfl,rfl,rfl,rfl,rfl,rfl,rfl,rfl,rfl,trivial⟩<| ?_
  refine ak (fun w m=>m.bQ 0 rfl (show _=dC DK g12 ((l.take (i+1)).map tv)from congrArg (dC DK g12) (by rw[EB hno,htk]))) ?_
  refine cR (i+1) ⟨rfl,rfl,rfl,rfl,rfl,rfl,rfl,trivial⟩ [0,1,1] rfl [0,1] rfl (by omega) (by omega)
 ·obtain rfl:i=l.length:=by omega
  rw[List.take_length]
  refine bJ<|ao<|ao<|aB<|ag<|ah<|ah<|aj<|hy (fun _=>aa rfl)<| ?_
  refine hx (aq rfl Tryz.call146 (xz hL hn hs) [] rfl [0,1] rfl ?_)
  rintro _ _ _ ⟨A1,k2,c1,rfl,rfl,rfl,hk2⟩
  refine hy (fun _=>aS rfl Tryz.underlying33)<|hy (fun _=>aa rfl)<|ai<|al (ρ' :=[(26,_),(25,_),(24,_),(17,_),(16,_),(15,_),(14,_),(5,_),(4,_),(0,_),(1,_)]) ⟨rfl,rfl,rfl,rfl,rfl,rfl,rfl,rfl,rfl,rfl,rfl,trivial⟩<|ak (X' :=[_,_,_,_]) (S' :=[_,_]) (fun _ m=>m)<|ag<|aI<| ?_
  obtain⟨hk2,_⟩:=hk2
  refine aY (fun m=>(m.ord 0 rfl).2.1) fun hA_o2=> ?_
  generalize hkp:(cg L).foldl dz []=kp at hkD hkl hk2 ⊢
  subst hk2
  have hm0:l.map tv=(jZ l (kp.take 0)).map tv:=by
   rw[List.take_zero]
   unfold jZ
   rw[List.filter_eq_self.2 (fun k _=>by simp)]
  rw[hm0]
  refine dx (fun j=>kp.length-j) (fun j=>[(26,.int .i64 (j:Nat))]) (fun j=>[dC DK g12 ((jZ l (kp.take j)).map tv)]) (fun j=>[]) (fun j=>j≤kp.length) 0 [(25,_),(24,_),(17,_),(16,_),(15,_),(14,_),(5,_),(4,_),(0,_),(1,_)] ⟨rfl,rfl,rfl,rfl,rfl,rfl,rfl,rfl,rfl,rfl,trivial⟩ [1] rfl [] rfl (Nat.zero_le _) ⟨rfl,trivial⟩ (fun j hj=> ?_)
  refine ah<|aj<|hy (fun _=>bq rfl rfl)<|ai<|ag<|ah<| ?_
  refine cD rfl (fun hlt2=> ?_) (fun hlt2=> ?_)
  ·have hj2:j<kp.length:=by omega
   have hk3:=eL hkD hj2
   have h32:(aV (kp.getD j [])).length=32:=by rw[az,hk3]
   refine aD<|ag<|ah<|aI<|ah<|aj<|hy (fun _=>cq rfl rfl Tryz.underlying33 bf hA_o2 rfl (by omega))<|hy (fun m=>aU rfl b9 bf h32 ((m.ord 1 rfl).im hkD hj2))<| ?_
   refine hx (aN cS (fun g9=> ?_))
   refine cL (aJ 0 rfl rfl rfl bf h32 aZ rfl ?_)
   refine ai<|al (ρ' :=[(9,_),(27,_),(26,_),(25,_),(24,_),(17,_),(16,_),(15,_),(14,_),(5,_),(4,_),(0,_),(1,_)]) ⟨rfl,rfl,rfl,rfl,rfl,rfl,rfl,rfl,rfl,rfl,rfl,rfl,rfl,trivial⟩<|ak (X' :=[_,_,_,_,_]) (S' :=[_,_]) (fun _ m=>m)<|ag<|aj<|hy (fun _=>aa rfl)<|hy (fun m=>yV (aU rfl b9 bf h32 ((m.a6 0 rfl).ax)) ((rfl:_=DK ⟨kp.getD j [],hk3⟩)))<| ?_
   refine cL (nO (enc:=DK) 1 rfl rfl rfl Tryz.underlying225 (zH rfl Tryz.underlying53 Tryz.underlying5 (by kernel_rfl) (by kernel_rfl) (by kernel_rfl)) ?_)
   refine ai<|al (ρ' :=[(9,_),(27,_),(26,_),(25,_),(24,_),(17,_),(16,_),(15,_),(14,_),(5,_),(4,_),(0,_),(1,_)]) ⟨rfl,rfl,rfl,rfl,rfl,rfl,rfl,rfl,rfl,rfl,rfl,rfl,rfl,trivial⟩<|ak (X' :=[_,_,_,_,_]) (S' :=[_,_]) (fun _ m=>m)<|aQ<|ag<|aj<|hy (fun _=>aM rfl rfl (bG (by omega) (by omega)))<|hy (fun _=>aa rfl)<|ai<|al (ρ' :=[(26,_),(9,_),(27,_),(25,_),(24,_),(17,_),(16,_),(15,_),(14,_),(5,_),(4,_),(0,_),(1,_)]) ⟨rfl,rfl,rfl,rfl,rfl,rfl,rfl,rfl,rfl,rfl,rfl,rfl,rfl,trivial⟩<| ?_
   refine ak (fun w m=>m.bQ 0 rfl (show _=dC DK g12 ((jZ l (kp.take (j+1))).map tv)from congrArg (dC DK g12) (by rw[Am,xK hln hj2 hk3]))) ?_
   refine cR (j+1) ⟨rfl,rfl,rfl,rfl,rfl,rfl,rfl,rfl,rfl,rfl,rfl,trivial⟩ [0,1,1,1] rfl [0,1] rfl (by omega) (by omega)
  ·obtain rfl:j=kp.length:=by omega
   rw[List.take_length]
   have hle:=yB l kp
   generalize hLL:jZ l kp=LL at hle ⊢
   rw[←hle]
   have hsL:dI (LL.map yx):=by rw[hle];exact j6 hst
   have hLlen:LL.length≤kk:=by rw[←hLL];exact Nat.le_trans (List.length_filter_le _ _) hll
   refine bJ<|ao<|ao<|aB<|ag<|ah<|aj<|hy (fun _=>ab rfl)<|ai<|ag<|ah<|ah<|aj<|hy (fun _=>aa rfl)<| ?_
   refine hx (qi 0 rfl rfl Tryz.underlying225 (fun r34=> ?_))
   refine ai<|al (ρ' :=[(34,_),(10,_),(27,_),(26,_),(25,_),(24,_),(17,_),(16,_),(15,_),(14,_),(5,_),(4,_),(0,_),(1,_)]) ⟨rfl,rfl,rfl,rfl,rfl,rfl,rfl,rfl,rfl,rfl,rfl,rfl,rfl,rfl,trivial⟩<|ak (X' :=[_,_,_,_]) (S' :=[_,_]) (fun _ m=>m)<|ag<|aI<| ?_
   refine bx (fun w m=>m.dm (r' :=aG 53 32 (.slice none 0 0) 0 []) (.refl _ _) (Own.nil _ _ _ _) (fun k hk=>hk.elim)) ?_
   refine nP (fun left cur A3 k3 c3 ks=>left.length) (fun left cur A3 k3 c3 ks=>[(10,.slice A3 k3 c3)]) (fun left cur A3 k3 c3 ks=>[aG 53 32 (.slice A3 k3 c3) k3 (dc (ks.map yx)),jY DK r34 g12 (LL.map tv) (left.map tv) cur]) (fun left cur A3 k3 c3 ks=>[]) (fun left cur A3 k3 c3 ks=>k3=ks.length∧(ks++left).Perm LL) LL none none 0 0 ([]:List Dg) [(34,_),(27,_),(26,_),(25,_),(24,_),(17,_),(16,_),(15,_),(14,_),(5,_),(4,_),(0,_),(1,_)] ⟨rfl,rfl,rfl,rfl,rfl,rfl,rfl,rfl,rfl,rfl,rfl,rfl,rfl,trivial⟩ [0,0] rfl [] rfl (⟨rfl,List.Perm.refl _⟩) ⟨rfl,trivial⟩ (fun left cur A3 k3 c3 ks ⟨hkn,hpm⟩=> ?_)
   refine ah<|aj<| ?_
   refine hx (r6 1 rfl rfl (fun h0=> ?_) (fun j2 x hx1=> ?_))
   ·obtain rfl:left=[]:=List.map_eq_nil_iff.1 h0
    rw[List.append_nil]at hpm
    refine hy (fun _=>ar rfl rfl)<|ai<|al (ρ' :=[(36,_),(10,_),(34,_),(27,_),(26,_),(25,_),(24,_),(17,_),(16,_),(15,_),(14,_),(5,_),(4,_),(0,_),(1,_)]) ⟨rfl,rfl,rfl,rfl,rfl,rfl,rfl,rfl,rfl,rfl,rfl,rfl,rfl,rfl,rfl,trivial⟩<|ag<|ah<| ?_
    refine dB rfl (rfl) ?_
    refine aY (fun m=>(Own.rd (m.own 0 rfl)).2.1) fun hcc=> ?_
    have hkl2:=hpm.length_eq
    refine bJ<|ao<|ao<|aB<|ag<|ah<|aj<|hy (fun _=>aa rfl)<| ?_
    refine hx (aq rfl Tryz.call147 (rZ (Cv ks) (by omega)) [0] rfl [] rfl ?_)
    rintro _ _ _ ⟨rfl,rfl,rfl⟩
    rw[sI (hpm.map yx) hsL]
    refine ai<|al (ρ' :=[(36,_),(10,_),(34,_),(27,_),(26,_),(25,_),(24,_),(17,_),(16,_),(15,_),(14,_),(5,_),(4,_),(0,_),(1,_)]) ⟨rfl,rfl,rfl,rfl,rfl,rfl,rfl,rfl,rfl,rfl,rfl,rfl,rfl,rfl,rfl,trivial⟩<|ak (X' :=[_,_,_,_,_]) (S' :=[_,_]) (fun _ m=>m)<|ag<|ah<|aj<|hy (fun _=>aa rfl)<|hy (fun _=>ab rfl)<|ai<|al (ρ' :=[(4,_),(36,_),(10,_),(34,_),(27,_),(26,_),(25,_),(24,_),(17,_),(16,_),(15,_),(14,_),(5,_),(0,_),(1,_)]) ⟨rfl,rfl,rfl,rfl,rfl,rfl,rfl,rfl,rfl,rfl,rfl,rfl,rfl,rfl,rfl,trivial⟩<|ag<|aX<| ?_
    refine ak (fun w m=>m.vr 1 rfl) ?_
    exact bg trivial rfl rfl [3,1] rfl [] rfl ⟨_,_,_,rfl,rfl,rfl,⟨by rw[List.length_map];omega,hcc⟩⟩
   ·obtain⟨kx,hkx,rfl⟩:=Gf hx1
    have h32:(aV kx.1).length=32:=by rw[az,kx.2]
    have hlt3:=(List.getElem?_eq_some_iff.1 hkx).1
    have hp2:(ks++[kx]++left.eraseIdx j2).Perm LL:=by
     rw[List.append_assoc]
     exact((List.Perm.append_left ks (mr hkx)).symm.trans hpm)
    have hkl2:=hpm.length_eq
    rw[List.length_append]at hkl2
    refine hy (fun _=>ar rfl rfl)<|ai<|al (ρ' :=[(36,_),(10,_),(34,_),(27,_),(26,_),(25,_),(24,_),(17,_),(16,_),(15,_),(14,_),(5,_),(4,_),(0,_),(1,_)]) ⟨rfl,rfl,rfl,rfl,rfl,rfl,rfl,rfl,rfl,rfl,rfl,rfl,rfl,rfl,rfl,trivial⟩<|ag<|ah<| ?_
    refine ia rfl (rfl) ?_
    refine aD<|ag<|aI<|ah<|aj<|hy (fun m=>pK rfl (m.DM 0 rfl))<| ?_
    refine hy (fun _=>yV (ar rfl rfl) ((rfl:_=Value.agg (aV kx.1).toArray)))<| ?_
    refine hx (aN cS (fun g11=> ?_))
    refine cL (aJ 0 rfl rfl rfl bf h32 aZ rfl ?_)
    refine ai<|al (ρ' :=[(11,_),(36,_),(10,_),(34,_),(27,_),(26,_),(25,_),(24,_),(17,_),(16,_),(15,_),(14,_),(5,_),(4,_),(0,_),(1,_)]) ⟨rfl,rfl,rfl,rfl,rfl,rfl,rfl,rfl,rfl,rfl,rfl,rfl,rfl,rfl,rfl,rfl,trivial⟩<|ak (X' :=[_,_,_,_,_,_]) (S' :=[_,_]) (fun _ m=>m)<|ag<|aj<|hy (fun _=>aa rfl)<|hy (fun m=>aU rfl b9 bf h32 ((m.a6 0 rfl).ax))<| ?_
    refine hx (b5 Tryz.underlying33 cS rfl rfl rfl (by simpa[Value.cells,B8]using h32) (by decide) (by decide) (fun g41=> ?_))
    have hA_b41:0<1→(some (⟨g41,0,none⟩:Addr))≠none:=fun _ h=>by cases h
    refine aO (fun w m=>m.bQ 0 rfl (show _=aG 53 32 (.slice (some ⟨g41,0,none⟩) 1 1) 1 (dc [kx.1])from rfl)) ?_
    refine hx (bu 3 rfl rfl rfl Tryz.underlying33 Tryz.underlying33 (by exact .inl rfl) cS rfl (fun m=>Src.bP (m.ord 0 rfl)) cP (by unfold maxLen;omega) (by omega) (fun u=> ?_))
    refine aA (fun m=>(m.own 0 rfl).slice) ?_
    rintro⟨A_z,c_z,rfl,hc_z⟩
    refine aA (fun m=>(m.ord 0 rfl).2.1) fun hA_z=> ?_
    refine aO (fun w m=>m.bQ 0 rfl (show _=aG 53 32 (.slice A_z (k3+1) c_z) (k3+1) (dc ((ks++[kx]).map yx))from congrArg (aG _ _ _ _) (by rw[List.map_append,dj];rfl))) ?_
    refine hy (fun _=>ab rfl)<|ai<|al (ρ' :=[(10,_),(11,_),(36,_),(34,_),(27,_),(26,_),(25,_),(24,_),(17,_),(16,_),(15,_),(14,_),(5,_),(4,_),(0,_),(1,_)]) ⟨rfl,rfl,rfl,rfl,rfl,rfl,rfl,rfl,rfl,rfl,rfl,rfl,rfl,rfl,rfl,rfl,trivial⟩<|ak (X' :=[_,_,_,_,_,_,_]) (S' :=[_,_]) (fun _ m=>m)<|aQ<| ?_
    refine ak (fun w m=>m.bQ 3 rfl (show _=jY DK r34 g12 (LL.map tv) ((left.eraseIdx j2).map tv) (some (tv kx))from congrArg (fun q=>jY DK r34 g12 (LL.map tv) q (some (tv kx))) (AE left j2))) ?_
    refine gg (left.eraseIdx j2) (some (tv kx)) A_z (k3+1) c_z (ks++[kx]) ⟨rfl,rfl,rfl,rfl,rfl,rfl,rfl,rfl,rfl,rfl,rfl,rfl,rfl,rfl,trivial⟩ [1,0,2,2,2] rfl [0,1] rfl (⟨by rw[List.length_append,hkn];rfl,hp2⟩) (by rw[List.length_eraseIdx,if_pos hlt3];omega)
end Go.Proofs.YtmibdabdlgmafaaGreatDoor
end
section
set_option maxRecDepth 20000
set_option maxHeartbeats 4000000
namespace Go.Proofs.YtmibdabdlgmafaaGreatDoor
open Go.Eng Go.Hx
def dg(ns:List (List UInt8)):List (RD→RD×Int):=ns.map fun nm=>n4 (aH nm)
def RD.rm(d:RD)(ns:List (List UInt8)):RD×Int:=if ns=[]then(d,0)else cB (dg ns++[cH]) d
theorem qu(a b:List (List UInt8)):dg (a++b)=dg a++dg b:=List.map_append
theorem vV{d y:RD}{ns:List (List UInt8)}{i:Nat}(hi:i<ns.length)(hr:cB (dg (ns.take i)) d=(y,0))(he:y.cj (aH (ns.getD i []))≠0):d.rm ns=(y,y.cj (aH (ns.getD i []))):=by
 have hs:ns=ns.take i++ns.getD i []::ns.drop (i+1):=by
  have:=List.take_append_drop i ns
  rw[List.drop_eq_getElem_cons hi]at this
  simpa[List.getD,hi]using this.symm
 have hne:ns≠ []:=fun e=>by rw[e]at hi;exact absurd hi (Nat.not_lt_zero _)
 unfold RD.rm
 rw[if_neg hne]
 generalize ns.getD i []=nm at hs he ⊢
 rw[hs,qu,List.append_assoc,mQ,hr,if_neg (by show¬(0:Int)≠0;decide)]
 show cB (n4 (aH nm)::(dg (ns.drop (i+1))++[cH])) y=_
 rw[cB,if_pos (by exact he)]
 exact Prod.ext (by show y.remove (aH nm)=y;rw[RD.remove,if_neg he]) rfl
theorem vI{d y:RD}{ns:List (List UInt8)}{i:Nat}(hi:i<ns.length)(hr:cB (dg (ns.take i)) d=(y,0))(he:y.cj (aH (ns.getD i []))=0):cB (dg (ns.take (i+1))) d=(y.remove (aH (ns.getD i [])),0):=by
 have e:ns.take (i+1)=ns.take i++[ns.getD i []]:=by rw[List.take_succ_eq_append_getElem hi];simp[List.getD,hi]
 rw[e,qu,mQ,hr,if_neg (by show¬(0:Int)≠0;decide)]
 show cB [n4 (aH (ns.getD i []))] y=_
 rw[cB,if_neg (by show¬y.cj _≠0;rw[he];decide)]
 rfl
theorem yI{d y:RD}{ns:List (List UInt8)}(hn:ns≠ [])(hr:cB (dg ns) d=(y,0)):d.rm ns=(y.sync,y.dp):=by
 unfold RD.rm
 rw[if_neg hn,mQ,hr,if_neg (by show¬(0:Int)≠0;decide)]
 show cB [cH] y=_
 rw[cB]
 by_cases h2:(cH y).2=0
 ·rw[if_neg (fun q=>q h2)]
  exact Prod.ext rfl h2.symm
 ·rw[if_pos h2];rfl
theorem xd{d y:RD}{ns:List (List UInt8)}(hn:ns.length=0)(hr:cB (dg (ns.take 0)) d=(y,0)):y=d∧d.rm ns=(d,0):=by
 rw[List.take_zero]at hr
 refine⟨(congrArg Prod.fst hr).symm, ?_⟩
 unfold RD.rm
 rw[if_pos (List.eq_nil_of_length_eq_zero hn)]
theorem A0{g:Nat}{st:cN}{d:RD}{kk:Nat}{A:Option Addr}{n c:Nat}{ns:List (List UInt8)}(hD:DS st d kk)(hkk:kk≤40000)(h32:j8 ns)(hl:ns.length=n)(hn:n≤40000):ck Tryz.prog 144 [.pointer (some ⟨g,0,none⟩),.slice A n c] [bs g st] [dr 32 A n (dc ns)] (fun v_ X_ S_=>∃st1,v_=(.int .i64 (d.rm ns).2)∧X_=[bs g st1]∧S_=[]∧(DS st1 (d.rm ns).1 (kk+n))):=by
 refine aP (N:=27) Tryz.func144 rfl rfl (by simp) fun b=> ?_
 refine aY (fun m=>gE (m.rd 0 rfl)) ?_
 rintro⟨hl_r,hA_r⟩
 refine ah<|aj<|hy (fun _=>ab rfl)<|ai<|ag<|ah<|ah<|aj<|hy (fun _=>aa rfl)<|hy (fun _=>aS rfl Tryz.underlying33)<|hy (fun _=>aa rfl)<|ai<|ag<|aI<| ?_
 refine fH (fun i st2 y=>n-i) (fun i st2 y=>[(10,.int .i64 (i:Nat))]) (fun i st2 y=>[bs g st2]) (fun i st2 y=>[]) (fun i st2 y=>i≤n∧cB (dg (ns.take i)) d=(y,0)∧DS st2 y (kk+i)) 0 st d [(9,_),(8,_),(0,_),(1,_)] ⟨rfl,rfl,rfl,rfl,trivial⟩ [0] rfl [] rfl (⟨Nat.zero_le _,rfl,hD⟩) ⟨rfl,trivial⟩ (fun i st2 y ⟨hin,hr,hDi⟩=> ?_)
 refine ah<|aj<|hy (fun _=>bq rfl rfl)<|ai<|ag<|ah<| ?_
 refine cD rfl (fun hlt=> ?_) (fun hlt=> ?_)
 ·have hi:i<ns.length:=by omega
  have hm:=eL h32 hi
  have hm2:(aV (ns.getD i [])).length=32:=by rw[az,hm]
  refine aD<|ag<|ah<|aI<|ah<|aj<|hy (fun _=>cq rfl rfl Tryz.underlying33 bf hA_r rfl (by omega))<|hy (fun m=>aU rfl b9 bf hm2 ((m.rd 0 rfl).im h32 hi))<| ?_
  refine hx (aN cS (fun g6=> ?_))
  refine cL (aJ 0 rfl rfl rfl bf hm2 aZ rfl ?_)
  refine ai<|al (ρ' :=[(6,_),(11,_),(10,_),(9,_),(8,_),(0,_),(1,_)]) ⟨rfl,rfl,rfl,rfl,rfl,rfl,rfl,trivial⟩<|ak (X' :=[_,_]) (S' :=[_]) (fun _ m=>m)<|ag<|ah<|aj<|hy (fun _=>aa rfl)<|hy (fun m=>aU rfl b9 bf hm2 ((m.a6 0 rfl).ax))<| ?_
  refine hx (aq rfl Tryz.call94 (se hm) [] rfl [] rfl ?_)
  rintro _ _ _ ⟨rfl,rfl,rfl⟩
  refine hx (aq rfl Tryz.call79 (Ar hDi (by omega) (p:=(aH (ns.getD i [])))) [1] rfl [] rfl ?_)
  rintro _ _ _ ⟨st1,rfl,rfl,rfl,hE1⟩
  refine hy (fun _=>ab rfl)<|ai<|al (ρ' :=[(7,_),(6,_),(11,_),(10,_),(9,_),(8,_),(0,_),(1,_)]) ⟨rfl,rfl,rfl,rfl,rfl,rfl,rfl,rfl,trivial⟩<|ak (X' :=[_,_]) (S' :=[_]) (fun _ m=>m)<|ag<|ah<|aj<|hy (fun _=>aa rfl)<|hy (fun _=>db rfl rfl)<|ai<|al (ρ' :=[(19,_),(7,_),(6,_),(11,_),(10,_),(9,_),(8,_),(0,_),(1,_)]) ⟨rfl,rfl,rfl,rfl,rfl,rfl,rfl,rfl,rfl,trivial⟩<|ag<| ?_
  refine cD rfl (fun he=> ?_) (fun he=> ?_)
  ·rw[vV hi hr he]
   rw[RD.remove,if_neg he]at hE1
   refine ah<|aj<|hy (fun _=>aa rfl)<|hy (fun _=>ab rfl)<|ai<|al (ρ' :=[(4,_),(19,_),(7,_),(6,_),(11,_),(10,_),(9,_),(8,_),(0,_),(1,_)]) ⟨rfl,rfl,rfl,rfl,rfl,rfl,rfl,rfl,rfl,rfl,trivial⟩<|ag<|aX<|a8<|aw<|aw<|a8<|aw<| ?_
   exact bg trivial rfl rfl [0] rfl [] rfl ⟨st1,rfl,rfl,rfl,hE1.le (by omega)⟩
  ·have he:=Decidable.not_not.1 he
   refine aD<|aQ<|ag<|aj<|hy (fun _=>aM rfl rfl (bG (by omega) (by omega)))<|hy (fun _=>aa rfl)<|ai<|al (ρ' :=[(10,_),(19,_),(7,_),(6,_),(11,_),(9,_),(8,_),(0,_),(1,_)]) ⟨rfl,rfl,rfl,rfl,rfl,rfl,rfl,rfl,rfl,trivial⟩<| ?_
   refine fx (i+1) st1 (y.remove (aH (ns.getD i []))) ⟨rfl,rfl,rfl,rfl,rfl,trivial⟩ [0] rfl [0] rfl (⟨by omega,vI hi hr he,hE1.le (by omega)⟩) (by omega)
 ·obtain rfl:i=n:=by omega
  refine bJ<|ao<|ao<|aB<|ag<|ah<|ah<|aj<|hy (fun _=>aa rfl)<|hy (fun _=>aS rfl Tryz.underlying33)<|hy (fun _=>cJ rfl rfl)<|ai<|al (ρ' :=[(24,_),(11,_),(10,_),(9,_),(8,_),(0,_),(1,_)]) ⟨rfl,rfl,rfl,rfl,rfl,rfl,rfl,trivial⟩<|ag<| ?_
  refine cD rfl (fun hz=> ?_) (fun hz=> ?_)
  ·obtain rfl:i=0:=by omega
   obtain⟨rfl,e0⟩:=xd hl hr
   rw[e0]
   refine ah<|aj<|hy (fun _=>ab rfl)<|ai<|ag<|aX<|aw<| ?_
   exact bg trivial rfl rfl [0] rfl [] rfl ⟨st2,rfl,rfl,rfl,hDi⟩
  ·have hne:ns≠ []:=fun q=>hz (by rw[q]at hl;rw[←hl];rfl)
   rw[List.take_of_length_le (by omega)]at hr
   rw[yI hne hr]
   refine aD<|ag<|ah<|aj<|hy (fun _=>aa rfl)<| ?_
   refine hx (aq rfl Tryz.call110 (u5 hDi) [0] rfl [] rfl ?_)
   rintro _ _ _ ⟨st1,rfl,rfl,rfl,hE1⟩
   refine hy (fun _=>ab rfl)<|ai<|al (ρ' :=[(4,_),(24,_),(11,_),(10,_),(9,_),(8,_),(0,_),(1,_)]) ⟨rfl,rfl,rfl,rfl,rfl,rfl,rfl,rfl,trivial⟩<|ak (X' :=[_]) (S' :=[_]) (fun _ m=>m)<|ag<|aX<| ?_
   exact bg trivial rfl rfl [0] rfl [] rfl ⟨st1,rfl,rfl,rfl,hE1⟩
def RD.prune(d:RD)(kp:List (List UInt8)):RD×Int×Int:=
 if d.pw=0 then(d,0,6)else if(d.rm (bV (bw d) kp)).2≠0 then((d.rm (bV (bw d) kp)).1,0,(d.rm (bV (bw d) kp)).2)else((d.rm (bV (bw d) kp)).1,(((bV (bw d) kp).length:Nat):Int),0)
theorem vb{d:RD}{kp:List (List UInt8)}(h:d.pw=0):d.prune kp=(d,0,6):=by unfold RD.prune;rw[if_pos h]
theorem vv{d:RD}{kp:List (List UInt8)}(h:¬d.pw=0)(h2:(d.rm (bV (bw d) kp)).2≠0):d.prune kp=((d.rm (bV (bw d) kp)).1,0,(d.rm (bV (bw d) kp)).2):=by unfold RD.prune;rw[if_neg h,if_pos h2]
theorem pe{d:RD}{kp:List (List UInt8)}(h:¬d.pw=0)(h2:(d.rm (bV (bw d) kp)).2=0):d.prune kp=((d.rm (bV (bw d) kp)).1,(((bV (bw d) kp).length:Nat):Int),0):=by unfold RD.prune;rw[if_neg h,if_neg (fun q=>q h2)]
theorem vN{g:Nat}{st:cN}{d:RD}{kk:Nat}{K:Option Addr}{n c:Nat}{L:List IX}(hD:DS st d kk)(hkk:kk≤30000)(hnl:∀x∈d.seen,x.1.length≤1000000)(hL:L.length=n)(hn:n≤100000)(hs:(cg L).length≤100000):ck Tryz.prog 62 [.pointer (some ⟨g,0,none⟩),.slice K n c] [bs g st] [dr 36 K n (nb L),gn (L.map IX.fi)] (fun v_ X_ S_=>∃st1,v_=(.tuple #[.int .i64 (d.prune (cg L)).2.1,.int .i64 (d.prune (cg L)).2.2])∧X_=[bs g st1]∧S_=[]∧(DS st1 (d.prune (cg L)).1 (kk+kk))):=by
 have hlen:(bw d).length≤kk:=Nat.le_trans (iz d) hD.qM.seen
 have hpw:=hD.mE.bY
 have hl0:(bV (bw d) (cg L)).length≤kk:=Nat.le_trans lx hlen
 have hl32:j8 (bV (bw d) (cg L)):=lh (fZ d)
 refine aP (N:=22) Tryz.func62 rfl rfl (by simp) fun b=> ?_
 refine aY (fun m=>gE (m.rd 0 rfl)) ?_
 rintro⟨hl_r,hA_r⟩
 refine ah<|aj<|hy (fun _=>ab rfl)<|hy (fun _=>ab rfl)<|ai<|ag<|ah<|ah<|aj<|hy (fun _=>aa rfl)<| ?_
 refine hx (aq rfl Tryz.call87 (FM) [0] rfl [] rfl ?_)
 rintro _ _ _ ⟨rfl,rfl,rfl⟩
 refine hy (fun _=>(kC rfl))<|ai<|al (ρ' :=[(10,_),(5,_),(4,_),(0,_),(1,_)]) ⟨rfl,rfl,rfl,rfl,rfl,trivial⟩<|ak (X' :=[_]) (S' :=[_,_]) (fun _ m=>m)<|ag<| ?_
 by_cases h0:d.pw=0
 ·rw[vb h0]
  refine ia rfl ((by rw[hpw,h0];rfl)) ?_
  refine ah<|aj<|hy (fun _=>ab rfl)<|hy (fun _=>ab rfl)<|ai<|ag<|aX<|aw<| ?_
  exact dF trivial rfl rfl rfl [0] rfl [] rfl ⟨st,rfl,rfl,rfl,hD.le (by omega)⟩
 ·refine dB rfl ((by rw[hpw];simp[h0])) ?_
  refine aD<|ag<|ah<|aj<|hy (fun _=>aa rfl)<|hy (fun _=>aa rfl)<| ?_
  refine hx (aq rfl Tryz.call66 (zi hD (by omega) hnl hL hn hs) [0] rfl [0,1] rfl ?_)
  rintro _ _ _ ⟨A1,k,c1,rfl,rfl,rfl,hk1⟩
  obtain⟨hk1,_⟩:=hk1
  refine hy (fun _=>ab rfl)<|ai<|al (ρ' :=[(6,_),(10,_),(5,_),(4,_),(0,_),(1,_)]) ⟨rfl,rfl,rfl,rfl,rfl,rfl,trivial⟩<|ak (X' :=[_,_]) (S' :=[_,_]) (fun _ m=>m)<|ag<|ah<|ah<|aj<|hy (fun _=>aa rfl)<|hy (fun _=>aa rfl)<| ?_
  refine hx (cM rfl Tryz.call144 (A0 hD (by omega) hl32 hk1.symm (by omega)) [0] rfl (.x 0 rfl .own .nil) ?_)
  rintro _ _ _ ⟨st1,rfl,rfl,rfl,hE1⟩
  refine⟨rfl, ?_⟩
  refine hy (fun _=>ab rfl)<|ai<|al (ρ' :=[(7,_),(6,_),(10,_),(5,_),(4,_),(0,_),(1,_)]) ⟨rfl,rfl,rfl,rfl,rfl,rfl,rfl,trivial⟩<|ak (X' :=[_,_]) (S' :=[_,_]) (fun _ m=>m)<|ag<|ah<|aj<|hy (fun _=>aa rfl)<|hy (fun _=>db rfl rfl)<|ai<|al (ρ' :=[(18,_),(7,_),(6,_),(10,_),(5,_),(4,_),(0,_),(1,_)]) ⟨rfl,rfl,rfl,rfl,rfl,rfl,rfl,rfl,trivial⟩<|ag<| ?_
  refine cD rfl (fun he=> ?_) (fun he=> ?_)
  ·rw[vv h0 he]
   refine ah<|aj<|hy (fun _=>aa rfl)<|hy (fun _=>ab rfl)<|hy (fun _=>ab rfl)<|ai<|al (ρ' :=[(5,_),(4,_),(18,_),(7,_),(6,_),(10,_),(0,_),(1,_)]) ⟨rfl,rfl,rfl,rfl,rfl,rfl,rfl,rfl,trivial⟩<|ag<|aX<|aw<| ?_
   exact dF trivial rfl rfl rfl [0] rfl [] rfl ⟨st1,rfl,rfl,rfl,hE1.le (by omega)⟩
  ·rw[pe h0 (Decidable.not_not.1 he),←hk1]
   refine aD<|ag<|ah<|aj<|hy (fun _=>aa rfl)<|hy (fun _=>aS rfl Tryz.underlying33)<|hy (fun _=>ab rfl)<|hy (fun _=>ab rfl)<|ai<|al (ρ' :=[(5,_),(4,_),(18,_),(7,_),(6,_),(10,_),(0,_),(1,_)]) ⟨rfl,rfl,rfl,rfl,rfl,rfl,rfl,rfl,trivial⟩<|ag<|aX<| ?_
   exact dF trivial rfl rfl rfl [0] rfl [] rfl ⟨st1,rfl,rfl,rfl,hE1.le (by omega)⟩
end Go.Proofs.YtmibdabdlgmafaaGreatDoor
end
section
set_option maxRecDepth 20000
set_option maxHeartbeats 4000000
namespace Go.Proofs.YtmibdabdlgmafaaGreatDoor
open Go.Eng Go.Hx
theorem tD{ds:List (List UInt8)}{i:Nat}(hi:i<ds.length):ds.take (i+1)=ds.take i++[ds.getD i []]:=by rw[List.take_succ_eq_append_getElem hi];simp[List.getD,hi]
theorem GD{A:Option Addr}{n c:Nat}{ds:List (List UInt8)}{d:List UInt8}(hD:j8 ds)(hd:d.length=32)(hl:ds.length=n)(hn:n≤1000000):ck Tryz.prog 150 [.slice A n c,.agg (aV d).toArray] [] [dr 32 A n (dc ds)] (fun v_ X_ S_=>v_=(.bool (decide (d∈ds)))∧X_=[]∧S_=[]):=by
 have h32:(aV d).length=32:=by rw[az,hd]
 refine aP (N:=18) Tryz.func150 rfl rfl (by simp) fun b=> ?_
 refine aY (fun m=>gE (m.rd 0 rfl)) ?_
 rintro⟨hl_r,hA_r⟩
 refine ah<|aj<| ?_
 refine hx (cw rfl (fun g3=> ?_))
 refine aO (fun w m=>m.bQ 0 rfl (show _=aL g3 53 (aV d)from congrArg (aL _ _) (bp _))) ?_
 refine hy (fun _=>ab rfl)<|ai<|ak (X' :=[_]) (S' :=[_]) (fun _ m=>m)<|ag<|ah<|ah<|aj<|hy (fun _=>ab rfl)<|ai<|ag<|aI<| ?_
 refine dx (fun i=>n-i) (fun i=>[(5,.int .i64 (i:Nat))]) (fun i=>[]) (fun i=>[]) (fun i=>i≤n∧¬d∈ds.take i) 0 [(3,_),(0,_),(1,_)] ⟨rfl,rfl,rfl,trivial⟩ [] rfl [] rfl (⟨Nat.zero_le _,List.not_mem_nil⟩) ⟨rfl,trivial⟩ (fun i ⟨hi,hno⟩=> ?_)
 refine ah<|ah<|aj<|hy (fun _=>aa rfl)<|hy (fun _=>aa rfl)<|hy (fun _=>aS rfl Tryz.underlying33)<|hy (fun _=>bq rfl rfl)<|ai<|al (ρ' :=[(9,_),(5,_),(3,_),(0,_),(1,_)]) ⟨rfl,rfl,rfl,rfl,rfl,trivial⟩<|ag<| ?_
 refine cD rfl (fun hlt=> ?_) (fun hlt=> ?_)
 ·have hi2:i<ds.length:=by omega
  have hdk:=eL hD hi2
  have hsn:=tD hi2
  refine aD<|ag<|ah<|aI<|ah<|c5 [] [(0,some 0),(1,some 0),(2,some 0),(3,some 0),(4,some 0),(5,some 0)] (by kernel_rfl) (by kernel_rfl) rfl 99<|an (aa rfl)<|an (aa rfl)<|an (cq rfl rfl Tryz.underlying33 bf hA_r rfl (by omega))<|cr (fun m=>aU rfl b9 bf (by rw[az];exact hdk) ((m.rd 0 rfl).im hD hi2))<|cr (fun m=>aU rfl b9 bf h32 ((m.a6 0 rfl).ax))<|an (oZ rfl rfl hdk hd)<|bD<|al (ρ' :=[(17,_),(9,_),(5,_),(3,_),(0,_),(1,_)]) ⟨rfl,rfl,rfl,rfl,rfl,rfl,trivial⟩<|ag<| ?_
  refine cD rfl (fun he=> ?_) (fun he=> ?_)
  ·have hm:d∈ds:=by
    rw[←he,List.getD,List.getElem?_eq_getElem hi2]
    exact List.getElem_mem hi2
   rw[decide_eq_true hm]
   refine ah<|aj<|hy (fun _=>ab rfl)<|ai<|ag<|aX<|a8<|aw<|aw<|a8<|aw<| ?_
   exact bg trivial rfl rfl [] rfl [] rfl ⟨rfl,rfl,rfl⟩
  ·have hno2:¬d∈ds.take (i+1):=fun hm=>by
    rw[hsn]at hm
    rcases List.mem_append.1 hm with hm|hm
    ·exact hno hm
    ·exact he (List.mem_singleton.1 hm).symm
   refine aD<|aQ<|ag<|aj<|hy (fun _=>aa rfl)<|hy (fun _=>aM rfl rfl (bG (by omega) (by omega)))<|hy (fun _=>ab rfl)<|ai<|al (ρ' :=[(5,_),(17,_),(9,_),(3,_),(0,_),(1,_)]) ⟨rfl,rfl,rfl,rfl,rfl,rfl,trivial⟩<| ?_
   refine cR (i+1) ⟨rfl,rfl,rfl,rfl,trivial⟩ [0] rfl [0] rfl (⟨by omega,hno2⟩) (by omega)
 ·have hm:¬d∈ds:=by rw[List.take_of_length_le (by omega)]at hno;exact hno
  rw[decide_eq_false hm]
  refine bJ<|ao<|ao<|aB<|ag<|ah<|aj<|hy (fun _=>ab rfl)<|ai<|ag<|aX<| ?_
  exact bg trivial rfl rfl [] rfl [] rfl ⟨rfl,rfl,rfl⟩
theorem uW{ds kp:List (List UInt8)}{i:Nat}(hi:i<ds.length):bV (ds.take (i+1)) kp=bV (ds.take i) kp++(if ds.getD i []∈kp then []else [ds.getD i []]):=by
 rw[tD hi,bV,List.filter_append]
 congr 1
 by_cases h:ds.getD i []∈kp
 ·rw[if_pos h];simp only[List.filter_cons,List.filter_nil,h,not_true_eq_false,decide_false,Bool.false_eq_true,if_false]
 ·rw[if_neg h];simp only[List.filter_cons,List.filter_nil,h,not_false_eq_true,decide_true,if_true]
theorem xe{x:RX}{kk:Nat}{K:Option Addr}{n c:Nat}{L:List IX}(ok:yi x.d kk)(hkk:kk≤90000)(hsrt:lQ x.d.seen)(hnl:∀y∈x.d.seen,y.1.length≤1000000)(hL:L.length=n)(hn:n≤100000)(hs:(cg L).length≤100000):ck Tryz.prog 67 [.agg x.cs.toArray,.slice K n c] [] [cX x,dr 36 K n (nb L),gn (L.map IX.fi)] (fun v_ X_ S_=>∃A1 k c1,v_=(.slice A1 k c1)∧X_=[aG 53 32 (.slice A1 k c1) k (dc (bV (bw x.d) (cg L)))]∧S_=[]∧(k=(bV (bw x.d) (cg L)).length)):=by
 have hcd:=fZ x.d
 have hls:=qe hsrt
 have hlen:(bw x.d).length≤kk:=Nat.le_trans (iz x.d) ok.seen
 obtain⟨_,hkm⟩:=jj (cg L) [] List.Pairwise.nil
 have hkm:∀z,z∈(cg L).foldl dz []↔z∈cg L:=fun z=>by rw[hkm z];simp
 have hkD:j8 ((cg L).foldl dz []):=fun z hz=>iJ L z ((hkm z).1 hz)
 have hkl:((cg L).foldl dz []).length≤1000000:=by
  have:=(qH (iJ L) (cg L).length).2
  rw[List.take_length]at this
  omega
 rw[←rl hkm]
 refine aP (N:=36) Tryz.func67 rfl rfl (by simp) fun b=> ?_
 refine aY (fun m=>gE (m.rd 1 rfl)) ?_
 rintro⟨hl_rk,hA_rk⟩
 refine ah<|aj<| ?_
 refine hx (cw rfl (fun g2=> ?_))
 refine aO (fun w m=>m.bQ 0 rfl (show _=aL g2 39 x.cs from congrArg (aL _ _) (bp _))) ?_
 refine hy (fun _=>ab rfl)<|ai<|ak (X' :=[_]) (S' :=[_,_,_]) (fun _ m=>m)<|ag<|ah<|aj<|hy (fun m=>yV (aU rfl cd bh rfl ((m.a6 0 rfl).ax)) ((rfl:_=Value.agg x.cs.toArray)))<| ?_
 refine hx (aq rfl Tryz.call21 (zD ok (by omega) hnl) [] rfl [0] rfl ?_)
 rintro _ _ _ ⟨A1,k,c1,rfl,rfl,rfl,hk1⟩
 rw[hls]at hk1
 subst hk1
 rw[hls]
 generalize hns:bw x.d=ns at hcd hlen ⊢
 refine hy (fun _=>ab rfl)<|ai<|al (ρ' :=[(5,_),(4,_),(2,_),(0,_),(1,_)]) ⟨rfl,rfl,rfl,rfl,rfl,trivial⟩<|ak (X' :=[_,_]) (S' :=[_,_,_]) (fun _ m=>m)<|ag<|ah<|aj<|hy (fun _=>aa rfl)<| ?_
 refine hx (aq rfl Tryz.call149 (vi hL hn hs) [] rfl [1,2] rfl ?_)
 rintro _ _ _ ⟨A12,k2,c12,rfl,rfl,rfl,hk2⟩
 generalize hkp:(cg L).foldl dz []=kp at hkD hkl hk2 ⊢
 subst hk2
 refine hy (fun _=>ab rfl)<|ai<|al (ρ' :=[(6,_),(5,_),(4,_),(2,_),(0,_),(1,_)]) ⟨rfl,rfl,rfl,rfl,rfl,rfl,trivial⟩<|ak (X' :=[_,_,_]) (S' :=[_,_,_]) (fun _ m=>m)<|ag<|ah<|aj<|hy (fun _=>ab rfl)<|ai<|ag<|ah<|ah<|aj<|hy (fun _=>ab rfl)<|ai<|ag<|aI<| ?_
 refine aY (fun m=>(m.ord 1 rfl).2.1) fun hA_o=> ?_
 refine bx (fun w m=>m.dm (r' :=aG 53 32 (.slice none 0 0) 0 []) (.refl _ _) (Own.nil _ _ _ _) (fun k hk=>hk.elim)) ?_
 refine iG (fun i k3 A3 c3=>ns.length-i) (fun i k3 A3 c3=>[(7,.slice A3 k3 c3),(8,.int .i64 (i:Nat))]) (fun i k3 A3 c3=>[aG 53 32 (.slice A3 k3 c3) k3 (dc (bV (ns.take i) kp))]) (fun i k3 A3 c3=>[]) (fun i k3 A3 c3=>i≤ns.length∧k3=(bV (ns.take i) kp).length) 0 0 none 0 [(6,_),(5,_),(4,_),(2,_),(0,_),(1,_)] ⟨rfl,rfl,rfl,rfl,rfl,rfl,trivial⟩ [0] rfl [] rfl (⟨Nat.zero_le _,rfl⟩) ⟨rfl,rfl,trivial⟩ (fun i k3 A3 c3 ⟨hi,hk3⟩=> ?_)
 refine ah<|ah<|aj<|hy (fun _=>aa rfl)<|hy (fun _=>aa rfl)<|hy (fun _=>aS rfl Tryz.underlying33)<|hy (fun _=>bq rfl rfl)<|ai<|al (ρ' :=[(17,_),(7,_),(8,_),(6,_),(5,_),(4,_),(2,_),(0,_),(1,_)]) ⟨rfl,rfl,rfl,rfl,rfl,rfl,rfl,rfl,rfl,trivial⟩<|ag<| ?_
 refine cD rfl (fun hlt=> ?_) (fun hlt=> ?_)
 ·have hi2:i<ns.length:=by omega
  have hdk:=eL hcd hi2
  have hls2:=uW (kp:=kp) hi2
  have hll:(bV (ns.take i) kp).length≤kk:=Nat.le_trans lx (by rw[List.length_take];omega)
  have h32:(aV (ns.getD i [])).length=32:=by rw[az,hdk]
  refine aD<|ag<|ah<|aI<|ah<|aj<|hy (fun _=>aa rfl)<|hy (fun _=>aa rfl)<|hy (fun _=>aa rfl)<|hy (fun _=>cq rfl rfl Tryz.underlying33 bf hA_o rfl (by omega))<|hy (fun m=>aU rfl b9 bf h32 ((m.ord 2 rfl).im hcd hi2))<| ?_
  refine hx (cM rfl Tryz.call150 (GD hkD hdk rfl hkl) [] rfl (.x 1 rfl .own .nil) ?_)
  rintro _ _ _ ⟨rfl,rfl,rfl⟩
  refine⟨rfl, ?_⟩
  refine hy (fun _=>ab rfl)<|ai<|al (ρ' :=[(9,_),(17,_),(7,_),(8,_),(6,_),(5,_),(4,_),(2,_),(0,_),(1,_)]) ⟨rfl,rfl,rfl,rfl,rfl,rfl,rfl,rfl,rfl,rfl,trivial⟩<|ak (X' :=[_,_,_,_]) (S' :=[_,_,_]) (fun _ m=>m)<|ag<|ah<|aj<|hy (fun _=>aa rfl)<| ?_
  by_cases hm:ns.getD i []∈kp
  ·rw[if_pos hm,List.append_nil]at hls2
   refine hy (fun _=>(kC rfl))<|ai<|al (ρ' :=[(27,_),(9,_),(17,_),(7,_),(8,_),(6,_),(5,_),(4,_),(2,_),(0,_),(1,_)]) ⟨rfl,rfl,rfl,rfl,rfl,rfl,rfl,rfl,rfl,rfl,rfl,trivial⟩<|ag<| ?_
   refine dB rfl ((by rw[decide_eq_true hm];rfl)) ?_
   refine aD<|aQ<|ag<|aj<|hy (fun _=>aa rfl)<|hy (fun _=>aM rfl rfl (bG (by omega) (by omega)))<|hy (fun _=>ab rfl)<|ai<|al (ρ' :=[(8,_),(27,_),(9,_),(17,_),(7,_),(6,_),(5,_),(4,_),(2,_),(0,_),(1,_)]) ⟨rfl,rfl,rfl,rfl,rfl,rfl,rfl,rfl,rfl,rfl,rfl,trivial⟩<| ?_
   rw[←hls2]at hk3
   rw[←hls2]
   refine eJ (i+1) k3 A3 c3 ⟨rfl,rfl,rfl,rfl,rfl,rfl,rfl,rfl,trivial⟩ [0,0,0,0] rfl [0,1,2] rfl (⟨by omega,hk3⟩) (by omega)
  ·rw[if_neg hm]at hls2
   refine hy (fun _=>(kC rfl))<|ai<|al (ρ' :=[(27,_),(9,_),(17,_),(7,_),(8,_),(6,_),(5,_),(4,_),(2,_),(0,_),(1,_)]) ⟨rfl,rfl,rfl,rfl,rfl,rfl,rfl,rfl,rfl,rfl,rfl,trivial⟩<|ag<| ?_
   refine ia rfl ((by rw[decide_eq_false hm];rfl)) ?_
   refine aj<|hy (fun _=>aa rfl)<|hy (fun _=>aa rfl)<|hy (fun _=>aa rfl)<|hy (fun _=>cq rfl rfl Tryz.underlying33 bf hA_o rfl (by omega))<|hy (fun m=>aU rfl b9 bf h32 ((m.ord 2 rfl).im hcd hi2))<| ?_
   refine hx (b5 Tryz.underlying33 cS rfl rfl rfl (by simpa[Value.cells,B8]using h32) (by decide) (by decide) (fun g33=> ?_))
   have hA_b33:0<1→(some (⟨g33,0,none⟩:Addr))≠none:=fun _ h=>by cases h
   refine aO (fun w m=>m.bQ 0 rfl (show _=aG 53 32 (.slice (some ⟨g33,0,none⟩) 1 1) 1 (dc [ns.getD i []])from rfl)) ?_
   refine hx (bu 1 rfl rfl rfl Tryz.underlying33 Tryz.underlying33 (by exact .inl rfl) cS rfl (fun m=>Src.bP (m.ord 0 rfl)) cP (by unfold maxLen;omega) (by omega) (fun u=> ?_))
   refine aA (fun m=>(m.own 0 rfl).slice) ?_
   rintro⟨A_z,c_z,rfl,hc_z⟩
   refine aA (fun m=>(m.ord 0 rfl).2.1) fun hA_z=> ?_
   refine aO (fun w m=>m.bQ 0 rfl (show _=aG 53 32 (.slice A_z (k3+1) c_z) (k3+1) (dc (bV (ns.take (i+1)) kp))from congrArg (aG _ _ _ _) (by rw[hls2,dj]))) ?_
   refine hy (fun _=>ab rfl)<|ai<|al (ρ' :=[(7,_),(27,_),(9,_),(17,_),(8,_),(6,_),(5,_),(4,_),(2,_),(0,_),(1,_)]) ⟨rfl,rfl,rfl,rfl,rfl,rfl,rfl,rfl,rfl,rfl,rfl,trivial⟩<|ak (X' :=[_,_,_,_,_]) (S' :=[_,_,_]) (fun _ m=>m)<|aQ<|ag<|aj<|hy (fun _=>aa rfl)<|hy (fun _=>aM rfl rfl (bG (by omega) (by omega)))<|hy (fun _=>ab rfl)<|ai<|al (ρ' :=[(8,_),(7,_),(27,_),(9,_),(17,_),(6,_),(5,_),(4,_),(2,_),(0,_),(1,_)]) ⟨rfl,rfl,rfl,rfl,rfl,rfl,rfl,rfl,rfl,rfl,rfl,trivial⟩<| ?_
   refine eJ (i+1) (k3+1) A_z c_z ⟨rfl,rfl,rfl,rfl,rfl,rfl,rfl,rfl,trivial⟩ [0,1,1,1] rfl [0,1,2] rfl (⟨by omega,by rw[hls2,List.length_append,hk3];rfl⟩) (by omega)
 ·obtain rfl:i=ns.length:=by omega
  rw[List.take_length]at hk3
  rw[List.take_length]
  refine bJ<|ao<|ao<|aB<|ag<|ah<|aj<|hy (fun _=>aa rfl)<|hy (fun _=>ab rfl)<|ai<|al (ρ' :=[(4,_),(17,_),(7,_),(8,_),(6,_),(5,_),(2,_),(0,_),(1,_)]) ⟨rfl,rfl,rfl,rfl,rfl,rfl,rfl,rfl,rfl,trivial⟩<|ag<|aX<| ?_
  exact bg trivial rfl rfl [0] rfl [] rfl ⟨_,_,_,rfl,rfl,rfl,hk3⟩
def RD.Bj(d:RD)(ns:List (List UInt8)):RD×Int:=if d.pw=0 then(d,6)else d.rm ns
theorem zx{d:RD}{ns:List (List UInt8)}(h:d.pw=0):d.Bj ns=(d,6):=by unfold RD.Bj;rw[if_pos h]
theorem Em{d:RD}{ns:List (List UInt8)}(h:¬d.pw=0):d.Bj ns=d.rm ns:=by unfold RD.Bj;rw[if_neg h]
end Go.Proofs.YtmibdabdlgmafaaGreatDoor
end
section
set_option maxRecDepth 20000
set_option maxHeartbeats 4000000
namespace Go.Proofs.YtmibdabdlgmafaaGreatDoor
open Go.Eng Go.Hx
theorem uQ{x:RX}{kk:Nat}{A:Option Addr}{n c:Nat}{ns:List (List UInt8)}(hD:x.d.ok kk)(hkk:kk≤40000)(h32:j8 ns)(hl:ns.length=n)(hn:n≤40000):ck Tryz.prog 151 [.agg x.cs.toArray,.slice A n c] [] [cX x,dr 32 A n (dc ns)] (fun v_ X_ S_=>∃y,v_=(.tuple #[.agg y.cs.toArray,.int .i64 (x.d.Bj ns).2])∧X_=[]∧S_=[cX y]∧(y.d=(x.d.Bj ns).1)):=by
 refine aP (N:=42) Tryz.func151 rfl rfl (by simp) fun b=> ?_
 refine aY (fun m=>gE (m.rd 1 rfl)) ?_
 rintro⟨hl_rn,hA_rn⟩
 refine ah<|aj<| ?_
 refine hx (cw rfl (fun g2=> ?_))
 refine aO (fun w m=>m.bQ 0 rfl (show _=aL g2 39 x.cs from congrArg (aL _ _) (bp _))) ?_
 refine hx (aN fG (fun g4=> ?_))
 refine hy (fun _=>ab rfl)<|ai<|ak (X' :=[_,_]) (S' :=[_,_]) (fun _ m=>m)<|ag<|ah<|ah<|aj<|hy (fun _=>aK rfl gW (by decide))<|hy (fun m=>ay rfl fS (aE (m.a6 1 rfl) (i:=4) rfl))<|hy (fun _=>cJ rfl rfl)<|ai<|al (ρ' :=[(11,_),(5,_),(4,_),(2,_),(0,_),(1,_)]) ⟨rfl,rfl,rfl,rfl,rfl,rfl,trivial⟩<|ag<| ?_
 refine cD rfl (fun h0=> ?_) (fun h0=> ?_)
 ·rw[zx h0]
  refine ah<|aj<|hy (fun m=>yV (aU rfl cd bh rfl ((m.a6 1 rfl).ax)) ((rfl:_=Value.agg x.cs.toArray)))<| ?_
  refine cL (aJ 0 rfl rfl rfl bh rfl bz rfl ?_)
  refine hy (fun _=>ab rfl)<|ai<|al (ρ' :=[(5,_),(11,_),(4,_),(2,_),(0,_),(1,_)]) ⟨rfl,rfl,rfl,rfl,rfl,rfl,trivial⟩<|ak (X' :=[_,_]) (S' :=[_,_]) (fun _ m=>m)<|ag<|aX<|aw<| ?_
  exact dW trivial rfl rfl rfl cd bh rfl (fun m=>(m.a6 0 rfl).ax) [] rfl [0] rfl ⟨x,rfl,rfl,rfl,rfl⟩
 ·rw[Em h0]
  refine aD<|ag<|ah<|ah<|aj<|hy (fun _=>ab rfl)<|ai<|ag<|aI<| ?_
  refine uZ (fun i y=>n-i) (fun i y=>[(6,.int .i64 (i:Nat))]) (fun i y=>[aL g2 39 (y:RX).cs]) (fun i y=>[cX y]) (fun i y=>i≤n∧cB (dg (ns.take i)) x.d=(y.d,0)∧y.d.ok (kk+i)) 0 x [(11,_),(4,_),(2,_),(0,_),(1,_)] ⟨rfl,rfl,rfl,rfl,rfl,trivial⟩ [1] rfl [0] rfl (⟨Nat.zero_le _,rfl,hD⟩) ⟨rfl,trivial⟩ (fun i y ⟨hin,hr,hok⟩=> ?_)
  refine ah<|ah<|aj<|hy (fun _=>aa rfl)<|hy (fun _=>aa rfl)<|hy (fun _=>aS rfl Tryz.underlying33)<|hy (fun _=>bq rfl rfl)<|ai<|al (ρ' :=[(16,_),(6,_),(11,_),(4,_),(2,_),(0,_),(1,_)]) ⟨rfl,rfl,rfl,rfl,rfl,rfl,rfl,trivial⟩<|ag<| ?_
  refine cD rfl (fun hlt=> ?_) (fun hlt=> ?_)
  ·have hi:i<ns.length:=by omega
   have hm:=eL h32 hi
   have hm2:(aV (ns.getD i [])).length=32:=by rw[az,hm]
   refine aD<|ag<|ah<|aI<|ah<| ?_
   refine pE (fun(z:RX) (g7:Nat)=>[(7,.pointer (some ⟨g7,0,none⟩)),(8,.int .i64 ((y:RX).d.cj (aH (ns.getD i []))))]) (fun(z:RX) (g7:Nat)=>[aL g7 39 z.cs]) (fun(z:RX) (g7:Nat)=>[cX z]) (fun(z:RX) (g7:Nat)=>z.d=y.d.remove (aH (ns.getD i []))) [(16,_),(6,_),(11,_),(4,_),(2,_),(0,_),(1,_)] ⟨rfl,rfl,rfl,rfl,rfl,rfl,rfl,trivial⟩ [] rfl ?_ (fun z g7 hz=> ?_)
   ·refine tw [5,6,10,11] (.take 0 3<|.take 1 3<|.take 2 3<|.take 3 3<|.take 4 3<|.alt 5 (.alt 6 (.take 7 3<|.take 8 3<|.take 9 4<|.alt 10 (.alt 11 (.take 12 4<|.done) (.stop)) (.stop)) (.alt 10 (.alt 6 (.take 7 3<|.take 8 3<|.take 9 4<|.alt 11 (.take 12 4<|.done) (.stop)) (.stop)) (.stop))) (.alt 10 (.alt 5 (.alt 6 (.take 7 3<|.take 8 3<|.take 9 4<|.alt 11 (.take 12 4<|.done) (.stop)) (.stop)) (.stop)) (.stop))) (by kernel_rfl) (by kernel_rfl) rfl 3<|FX (fun m=>yV (aU rfl cd bh rfl ((m.a6 0 rfl).ax)) ((rfl:_=Value.agg (y:RX).cs.toArray)))<|bU (aa rfl)<|bU (aa rfl)<|bU (cq rfl rfl Tryz.underlying33 bf hA_rn rfl (by omega))<|FX (fun m=>aU rfl b9 bf hm2 ((m.rd 2 rfl).im h32 hi))<| ?_
    refine ej ?_ ?_
    ·refine fj (aq rfl Tryz.call29 (lj hm) [] rfl [] rfl ?_)
     rintro _ _ _ ⟨rfl,rfl,rfl⟩
     refine⟨(fun _=>wk [0,0] [0,1,2] rfl rfl), ?_⟩
     refine ej ?_ ?_
     ·refine fj (aq rfl Tryz.call78 (qK hok.qM (by omega) (p:=(aH (ns.getD i [])))) [] rfl [0] rfl ?_)
      rintro _ _ _ ⟨y2,rfl,rfl,rfl,hz⟩
      refine⟨(fun _=>wk [0,0] [1,2,3] rfl rfl), ?_⟩
      refine bU (aa rfl)<|bU (ar rfl rfl)<|bU (ar rfl rfl)<| ?_
      refine fj (aN fG (fun g7=>⟨(fun _=>wk [1,1] [1,2,3] rfl rfl), ?_⟩))
      refine eb (aJ 0 rfl rfl rfl bh rfl bz rfl ⟨(fun h=>absurd h (by decide)), ?_⟩)
      refine bU (ab rfl)<|eF<|al (ρ' :=[(8,_),(7,_),(16,_),(6,_),(11,_),(4,_),(2,_),(0,_),(1,_)]) ⟨rfl,rfl,rfl,rfl,rfl,rfl,rfl,rfl,rfl,trivial⟩<|ak (X' :=[_,_,_]) (S' :=[_,_,_,_]) (fun _ m=>m)<| ?_
      exact di (R:=fun(z:RX) (g7:Nat)=>[(7,.pointer (some ⟨g7,0,none⟩)),(8,.int .i64 ((y:RX).d.cj (aH (ns.getD i []))))]) (X1:=fun(z:RX) (g7:Nat)=>[aL g7 39 z.cs]) (S1:=fun(z:RX) (g7:Nat)=>[cX z]) (I:=fun(z:RX) (g7:Nat)=>z.d=y.d.remove (aH (ns.getD i []))) y2 g7 ⟨rfl,rfl,rfl,rfl,rfl,rfl,rfl,rfl,rfl,trivial⟩ [0,0,0] rfl [0,1,2,3] rfl hz
     ·refine fj (aN fG (fun g7=>⟨(fun _=>wk [1,1] [0,1,2] rfl rfl), ?_⟩))
      refine fj (aq rfl Tryz.call78 (qK hok.qM (by omega) (p:=(aH (ns.getD i [])))) [] rfl [0] rfl ?_)
      rintro _ _ _ ⟨y2,rfl,rfl,rfl,hz⟩
      refine⟨(fun _=>wk [1,1] [1,2,3] rfl rfl), ?_⟩
      refine bU (aa rfl)<|bU (ar rfl rfl)<|bU (ar rfl rfl)<| ?_
      refine eb (aJ 0 rfl rfl rfl bh rfl bz rfl ⟨(fun h=>absurd h (by decide)), ?_⟩)
      refine bU (ab rfl)<|eF<|al (ρ' :=[(8,_),(7,_),(16,_),(6,_),(11,_),(4,_),(2,_),(0,_),(1,_)]) ⟨rfl,rfl,rfl,rfl,rfl,rfl,rfl,rfl,rfl,trivial⟩<|ak (X' :=[_,_,_]) (S' :=[_,_,_,_]) (fun _ m=>m)<| ?_
      exact di (R:=fun(z:RX) (g7:Nat)=>[(7,.pointer (some ⟨g7,0,none⟩)),(8,.int .i64 ((y:RX).d.cj (aH (ns.getD i []))))]) (X1:=fun(z:RX) (g7:Nat)=>[aL g7 39 z.cs]) (S1:=fun(z:RX) (g7:Nat)=>[cX z]) (I:=fun(z:RX) (g7:Nat)=>z.d=y.d.remove (aH (ns.getD i []))) y2 g7 ⟨rfl,rfl,rfl,rfl,rfl,rfl,rfl,rfl,rfl,trivial⟩ [0,0,0] rfl [0,1,2,3] rfl hz
    ·refine fj (aN fG (fun g7=>⟨(fun _=>wk [1,1] [0,1,2] rfl rfl), ?_⟩))
     refine fj (aq rfl Tryz.call29 (lj hm) [] rfl [] rfl ?_)
     rintro _ _ _ ⟨rfl,rfl,rfl⟩
     refine⟨(fun _=>wk [1,1] [0,1,2] rfl rfl), ?_⟩
     refine fj (aq rfl Tryz.call78 (qK hok.qM (by omega) (p:=(aH (ns.getD i [])))) [] rfl [0] rfl ?_)
     rintro _ _ _ ⟨y2,rfl,rfl,rfl,hz⟩
     refine⟨(fun _=>wk [1,1] [1,2,3] rfl rfl), ?_⟩
     refine bU (aa rfl)<|bU (ar rfl rfl)<|bU (ar rfl rfl)<| ?_
     refine eb (aJ 0 rfl rfl rfl bh rfl bz rfl ⟨(fun h=>absurd h (by decide)), ?_⟩)
     refine bU (ab rfl)<|eF<|al (ρ' :=[(8,_),(7,_),(16,_),(6,_),(11,_),(4,_),(2,_),(0,_),(1,_)]) ⟨rfl,rfl,rfl,rfl,rfl,rfl,rfl,rfl,rfl,trivial⟩<|ak (X' :=[_,_,_]) (S' :=[_,_,_,_]) (fun _ m=>m)<| ?_
     exact di (R:=fun(z:RX) (g7:Nat)=>[(7,.pointer (some ⟨g7,0,none⟩)),(8,.int .i64 ((y:RX).d.cj (aH (ns.getD i []))))]) (X1:=fun(z:RX) (g7:Nat)=>[aL g7 39 z.cs]) (S1:=fun(z:RX) (g7:Nat)=>[cX z]) (I:=fun(z:RX) (g7:Nat)=>z.d=y.d.remove (aH (ns.getD i []))) y2 g7 ⟨rfl,rfl,rfl,rfl,rfl,rfl,rfl,rfl,rfl,trivial⟩ [0,0,0] rfl [0,1,2,3] rfl hz
   ·refine ag<|ah<|ah<|aj<|hy (fun _=>aa rfl)<|hy (fun _=>db rfl rfl)<|ai<|al (ρ' :=[(30,_),(7,_),(8,_),(16,_),(6,_),(11,_),(4,_),(2,_),(0,_),(1,_)]) ⟨rfl,rfl,rfl,rfl,rfl,rfl,rfl,rfl,rfl,rfl,trivial⟩<|ag<| ?_
    refine cD rfl (fun he=> ?_) (fun he=> ?_)
    ·rw[vV hi hr he]
     refine ah<|aj<|hy (fun m=>yV (aU rfl cd bh rfl ((m.a6 1 rfl).ax)) ((rfl:_=Value.agg (y:RX).cs.toArray)))<|hy (fun _=>aa rfl)<| ?_
     refine cL (aJ 2 rfl rfl rfl bh rfl bz rfl ?_)
     refine hy (fun _=>ab rfl)<|ai<|al (ρ' :=[(5,_),(30,_),(7,_),(8,_),(16,_),(6,_),(11,_),(4,_),(2,_),(0,_),(1,_)]) ⟨rfl,rfl,rfl,rfl,rfl,rfl,rfl,rfl,rfl,rfl,rfl,trivial⟩<|ak (X' :=[_,_,_]) (S' :=[_,_,_,_]) (fun _ m=>m)<|ag<|aX<|aw<|a8<|aw<|aw<|a8<|aw<| ?_
     exact dW trivial rfl rfl rfl cd bh rfl (fun m=>(m.a6 0 rfl).ax) [] rfl [1] rfl ⟨y,rfl,rfl,rfl,rfl⟩
    ·have he:=Decidable.not_not.1 he
     have hr2:=vI hi hr he
     rw[←hz]at hr2
     have hok2:z.d.ok (kk+(i+1)):=by rw[hz];exact hok.remove
     refine aD<|ag<|aj<|hy (fun m=>yV (aU rfl cd bh rfl ((m.a6 0 rfl).ax)) ((rfl:_=Value.agg z.cs.toArray)))<| ?_
     refine cL (aJ 1 rfl rfl rfl bh rfl bz rfl ?_)
     refine ai<|al (ρ' :=[(30,_),(7,_),(8,_),(16,_),(6,_),(11,_),(4,_),(2,_),(0,_),(1,_)]) ⟨rfl,rfl,rfl,rfl,rfl,rfl,rfl,rfl,rfl,rfl,trivial⟩<|ak (X' :=[_,_,_]) (S' :=[_,_,_,_]) (fun _ m=>m)<|aQ<|ag<|aj<|hy (fun _=>aa rfl)<|hy (fun _=>aM rfl rfl (bG (by omega) (by omega)))<|hy (fun _=>ab rfl)<|ai<|al (ρ' :=[(6,_),(30,_),(7,_),(8,_),(16,_),(11,_),(4,_),(2,_),(0,_),(1,_)]) ⟨rfl,rfl,rfl,rfl,rfl,rfl,rfl,rfl,rfl,rfl,trivial⟩<| ?_
     refine sw (i+1) z ⟨rfl,rfl,rfl,rfl,rfl,rfl,trivial⟩ [0,1] rfl [0,2,3] rfl (⟨by omega,hr2,hok2⟩) (by omega)
  ·obtain rfl:i=n:=by omega
   refine bJ<|ao<|ao<|aB<|ag<|ah<|ah<|aj<|hy (fun _=>aa rfl)<|hy (fun _=>aS rfl Tryz.underlying33)<|hy (fun _=>cJ rfl rfl)<|ai<|al (ρ' :=[(36,_),(16,_),(6,_),(11,_),(4,_),(2,_),(0,_),(1,_)]) ⟨rfl,rfl,rfl,rfl,rfl,rfl,rfl,rfl,trivial⟩<|ag<| ?_
   refine cD rfl (fun hz0=> ?_) (fun hz0=> ?_)
   ·obtain rfl:i=0:=by omega
    obtain⟨hyd,e0⟩:=xd hl hr
    rw[e0]
    refine ah<|aj<|hy (fun m=>yV (aU rfl cd bh rfl ((m.a6 0 rfl).ax)) ((rfl:_=Value.agg (y:RX).cs.toArray)))<| ?_
    refine cL (aJ 1 rfl rfl rfl bh rfl bz rfl ?_)
    refine hy (fun _=>ab rfl)<|ai<|al (ρ' :=[(5,_),(36,_),(16,_),(6,_),(11,_),(4,_),(2,_),(0,_),(1,_)]) ⟨rfl,rfl,rfl,rfl,rfl,rfl,rfl,rfl,rfl,trivial⟩<|ak (X' :=[_,_]) (S' :=[_,_,_]) (fun _ m=>m)<|ag<|aX<|aw<| ?_
    exact dW trivial rfl rfl rfl cd bh rfl (fun m=>(m.a6 0 rfl).ax) [] rfl [0] rfl ⟨y,rfl,rfl,rfl,hyd⟩
   ·have hne:ns≠ []:=fun e=>hz0 (by rw[e]at hl;rw[←hl];rfl)
    rw[List.take_of_length_le (by omega)]at hr
    rw[yI hne hr]
    refine aD<|ag<|ah<|aj<|hy (fun m=>yV (aU rfl cd bh rfl ((m.a6 0 rfl).ax)) ((rfl:_=Value.agg (y:RX).cs.toArray)))<| ?_
    refine hx (aq rfl Tryz.call99 (sF hok.qM) [] rfl [0] rfl ?_)
    rintro _ _ _ ⟨y2,rfl,rfl,rfl,hv⟩
    refine hy (fun _=>ar rfl rfl)<|hy (fun _=>ar rfl rfl)<| ?_
    refine cL (aJ 1 rfl rfl rfl bh rfl bz rfl ?_)
    refine hy (fun _=>ab rfl)<|ai<|al (ρ' :=[(5,_),(36,_),(16,_),(6,_),(11,_),(4,_),(2,_),(0,_),(1,_)]) ⟨rfl,rfl,rfl,rfl,rfl,rfl,rfl,rfl,rfl,trivial⟩<|ak (X' :=[_,_]) (S' :=[_,_,_,_]) (fun _ m=>m)<|ag<|aX<| ?_
    exact dW trivial rfl rfl rfl cd bh rfl (fun m=>(m.a6 0 rfl).ax) [] rfl [0] rfl ⟨y2,rfl,rfl,rfl,hv⟩
theorem yt{d:RD}{kp:List (List UInt8)}:d.prune kp=if(d.Bj (bV (bw d) kp)).2≠0 then((d.Bj (bV (bw d) kp)).1,0,(d.Bj (bV (bw d) kp)).2)else((d.Bj (bV (bw d) kp)).1,(((bV (bw d) kp).length:Nat):Int),0):=by
 unfold RD.prune RD.Bj
 by_cases h:d.pw=0
 ·rw[if_pos h,if_pos h,if_pos (by show(6:Int)≠0;decide)]
 ·rw[if_neg h,if_neg h]
theorem Cp{x:RX}{kk:Nat}{K:Option Addr}{n c:Nat}{L:List IX}(hD:x.d.ok kk)(hkk:kk≤30000)(hsrt:lQ x.d.seen)(hnl:∀y∈x.d.seen,y.1.length≤1000000)(hL:L.length=n)(hn:n≤100000)(hs:(cg L).length≤100000):ck Tryz.prog 68 [.agg x.cs.toArray,.slice K n c] [] [cX x,dr 36 K n (nb L),gn (L.map IX.fi)] (fun v_ X_ S_=>∃y,v_=(.tuple #[.agg y.cs.toArray,.int .i64 (x.d.prune (cg L)).2.1,.int .i64 (x.d.prune (cg L)).2.2])∧X_=[]∧S_=[cX y]∧(y.d=(x.d.prune (cg L)).1)):=by
 have ok:=hD.qM
 have hlen:(bw x.d).length≤kk:=Nat.le_trans (iz x.d) ok.seen
 have hl0:(bV (bw x.d) (cg L)).length≤kk:=Nat.le_trans lx hlen
 have hl32:j8 (bV (bw x.d) (cg L)):=lh (fZ x.d)
 refine aP (N:=26) Tryz.func68 rfl rfl (by simp) fun b=> ?_
 refine aY (fun m=>gE (m.rd 1 rfl)) ?_
 rintro⟨hl_rk,hA_rk⟩
 refine ah<|aj<| ?_
 refine hx (cw rfl (fun g2=> ?_))
 refine aO (fun w m=>m.bQ 0 rfl (show _=aL g2 39 x.cs from congrArg (aL _ _) (bp _))) ?_
 refine hx (aN fG (fun g4=> ?_))
 refine hy (fun _=>ab rfl)<|hy (fun _=>ab rfl)<|ai<|ak (X' :=[_,_]) (S' :=[_,_,_]) (fun _ m=>m)<|ag<|ah<|aj<|hy (fun m=>yV (aU rfl cd bh rfl ((m.a6 1 rfl).ax)) ((rfl:_=Value.agg x.cs.toArray)))<|hy (fun _=>aa rfl)<| ?_
 refine hx (aq rfl Tryz.call67 (xe ok (by omega) hsrt hnl hL hn hs) [] rfl [0,1,2] rfl ?_)
 rintro _ _ _ ⟨A1,k,c1,rfl,rfl,rfl,hk1⟩
 refine aO (fun w m=>(m.perm (au [0] _ [_] _ rfl)).freeze) ?_
 refine aO (fun w m=>m.iW 0 rfl .own) ?_
 refine aA (fun m=>gE (m.rd 0 rfl)) ?_
 rintro⟨hl_or,hA_or⟩
 rw[yt]
 refine hy (fun _=>ab rfl)<|ai<|al (ρ' :=[(7,_),(6,_),(5,_),(4,_),(2,_),(0,_),(1,_)]) ⟨rfl,rfl,rfl,rfl,rfl,rfl,rfl,trivial⟩<|ak (X' :=[_,_]) (S' :=[_,_,_,_,_]) (fun _ m=>m)<|ag<|ah<|aj<|hy (fun m=>yV (aU rfl cd bh rfl ((m.a6 1 rfl).ax)) ((rfl:_=Value.agg x.cs.toArray)))<|hy (fun _=>aa rfl)<| ?_
 refine hx (aq rfl Tryz.call151 (uQ hD (by omega) hl32 hk1.symm (by omega)) [] rfl [2,0] rfl ?_)
 rintro _ _ _ ⟨y,rfl,rfl,rfl,hyd⟩
 refine hy (fun _=>aa rfl)<|hy (fun _=>ar rfl rfl)<|hy (fun _=>ar rfl rfl)<| ?_
 refine hx (aN fG (fun g8=> ?_))
 refine cL (aJ 0 rfl rfl rfl bh rfl bz rfl ?_)
 refine hy (fun _=>ab rfl)<|ai<|al (ρ' :=[(9,_),(8,_),(7,_),(6,_),(5,_),(4,_),(2,_),(0,_),(1,_)]) ⟨rfl,rfl,rfl,rfl,rfl,rfl,rfl,rfl,rfl,trivial⟩<|ak (X' :=[_,_,_]) (S' :=[_,_,_,_,_,_]) (fun _ m=>m)<|ag<|ah<|ah<|aj<|hy (fun _=>aa rfl)<|hy (fun _=>db rfl rfl)<|ai<|al (ρ' :=[(20,_),(9,_),(8,_),(7,_),(6,_),(5,_),(4,_),(2,_),(0,_),(1,_)]) ⟨rfl,rfl,rfl,rfl,rfl,rfl,rfl,rfl,rfl,rfl,trivial⟩<|ag<| ?_
 refine cD rfl (fun he=> ?_) (fun he=> ?_)
 ·rw[if_pos he]
  refine ah<|aj<|hy (fun m=>yV (aU rfl cd bh rfl ((m.a6 0 rfl).ax)) ((rfl:_=Value.agg y.cs.toArray)))<|hy (fun _=>aa rfl)<| ?_
  refine cL (aJ 1 rfl rfl rfl bh rfl bz rfl ?_)
  refine hy (fun _=>ab rfl)<|hy (fun _=>ab rfl)<|ai<|al (ρ' :=[(6,_),(5,_),(20,_),(9,_),(8,_),(7,_),(4,_),(2,_),(0,_),(1,_)]) ⟨rfl,rfl,rfl,rfl,rfl,rfl,rfl,rfl,rfl,rfl,trivial⟩<|ak (X' :=[_,_,_]) (S' :=[_,_,_,_,_,_]) (fun _ m=>m)<|ag<|aX<|aw<| ?_
  exact vK trivial rfl rfl rfl rfl cd bh rfl (fun m=>(m.a6 0 rfl).ax) [] rfl [0] rfl ⟨y,rfl,rfl,rfl,hyd⟩
 ·rw[if_neg he,←hk1]
  refine aD<|ag<|ah<|aj<|hy (fun m=>yV (aU rfl cd bh rfl ((m.a6 0 rfl).ax)) ((rfl:_=Value.agg y.cs.toArray)))<|hy (fun _=>aa rfl)<|hy (fun _=>aS rfl Tryz.underlying33)<| ?_
  refine cL (aJ 1 rfl rfl rfl bh rfl bz rfl ?_)
  refine hy (fun _=>ab rfl)<|hy (fun _=>ab rfl)<|ai<|al (ρ' :=[(6,_),(5,_),(20,_),(9,_),(8,_),(7,_),(4,_),(2,_),(0,_),(1,_)]) ⟨rfl,rfl,rfl,rfl,rfl,rfl,rfl,rfl,rfl,rfl,trivial⟩<|ak (X' :=[_,_,_]) (S' :=[_,_,_,_,_,_]) (fun _ m=>m)<|ag<|aX<| ?_
  exact vK trivial rfl rfl rfl rfl cd bh rfl (fun m=>(m.a6 0 rfl).ax) [] rfl [0] rfl ⟨y,rfl,rfl,rfl,hyd⟩
end Go.Proofs.YtmibdabdlgmafaaGreatDoor
end
section
namespace Go.Proofs.YtmibdabdlgmafaaGreatDoor
open Go.Eng Go.Hx
theorem fL.names{fs:dK}{l:List FP}(h:fL fs l){ks:List (List UInt8)}(hk:ks.Perm (cp fs)):uO ks=l.map (·.1):=by
 have hle:∀a b:List UInt8,(decide (a≤b)=true)↔a≤b:=fun a b=>by simp
 have h1:(uO ks).Perm (l.map (·.1)):=(List.mergeSort_perm _ _).trans (hk.trans h.keys)
 have h2:(uO ks).Pairwise (· ≤·):=by
  have:=List.pairwise_mergeSort (le:=fun x y:List UInt8=>decide (x≤y)) (fun a b c hab hbc=>by simpa using List.le_trans (by simpa using hab) (by simpa using hbc)) (fun a b=>by simpa using List.le_total a b) ks
  exact this.imp (fun hab=>by simpa using hab)
 have h3:(l.map (·.1)).Pairwise (· ≤·):=h.ord.imp (fun hlt=>List.le_of_lt hlt)
 exact h1.eq_of_pairwise (fun a b _ _ hab hba=>List.le_antisymm hab hba) h2 h3
end Go.Proofs.YtmibdabdlgmafaaGreatDoor
end
section
set_option maxRecDepth 20000
namespace Go.Proofs.YtmibdabdlgmafaaGreatDoor
open Go.Eng Go.Hx
theorem pre_nil(l:List (List UInt8)):l.filter (pre [])=l:=List.filter_eq_self.2 (fun a _=>by simp[pre])
end Go.Proofs.YtmibdabdlgmafaaGreatDoor
end
section
set_option maxRecDepth 20000
set_option maxHeartbeats 4000000
namespace Go.Proofs.YtmibdabdlgmafaaGreatDoor
open Go.Eng Go.Hx
theorem re{w:World}{g:Nat}{t:TypeId}{p:Value}{x:RX}(h:e8 w g t (p::x.cs)):∀(j:Nat) (u:Value),x.cs[j]? =some u→w.cell? ((⟨g,0,none⟩:Addr).add 1|>.add j)=some u:=fun j u hu=>by
 rw[add_add]
 exact h.ax (1+j) u (by rw[Nat.add_comm];exact hu)
end Go.Proofs.YtmibdabdlgmafaaGreatDoor
end
section
set_option maxRecDepth 20000
set_option maxHeartbeats 4000000
namespace Go.Proofs.YtmibdabdlgmafaaGreatDoor
open Go.Eng Go.Hx
theorem mF{p:Value}{x y:RX}:bI (p::x.cs) 1 y.cs=p::y.cs:=rfl
end Go.Proofs.YtmibdabdlgmafaaGreatDoor
end
section
namespace Go.Proofs.YtmibdabdlgmafaaGreatDoor
open Go.Eng Go.Hx
def Fm(d:RD):Nat:=(d.waits.filter fun c=>decide (c.1≠2)).length
structure Bd(d:RD)(B W:Nat):Prop where
 sn:d.seen.length≤B
 la:d.cO.length+Fm d≤B
 wt:d.waits.length≤W
 nS:∀y∈d.seen,y.1.length≤1000
 nL:∀y∈d.cO,y.1.length≤1000
 nW:∀c∈d.waits,(c.1=0→c.2.1.length≤1000)∧c.2.2.1.length≤1000
theorem Bd.le{d:RD}{B W B' W' :Nat}(h:Bd d B W)(hB:B≤B')(hW:W≤W'):Bd d B' W' :=⟨Nat.le_trans h.sn hB,Nat.le_trans h.la hB,Nat.le_trans h.wt hW,h.nS,h.nL,h.nW⟩
theorem Bd.new(room:Int):Bd (RD.new room) 0 0:=⟨Nat.le_refl _,Nat.le_refl _,Nat.le_refl _,fun y h=>(List.not_mem_nil h).elim,fun y h=>(List.not_mem_nil h).elim,fun y h=>(List.not_mem_nil h).elim⟩
theorem pI:∀(l:List FP) (x:FP),(ib l x).length≤l.length+1
 | [],x=>Nat.le_refl _
 |a::r,x=>by
  unfold ib
  have:=pI r x
  split
  ·simp only[List.length_cons];omega
  ·rw[List.length_cons];exact Nat.succ_le_succ (List.length_filter_le _ _)
theorem tf(l:List FP)(x:FP):(gQ l x).length≤l.length+1:=by
 rw[jM]
 exact pI l x
theorem wC{l:List FP}{p b:List UInt8}(h:∀y∈l,y.1.length≤1000)(hp:p.length≤1000):∀y∈gQ l (p,b),y.1.length≤1000:=by
 intro y hy
 rw[jM]at hy
 rcases xf hy with rfl|hy
 ·exact hp
 ·exact h y hy
theorem CN{l:List FP}{k:Int}{p t b:List UInt8}(h:∀y∈l,y.1.length≤1000)(hp:k=0→p.length≤1000)(ht:t.length≤1000):∀y∈dL l k p t b,y.1.length≤1000:=by
 unfold dL
 split
 ·exact wC h (hp (by assumption))
 ·split
  ·exact h
  ·split
   ·exact fun y hy=>h y (List.mem_filter.1 hy).1
   ·exact wC (fun y hy=>h y (List.mem_filter.1 hy).1) ht
theorem zt{l:List FP}{k:Int}{p t b:List UInt8}:(dL l k p t b).length≤l.length+(if k≠2 then 1 else 0):=by
 by_cases h0:k=0
 ·rw[dL,if_pos h0,if_pos (by rw[h0];decide)];exact tf _ _
 ·rw[dL,if_neg h0]
  cases hq:l[cE l p]? with
  |none=>exact Nat.le_add_right _ _
  |some x=>
   by_cases h2:k=2
   ·simp only[if_pos h2]
    exact Nat.le_trans (List.length_filter_le _ _) (Nat.le_add_right _ _)
   ·simp only[if_neg h2]
    rw[if_pos h2]
    exact Nat.le_trans (tf _ _) (Nat.succ_le_succ (List.length_filter_le _ _))
theorem Bd.gA{d:RD}{B W:Nat}(h:Bd d B W){k:Int}{p t b:List UInt8}(hp:k=0→p.length≤1000)(ht:t.length≤1000):Bd (d.gA k p t b) (B+(if k≠2 then 1 else 0)) (W+1):=by
 have h1:=h.sn
 have h2:=h.la
 have h3:=h.wt
 refine⟨Nat.le_trans zt (Nat.add_le_add_right h1 _), ?_, ?_,CN h.nS hp ht,h.nL,fun c hc=> ?_⟩
 ·have:Fm (d.gA k p t b)=Fm d+(if k≠2 then 1 else 0):=by
   show((d.waits++[(k,p,t,b)]).filter _).length=_
   rw[List.filter_append,List.length_append]
   congr 1
   by_cases hk:k=2
   ·simp[hk]
   ·simp[hk]
  rw[this]
  show d.cO.length+_≤_
  omega
 ·show(d.waits++[_]).length≤_
  rw[List.length_append]
  exact Nat.add_le_add_right h3 1
 ·rcases List.mem_append.1 hc with hc|hc
  ·exact h.nW c hc
  ·rw[List.mem_singleton.1 hc];exact⟨hp,ht⟩
theorem Bd.write{d:RD}{B W:Nat}(h:Bd d B W){p l:List UInt8}(hp:p.length≤1000):Bd (d.write p l) (B+1) (W+1):=by
 unfold RD.write
 split
 ·exact h.gA (fun _=>hp) (by decide)
 ·exact h.le (by omega) (by omega)
theorem Bd.rename{d:RD}{B W:Nat}(h:Bd d B W){a c:List UInt8}(hc:c.length≤1000):Bd (d.rename a c) (B+1) (W+1):=by
 unfold RD.rename
 split
 ·exact h.gA (fun e=>absurd e (by decide)) hc
 ·exact h.le (by omega) (by omega)
theorem Bd.sync{d:RD}{B W:Nat}(h:Bd d B W):Bd d.sync B W:=by
 unfold RD.sync
 split
 ·exact h
 ·exact⟨h.sn,h.sn,Nat.zero_le _,h.nS,h.nS,fun c hc=>(List.not_mem_nil hc).elim⟩
theorem Bd.bY{d:RD}{B W:Nat}(h:Bd d B W){n:Int}:Bd (d.bY n) B W:=⟨h.sn,h.la,h.wt,h.nS,h.nL,h.nW⟩
theorem Bd.cB(a:Nat):∀(Fs:List (RD→RD×Int)) {d:RD} {B W:Nat},(∀F∈Fs,∀d B W,Bd d B W→Bd (F d).1 (B+a) (W+1))→Bd d B W→Bd (cB Fs d).1 (B+a*Fs.length) (W+Fs.length)
 | [],d,B,W,_,h=>h
 |F::r,d,B,W,hF,h=>by
  have h1:=hF F (List.mem_cons_self ..) d B W h
  rw[Go.Proofs.YtmibdabdlgmafaaGreatDoor.cB]
  split
  ·refine h1.le ?_ (by rw[List.length_cons];omega)
   rw[List.length_cons,Nat.mul_succ];omega
  ·refine(Bd.cB a r (fun G hG=>hF G (List.mem_cons_of_mem _ hG)) h1).le ?_ (by rw[List.length_cons];omega)
   rw[List.length_cons,Nat.mul_succ];omega
theorem Bd.put{d:RD}{B W:Nat}(h:Bd d B W)(bb:List UInt8):Bd (d.put bb).1 (B+4) (W+4):=by
 have hm:=br bb
 have hR:Bd (d.iY bb).1 (B+4) (W+4):=Bd.cB 1 (wq (bT (bk bb)) bb (bk bb)) (fun F hF d B W h=>by
  simp only[List.mem_cons,List.not_mem_nil,or_false]at hF
  rcases hF with rfl|rfl|rfl|rfl
  ·exact h.write (by rw[jq hm];decide)
  ·exact h.sync.le (by omega) (by omega)
  ·exact h.rename (by rw[ee hm];decide)
  ·exact h.sync.le (by omega) (by omega)) h
 unfold RD.put
 split
 ·exact h.le (by omega) (by omega)
 ·split
  ·exact h.le (by omega) (by omega)
  ·split
   ·exact h.le (by omega) (by omega)
   ·exact hR
end Go.Proofs.YtmibdabdlgmafaaGreatDoor
end
section
set_option maxRecDepth 20000
set_option maxHeartbeats 4000000
namespace Go.Proofs.YtmibdabdlgmafaaGreatDoor
open Go.Eng Go.Hx
def ints(l:List Int):List Value:=l.map (Value.int .i64)
def sB(l:List Int):Prop:=∀z∈l,-9223372036854775808≤z∧z≤9223372036854775807
theorem mK{l:List Int}{i:Nat}(h:i<l.length):(ints l)[i]? =some (.int .i64 (l.getD i 0)):=by simp[ints,List.getElem?_map,List.getElem?_eq_getElem h,List.getD]
theorem sB.at{l:List Int}(h:sB l){i:Nat}(hi:i<l.length):-9223372036854775808≤l.getD i 0∧l.getD i 0≤9223372036854775807:=by
 rw[List.getD,List.getElem?_eq_getElem hi]
 exact h _ (List.getElem_mem hi)
theorem CL(d:RD)(bb:List UInt8):(d.put bb).2.1.length=32:=by
 unfold RD.put
 split
 ·exact fm
 ·split
  ·exact fm
  ·split
   ·exact br _
   ·show(if _ then _ else _:List UInt8).length=32
    split
    ·exact br _
    ·exact fm
theorem zp(z:Int):∃k:Nat,ef z 6=(k:Int)∧k<6:=by
 have:=n9 z 6 (by decide)
 exact⟨(ef z 6).toNat,by omega,by omega⟩
theorem xn{P:Program}{e:TypeId}(he:P.underlying e=some (.int .i64)):∀{n:Nat} {ys:List Cell},ys.length=n→(∀i,i<n→Ty P e ((ys.drop i).take 1))→∃l:List Int,ys.map Cell.val=ints l∧l.length=n∧sB l:=by
 intro n ys hl h
 have hg:∀i,i<n→∃z:Int,ys[i]? =some (.v (.int .i64 z))∧-9223372036854775808≤z∧z≤9223372036854775807:=fun i hi=>by
  obtain⟨z,hz,hb⟩:=Eb he (h i hi)
  have h2:((ys.drop i).take 1)[0]? =some (.v (.int .i64 z)):=by rw[hz];rfl
  rw[List.getElem?_take,if_pos (by omega),List.getElem?_drop,Nat.add_zero]at h2
  exact⟨z,h2,hb⟩
 refine⟨ys.map fun y=>match y.val with| .int _ z=>z|_=>0, ?_,by simpa using hl,fun z hz=> ?_⟩
 ·apply List.ext_getElem?
  intro i
  simp only[ints,List.map_map,List.getElem?_map]
  by_cases hi:i<n
  ·obtain⟨z,hz,_⟩:=hg i hi
   rw[hz]
   simp[Cell.val]
  ·rw[List.getElem?_eq_none (by omega)]
   rfl
 ·obtain⟨y,hy,rfl⟩:=List.mem_map.1 hz
  obtain⟨i,hi⟩:=List.mem_iff_getElem?.1 hy
  have hin:i<n:=by rw[←hl];exact(List.getElem?_eq_some_iff.1 hi).1
  obtain⟨z,hz2,hb⟩:=hg i hin
  rw[hi]at hz2
  cases hz2
  exact hb
theorem s4{xs:List Cell}(h:Ty Tryz.prog 44 xs):∃A n c ys l,xs=[.s 1 A n c ys]∧ys.map Cell.val=ints l∧sB l:=by
 obtain⟨A,n,c,ys,rfl,h1,h2,h3,h4⟩:=py Tryz.underlying44 h
 have c1:Tryz.prog.cellsOf 3=1:=by kernel_rfl
 rw[c1]at h3 h4 ⊢
 obtain⟨l,h5,h6,h7⟩:=xn Tryz.underlying3 (by omega:ys.length=n) (fun i hi=>by have:=h4 i hi;rwa [Nat.mul_one]at this)
 exact⟨A,n,c,ys,l,rfl,h5,h7⟩
end Go.Proofs.YtmibdabdlgmafaaGreatDoor
end
section
set_option maxRecDepth 20000
set_option maxHeartbeats 4000000
namespace Go.Proofs.YtmibdabdlgmafaaGreatDoor
open Go.Eng Go.Hx
def jw(z:Int):List UInt8:=bm (ef z 6).toNat
def fu(d:RD)(zl:List Int):RD:=zl.foldl (fun d z=>(d.put (jw z)).1) d
def ku(d:RD)(zb:List Int)(bb:List UInt8):RD:=zb.foldl (fun d z=>d.write (aH (bk (jw z))) bb) d
def lL(zl zb:List Int)(bb:List UInt8):RD:=(ku (fu (RD.new 2000) (zl.take 6)) (zb.take 3) (bb.take 30)).sync
theorem tc{d:RD}{zl:List Int}{i:Nat}(h:i<zl.length):fu d (zl.take (i+1))=((fu d (zl.take i)).put (jw (zl.getD i 0))).1:=by
 rw[List.take_succ_eq_append_getElem h,fu,List.foldl_append,List.getD,List.getElem?_eq_getElem h];rfl
theorem ti{d:RD}{zb:List Int}{bb:List UInt8}{i:Nat}(h:i<zb.length):ku d (zb.take (i+1)) bb=(ku d (zb.take i) bb).write (aH (bk (jw (zb.getD i 0)))) bb:=by
 rw[List.take_succ_eq_append_getElem h,ku,List.foldl_append,List.getD,List.getElem?_eq_getElem h];rfl
theorem lD{z:Int}{k:Nat}(h:ef z 6=(k:Int)):jw z=bm k:=by unfold jw;rw[h];rfl
theorem ir{l:List Int}{i n:Nat}(h:¬(i<l.length∧i<n))(hi:i≤l.length)(hn:i≤n):l.take i=l.take n:=by
 by_cases h1:i<l.length
 ·have:i=n:=by omega
  rw[this]
 ·rw[List.take_of_length_le (by omega),List.take_of_length_le (by omega)]
theorem By{P:Program}{pl:Nat→Option (Nat×Nat)}{A:Option Addr}{x:RX}{zs:List Value}(hz:zs.length=6)(p0:pl 0=some (0,1))(p1:pl 1=some (1,5)):
  wb P pl zs [(0,.pointer A),(1,.agg x.cs.toArray)] (.pointer A::x.cs):=by
 match zs,hz with
 | [_,_,_,_,_,_],_=>exact .cons (vs:=[.pointer A]) p0 rfl rfl (by show 0+1≤6;decide) (.cons (vs:=x.cs) p1 rfl rfl (by show 1+5≤6;decide) .nil)
theorem uf{A B C:Option Addr}{n c m mc_ k kc:Nat}{zl zb:List Int}{bb:List UInt8}(hzl:sB zl)(hzb:sB zb)(hkc:k≤kc)(hkb:k≤140737488351232):ck Tryz.prog 61 [.slice A n c,.slice B m mc_,.slice C k kc] [] [dr 1 A n (ints zl),dr 1 B m (ints zb),dr 1 C k (aV bb),fh] (fun v_ X_ S_=>∃gw gd st y,v_=(.pointer (some ⟨gw,0,none⟩))∧X_=[aL gw 121 (.pointer (some ⟨gd,0,none⟩)::y.cs),bs gd st]∧S_=[cX y]∧(y.d=lL zl zb bb∧DS st y.d 100∧Bd y.d 27 27)):=by
 refine aP (N:=130) Tryz.func61 rfl rfl (by simp) fun b=> ?_
 refine aY (fun m=>gE (m.rd 0 rfl)) ?_
 rintro⟨hl_rl,hA_rl⟩
 refine aY (fun m=>gE (m.rd 1 rfl)) ?_
 rintro⟨hl_rb,hA_rb⟩
 refine aY (fun m=>gY (m.rd 2 rfl)) ?_
 rintro⟨hl_rc,hA_rc⟩
 refine ah<|aj<|hy (fun _=>ab rfl)<|ai<|ag<|ah<|aj<| ?_
 refine hx (aq rfl Tryz.call24 (Hj (by decide) (by decide)) [] rfl [] rfl ?_)
 rintro _ _ _ ⟨g,gs,gl,rfl,rfl,rfl⟩
 refine hy (fun _=>aa rfl)<|hy (fun _=>ar rfl rfl)<|hy (fun _=>ar rfl rfl)<|hy (fun _=>ab rfl)<|hy (fun _=>ab rfl)<|ai<|al (ρ' :=[(8,_),(7,_),(6,_),(0,_),(1,_),(2,_)]) ⟨rfl,rfl,rfl,rfl,rfl,rfl,trivial⟩<|ak (X' :=[_]) (S' :=[_,_,_,_]) (fun _ m=>m)<|ag<|ah<|ah<|aj<|hy (fun _=>aa rfl)<|hy (fun _=>uR rfl rfl (by kernel_rfl))<|hy (fun _=>aa rfl)<| ?_
 refine dU (o:=_) rfl rfl rfl (fun _=>aa rfl)<|dU (o:=_) rfl rfl rfl (fun _=>db rfl rfl)<|hy (fun _=>bC rfl rfl)<|ai<|al (ρ' :=[(29,_),(8,_),(7,_),(6,_),(0,_),(1,_),(2,_)]) ⟨rfl,rfl,rfl,rfl,rfl,rfl,rfl,trivial⟩<|ag<| ?_
 refine dB rfl ((by decide)) ?_
 refine aD<|ag<|ah<|aj<|hy (fun _=>aa rfl)<| ?_
 refine hx (aq rfl Tryz.call25 (F3) [] rfl [] rfl ?_)
 rintro _ _ _ ⟨y,rfl,rfl,rfl,hy1⟩
 refine hy (fun _=>cC Ft rfl rfl (by kernel_rfl) (By rfl BH Ce))<| ?_
 refine hx (cw rfl (fun g33=> ?_))
 refine aO (fun w m=>m.bQ 0 rfl (show _=aL g33 121 (.pointer (some ⟨g,0,none⟩)::y.cs)from congrArg (aL _ _) (bp _))) ?_
 refine aA (fun m=>(m.rd 1 rfl).1) fun hln1=> ?_
 refine aA (fun m=>(m.rd 2 rfl).1) fun hln2=> ?_
 refine aA (fun m=>(m.rd 3 rfl).1) fun hln3=> ?_
 have hln1:zl.length=n:=by rw[ints,List.length_map,Nat.mul_one]at hln1;exact hln1
 have hln2:zb.length=m:=by rw[ints,List.length_map,Nat.mul_one]at hln2;exact hln2
 have hln3:bb.length=k:=by rw[az,Nat.mul_one]at hln3;exact hln3
 have hD0:DS (mX 2000 gs gl) y.d 0:=by rw[hy1];exact DS.init (by decide)
 have hB0:Bd y.d 0 0:=by rw[hy1];exact Bd.new _
 have hbt:(bb.take 30).length=min k 30:=by rw[List.length_take,hln3,Nat.min_comm]
 refine hy (fun _=>ab rfl)<|ai<|al (ρ' :=[(9,_),(29,_),(8,_),(7,_),(6,_),(0,_),(1,_),(2,_)]) ⟨rfl,rfl,rfl,rfl,rfl,rfl,rfl,rfl,trivial⟩<|ak (X' :=[_,_]) (S' :=[_,_,_,_,_]) (fun _ m=>m)<|ag<|ah<|ah<|aj<|hy (fun _=>ab rfl)<|ai<|ag<| ?_
 refine pE (fun(st1:cN) (x1:RX)=>[]) (fun(st1:cN) (x1:RX)=>[aL g33 121 (.pointer (some ⟨g,0,none⟩)::x1.cs),bs g st1]) (fun(st1:cN) (x1:RX)=>[cX x1]) (fun(st1:cN) (x1:RX)=>x1.d=fu (RD.new 2000) (zl.take 6)∧DS st1 x1.d 24∧Bd x1.d 24 24) [(9,_),(29,_),(8,_),(7,_),(6,_),(0,_),(1,_),(2,_)] ⟨rfl,rfl,rfl,rfl,rfl,rfl,rfl,rfl,trivial⟩ [0,0] rfl ?_ (fun st1 x1 ⟨hE1,hD1,hB1⟩=> ?_)
 ·refine aI<| ?_
  refine fH (fun i st x=>n-i) (fun i st x=>[(10,.int .i64 (i:Nat))]) (fun i st x=>[aL g33 121 (.pointer (some ⟨g,0,none⟩)::x.cs),bs g st]) (fun i st x=>[cX x]) (fun i st x=>i≤n∧i≤6∧x.d=fu (RD.new 2000) (zl.take i)∧DS st x.d (4*i)∧Bd x.d (4*i) (4*i)) 0 (mX 2000 gs gl) y [(9,_),(29,_),(8,_),(7,_),(6,_),(0,_),(1,_),(2,_)] ⟨rfl,rfl,rfl,rfl,rfl,rfl,rfl,rfl,trivial⟩ [0,0] rfl [0] rfl (⟨Nat.zero_le _,Nat.zero_le _,hy1,hD0,hB0⟩) ⟨rfl,trivial⟩ (fun i st x ⟨hin,hi6,hE,hD,hB⟩=> ?_)
  refine ah<|ah<|aj<|hy (fun _=>aa rfl)<|hy (fun _=>aa rfl)<|hy (fun _=>aS rfl Tryz.underlying44)<|hy (fun _=>bq rfl rfl)<|hy (fun _=>aa rfl)<| ?_
  refine eK 38 rfl (fun h1=> ?_) (fun h1=> ?_)
  ·refine dU (o:=_) rfl rfl rfl (fun _=>aa rfl)<|dU (o:=_) rfl rfl rfl (fun _=>bq rfl rfl)<|hy (fun _=>bM rfl rfl)<|ai<|al (ρ' :=[(41,_),(10,_),(9,_),(29,_),(8,_),(7,_),(6,_),(0,_),(1,_),(2,_)]) ⟨rfl,rfl,rfl,rfl,rfl,rfl,rfl,rfl,rfl,rfl,trivial⟩<|ag<| ?_
   refine cD rfl (fun h2=> ?_) (fun h2=> ?_)
   ·obtain⟨k6,hk6,hk6l⟩:=zp (zl.getD i 0)
    have hil:i<zl.length:=by omega
    have hz:=hzl.at hil
    have hcl:=jy k6
    have hDo:x.d.ok (4*i):=⟨st,hD⟩
    have hcz:=lD hk6
    have hp32:(aV (x.d.put (bm k6)).2.1).length=32:=by
     rw[az]
     exact CL _ _
    refine aD<|ag<|ah<|aI<|ah<| ?_
    refine pE (fun(y2:RX) (g11:Nat)=>[(11,.pointer (some ⟨g11,0,none⟩))]) (fun(y2:RX) (g11:Nat)=>[aL g11 39 y2.cs]) (fun(y2:RX) (g11:Nat)=>[cX y2]) (fun(y2:RX) (g11:Nat)=>y2.d=(x.d.put (bm k6)).1) [(41,_),(10,_),(9,_),(29,_),(8,_),(7,_),(6,_),(0,_),(1,_),(2,_)] ⟨rfl,rfl,rfl,rfl,rfl,rfl,rfl,rfl,rfl,rfl,trivial⟩ [] rfl ?_ (fun y2 g11 hyd2=> ?_)
    ·refine tw [8,9,14,15,16,17] (.take 0 4<|.take 1 4<|.take 2 4<|.take 3 4<|.take 4 4<|.take 5 4<|.take 6 4<|.take 7 4<|.alt 8 (.alt 9 (.take 10 4<|.take 11 4<|.take 12 5<|.take 13 6<|.alt 14 (.alt 15 (.alt 16 (.alt 17 (.take 18 6<|.done) (.stop)) (.stop)) (.stop)) (.alt 15 (.alt 14 (.alt 16 (.alt 17 (.take 18 6<|.done) (.stop)) (.stop)) (.stop)) (.stop))) (.alt 14 (.alt 9 (.take 10 4<|.take 11 4<|.take 12 5<|.take 13 6<|.alt 15 (.alt 16 (.alt 17 (.take 18 6<|.done) (.stop)) (.stop)) (.stop)) (.alt 15 (.alt 9 (.take 10 4<|.take 11 4<|.take 12 5<|.take 13 6<|.alt 16 (.alt 17 (.take 18 6<|.done) (.stop)) (.stop)) (.stop)) (.stop))) (.alt 15 (.alt 9 (.take 10 4<|.take 11 4<|.take 12 5<|.take 13 6<|.alt 14 (.alt 16 (.alt 17 (.take 18 6<|.done) (.stop)) (.stop)) (.stop)) (.alt 14 (.alt 9 (.take 10 4<|.take 11 4<|.take 12 5<|.take 13 6<|.alt 16 (.alt 17 (.take 18 6<|.done) (.stop)) (.stop)) (.stop)) (.stop))) (.stop)))) (.alt 14 (.alt 8 (.alt 9 (.take 10 4<|.take 11 4<|.take 12 5<|.take 13 6<|.alt 15 (.alt 16 (.alt 17 (.take 18 6<|.done) (.stop)) (.stop)) (.stop)) (.alt 15 (.alt 9 (.take 10 4<|.take 11 4<|.take 12 5<|.take 13 6<|.alt 16 (.alt 17 (.take 18 6<|.done) (.stop)) (.stop)) (.stop)) (.stop))) (.alt 15 (.alt 8 (.alt 9 (.take 10 4<|.take 11 4<|.take 12 5<|.take 13 6<|.alt 16 (.alt 17 (.take 18 6<|.done) (.stop)) (.stop)) (.stop)) (.stop)) (.stop))) (.alt 15 (.alt 8 (.alt 9 (.take 10 4<|.take 11 4<|.take 12 5<|.take 13 6<|.alt 14 (.alt 16 (.alt 17 (.take 18 6<|.done) (.stop)) (.stop)) (.stop)) (.alt 14 (.alt 9 (.take 10 4<|.take 11 4<|.take 12 5<|.take 13 6<|.alt 16 (.alt 17 (.take 18 6<|.done) (.stop)) (.stop)) (.stop)) (.stop))) (.alt 14 (.alt 8 (.alt 9 (.take 10 4<|.take 11 4<|.take 12 5<|.take 13 6<|.alt 16 (.alt 17 (.take 18 6<|.done) (.stop)) (.stop)) (.stop)) (.stop)) (.stop))) (.stop)))) (by kernel_rfl) (by kernel_rfl) rfl 4<|bU (aa rfl)<|bU (bd rfl)<|bU (aK rfl eD (by decide))<|FX (fun m=>yV (aU rfl cd bh rfl (re (m.a6 0 rfl))) ((rfl:_=Value.agg x.cs.toArray)))<|bU (aa rfl)<|bU (aa rfl)<|bU (aT rfl rfl Tryz.underlying44 s8 hA_rl rfl (by omega))<|FX (fun m=>ay rfl fS ((m.rd 2 rfl).cell (mK hil)))<| ?_
     refine ej ?_ ?_
     ·refine fj (aq rfl Tryz.call27 (mf hz hk6 hk6l) [] rfl [] rfl ?_)
      rintro _ _ _ ⟨v,rfl,rfl,rfl⟩
      refine⟨(fun _=>wk [1,1] [0,1,2,3,4,5] rfl rfl), ?_⟩
      refine fQ (fun m=>(m.own 0 rfl).slice) ?_
      rintro⟨A_x,c_x,rfl,hc_x⟩
      refine fQ (fun m=>(m.ord 0 rfl).2.1) fun hA_x=> ?_
      refine lT (fun w m=>(m.perm (au [0] _ [_] _ rfl)).freeze) ?_
      refine lT (fun w m=>m.iW 0 rfl .own) ?_
      refine ej ?_ ?_
      ·refine fj (aq rfl Tryz.call26 (k0 hDo (by omega) hc_x hcl (by omega)) [] rfl [2,0,7] rfl ?_)
       rintro _ _ _ ⟨y2,rfl,rfl,rfl,hyd2⟩
       refine⟨(fun _=>wk [0,0] [3,4,5,6,7,8] rfl rfl), ?_⟩
       refine bU (aa rfl)<|bU (ar rfl rfl)<|bU (ar rfl rfl)<|bU (ar rfl rfl)<| ?_
       refine ej ?_ ?_
       ·refine fj (aN fG (fun g11=>⟨(fun _=>wk [1,1] [3,4,5,6,7,8] rfl rfl), ?_⟩))
        refine fj (aN cS (fun g12=>⟨(fun _=>wk [2,2] [3,4,5,6,7,8] rfl rfl), ?_⟩))
        refine eb (aJ 1 rfl rfl rfl bh rfl bz rfl ⟨(fun h=>absurd h (by decide)), ?_⟩)
        refine eb (aJ 1 rfl rfl rfl bf hp32 aZ rfl ⟨(fun h=>absurd h (by decide)), ?_⟩)
        refine bU (ab rfl)<|eF<|al (ρ' :=[(11,_),(41,_),(10,_),(9,_),(29,_),(8,_),(7,_),(6,_),(0,_),(1,_),(2,_)]) ⟨rfl,rfl,rfl,rfl,rfl,rfl,rfl,rfl,rfl,rfl,rfl,trivial⟩<|ak (X' :=[_,_,_,_]) (S' :=[_,_,_,_,_,_,_,_,_]) (fun _ m=>m)<| ?_
        exact di (R:=fun(y2:RX) (g11:Nat)=>[(11,.pointer (some ⟨g11,0,none⟩))]) (X1:=fun(y2:RX) (g11:Nat)=>[aL g11 39 y2.cs]) (S1:=fun(y2:RX) (g11:Nat)=>[cX y2]) (I:=fun(y2:RX) (g11:Nat)=>y2.d=(x.d.put (bm k6)).1) y2 g11 ⟨rfl,rfl,rfl,rfl,rfl,rfl,rfl,rfl,rfl,rfl,rfl,trivial⟩ [1,1,1] rfl [0,3,4,5,6,7,8] rfl hyd2
       ·refine fj (aN cS (fun g12=>⟨(fun _=>wk [1,1] [3,4,5,6,7,8] rfl rfl), ?_⟩))
        refine fj (aN fG (fun g11=>⟨(fun _=>wk [2,2] [3,4,5,6,7,8] rfl rfl), ?_⟩))
        refine eb (aJ 0 rfl rfl rfl bh rfl bz rfl ⟨(fun h=>absurd h (by decide)), ?_⟩)
        refine eb (aJ 1 rfl rfl rfl bf hp32 aZ rfl ⟨(fun h=>absurd h (by decide)), ?_⟩)
        refine bU (ab rfl)<|eF<|al (ρ' :=[(11,_),(41,_),(10,_),(9,_),(29,_),(8,_),(7,_),(6,_),(0,_),(1,_),(2,_)]) ⟨rfl,rfl,rfl,rfl,rfl,rfl,rfl,rfl,rfl,rfl,rfl,trivial⟩<|ak (X' :=[_,_,_,_]) (S' :=[_,_,_,_,_,_,_,_,_]) (fun _ m=>m)<| ?_
        exact di (R:=fun(y2:RX) (g11:Nat)=>[(11,.pointer (some ⟨g11,0,none⟩))]) (X1:=fun(y2:RX) (g11:Nat)=>[aL g11 39 y2.cs]) (S1:=fun(y2:RX) (g11:Nat)=>[cX y2]) (I:=fun(y2:RX) (g11:Nat)=>y2.d=(x.d.put (bm k6)).1) y2 g11 ⟨rfl,rfl,rfl,rfl,rfl,rfl,rfl,rfl,rfl,rfl,rfl,trivial⟩ [1,1,1] rfl [0,3,4,5,6,7,8] rfl hyd2
      ·refine ej ?_ ?_
       ·refine fj (aN fG (fun g11=>⟨(fun _=>wk [1,1] [2,3,4,5,6,7] rfl rfl), ?_⟩))
        refine ej ?_ ?_
        ·refine fj (aq rfl Tryz.call26 (k0 hDo (by omega) hc_x hcl (by omega)) [] rfl [2,0,7] rfl ?_)
         rintro _ _ _ ⟨y2,rfl,rfl,rfl,hyd2⟩
         refine⟨(fun _=>wk [1,1] [3,4,5,6,7,8] rfl rfl), ?_⟩
         refine bU (aa rfl)<|bU (ar rfl rfl)<|bU (ar rfl rfl)<|bU (ar rfl rfl)<| ?_
         refine fj (aN cS (fun g12=>⟨(fun _=>wk [2,2] [3,4,5,6,7,8] rfl rfl), ?_⟩))
         refine eb (aJ 1 rfl rfl rfl bh rfl bz rfl ⟨(fun h=>absurd h (by decide)), ?_⟩)
         refine eb (aJ 1 rfl rfl rfl bf hp32 aZ rfl ⟨(fun h=>absurd h (by decide)), ?_⟩)
         refine bU (ab rfl)<|eF<|al (ρ' :=[(11,_),(41,_),(10,_),(9,_),(29,_),(8,_),(7,_),(6,_),(0,_),(1,_),(2,_)]) ⟨rfl,rfl,rfl,rfl,rfl,rfl,rfl,rfl,rfl,rfl,rfl,trivial⟩<|ak (X' :=[_,_,_,_]) (S' :=[_,_,_,_,_,_,_,_,_]) (fun _ m=>m)<| ?_
         exact di (R:=fun(y2:RX) (g11:Nat)=>[(11,.pointer (some ⟨g11,0,none⟩))]) (X1:=fun(y2:RX) (g11:Nat)=>[aL g11 39 y2.cs]) (S1:=fun(y2:RX) (g11:Nat)=>[cX y2]) (I:=fun(y2:RX) (g11:Nat)=>y2.d=(x.d.put (bm k6)).1) y2 g11 ⟨rfl,rfl,rfl,rfl,rfl,rfl,rfl,rfl,rfl,rfl,rfl,trivial⟩ [1,1,1] rfl [0,3,4,5,6,7,8] rfl hyd2
        ·refine fj (aN cS (fun g12=>⟨(fun _=>wk [2,2] [2,3,4,5,6,7] rfl rfl), ?_⟩))
         refine fj (aq rfl Tryz.call26 (k0 hDo (by omega) hc_x hcl (by omega)) [] rfl [2,0,7] rfl ?_)
         rintro _ _ _ ⟨y2,rfl,rfl,rfl,hyd2⟩
         refine⟨(fun _=>wk [2,2] [3,4,5,6,7,8] rfl rfl), ?_⟩
         refine bU (aa rfl)<|bU (ar rfl rfl)<|bU (ar rfl rfl)<|bU (ar rfl rfl)<| ?_
         refine eb (aJ 1 rfl rfl rfl bh rfl bz rfl ⟨(fun h=>absurd h (by decide)), ?_⟩)
         refine eb (aJ 1 rfl rfl rfl bf hp32 aZ rfl ⟨(fun h=>absurd h (by decide)), ?_⟩)
         refine bU (ab rfl)<|eF<|al (ρ' :=[(11,_),(41,_),(10,_),(9,_),(29,_),(8,_),(7,_),(6,_),(0,_),(1,_),(2,_)]) ⟨rfl,rfl,rfl,rfl,rfl,rfl,rfl,rfl,rfl,rfl,rfl,trivial⟩<|ak (X' :=[_,_,_,_]) (S' :=[_,_,_,_,_,_,_,_,_]) (fun _ m=>m)<| ?_
         exact di (R:=fun(y2:RX) (g11:Nat)=>[(11,.pointer (some ⟨g11,0,none⟩))]) (X1:=fun(y2:RX) (g11:Nat)=>[aL g11 39 y2.cs]) (S1:=fun(y2:RX) (g11:Nat)=>[cX y2]) (I:=fun(y2:RX) (g11:Nat)=>y2.d=(x.d.put (bm k6)).1) y2 g11 ⟨rfl,rfl,rfl,rfl,rfl,rfl,rfl,rfl,rfl,rfl,rfl,trivial⟩ [1,1,1] rfl [0,3,4,5,6,7,8] rfl hyd2
       ·refine fj (aN cS (fun g12=>⟨(fun _=>wk [1,1] [2,3,4,5,6,7] rfl rfl), ?_⟩))
        refine ej ?_ ?_
        ·refine fj (aq rfl Tryz.call26 (k0 hDo (by omega) hc_x hcl (by omega)) [] rfl [2,0,7] rfl ?_)
         rintro _ _ _ ⟨y2,rfl,rfl,rfl,hyd2⟩
         refine⟨(fun _=>wk [1,1] [3,4,5,6,7,8] rfl rfl), ?_⟩
         refine bU (aa rfl)<|bU (ar rfl rfl)<|bU (ar rfl rfl)<|bU (ar rfl rfl)<| ?_
         refine fj (aN fG (fun g11=>⟨(fun _=>wk [2,2] [3,4,5,6,7,8] rfl rfl), ?_⟩))
         refine eb (aJ 0 rfl rfl rfl bh rfl bz rfl ⟨(fun h=>absurd h (by decide)), ?_⟩)
         refine eb (aJ 1 rfl rfl rfl bf hp32 aZ rfl ⟨(fun h=>absurd h (by decide)), ?_⟩)
         refine bU (ab rfl)<|eF<|al (ρ' :=[(11,_),(41,_),(10,_),(9,_),(29,_),(8,_),(7,_),(6,_),(0,_),(1,_),(2,_)]) ⟨rfl,rfl,rfl,rfl,rfl,rfl,rfl,rfl,rfl,rfl,rfl,trivial⟩<|ak (X' :=[_,_,_,_]) (S' :=[_,_,_,_,_,_,_,_,_]) (fun _ m=>m)<| ?_
         exact di (R:=fun(y2:RX) (g11:Nat)=>[(11,.pointer (some ⟨g11,0,none⟩))]) (X1:=fun(y2:RX) (g11:Nat)=>[aL g11 39 y2.cs]) (S1:=fun(y2:RX) (g11:Nat)=>[cX y2]) (I:=fun(y2:RX) (g11:Nat)=>y2.d=(x.d.put (bm k6)).1) y2 g11 ⟨rfl,rfl,rfl,rfl,rfl,rfl,rfl,rfl,rfl,rfl,rfl,trivial⟩ [1,1,1] rfl [0,3,4,5,6,7,8] rfl hyd2
        ·refine fj (aN fG (fun g11=>⟨(fun _=>wk [2,2] [2,3,4,5,6,7] rfl rfl), ?_⟩))
         refine fj (aq rfl Tryz.call26 (k0 hDo (by omega) hc_x hcl (by omega)) [] rfl [2,0,7] rfl ?_)
         rintro _ _ _ ⟨y2,rfl,rfl,rfl,hyd2⟩
         refine⟨(fun _=>wk [2,2] [3,4,5,6,7,8] rfl rfl), ?_⟩
         refine bU (aa rfl)<|bU (ar rfl rfl)<|bU (ar rfl rfl)<|bU (ar rfl rfl)<| ?_
         refine eb (aJ 0 rfl rfl rfl bh rfl bz rfl ⟨(fun h=>absurd h (by decide)), ?_⟩)
         refine eb (aJ 1 rfl rfl rfl bf hp32 aZ rfl ⟨(fun h=>absurd h (by decide)), ?_⟩)
         refine bU (ab rfl)<|eF<|al (ρ' :=[(11,_),(41,_),(10,_),(9,_),(29,_),(8,_),(7,_),(6,_),(0,_),(1,_),(2,_)]) ⟨rfl,rfl,rfl,rfl,rfl,rfl,rfl,rfl,rfl,rfl,rfl,trivial⟩<|ak (X' :=[_,_,_,_]) (S' :=[_,_,_,_,_,_,_,_,_]) (fun _ m=>m)<| ?_
         exact di (R:=fun(y2:RX) (g11:Nat)=>[(11,.pointer (some ⟨g11,0,none⟩))]) (X1:=fun(y2:RX) (g11:Nat)=>[aL g11 39 y2.cs]) (S1:=fun(y2:RX) (g11:Nat)=>[cX y2]) (I:=fun(y2:RX) (g11:Nat)=>y2.d=(x.d.put (bm k6)).1) y2 g11 ⟨rfl,rfl,rfl,rfl,rfl,rfl,rfl,rfl,rfl,rfl,rfl,trivial⟩ [1,1,1] rfl [0,3,4,5,6,7,8] rfl hyd2
     ·refine ej ?_ ?_
      ·refine fj (aN fG (fun g11=>⟨(fun _=>wk [1,1] [0,1,2,3,4,5] rfl rfl), ?_⟩))
       refine ej ?_ ?_
       ·refine fj (aq rfl Tryz.call27 (mf hz hk6 hk6l) [] rfl [] rfl ?_)
        rintro _ _ _ ⟨v,rfl,rfl,rfl⟩
        refine⟨(fun _=>wk [2,2] [0,1,2,3,4,5] rfl rfl), ?_⟩
        refine fQ (fun m=>(m.own 0 rfl).slice) ?_
        rintro⟨A_x,c_x,rfl,hc_x⟩
        refine fQ (fun m=>(m.ord 0 rfl).2.1) fun hA_x=> ?_
        refine lT (fun w m=>(m.perm (au [0] _ [_] _ rfl)).freeze) ?_
        refine lT (fun w m=>m.iW 0 rfl .own) ?_
        refine ej ?_ ?_
        ·refine fj (aq rfl Tryz.call26 (k0 hDo (by omega) hc_x hcl (by omega)) [] rfl [2,0,7] rfl ?_)
         rintro _ _ _ ⟨y2,rfl,rfl,rfl,hyd2⟩
         refine⟨(fun _=>wk [1,1] [3,4,5,6,7,8] rfl rfl), ?_⟩
         refine bU (aa rfl)<|bU (ar rfl rfl)<|bU (ar rfl rfl)<|bU (ar rfl rfl)<| ?_
         refine fj (aN cS (fun g12=>⟨(fun _=>wk [2,2] [3,4,5,6,7,8] rfl rfl), ?_⟩))
         refine eb (aJ 1 rfl rfl rfl bh rfl bz rfl ⟨(fun h=>absurd h (by decide)), ?_⟩)
         refine eb (aJ 1 rfl rfl rfl bf hp32 aZ rfl ⟨(fun h=>absurd h (by decide)), ?_⟩)
         refine bU (ab rfl)<|eF<|al (ρ' :=[(11,_),(41,_),(10,_),(9,_),(29,_),(8,_),(7,_),(6,_),(0,_),(1,_),(2,_)]) ⟨rfl,rfl,rfl,rfl,rfl,rfl,rfl,rfl,rfl,rfl,rfl,trivial⟩<|ak (X' :=[_,_,_,_]) (S' :=[_,_,_,_,_,_,_,_,_]) (fun _ m=>m)<| ?_
         exact di (R:=fun(y2:RX) (g11:Nat)=>[(11,.pointer (some ⟨g11,0,none⟩))]) (X1:=fun(y2:RX) (g11:Nat)=>[aL g11 39 y2.cs]) (S1:=fun(y2:RX) (g11:Nat)=>[cX y2]) (I:=fun(y2:RX) (g11:Nat)=>y2.d=(x.d.put (bm k6)).1) y2 g11 ⟨rfl,rfl,rfl,rfl,rfl,rfl,rfl,rfl,rfl,rfl,rfl,trivial⟩ [1,1,1] rfl [0,3,4,5,6,7,8] rfl hyd2
        ·refine fj (aN cS (fun g12=>⟨(fun _=>wk [2,2] [2,3,4,5,6,7] rfl rfl), ?_⟩))
         refine fj (aq rfl Tryz.call26 (k0 hDo (by omega) hc_x hcl (by omega)) [] rfl [2,0,7] rfl ?_)
         rintro _ _ _ ⟨y2,rfl,rfl,rfl,hyd2⟩
         refine⟨(fun _=>wk [2,2] [3,4,5,6,7,8] rfl rfl), ?_⟩
         refine bU (aa rfl)<|bU (ar rfl rfl)<|bU (ar rfl rfl)<|bU (ar rfl rfl)<| ?_
         refine eb (aJ 1 rfl rfl rfl bh rfl bz rfl ⟨(fun h=>absurd h (by decide)), ?_⟩)
         refine eb (aJ 1 rfl rfl rfl bf hp32 aZ rfl ⟨(fun h=>absurd h (by decide)), ?_⟩)
         refine bU (ab rfl)<|eF<|al (ρ' :=[(11,_),(41,_),(10,_),(9,_),(29,_),(8,_),(7,_),(6,_),(0,_),(1,_),(2,_)]) ⟨rfl,rfl,rfl,rfl,rfl,rfl,rfl,rfl,rfl,rfl,rfl,trivial⟩<|ak (X' :=[_,_,_,_]) (S' :=[_,_,_,_,_,_,_,_,_]) (fun _ m=>m)<| ?_
         exact di (R:=fun(y2:RX) (g11:Nat)=>[(11,.pointer (some ⟨g11,0,none⟩))]) (X1:=fun(y2:RX) (g11:Nat)=>[aL g11 39 y2.cs]) (S1:=fun(y2:RX) (g11:Nat)=>[cX y2]) (I:=fun(y2:RX) (g11:Nat)=>y2.d=(x.d.put (bm k6)).1) y2 g11 ⟨rfl,rfl,rfl,rfl,rfl,rfl,rfl,rfl,rfl,rfl,rfl,trivial⟩ [1,1,1] rfl [0,3,4,5,6,7,8] rfl hyd2
       ·refine fj (aN cS (fun g12=>⟨(fun _=>wk [2,2] [0,1,2,3,4,5] rfl rfl), ?_⟩))
        refine fj (aq rfl Tryz.call27 (mf hz hk6 hk6l) [] rfl [] rfl ?_)
        rintro _ _ _ ⟨v,rfl,rfl,rfl⟩
        refine⟨(fun _=>wk [3,3] [0,1,2,3,4,5] rfl rfl), ?_⟩
        refine fQ (fun m=>(m.own 0 rfl).slice) ?_
        rintro⟨A_x,c_x,rfl,hc_x⟩
        refine fQ (fun m=>(m.ord 0 rfl).2.1) fun hA_x=> ?_
        refine lT (fun w m=>(m.perm (au [0] _ [_] _ rfl)).freeze) ?_
        refine lT (fun w m=>m.iW 0 rfl .own) ?_
        refine fj (aq rfl Tryz.call26 (k0 hDo (by omega) hc_x hcl (by omega)) [] rfl [2,0,7] rfl ?_)
        rintro _ _ _ ⟨y2,rfl,rfl,rfl,hyd2⟩
        refine⟨(fun _=>wk [2,2] [3,4,5,6,7,8] rfl rfl), ?_⟩
        refine bU (aa rfl)<|bU (ar rfl rfl)<|bU (ar rfl rfl)<|bU (ar rfl rfl)<| ?_
        refine eb (aJ 1 rfl rfl rfl bh rfl bz rfl ⟨(fun h=>absurd h (by decide)), ?_⟩)
        refine eb (aJ 1 rfl rfl rfl bf hp32 aZ rfl ⟨(fun h=>absurd h (by decide)), ?_⟩)
        refine bU (ab rfl)<|eF<|al (ρ' :=[(11,_),(41,_),(10,_),(9,_),(29,_),(8,_),(7,_),(6,_),(0,_),(1,_),(2,_)]) ⟨rfl,rfl,rfl,rfl,rfl,rfl,rfl,rfl,rfl,rfl,rfl,trivial⟩<|ak (X' :=[_,_,_,_]) (S' :=[_,_,_,_,_,_,_,_,_]) (fun _ m=>m)<| ?_
        exact di (R:=fun(y2:RX) (g11:Nat)=>[(11,.pointer (some ⟨g11,0,none⟩))]) (X1:=fun(y2:RX) (g11:Nat)=>[aL g11 39 y2.cs]) (S1:=fun(y2:RX) (g11:Nat)=>[cX y2]) (I:=fun(y2:RX) (g11:Nat)=>y2.d=(x.d.put (bm k6)).1) y2 g11 ⟨rfl,rfl,rfl,rfl,rfl,rfl,rfl,rfl,rfl,rfl,rfl,trivial⟩ [1,1,1] rfl [0,3,4,5,6,7,8] rfl hyd2
      ·refine fj (aN cS (fun g12=>⟨(fun _=>wk [1,1] [0,1,2,3,4,5] rfl rfl), ?_⟩))
       refine ej ?_ ?_
       ·refine fj (aq rfl Tryz.call27 (mf hz hk6 hk6l) [] rfl [] rfl ?_)
        rintro _ _ _ ⟨v,rfl,rfl,rfl⟩
        refine⟨(fun _=>wk [2,2] [0,1,2,3,4,5] rfl rfl), ?_⟩
        refine fQ (fun m=>(m.own 0 rfl).slice) ?_
        rintro⟨A_x,c_x,rfl,hc_x⟩
        refine fQ (fun m=>(m.ord 0 rfl).2.1) fun hA_x=> ?_
        refine lT (fun w m=>(m.perm (au [0] _ [_] _ rfl)).freeze) ?_
        refine lT (fun w m=>m.iW 0 rfl .own) ?_
        refine ej ?_ ?_
        ·refine fj (aq rfl Tryz.call26 (k0 hDo (by omega) hc_x hcl (by omega)) [] rfl [2,0,7] rfl ?_)
         rintro _ _ _ ⟨y2,rfl,rfl,rfl,hyd2⟩
         refine⟨(fun _=>wk [1,1] [3,4,5,6,7,8] rfl rfl), ?_⟩
         refine bU (aa rfl)<|bU (ar rfl rfl)<|bU (ar rfl rfl)<|bU (ar rfl rfl)<| ?_
         refine fj (aN fG (fun g11=>⟨(fun _=>wk [2,2] [3,4,5,6,7,8] rfl rfl), ?_⟩))
         refine eb (aJ 0 rfl rfl rfl bh rfl bz rfl ⟨(fun h=>absurd h (by decide)), ?_⟩)
         refine eb (aJ 1 rfl rfl rfl bf hp32 aZ rfl ⟨(fun h=>absurd h (by decide)), ?_⟩)
         refine bU (ab rfl)<|eF<|al (ρ' :=[(11,_),(41,_),(10,_),(9,_),(29,_),(8,_),(7,_),(6,_),(0,_),(1,_),(2,_)]) ⟨rfl,rfl,rfl,rfl,rfl,rfl,rfl,rfl,rfl,rfl,rfl,trivial⟩<|ak (X' :=[_,_,_,_]) (S' :=[_,_,_,_,_,_,_,_,_]) (fun _ m=>m)<| ?_
         exact di (R:=fun(y2:RX) (g11:Nat)=>[(11,.pointer (some ⟨g11,0,none⟩))]) (X1:=fun(y2:RX) (g11:Nat)=>[aL g11 39 y2.cs]) (S1:=fun(y2:RX) (g11:Nat)=>[cX y2]) (I:=fun(y2:RX) (g11:Nat)=>y2.d=(x.d.put (bm k6)).1) y2 g11 ⟨rfl,rfl,rfl,rfl,rfl,rfl,rfl,rfl,rfl,rfl,rfl,trivial⟩ [1,1,1] rfl [0,3,4,5,6,7,8] rfl hyd2
        ·refine fj (aN fG (fun g11=>⟨(fun _=>wk [2,2] [2,3,4,5,6,7] rfl rfl), ?_⟩))
         refine fj (aq rfl Tryz.call26 (k0 hDo (by omega) hc_x hcl (by omega)) [] rfl [2,0,7] rfl ?_)
         rintro _ _ _ ⟨y2,rfl,rfl,rfl,hyd2⟩
         refine⟨(fun _=>wk [2,2] [3,4,5,6,7,8] rfl rfl), ?_⟩
         refine bU (aa rfl)<|bU (ar rfl rfl)<|bU (ar rfl rfl)<|bU (ar rfl rfl)<| ?_
         refine eb (aJ 0 rfl rfl rfl bh rfl bz rfl ⟨(fun h=>absurd h (by decide)), ?_⟩)
         refine eb (aJ 1 rfl rfl rfl bf hp32 aZ rfl ⟨(fun h=>absurd h (by decide)), ?_⟩)
         refine bU (ab rfl)<|eF<|al (ρ' :=[(11,_),(41,_),(10,_),(9,_),(29,_),(8,_),(7,_),(6,_),(0,_),(1,_),(2,_)]) ⟨rfl,rfl,rfl,rfl,rfl,rfl,rfl,rfl,rfl,rfl,rfl,trivial⟩<|ak (X' :=[_,_,_,_]) (S' :=[_,_,_,_,_,_,_,_,_]) (fun _ m=>m)<| ?_
         exact di (R:=fun(y2:RX) (g11:Nat)=>[(11,.pointer (some ⟨g11,0,none⟩))]) (X1:=fun(y2:RX) (g11:Nat)=>[aL g11 39 y2.cs]) (S1:=fun(y2:RX) (g11:Nat)=>[cX y2]) (I:=fun(y2:RX) (g11:Nat)=>y2.d=(x.d.put (bm k6)).1) y2 g11 ⟨rfl,rfl,rfl,rfl,rfl,rfl,rfl,rfl,rfl,rfl,rfl,trivial⟩ [1,1,1] rfl [0,3,4,5,6,7,8] rfl hyd2
       ·refine fj (aN fG (fun g11=>⟨(fun _=>wk [2,2] [0,1,2,3,4,5] rfl rfl), ?_⟩))
        refine fj (aq rfl Tryz.call27 (mf hz hk6 hk6l) [] rfl [] rfl ?_)
        rintro _ _ _ ⟨v,rfl,rfl,rfl⟩
        refine⟨(fun _=>wk [3,3] [0,1,2,3,4,5] rfl rfl), ?_⟩
        refine fQ (fun m=>(m.own 0 rfl).slice) ?_
        rintro⟨A_x,c_x,rfl,hc_x⟩
        refine fQ (fun m=>(m.ord 0 rfl).2.1) fun hA_x=> ?_
        refine lT (fun w m=>(m.perm (au [0] _ [_] _ rfl)).freeze) ?_
        refine lT (fun w m=>m.iW 0 rfl .own) ?_
        refine fj (aq rfl Tryz.call26 (k0 hDo (by omega) hc_x hcl (by omega)) [] rfl [2,0,7] rfl ?_)
        rintro _ _ _ ⟨y2,rfl,rfl,rfl,hyd2⟩
        refine⟨(fun _=>wk [2,2] [3,4,5,6,7,8] rfl rfl), ?_⟩
        refine bU (aa rfl)<|bU (ar rfl rfl)<|bU (ar rfl rfl)<|bU (ar rfl rfl)<| ?_
        refine eb (aJ 0 rfl rfl rfl bh rfl bz rfl ⟨(fun h=>absurd h (by decide)), ?_⟩)
        refine eb (aJ 1 rfl rfl rfl bf hp32 aZ rfl ⟨(fun h=>absurd h (by decide)), ?_⟩)
        refine bU (ab rfl)<|eF<|al (ρ' :=[(11,_),(41,_),(10,_),(9,_),(29,_),(8,_),(7,_),(6,_),(0,_),(1,_),(2,_)]) ⟨rfl,rfl,rfl,rfl,rfl,rfl,rfl,rfl,rfl,rfl,rfl,trivial⟩<|ak (X' :=[_,_,_,_]) (S' :=[_,_,_,_,_,_,_,_,_]) (fun _ m=>m)<| ?_
        exact di (R:=fun(y2:RX) (g11:Nat)=>[(11,.pointer (some ⟨g11,0,none⟩))]) (X1:=fun(y2:RX) (g11:Nat)=>[aL g11 39 y2.cs]) (S1:=fun(y2:RX) (g11:Nat)=>[cX y2]) (I:=fun(y2:RX) (g11:Nat)=>y2.d=(x.d.put (bm k6)).1) y2 g11 ⟨rfl,rfl,rfl,rfl,rfl,rfl,rfl,rfl,rfl,rfl,rfl,trivial⟩ [1,1,1] rfl [0,3,4,5,6,7,8] rfl hyd2
    ·refine ag<|ah<|aj<|hy (fun _=>aa rfl)<|hy (fun m=>yV (aU rfl cd bh rfl ((m.a6 0 rfl).ax)) ((rfl:_=Value.agg y2.cs.toArray)))<|hy (fun _=>bd rfl)<|hy (fun _=>aK rfl eD (by decide))<| ?_
     refine cL (lO 1 rfl rfl rfl bh rfl bz (show 6≤6 from Nat.le_refl 6) ?_)
     refine aO (fun w m=>m.bQ 0 rfl (show _=aL g33 121 (.pointer (some ⟨g,0,none⟩)::y2.cs)from congrArg (aL _ _) mF)) ?_
     refine ai<|al (ρ' :=[(11,_),(41,_),(10,_),(9,_),(29,_),(8,_),(7,_),(6,_),(0,_),(1,_),(2,_)]) ⟨rfl,rfl,rfl,rfl,rfl,rfl,rfl,rfl,rfl,rfl,rfl,trivial⟩<|ak (X' :=[_,_,_]) (S' :=[_,_,_,_,_,_,_]) (fun _ m=>m)<|ag<|qm [0,0] [0,1,2,3,4,5,6] rfl rfl [8,9] [(0,some 1),(1,some 1),(2,some 1),(3,some 1),(4,some 0),(5,some 0),(6,some 0),(7,some 0),(8,none),(9,none)] (by kernel_rfl) (by kernel_rfl) rfl 99<|an (aa rfl)<|an (bd rfl)<|an (aK rfl fp (by decide))<|cr (fun m=>ay rfl kV (aE (m.a6 0 rfl) (i:=0) rfl))<|an (aa rfl)<|an (aa rfl)<|an (aT rfl rfl Tryz.underlying44 s8 hA_rl rfl (by omega))<|cr (fun m=>ay rfl fS ((m.rd 3 rfl).cell (mK hil)))<| ?_
     refine ew (aq rfl Tryz.call27 (mf hz hk6 hk6l) [] rfl [] rfl ?_)
     rintro _ _ _ ⟨v,rfl,rfl,rfl⟩
     refine⟨(fun _=>wk [1,1] [0,1,2,3,4,5,6] rfl rfl), ?_⟩
     refine cA (fun m=>(m.own 0 rfl).slice) ?_
     rintro⟨A_x,c_x,rfl,hc_x⟩
     refine cA (fun m=>(m.ord 0 rfl).2.1) fun hA_x=> ?_
     refine ew (cM rfl Tryz.call28 (FG hD (by omega) hc_x hcl (by omega)) [3] rfl (.x 0 rfl .own (.s 6 rfl .nil)) ?_)
     rintro _ _ _ ⟨st1,rfl,rfl,rfl,hD2⟩
     refine⟨rfl, ?_⟩
     refine⟨(fun _=>wk [2,2] [0,1,2,3,4,5,6] rfl rfl), ?_⟩
     refine bD<|al (ρ' :=[(11,_),(41,_),(10,_),(9,_),(29,_),(8,_),(7,_),(6,_),(0,_),(1,_),(2,_)]) ⟨rfl,rfl,rfl,rfl,rfl,rfl,rfl,rfl,rfl,rfl,rfl,trivial⟩<|ak (X' :=[_,_,_,_]) (S' :=[_,_,_,_,_,_,_]) (fun _ m=>m)<|aQ<|ag<|aj<|hy (fun _=>aa rfl)<|hy (fun _=>aM rfl rfl (bG (by omega) (by omega)))<|hy (fun _=>ab rfl)<|ai<|al (ρ' :=[(10,_),(11,_),(41,_),(9,_),(29,_),(8,_),(7,_),(6,_),(0,_),(1,_),(2,_)]) ⟨rfl,rfl,rfl,rfl,rfl,rfl,rfl,rfl,rfl,rfl,rfl,trivial⟩<| ?_
     rw[←hyd2]at hD2
     have hB2:Bd y2.d (4*(i+1)) (4*(i+1)):=by rw[hyd2];exact(hB.put _).le (by omega) (by omega)
     have hE2:y2.d=fu (RD.new 2000) (zl.take (i+1)):=by rw[hyd2,tc hil,←hE,hcz]
     refine fx (i+1) st1 y2 ⟨rfl,rfl,rfl,rfl,rfl,rfl,rfl,rfl,rfl,trivial⟩ [2,0] rfl [0,2,3,4,5,6] rfl (⟨by omega,by omega,hE2,hD2.le (by omega),hB2⟩) (by omega)
   ·refine bJ<|ao<|ao<|aB<| ?_
    have htm:=ir (l:=zl) (i:=i) (n:=6) (by omega) (by omega) hi6
    rw[htm]at hE
    exact di (R:=fun(st1:cN) (x1:RX)=>[]) (X1:=fun(st1:cN) (x1:RX)=>[aL g33 121 (.pointer (some ⟨g,0,none⟩)::x1.cs),bs g st1]) (S1:=fun(st1:cN) (x1:RX)=>[cX x1]) (I:=fun(st1:cN) (x1:RX)=>x1.d=fu (RD.new 2000) (zl.take 6)∧DS st1 x1.d 24∧Bd x1.d 24 24) st x ⟨rfl,rfl,rfl,rfl,rfl,rfl,rfl,rfl,trivial⟩ [0,0] rfl [0,1,2,3,4,5] rfl (⟨hE,hD.le (by omega),hB.le (by omega) (by omega)⟩)
  ·refine bE rfl rfl rfl (by decide)<|bE rfl rfl rfl (by decide)<|hy (fun _=>bC rfl rfl)<|ai<|al (ρ' :=[(41,_),(10,_),(9,_),(29,_),(8,_),(7,_),(6,_),(0,_),(1,_),(2,_)]) ⟨rfl,rfl,rfl,rfl,rfl,rfl,rfl,rfl,rfl,rfl,trivial⟩<|ag<| ?_
   refine dB rfl (rfl) ?_
   refine bJ<|ao<|ao<|aB<| ?_
   have htm:=ir (l:=zl) (i:=i) (n:=6) (by omega) (by omega) hi6
   rw[htm]at hE
   exact di (R:=fun(st1:cN) (x1:RX)=>[]) (X1:=fun(st1:cN) (x1:RX)=>[aL g33 121 (.pointer (some ⟨g,0,none⟩)::x1.cs),bs g st1]) (S1:=fun(st1:cN) (x1:RX)=>[cX x1]) (I:=fun(st1:cN) (x1:RX)=>x1.d=fu (RD.new 2000) (zl.take 6)∧DS st1 x1.d 24∧Bd x1.d 24 24) st x ⟨rfl,rfl,rfl,rfl,rfl,rfl,rfl,rfl,trivial⟩ [0,0] rfl [0,1,2,3,4,5] rfl (⟨hE,hD.le (by omega),hB.le (by omega) (by omega)⟩)
 ·refine ag<|ah<|ah<|aj<|hy (fun _=>ab rfl)<|ai<|ag<| ?_
  refine pE (fun(st2:cN) (x2:RX)=>[]) (fun(st2:cN) (x2:RX)=>[aL g33 121 (.pointer (some ⟨g,0,none⟩)::x2.cs),bs g st2]) (fun(st2:cN) (x2:RX)=>[cX x2]) (fun(st2:cN) (x2:RX)=>x2.d=ku (fu (RD.new 2000) (zl.take 6)) (zb.take 3) (bb.take 30)∧DS st2 x2.d 27∧Bd x2.d 27 27) [(9,_),(29,_),(8,_),(7,_),(6,_),(0,_),(1,_),(2,_)] ⟨rfl,rfl,rfl,rfl,rfl,rfl,rfl,rfl,trivial⟩ [0,0] rfl ?_ (fun st2 x2 ⟨hE2,hD2,hB2⟩=> ?_)
  ·refine aI<| ?_
   refine fH (fun i st x=>m-i) (fun i st x=>[(14,.int .i64 (i:Nat))]) (fun i st x=>[aL g33 121 (.pointer (some ⟨g,0,none⟩)::x.cs),bs g st]) (fun i st x=>[cX x]) (fun i st x=>i≤m∧i≤3∧x.d=ku (fu (RD.new 2000) (zl.take 6)) (zb.take i) (bb.take 30)∧DS st x.d (24+i)∧Bd x.d (24+i) (24+i)) 0 st1 x1 [(9,_),(29,_),(8,_),(7,_),(6,_),(0,_),(1,_),(2,_)] ⟨rfl,rfl,rfl,rfl,rfl,rfl,rfl,rfl,trivial⟩ [0,0] rfl [0] rfl (⟨Nat.zero_le _,Nat.zero_le _,hE1,hD1,hB1⟩) ⟨rfl,trivial⟩ (fun i st x ⟨hin,hi6,hE,hD,hB⟩=> ?_)
   refine ah<|ah<|aj<|hy (fun _=>aa rfl)<|hy (fun _=>aa rfl)<|hy (fun _=>aS rfl Tryz.underlying44)<|hy (fun _=>bq rfl rfl)<|hy (fun _=>aa rfl)<| ?_
   refine eK 76 rfl (fun h1=> ?_) (fun h1=> ?_)
   ·refine dU (o:=_) rfl rfl rfl (fun _=>aa rfl)<|dU (o:=_) rfl rfl rfl (fun _=>bq rfl rfl)<|hy (fun _=>bM rfl rfl)<|ai<|al (ρ' :=[(79,_),(14,_),(9,_),(29,_),(8,_),(7,_),(6,_),(0,_),(1,_),(2,_)]) ⟨rfl,rfl,rfl,rfl,rfl,rfl,rfl,rfl,rfl,rfl,trivial⟩<|ag<| ?_
    refine cD rfl (fun h2=> ?_) (fun h2=> ?_)
    ·obtain⟨k6,hk6,hk6l⟩:=zp (zb.getD i 0)
     have hil:i<zb.length:=by omega
     have hz:=hzb.at hil
     have hm:=br (bm k6)
     have hDo:x.d.ok (24+i):=⟨st,hD⟩
     have hcz:=lD hk6
     have hbl:(bb.take 30).length≤30:=by rw[hbt];omega
     refine aD<|ag<|ah<|aI<|ah<|aj<|hy (fun _=>aa rfl)<|hy (fun _=>aa rfl)<|hy (fun _=>aT rfl rfl Tryz.underlying44 s8 hA_rb rfl (by omega))<|hy (fun m=>ay rfl fS ((m.rd 4 rfl).cell (mK hil)))<| ?_
     refine hx (aq rfl Tryz.call30 (o6 hz hk6 hk6l) [] rfl [6] rfl ?_)
     rintro _ _ _ ⟨rfl,rfl,rfl⟩
     refine hx (aq rfl Tryz.call29 (lj hm) [] rfl [] rfl ?_)
     rintro _ _ _ ⟨rfl,rfl,rfl⟩
     refine hy (fun _=>ab rfl)<|ai<|al (ρ' :=[(15,_),(79,_),(14,_),(9,_),(29,_),(8,_),(7,_),(6,_),(0,_),(1,_),(2,_)]) ⟨rfl,rfl,rfl,rfl,rfl,rfl,rfl,rfl,rfl,rfl,rfl,trivial⟩<|ak (X' :=[_,_]) (S' :=[_,_,_,_,_,_,_]) (fun _ m=>m)<|ag<|ah<| ?_
     have hbs:=ti (d:=fu (RD.new 2000) (zl.take 6)) (bb:=bb.take 30) hil
     rw[hcz,←hE]at hbs
     generalize hpp:aH (bk (bm k6))=pp at hbs ⊢
     have hpl:pp.length=69:=by rw[←hpp,ee hm]
     refine pE (fun(y2:RX) (g16:Nat)=>[(16,.pointer (some ⟨g16,0,none⟩))]) (fun(y2:RX) (g16:Nat)=>[aL g16 39 y2.cs]) (fun(y2:RX) (g16:Nat)=>[cX y2]) (fun(y2:RX) (g16:Nat)=>y2.d=x.d.write pp (bb.take 30)) [(15,_),(79,_),(14,_),(9,_),(29,_),(8,_),(7,_),(6,_),(0,_),(1,_),(2,_)] ⟨rfl,rfl,rfl,rfl,rfl,rfl,rfl,rfl,rfl,rfl,rfl,trivial⟩ [] rfl ?_ (fun y2 g16 hyd2=> ?_)
     ·refine tw [6,7,8,12,13] (.take 0 4<|.take 1 4<|.take 2 4<|.take 3 4<|.take 4 4<|.take 5 4<|.alt 6 (.alt 7 (.alt 8 (.take 9 4<|.take 10 4<|.take 11 5<|.alt 12 (.alt 13 (.take 14 5<|.done) (.stop)) (.stop)) (.alt 12 (.alt 8 (.take 9 4<|.take 10 4<|.take 11 5<|.alt 13 (.take 14 5<|.done) (.stop)) (.stop)) (.stop))) (.alt 12 (.alt 7 (.alt 8 (.take 9 4<|.take 10 4<|.take 11 5<|.alt 13 (.take 14 5<|.done) (.stop)) (.stop)) (.stop)) (.stop))) (.alt 12 (.alt 6 (.alt 7 (.alt 8 (.take 9 4<|.take 10 4<|.take 11 5<|.alt 13 (.take 14 5<|.done) (.stop)) (.stop)) (.stop)) (.stop)) (.stop))) (by kernel_rfl) (by kernel_rfl) rfl 4<|bU (aa rfl)<|bU (bd rfl)<|bU (aK rfl eD (by decide))<|FX (fun m=>yV (aU rfl cd bh rfl (re (m.a6 0 rfl))) ((rfl:_=Value.agg x.cs.toArray)))<|bU (aa rfl)<|bU (aa rfl)<| ?_
      refine ej ?_ ?_
      ·refine fj (aq rfl Tryz.call32 (EW hkc hkb (m:=30)) [] rfl [5] rfl ?_)
       rintro _ _ _ ⟨v,rfl,rfl,rfl⟩
       refine⟨(fun _=>wk [1,1] [0,1,2,3,4,5,6] rfl rfl), ?_⟩
       refine fQ (fun m=>(m.own 0 rfl).slice) ?_
       rintro⟨A_x,c_x,rfl,hc_x⟩
       refine fQ (fun m=>(m.ord 0 rfl).2.1) fun hA_x=> ?_
       refine ej ?_ ?_
       ·refine fj<|mD (fun m=>kB rfl Tryz.underlying27 Tryz.underlying5 Tryz.underlying9 (m.ord 0 rfl))<|And.intro (fun _=>wk [1,1] [0,1,2,3,4,5,6] rfl rfl)<| ?_
        refine ej ?_ ?_
        ·refine fj (aq rfl Tryz.call31 (mS hDo.qM (by omega) (by omega) (by omega) (p:=pp) (bb:=(bb.take 30))) [] rfl [0] rfl ?_)
         rintro _ _ _ ⟨y2,rfl,rfl,rfl,hyd2⟩
         refine⟨(fun _=>wk [1,1] [1,2,3,4,5,6,7] rfl rfl), ?_⟩
         refine bU (aa rfl)<|bU (ar rfl rfl)<|bU (ar rfl rfl)<| ?_
         refine fj (aN fG (fun g16=>⟨(fun _=>wk [2,2] [1,2,3,4,5,6,7] rfl rfl), ?_⟩))
         refine eb (aJ 0 rfl rfl rfl bh rfl bz rfl ⟨(fun h=>absurd h (by decide)), ?_⟩)
         refine bU (ab rfl)<|eF<|al (ρ' :=[(16,_),(15,_),(79,_),(14,_),(9,_),(29,_),(8,_),(7,_),(6,_),(0,_),(1,_),(2,_)]) ⟨rfl,rfl,rfl,rfl,rfl,rfl,rfl,rfl,rfl,rfl,rfl,rfl,trivial⟩<|ak (X' :=[_,_,_,_]) (S' :=[_,_,_,_,_,_,_,_]) (fun _ m=>m)<| ?_
         exact di (R:=fun(y2:RX) (g16:Nat)=>[(16,.pointer (some ⟨g16,0,none⟩))]) (X1:=fun(y2:RX) (g16:Nat)=>[aL g16 39 y2.cs]) (S1:=fun(y2:RX) (g16:Nat)=>[cX y2]) (I:=fun(y2:RX) (g16:Nat)=>y2.d=x.d.write pp (bb.take 30)) y2 g16 ⟨rfl,rfl,rfl,rfl,rfl,rfl,rfl,rfl,rfl,rfl,rfl,rfl,trivial⟩ [0,1,1] rfl [0,1,2,3,4,5,6,7] rfl hyd2
        ·refine fj (aN fG (fun g16=>⟨(fun _=>wk [2,2] [0,1,2,3,4,5,6] rfl rfl), ?_⟩))
         refine fj (aq rfl Tryz.call31 (mS hDo.qM (by omega) (by omega) (by omega) (p:=pp) (bb:=(bb.take 30))) [] rfl [0] rfl ?_)
         rintro _ _ _ ⟨y2,rfl,rfl,rfl,hyd2⟩
         refine⟨(fun _=>wk [2,2] [1,2,3,4,5,6,7] rfl rfl), ?_⟩
         refine bU (aa rfl)<|bU (ar rfl rfl)<|bU (ar rfl rfl)<| ?_
         refine eb (aJ 0 rfl rfl rfl bh rfl bz rfl ⟨(fun h=>absurd h (by decide)), ?_⟩)
         refine bU (ab rfl)<|eF<|al (ρ' :=[(16,_),(15,_),(79,_),(14,_),(9,_),(29,_),(8,_),(7,_),(6,_),(0,_),(1,_),(2,_)]) ⟨rfl,rfl,rfl,rfl,rfl,rfl,rfl,rfl,rfl,rfl,rfl,rfl,trivial⟩<|ak (X' :=[_,_,_,_]) (S' :=[_,_,_,_,_,_,_,_]) (fun _ m=>m)<| ?_
         exact di (R:=fun(y2:RX) (g16:Nat)=>[(16,.pointer (some ⟨g16,0,none⟩))]) (X1:=fun(y2:RX) (g16:Nat)=>[aL g16 39 y2.cs]) (S1:=fun(y2:RX) (g16:Nat)=>[cX y2]) (I:=fun(y2:RX) (g16:Nat)=>y2.d=x.d.write pp (bb.take 30)) y2 g16 ⟨rfl,rfl,rfl,rfl,rfl,rfl,rfl,rfl,rfl,rfl,rfl,rfl,trivial⟩ [0,1,1] rfl [0,1,2,3,4,5,6,7] rfl hyd2
       ·refine fj (aN fG (fun g16=>⟨(fun _=>wk [2,2] [0,1,2,3,4,5,6] rfl rfl), ?_⟩))
        refine fj<|mD (fun m=>kB rfl Tryz.underlying27 Tryz.underlying5 Tryz.underlying9 (m.ord 1 rfl))<|And.intro (fun _=>wk [2,2] [0,1,2,3,4,5,6] rfl rfl)<| ?_
        refine fj (aq rfl Tryz.call31 (mS hDo.qM (by omega) (by omega) (by omega) (p:=pp) (bb:=(bb.take 30))) [] rfl [0] rfl ?_)
        rintro _ _ _ ⟨y2,rfl,rfl,rfl,hyd2⟩
        refine⟨(fun _=>wk [2,2] [1,2,3,4,5,6,7] rfl rfl), ?_⟩
        refine bU (aa rfl)<|bU (ar rfl rfl)<|bU (ar rfl rfl)<| ?_
        refine eb (aJ 0 rfl rfl rfl bh rfl bz rfl ⟨(fun h=>absurd h (by decide)), ?_⟩)
        refine bU (ab rfl)<|eF<|al (ρ' :=[(16,_),(15,_),(79,_),(14,_),(9,_),(29,_),(8,_),(7,_),(6,_),(0,_),(1,_),(2,_)]) ⟨rfl,rfl,rfl,rfl,rfl,rfl,rfl,rfl,rfl,rfl,rfl,rfl,trivial⟩<|ak (X' :=[_,_,_,_]) (S' :=[_,_,_,_,_,_,_,_]) (fun _ m=>m)<| ?_
        exact di (R:=fun(y2:RX) (g16:Nat)=>[(16,.pointer (some ⟨g16,0,none⟩))]) (X1:=fun(y2:RX) (g16:Nat)=>[aL g16 39 y2.cs]) (S1:=fun(y2:RX) (g16:Nat)=>[cX y2]) (I:=fun(y2:RX) (g16:Nat)=>y2.d=x.d.write pp (bb.take 30)) y2 g16 ⟨rfl,rfl,rfl,rfl,rfl,rfl,rfl,rfl,rfl,rfl,rfl,rfl,trivial⟩ [0,1,1] rfl [0,1,2,3,4,5,6,7] rfl hyd2
      ·refine fj (aN fG (fun g16=>⟨(fun _=>wk [1,1] [0,1,2,3,4,5,6] rfl rfl), ?_⟩))
       refine fj (aq rfl Tryz.call32 (EW hkc hkb (m:=30)) [] rfl [5] rfl ?_)
       rintro _ _ _ ⟨v,rfl,rfl,rfl⟩
       refine⟨(fun _=>wk [2,2] [0,1,2,3,4,5,6] rfl rfl), ?_⟩
       refine fQ (fun m=>(m.own 0 rfl).slice) ?_
       rintro⟨A_x,c_x,rfl,hc_x⟩
       refine fQ (fun m=>(m.ord 0 rfl).2.1) fun hA_x=> ?_
       refine fj<|mD (fun m=>kB rfl Tryz.underlying27 Tryz.underlying5 Tryz.underlying9 (m.ord 0 rfl))<|And.intro (fun _=>wk [2,2] [0,1,2,3,4,5,6] rfl rfl)<| ?_
       refine fj (aq rfl Tryz.call31 (mS hDo.qM (by omega) (by omega) (by omega) (p:=pp) (bb:=(bb.take 30))) [] rfl [0] rfl ?_)
       rintro _ _ _ ⟨y2,rfl,rfl,rfl,hyd2⟩
       refine⟨(fun _=>wk [2,2] [1,2,3,4,5,6,7] rfl rfl), ?_⟩
       refine bU (aa rfl)<|bU (ar rfl rfl)<|bU (ar rfl rfl)<| ?_
       refine eb (aJ 1 rfl rfl rfl bh rfl bz rfl ⟨(fun h=>absurd h (by decide)), ?_⟩)
       refine bU (ab rfl)<|eF<|al (ρ' :=[(16,_),(15,_),(79,_),(14,_),(9,_),(29,_),(8,_),(7,_),(6,_),(0,_),(1,_),(2,_)]) ⟨rfl,rfl,rfl,rfl,rfl,rfl,rfl,rfl,rfl,rfl,rfl,rfl,trivial⟩<|ak (X' :=[_,_,_,_]) (S' :=[_,_,_,_,_,_,_,_]) (fun _ m=>m)<| ?_
       exact di (R:=fun(y2:RX) (g16:Nat)=>[(16,.pointer (some ⟨g16,0,none⟩))]) (X1:=fun(y2:RX) (g16:Nat)=>[aL g16 39 y2.cs]) (S1:=fun(y2:RX) (g16:Nat)=>[cX y2]) (I:=fun(y2:RX) (g16:Nat)=>y2.d=x.d.write pp (bb.take 30)) y2 g16 ⟨rfl,rfl,rfl,rfl,rfl,rfl,rfl,rfl,rfl,rfl,rfl,rfl,trivial⟩ [0,1,1] rfl [0,1,2,3,4,5,6,7] rfl hyd2
     ·refine ag<|ah<|aj<|hy (fun _=>aa rfl)<|hy (fun m=>yV (aU rfl cd bh rfl ((m.a6 0 rfl).ax)) ((rfl:_=Value.agg y2.cs.toArray)))<|hy (fun _=>bd rfl)<|hy (fun _=>aK rfl eD (by decide))<| ?_
      refine cL (lO 1 rfl rfl rfl bh rfl bz (show 6≤6 from Nat.le_refl 6) ?_)
      refine aO (fun w m=>m.bQ 0 rfl (show _=aL g33 121 (.pointer (some ⟨g,0,none⟩)::y2.cs)from congrArg (aL _ _) mF)) ?_
      refine ai<|al (ρ' :=[(16,_),(15,_),(79,_),(14,_),(9,_),(29,_),(8,_),(7,_),(6,_),(0,_),(1,_),(2,_)]) ⟨rfl,rfl,rfl,rfl,rfl,rfl,rfl,rfl,rfl,rfl,rfl,rfl,trivial⟩<|ak (X' :=[_,_,_]) (S' :=[_,_,_,_,_,_,_,_]) (fun _ m=>m)<|ag<|qm [0,0] [0,1,2,3,4,5,6,7] rfl rfl [6,7] [(0,some 1),(1,some 1),(2,some 1),(3,some 1),(4,some 1),(5,some 0),(6,none),(7,none)] (by kernel_rfl) (by kernel_rfl) rfl 99<|an (aa rfl)<|an (bd rfl)<|an (aK rfl fp (by decide))<|cr (fun m=>ay rfl kV (aE (m.a6 0 rfl) (i:=0) rfl))<|an (aa rfl)<|an (aa rfl)<| ?_
      refine ew (aq rfl Tryz.call32 (EW hkc hkb (m:=30)) [] rfl [6] rfl ?_)
      rintro _ _ _ ⟨v,rfl,rfl,rfl⟩
      refine⟨(fun _=>wk [1,1] [0,1,2,3,4,5,6,7] rfl rfl), ?_⟩
      refine cA (fun m=>(m.own 0 rfl).slice) ?_
      rintro⟨A_x,c_x,rfl,hc_x⟩
      refine cA (fun m=>(m.ord 0 rfl).2.1) fun hA_x=> ?_
      refine ew (cM rfl Tryz.call33 (wL hD (by omega) hbt (Nat.le_trans (Nat.min_le_right _ _) (by decide)) (p:=pp) (l:=(bb.take 30))) [3] rfl (.x 0 rfl .own .nil) ?_)
      rintro _ _ _ ⟨st12,rfl,rfl,rfl,hD2⟩
      refine⟨rfl, ?_⟩
      refine⟨(fun _=>wk [2,2] [0,1,2,3,4,5,6,7] rfl rfl), ?_⟩
      refine bD<|al (ρ' :=[(16,_),(15,_),(79,_),(14,_),(9,_),(29,_),(8,_),(7,_),(6,_),(0,_),(1,_),(2,_)]) ⟨rfl,rfl,rfl,rfl,rfl,rfl,rfl,rfl,rfl,rfl,rfl,rfl,trivial⟩<|ak (X' :=[_,_,_,_]) (S' :=[_,_,_,_,_,_,_,_]) (fun _ m=>m)<|aQ<|ag<|aj<|hy (fun _=>aa rfl)<|hy (fun _=>aM rfl rfl (bG (by omega) (by omega)))<|hy (fun _=>ab rfl)<|ai<|al (ρ' :=[(14,_),(16,_),(15,_),(79,_),(9,_),(29,_),(8,_),(7,_),(6,_),(0,_),(1,_),(2,_)]) ⟨rfl,rfl,rfl,rfl,rfl,rfl,rfl,rfl,rfl,rfl,rfl,rfl,trivial⟩<| ?_
      rw[←hyd2]at hD2
      have hB2:Bd y2.d (24+(i+1)) (24+(i+1)):=by rw[hyd2];exact(hB.write (by omega)).le (by omega) (by omega)
      have hE2:y2.d=ku (fu (RD.new 2000) (zl.take 6)) (zb.take (i+1)) (bb.take 30):=by rw[hyd2,hbs]
      refine fx (i+1) _ y2 ⟨rfl,rfl,rfl,rfl,rfl,rfl,rfl,rfl,rfl,trivial⟩ [2,0] rfl [0,2,3,4,5,6,7] rfl (⟨by omega,by omega,hE2,hD2.le (by omega),hB2⟩) (by omega)
    ·refine bJ<|ao<|ao<|aB<| ?_
     have htm:=ir (l:=zb) (i:=i) (n:=3) (by omega) (by omega) hi6
     rw[htm]at hE
     exact di (R:=fun(st2:cN) (x2:RX)=>[]) (X1:=fun(st2:cN) (x2:RX)=>[aL g33 121 (.pointer (some ⟨g,0,none⟩)::x2.cs),bs g st2]) (S1:=fun(st2:cN) (x2:RX)=>[cX x2]) (I:=fun(st2:cN) (x2:RX)=>x2.d=ku (fu (RD.new 2000) (zl.take 6)) (zb.take 3) (bb.take 30)∧DS st2 x2.d 27∧Bd x2.d 27 27) st x ⟨rfl,rfl,rfl,rfl,rfl,rfl,rfl,rfl,trivial⟩ [0,0] rfl [0,1,2,3,4,5,6] rfl (⟨hE,hD.le (by omega),hB.le (by omega) (by omega)⟩)
   ·refine bE rfl rfl rfl (by decide)<|bE rfl rfl rfl (by decide)<|hy (fun _=>bC rfl rfl)<|ai<|al (ρ' :=[(79,_),(14,_),(9,_),(29,_),(8,_),(7,_),(6,_),(0,_),(1,_),(2,_)]) ⟨rfl,rfl,rfl,rfl,rfl,rfl,rfl,rfl,rfl,rfl,trivial⟩<|ag<| ?_
    refine dB rfl (rfl) ?_
    refine bJ<|ao<|ao<|aB<| ?_
    have htm:=ir (l:=zb) (i:=i) (n:=3) (by omega) (by omega) hi6
    rw[htm]at hE
    exact di (R:=fun(st2:cN) (x2:RX)=>[]) (X1:=fun(st2:cN) (x2:RX)=>[aL g33 121 (.pointer (some ⟨g,0,none⟩)::x2.cs),bs g st2]) (S1:=fun(st2:cN) (x2:RX)=>[cX x2]) (I:=fun(st2:cN) (x2:RX)=>x2.d=ku (fu (RD.new 2000) (zl.take 6)) (zb.take 3) (bb.take 30)∧DS st2 x2.d 27∧Bd x2.d 27 27) st x ⟨rfl,rfl,rfl,rfl,rfl,rfl,rfl,rfl,trivial⟩ [0,0] rfl [0,1,2,3,4,5,6] rfl (⟨hE,hD.le (by omega),hB.le (by omega) (by omega)⟩)
  ·have hEe:x2.d.sync=lL zl zb bb:=by rw[hE2];rfl
   refine ag<|ah<|aj<|hy (fun _=>aa rfl)<|hy (fun _=>bd rfl)<|hy (fun _=>aK rfl eD (by decide))<|hy (fun m=>yV (aU rfl cd bh rfl (re (m.a6 0 rfl))) ((rfl:_=Value.agg x2.cs.toArray)))<| ?_
   refine hx (aq rfl Tryz.call99 (sF hD2.qM) [] rfl [0] rfl ?_)
   rintro _ _ _ ⟨y2,rfl,rfl,rfl,hyv⟩
   refine hy (fun _=>aa rfl)<|hy (fun _=>ar rfl rfl)<|hy (fun _=>ar rfl rfl)<| ?_
   refine hx (aN fG (fun g18=> ?_))
   refine cL (aJ 0 rfl rfl rfl bh rfl bz rfl ?_)
   refine hy (fun _=>ab rfl)<|ai<|al (ρ' :=[(18,_),(9,_),(29,_),(8,_),(7,_),(6,_),(0,_),(1,_),(2,_)]) ⟨rfl,rfl,rfl,rfl,rfl,rfl,rfl,rfl,rfl,trivial⟩<|ak (X' :=[_,_,_]) (S' :=[_,_,_,_,_,_,_,_]) (fun _ m=>m)<|ag<|ah<|aj<|hy (fun _=>aa rfl)<|hy (fun m=>yV (aU rfl cd bh rfl ((m.a6 0 rfl).ax)) ((rfl:_=Value.agg y2.cs.toArray)))<|hy (fun _=>bd rfl)<|hy (fun _=>aK rfl eD (by decide))<| ?_
   refine cL (lO 1 rfl rfl rfl bh rfl bz (show 6≤6 from Nat.le_refl 6) ?_)
   refine aO (fun w m=>m.bQ 0 rfl (show _=aL g33 121 (.pointer (some ⟨g,0,none⟩)::y2.cs)from congrArg (aL _ _) mF)) ?_
   refine ai<|al (ρ' :=[(18,_),(9,_),(29,_),(8,_),(7,_),(6,_),(0,_),(1,_),(2,_)]) ⟨rfl,rfl,rfl,rfl,rfl,rfl,rfl,rfl,rfl,trivial⟩<|ak (X' :=[_,_,_]) (S' :=[_,_,_,_,_,_,_,_]) (fun _ m=>m)<|ag<|ah<|aj<|hy (fun _=>aa rfl)<|hy (fun _=>bd rfl)<|hy (fun _=>aK rfl fp (by decide))<|hy (fun m=>ay rfl kV (aE (m.a6 0 rfl) (i:=0) rfl))<| ?_
   refine hx (aq rfl Tryz.call110 (u5 hD2) [2] rfl [] rfl ?_)
   rintro _ _ _ ⟨st12,rfl,rfl,rfl,hD3⟩
   refine ai<|al (ρ' :=[(18,_),(9,_),(29,_),(8,_),(7,_),(6,_),(0,_),(1,_),(2,_)]) ⟨rfl,rfl,rfl,rfl,rfl,rfl,rfl,rfl,rfl,trivial⟩<|ak (X' :=[_,_,_]) (S' :=[_,_,_,_,_,_,_,_]) (fun _ m=>m)<|ag<|ah<|aj<|hy (fun _=>aa rfl)<|hy (fun _=>ab rfl)<|ai<|al (ρ' :=[(6,_),(18,_),(9,_),(29,_),(8,_),(7,_),(0,_),(1,_),(2,_)]) ⟨rfl,rfl,rfl,rfl,rfl,rfl,rfl,rfl,rfl,trivial⟩<|ag<|aX<| ?_
   exact bg trivial rfl rfl [1,0] rfl [0] rfl ⟨g33,g,_,y2,rfl,rfl,rfl,⟨by rw[hyv,hEe],by rw[hyv];exact hD3.le (by omega),by rw[hyv];exact hB2.sync⟩⟩
end Go.Proofs.YtmibdabdlgmafaaGreatDoor
end
section
namespace Go.Proofs.YtmibdabdlgmafaaGreatDoor
open Go.Eng Go.Hx
theorem ql{d:RD}{x:List UInt8}:x∈bw d↔x.length=32∧lk d.seen (aH x)≠none:=by
 unfold bw
 rw[List.mem_filterMap]
 constructor
 ·rintro⟨p,hp,h⟩
  rw[←jI]at h
  have h2:=ez h
  refine⟨h2.1, ?_⟩
  rw[←h2.2]
  exact vf.2 hp
 ·rintro⟨h1,h2⟩
  exact⟨aH x,vf.1 h2,by
   have:jF (aH x)=some x:=by
    unfold jF
    rw[if_pos (ee h1),ji h1]
    exact pn h1
   exact this⟩
theorem B6{d d' :RD}{nm:List UInt8}(h:d.pw≠0)(h' :d'.pw≠0)(e:lk d'.seen (aH nm)=lk d.seen (aH nm)):d'.fg nm=d.fg nm∧d'.pM nm=d.pM nm:=by
 have e2:(d'.seen[cE d'.seen (aH nm)]?).map (·.2)=(d.seen[cE d.seen (aH nm)]?).map (·.2):=by rw[fI,fI,e]
 have hE:d'.cj (aH nm)=d.cj (aH nm):=by
  unfold RD.cj
  rw[if_neg h,if_neg h']
  cases h1:d'.seen[cE d'.seen (aH nm)]? with
  |none=>
   rw[h1]at e2
   have:d.seen[cE d.seen (aH nm)]? =none:=by
    cases h2:d.seen[cE d.seen (aH nm)]? with
    |none=>rfl
    |some y=>rw[h2]at e2;cases e2
   rw[this]
  |some x=>
   rw[h1]at e2
   cases h2:d.seen[cE d.seen (aH nm)]? with
   |none=>rw[h2]at e2;cases e2
   |some y=>rw[if_neg (by simp),if_neg (by simp)]
 have hB:d'.cF (aH nm)=d.cF (aH nm):=by
  unfold RD.cF
  rw[if_neg h,if_neg h',e2]
 have ho:d'.xM nm=d.xM nm:=by unfold RD.xM;rw[hB]
 have hg:d'.fg nm=d.fg nm:=by unfold RD.fg;rw[hE,ho]
 refine⟨hg, ?_⟩
 unfold RD.pM
 rw[hg,ho]
structure F9(d0 d:RD)(ps:List (List UInt8)):Prop where
 seen:∀q,¬q∈ps→lk d.seen q=lk d0.seen q
 cO:∀q,¬q∈ps→lk d.cO q=lk d0.seen q
 waits:∀c∈d.waits,c.1=2∧c.2.1∈ps
theorem qs{l:List FP}{p q:List UInt8}(h:q≠p):lk (dw l p) q=lk l q:=by
 unfold dw
 rw[ix,if_neg h]
theorem FA{l:List FP}{p t b:List UInt8}{q:List UInt8}(h:q≠p):lk (dL l 2 p t b) q=lk l q:=by
 unfold dL
 rw[if_neg (by decide)]
 split
 ·rfl
 ·rw[if_pos rfl];exact qs h
theorem vS:∀(ns:List (List UInt8)) {d:RD},(cB (dg ns++[cH]) d).2=0→(∀q,lk (cB (dg ns++[cH]) d).1.seen q=if q∈ns.map aH then none else lk d.seen q)∧(cB (dg ns++[cH]) d).1.cO=(cB (dg ns++[cH]) d).1.seen∧(cB (dg ns++[cH]) d).1.waits=[]
 | [],d,h=>by
  have h0:d.pw≠0:=fun e=>by
   change (cB [cH] d).2=0 at h
   rw[cB]at h
   have:(cH d).2=6:=by show d.dp=6;rw[RD.dp,if_pos e]
   rw[if_pos (by rw[this];decide),this]at h
   exact absurd h (by decide)
  have e:(cB (dg []++[cH]) d).1=d.sync:=by
   show(cB [cH] d).1=_
   rw[cB]
   split <;> rfl
  rw[e]
  have es:d.sync={d with cO:=d.seen,waits:=[],pw:=en d.pw}:=by rw[RD.sync,if_neg h0]
  rw[es]
  exact⟨fun q=>by rw[if_neg (by simp)],rfl,rfl⟩
 |nm::r,d,h=>by
  have hE:d.cj (aH nm)=0:=by
   refine Decidable.byContradiction fun hn=> ?_
   change (cB (n4 (aH nm)::(dg r++[cH])) d).2=0 at h
   rw[cB,if_pos (by exact hn)]at h
   exact hn h
  have e:cB (dg (nm::r)++[cH]) d=cB (dg r++[cH]) (d.remove (aH nm)):=by
   show cB (n4 (aH nm)::(dg r++[cH])) d=_
   rw[cB,if_neg (by show¬d.cj (aH nm)≠0;rw[hE];decide)]
   rfl
  rw[e]at h ⊢
  obtain⟨h1,h2⟩:=vS r h
  refine⟨fun q=> ?_,h2⟩
  have hs:(d.remove (aH nm)).seen=dw d.seen (aH nm):=by
   rw[RD.remove,if_pos hE]
   show dL d.seen 2 (aH nm) [] []=_
   have h3:d.seen[cE d.seen (aH nm)]? ≠none:=fun e=>by
    unfold RD.cj at hE
    split at hE
    ·exact absurd hE (by decide)
    ·exact absurd hE (by decide)
   unfold dL
   rw[if_neg (by decide)]
   split
   ·next h4=>exact absurd h4 h3
   ·rw[if_pos rfl]
  rw[h1 q,hs,List.map_cons]
  by_cases hq:q∈r.map aH
  ·rw[if_pos hq,if_pos (List.mem_cons_of_mem _ hq)]
  ·rw[if_neg hq]
   by_cases hp:q=aH nm
   ·subst hp;rw[if_pos (List.mem_cons_self ..)];unfold dw;rw[ix,if_pos rfl]
   ·rw[if_neg (fun h=>(List.mem_cons.1 h).elim hp hq),qs hp]
theorem Dm:∀(ns:List (List UInt8)) {d:RD},d.pw=-1→(ns.map aH).Nodup→(∀nm∈ns,lk d.seen (aH nm)≠none)→(cB (dg ns++[cH]) d).2=0∧(cB (dg ns++[cH]) d).1.pw=-1
 | [],d,hp,_,_=>by
  show(cB [cH] d).2=0∧_
  have e0:(cH d).2=0:=by show d.dp=0;rw[RD.dp,if_neg (by rw[hp];decide)]
  have e1:cB (dg []++[cH]) d=(d.sync,0):=by
   show cB [cH] d=_
   rw[cB,if_neg (by rw[e0];decide)];rfl
  rw[e1]
  refine⟨by show(cB [cH] d).2=0;rw[show cB [cH] d=(d.sync,0)from e1], ?_⟩
  show d.sync.pw=-1
  rw[RD.sync,if_neg (by rw[hp];decide)]
  show en d.pw=-1
  rw[hp];rfl
 |nm::r,d,hp,hnd,hl=>by
  rw[List.map_cons,List.nodup_cons]at hnd
  have h0:=hl nm (List.mem_cons_self ..)
  have hE:d.cj (aH nm)=0:=by
   unfold RD.cj
   rw[if_neg (by rw[hp];decide),if_neg]
   intro e
   rw[←fI,e]at h0
   exact h0 rfl
  have hp2:(d.remove (aH nm)).pw=-1:=by
   rw[RD.remove,if_pos hE]
   show en d.pw=-1
   rw[hp];rfl
  have e:cB (dg (nm::r)++[cH]) d=cB (dg r++[cH]) (d.remove (aH nm)):=by
   show cB (n4 (aH nm)::(dg r++[cH])) d=_
   rw[cB,if_neg (by show¬d.cj (aH nm)≠0;rw[hE];decide)]
   rfl
  rw[e]
  refine Dm r hp2 hnd.2 fun x hx=> ?_
  have hne:aH x≠aH nm:=fun e=>hnd.1 (by rw[←e];exact List.mem_map_of_mem hx)
  have hk:F9 d (d.remove (aH nm)) [aH nm]∨True:=.inr trivial
  have:lk (d.remove (aH nm)).seen (aH x)=lk d.seen (aH x):=by
   rw[RD.remove,if_pos hE]
   show lk (dL d.seen 2 (aH nm) [] []) (aH x)=_
   exact FA hne
  rw[this]
  exact hl x (List.mem_cons_of_mem _ hx)
theorem sM{ns:List (List UInt8)}(h:ns.Nodup)(h32:j8 ns):(ns.map aH).Nodup:=by
 induction ns with
 |nil=>exact List.nodup_nil
 |cons a r ih=>
  rw[List.nodup_cons]at h
  rw[List.map_cons,List.nodup_cons]
  refine⟨fun hm=> ?_,ih h.2 (fun x hx=>h32 x (List.mem_cons_of_mem _ hx))⟩
  obtain⟨b,hb,e⟩:=List.mem_map.1 hm
  have:=ka (h32 b (List.mem_cons_of_mem _ hb)) (h32 a (List.mem_cons_self ..)) e
  subst this
  exact h.1 hb
theorem zN{d:RD}{kp:List (List UInt8)}(hp:d.pw=-1)(hs:lQ d.seen)(hl:d.cO=d.seen)(hw:d.waits=[]):
  d.prune kp=((d.prune kp).1,(((bV (bw d) kp).length:Nat):Int),0)∧(d.prune kp).1.pw=-1∧(d.prune kp).1.cO=(d.prune kp).1.seen∧(d.prune kp).1.waits=[]∧
   ∀q,lk (d.prune kp).1.seen q=if q∈(bV (bw d) kp).map aH then none else lk d.seen q:=by
 have h0:¬d.pw=0:=by rw[hp];decide
 have hst:=jB hs
 have h32:j8 (bV (bw d) kp):=lh (fZ d)
 by_cases hn:bV (bw d) kp=[]
 ·have e:d.rm (bV (bw d) kp)=(d,0):=by unfold RD.rm;rw[if_pos hn]
  have e2:d.prune kp=(d,0,0):=by
   rw[pe h0 (by rw[e]),e,hn];rfl
  rw[e2,hn]
  exact⟨rfl,hp,hl,hw,fun q=>by rw[if_neg (by simp)]⟩
 ·have e:d.rm (bV (bw d) kp)=cB (dg (bV (bw d) kp)++[cH]) d:=by unfold RD.rm;rw[if_neg hn]
  obtain⟨h1,h2⟩:=Dm (bV (bw d) kp) hp (sM (kh (j6 hst)) h32) (fun nm hm=>(ql.1 (List.mem_filter.1 hm).1).2)
  obtain⟨h3,h4,h5⟩:=vS _ h1
  have e2:=pe (kp:=kp) h0 (by rw[e];exact h1)
  rw[e]at e2
  rw[e2]
  exact⟨rfl,h2,h4,h5,h3⟩
end Go.Proofs.YtmibdabdlgmafaaGreatDoor
end
section
set_option maxRecDepth 20000
set_option maxHeartbeats 4000000
namespace Go.Proofs.YtmibdabdlgmafaaGreatDoor
open Go.Eng Go.Hx
theorem BQ{gw gd:Nat}{st:cN}{x:RX}{kk:Nat}(hD:DS st x.d kk)(hk:kk≤50000):ck Tryz.prog 69 [.pointer (some ⟨gw,0,none⟩)] [aL gw 121 (.pointer (some ⟨gd,0,none⟩)::x.cs),bs gd st] [cX x] (fun v_ X_ S_=>v_=(.bool true)∧X_=[aL gw 121 (.pointer (some ⟨gd,0,none⟩)::x.cs),bs gd st]∧S_=[]):=by
 have ok:=hD.ok
 have okr:=hD.qM
 have hS:=hD.mE
 have hs1:=ok.seen
 have hs2:=okr.seen
 have hs3:=hS.files.B7
 have hs5:=hS.waits
 have hs8:=hS.bY
 refine aP (N:=67) Tryz.func69 rfl rfl (by simp) fun b=> ?_
 refine bx (fun w m=>m.iW 0 rfl View.xv) ?_
 refine aY (fun m=>gE (m.rd 0 rfl)) ?_
 rintro⟨hl_f,hA_f⟩
 refine ah<|aj<|hy (fun _=>ab rfl)<|ai<|ag<|ah<|aj<|hy (fun _=>aa rfl)<|hy (fun _=>bd rfl)<|hy (fun _=>aK rfl fp (by decide))<|hy (fun m=>ay rfl kV (aE (m.a6 0 rfl) (i:=0) rfl))<| ?_
 refine hx (aq rfl Tryz.call86 (Dl (show st.seen.length≤100000 by omega) (p:=[])) [1] rfl [] rfl ?_)
 rintro _ _ _ ⟨v,n,ks,rfl,rfl,rfl,hp⟩
 refine aA (fun m=>(m.own 1 rfl).slice) ?_
 rintro⟨A_x,c_x,rfl,hc_x⟩
 refine aA (fun m=>(m.ord 1 rfl).2.1) fun hA_x=> ?_
 obtain⟨hn1,hks⟩:=hp
 rw[pre_nil]at hks
 have hnm:=hS.files.names hks
 have hkl:=hks.length_eq
 have hka:(cp st.seen).length=st.seen.length:=by simp[cp]
 rw[hnm]
 refine hy (fun _=>ab rfl)<|ai<|al (ρ' :=[(3,_),(2,_),(0,_)]) ⟨rfl,rfl,rfl,trivial⟩<|ak (X' :=[_,_,_]) (S' :=[_,_]) (fun _ m=>m)<|ag<|ah<|ah<|c5 [14,28] [(0,some 2),(1,some 2),(2,some 2),(3,some 2),(4,some 2),(5,some 2),(6,some 2),(7,some 2),(8,some 0),(9,some 0),(10,some 2),(11,some 2),(12,some 0),(13,some 0),(15,some 2),(16,some 2),(17,some 2),(18,some 2),(19,some 2),(20,some 1),(14,none),(21,some 1),(22,some 1),(23,some 1),(24,some 1),(25,some 1),(26,some 1),(27,some 1),(29,some 2),(30,some 2),(31,some 2),(32,some 2),(33,some 2),(34,some 2),(28,none),(35,some 2),(36,some 2)] (by kernel_rfl) (by kernel_rfl) rfl 99<|an (aa rfl)<|an (aS rfl Tryz.underlying152)<|an (aa rfl)<|an (bd rfl)<|an (aK rfl eD (by decide))<|an (aK rfl gr (by decide))<|cr (fun m=>ay rfl oO (aE (m.a6 2 rfl) (i:=2) rfl))<|an (aS rfl Tryz.underlying36)<|an (yF (db rfl rfl) ((decide_eq_false (by omega))))<|an (aa rfl)<|bj (o:=_) rfl rfl rfl (aa rfl)<|bj (o:=_) rfl rfl rfl (bd rfl)<|bj (o:=_) rfl rfl rfl (aK rfl fp (by decide))<|iS (o:=_) rfl rfl rfl (fun m=>ay rfl kV (aE (m.a6 2 rfl) (i:=0) rfl))<|bj (o:=_) rfl rfl rfl (aa rfl)<|bj (o:=_) rfl rfl rfl (bd rfl)<|bj (o:=_) rfl rfl rfl (aK rfl eD (by decide))<|bj (o:=_) rfl rfl rfl (aK rfl sv (by decide))<|iS (o:=_) rfl rfl rfl (fun m=>ay rfl GR (aE (m.a6 2 rfl) (i:=4) rfl))<|bj (o:=_) rfl rfl rfl (aS rfl Tryz.underlying37)<| ?_
 refine tr (o:=_) rfl rfl rfl (aq rfl Tryz.call60 (ED) [0] rfl [] rfl ?_)
 rintro _ _ _ ⟨rfl,rfl,rfl⟩
 refine⟨(fun _=>wk [0,0,0] [0,1] rfl rfl), ?_⟩
 refine bj (o:=_) rfl rfl rfl (yF (db rfl rfl) ((decide_eq_false (by omega))))<|an (bC rfl rfl)<|an (aa rfl)<|bj (o:=_) rfl rfl rfl (aa rfl)<|bj (o:=_) rfl rfl rfl (bd rfl)<|bj (o:=_) rfl rfl rfl (aK rfl fp (by decide))<|iS (o:=_) rfl rfl rfl (fun m=>ay rfl kV (aE (m.a6 2 rfl) (i:=0) rfl))<|bj (o:=_) rfl rfl rfl (aa rfl)<|bj (o:=_) rfl rfl rfl (bd rfl)<|bj (o:=_) rfl rfl rfl (aK rfl eD (by decide))<|bj (o:=_) rfl rfl rfl (aK rfl gW (by decide))<|iS (o:=_) rfl rfl rfl (fun m=>ay rfl fS (aE (m.a6 2 rfl) (i:=5) rfl))<|bj (o:=_) rfl rfl rfl (db rfl rfl)<| ?_
 refine tr (o:=_) rfl rfl rfl (aq rfl Tryz.call87 (FM) [0] rfl [] rfl ?_)
 rintro _ _ _ ⟨rfl,rfl,rfl⟩
 refine⟨(fun _=>wk [0,0,0] [0,1] rfl rfl), ?_⟩
 refine bj (o:=_) rfl rfl rfl (yF (Gl Tryz.underlying4 rfl rfl) ((by rw[hs8];simp)))<|an (bC rfl rfl)<|bD<|al (ρ' :=[(46,_),(3,_),(2,_),(0,_)]) ⟨rfl,rfl,rfl,rfl,trivial⟩<|ak (X' :=[_,_,_]) (S' :=[_,_]) (fun _ m=>m)<|ag<| ?_
 refine dB rfl (rfl) ?_
 refine aD<|ag<|ah<|ah<|aj<|hy (fun _=>ab rfl)<|ai<|ag<|aI<| ?_
 refine dx (fun i=>n-i) (fun i=>[(4,.int .i64 (i:Nat))]) (fun i=>[bs gd st,aG 9 1 (.slice A_x n c_x) n (ss (x.d.seen.map (·.1))),aL gw 121 (.pointer (some ⟨gd,0,none⟩)::x.cs)]) (fun i=>[]) (fun i=>i≤n) 0 [(46,_),(3,_),(0,_)] ⟨rfl,rfl,rfl,trivial⟩ [0,0,0] rfl [] rfl (Nat.zero_le _) ⟨rfl,trivial⟩ (fun i hI=> ?_)
 refine ah<|ah<|aj<|hy (fun _=>aa rfl)<|hy (fun _=>aa rfl)<|hy (fun _=>aS rfl Tryz.underlying152)<|hy (fun _=>bq rfl rfl)<|ai<|al (ρ' :=[(50,_),(4,_),(46,_),(3,_),(0,_)]) ⟨rfl,rfl,rfl,rfl,rfl,trivial⟩<|ag<| ?_
 refine cD rfl (fun hlt=> ?_) (fun hlt=> ?_)
 ·have hil:i<x.d.seen.length:=by omega
  obtain⟨x0,hgx⟩:∃x0,x.d.seen[i]? =some x0:=⟨_,List.getElem?_eq_getElem hil⟩
  obtain⟨f0,f1⟩:=iK x.d.seen i x0 hgx
  have hnmi:(ss (x.d.seen.map (·.1)))[i]? =some (SV x0.1):=by simp[ss,List.getElem?_map,hgx]
  refine aD<|ag<|ah<|aI<|ah<|c5 [] [(0,some 0),(1,some 0),(2,some 0),(3,some 0),(4,some 0),(5,some 0),(6,some 0),(7,some 0),(8,some 0),(9,some 0),(10,some 0),(11,some 0),(12,some 0),(13,some 0)] (by kernel_rfl) (by kernel_rfl) rfl 99<|an (aa rfl)<|an (aa rfl)<|an (aT rfl rfl Tryz.underlying152 Hp hA_x rfl (by omega))<|cr (fun m=>yV (ay rfl lF ((m.ord 1 rfl).cell hnmi)) ((rfl:_=Value.string (strOf x0.1))))<|an (aa rfl)<|an (bd rfl)<|an (aK rfl eD (by decide))<|an (aK rfl gr (by decide))<|cr (fun m=>ay rfl oO (aE (m.a6 2 rfl) (i:=2) rfl))<|an (aa rfl)<|an (cq rfl rfl Tryz.underlying36 eQ hA_f rfl (by omega))<|an (aK rfl eM (by decide))<|cr (fun m=>yV (ay rfl lF (fb (m.rd 0 rfl) f0)) ((rfl:_=Value.string (strOf x0.1))))<|an (yF (oy rfl rfl) ((decide_eq_false (not_not_intro rfl))))<|bD<|al (ρ' :=[(66,_),(50,_),(4,_),(46,_),(3,_),(0,_)]) ⟨rfl,rfl,rfl,rfl,rfl,rfl,trivial⟩<|ag<| ?_
  refine dB rfl (rfl) ?_
  refine aD<|aQ<|ag<|aj<|hy (fun _=>aa rfl)<|hy (fun _=>aM rfl rfl (bG (by omega) (by omega)))<|hy (fun _=>ab rfl)<|ai<|al (ρ' :=[(4,_),(66,_),(50,_),(46,_),(3,_),(0,_)]) ⟨rfl,rfl,rfl,rfl,rfl,rfl,trivial⟩<| ?_
  refine cR (i+1) ⟨rfl,rfl,rfl,rfl,trivial⟩ [0,0,0] rfl [0,1] rfl (by omega) (by omega)
 ·refine bJ<|ao<|ao<|aB<|ag<|ah<|aj<|hy (fun _=>ab rfl)<|ai<|ag<|aX<| ?_
  exact bg trivial rfl rfl [2,0] rfl [] rfl ⟨rfl,rfl,rfl⟩
def n5:oV:=⟨List.replicate 32 0,List.length_replicate⟩
def GW:IX:=⟨0,0,0,n5,[],none,0⟩
def qO(j1:List It)(A:Option Addr)(c:Nat):IX:=⟨1,8,20,n5,j1,A,c⟩
def kz(z:Int):Nat:=(1+ef z 5).toNat
def eI(zl:List Int):List It:=(zl.take 5).map fun z=>(⟨bk (bm (kz z)),br _⟩,((3*kz z:Nat):Int))
def k7(zl:List Int)(i:Nat):List It:=(zl.take i).map fun z=>(⟨bk (bm (kz z)),br _⟩,((3*kz z:Nat):Int))
theorem xE{zl:List Int}{i:Nat}(h:i<zl.length):k7 zl (i+1)=k7 zl i++[(⟨bk (bm (kz (zl.getD i 0))),br _⟩,((3*kz (zl.getD i 0):Nat):Int))]:=by
 unfold k7
 rw[List.take_succ_eq_append_getElem h,List.map_append]
 simp[List.getD,h]
theorem ni{zl:List Int}{i:Nat}(h:i≤zl.length):(k7 zl i).length=i:=by
 unfold k7
 rw[List.length_map,List.length_take]
 omega
theorem G0{P:Program}{pl:Nat→Option (Nat×Nat)}(h0:pl 0=some (0,3)):wb P pl GW.cs [(0,.agg [Value.int .i64 1,.int .i64 8,.int .i64 20].toArray)] (qO [] none 0).cs:=
 .cons h0 (bp _) rfl (by rw[IX.eg];decide) (show wb P pl (bI GW.cs 0 [Value.int .i64 1,.int .i64 8,.int .i64 20]) [] _ from .nil)
theorem G1{P:Program}{pl:Nat→Option (Nat×Nat)}{x:IX}(h0:pl 0=some (0,3))(h1:pl 1=some (3,32))(h2:pl 2=some (35,1)):wb P pl GW.cs [(0,.agg [Value.int .i64 x.mn,.int .i64 x.av,.int .i64 x.mx].toArray),(1,.agg (aV x.wz.b).toArray),(2,.slice x.A x.j1.length x.c)] x.cs:=by
 have hi:(aV x.wz.b).length=32:=by rw[az,x.wz.h]
 have hz:(aV n5.b).length=32:=by rw[az,n5.h]
 have e1:bI GW.cs 0 [Value.int .i64 x.mn,.int .i64 x.av,.int .i64 x.mx]=[Value.int .i64 x.mn,.int .i64 x.av,.int .i64 x.mx]++aV n5.b++[.slice none 0 0]:=rfl
 have e2:bI ([Value.int .i64 x.mn,.int .i64 x.av,.int .i64 x.mx]++aV n5.b++[.slice none 0 0]) 3 (aV x.wz.b)=[Value.int .i64 x.mn,.int .i64 x.av,.int .i64 x.mx]++aV x.wz.b++[.slice none 0 0]:=iC rfl (by rw[hi,hz])
 have e3:bI ([Value.int .i64 x.mn,.int .i64 x.av,.int .i64 x.mx]++aV x.wz.b++[.slice none 0 0]) 35 [.slice x.A x.j1.length x.c]=x.cs:=by
  have:=iC (a:=[Value.int .i64 x.mn,.int .i64 x.av,.int .i64 x.mx]++aV x.wz.b) (b:=[Value.slice none 0 0]) (c:=[]) (vs:=[.slice x.A x.j1.length x.c]) (o:=35) (by simp[hi]) rfl
  rw[List.append_nil,List.append_nil]at this
  exact this
 exact .cons h0 (bp _) rfl (by rw[IX.eg];decide) (by rw[e1];exact .cons h1 (bp _) hi (by simp[hz]) (by rw[e2];exact .cons h2 rfl rfl (by simp[hi]) (by rw[show(Value.slice x.A x.j1.length x.c).cells.toList=[Value.slice x.A x.j1.length x.c]from rfl,e3];exact .nil)))
theorem Cg{w:World}{g:Nat}{ty:TypeId}{a b c:List Value}(h:e8 w g ty (a++b++c)):∀(j:Nat) (u:Value),b[j]? =some u→w.cell? (((⟨g,0,none⟩:Addr).add a.length).add j)=some u:=fun j u hu=>by
 have hj:=(List.getElem?_eq_some_iff.1 hu).1
 have:=h.ax (a.length+j) u (by rw[List.getElem?_append_left (by rw[List.length_append];omega),List.getElem?_append_right (by omega),Nat.add_sub_cancel_left];exact hu)
 rw[add_add]
 exact this
theorem DA{x:IX}:ck Tryz.prog 65 [.agg x.cs.toArray] [] [] (fun v_ X_ S_=>v_=(.agg x.cs.toArray)∧X_=[]∧S_=[]):=by
 have hi:(aV x.wz.b).length=32:=by rw[az,x.wz.h]
 refine aP (N:=10) Tryz.func65 rfl rfl (by simp) fun b=> ?_
 refine ah<|aj<| ?_
 refine hx (cw rfl (fun g1=> ?_))
 refine aO (fun w m=>m.bQ 0 rfl (show _=aL g1 82 x.cs from congrArg (aL _ _) (bp _))) ?_
 refine hx (aN xp (fun g2=> ?_))
 refine ai<|ak (X' :=[_,_]) (S' :=[]) (fun _ m=>m)<|ag<|ah<|aj<|hy (fun _=>aK rfl DU (by decide))<|hy (fun m=>aU rfl Ha Hm rfl (wI (a:=[Value.int .i64 x.mn,.int .i64 x.av,.int .i64 x.mx]) (b:=aV x.wz.b++[.slice x.A x.j1.length x.c]) (by have:=m.a6 1 rfl;rwa [IX.cs,List.append_assoc]at this)))<|hy (fun _=>aK rfl El (by decide))<|hy (fun m=>aU rfl b9 bf hi (Cg (a:=[Value.int .i64 x.mn,.int .i64 x.av,.int .i64 x.mx]) (c:=[.slice x.A x.j1.length x.c]) (m.a6 1 rfl)))<|hy (fun _=>aK rfl qz (by decide))<|hy (fun m=>ay rfl AI (aE (m.a6 1 rfl) (i:=35) x.Bu))<|hy (fun _=>cC xp rfl rfl (by kernel_rfl) (G1 (x:=x) Eg ES E5))<| ?_
 refine cL (aJ 0 rfl rfl rfl Ak x.eg x.bz rfl ?_)
 refine ai<|al (ρ' :=[(2,_),(1,_),(0,_)]) ⟨rfl,rfl,rfl,trivial⟩<|ak (X' :=[_,_]) (S' :=[]) (fun _ m=>m)<|ag<|aX<| ?_
 exact fl trivial rfl rfl GG Ak x.eg (fun m=>(m.a6 0 rfl).ax) [] rfl [] rfl ⟨rfl,rfl,rfl⟩
theorem Gy{P:Program}{pl:Nat→Option (Nat×Nat)}{t:It}(h0:pl 0=some (0,32))(h1:pl 1=some (32,1)):wb P pl (xJ (n5,0)) [(0,.agg (aV t.1.b).toArray),(1,.int .i64 t.2)] (xJ t):=by
 have hz:(aV n5.b).length=32:=by rw[az,n5.h]
 have hn:(aV t.1.b).length=32:=by rw[az,t.1.h]
 have e1:bI (xJ (n5,0)) 0 (aV t.1.b)=aV t.1.b++[.int .i64 0]:=by
  have:=iC (a:=[]) (b:=aV n5.b) (c:=[Value.int .i64 0]) (vs:=aV t.1.b) (o:=0) rfl (by rw[hn,hz])
  exact this
 have e2:bI (aV t.1.b++[.int .i64 0]) 32 [.int .i64 t.2]=xJ t:=by
  have:=iC (a:=aV t.1.b) (b:=[Value.int .i64 0]) (c:=[]) (vs:=[.int .i64 t.2]) (o:=32) hn rfl
  rw[List.append_nil,List.append_nil]at this
  exact this
 exact .cons h0 (bp _) hn (by rw[ll];decide) (by rw[e1];exact .cons h1 rfl rfl (by simp[hn]) (by rw[show(Value.int .i64 t.2).cells.toList=[Value.int .i64 t.2]from rfl,e2];exact .nil))
theorem Cq{j1 its' :List It}{A A' :Option Addr}{c c' n:Nat}(hn:n=its'.length):(qO j1 A c).cs.set 35 (.slice A' n c')=(qO its' A' c').cs:=by
 subst hn
 have hz:(aV n5.b).length=32:=by rw[az,n5.h]
 unfold IX.cs qO
 rw[List.set_append,if_neg (by simp[hz])]
 simp[hz]
theorem uC{A:Option Addr}{n c:Nat}{zl:List Int}(hzl:sB zl):ck Tryz.prog 64 [.slice A n c] [] [dr 1 A n (ints zl),fh] (fun v_ X_ S_=>∃A1 c1,v_=(.agg (qO (eI zl) A1 c1).cs.toArray)∧X_=[]∧S_=[dr 33 A1 (eI zl).length (zT (eI zl))]):=by
 refine aP (N:=35) Tryz.func64 rfl rfl (by simp) fun b=> ?_
 refine aY (fun m=>gE (m.rd 0 rfl)) ?_
 rintro⟨hl_rl,hA_rl⟩
 refine aY (fun m=>(m.rd 0 rfl).1) fun hln=> ?_
 have hln:zl.length=n:=by rw[ints,List.length_map,Nat.mul_one]at hln;exact hln
 refine ah<|aj<| ?_
 refine hx (aN zE (fun g2=> ?_))
 refine ai<|ak (X' :=[_]) (S' :=[_,_]) (fun _ m=>m)<|ag<|ah<|aj<|hy (fun _=>cC Hd rfl rfl (by kernel_rfl) (.cons (o:=0) (sz:=1) (by kernel_rfl) rfl rfl (Nat.le_of_ble_eq_true rfl) (.cons (o:=1) (sz:=1) (by kernel_rfl) rfl rfl (Nat.le_of_ble_eq_true rfl) (.cons (o:=2) (sz:=1) (by kernel_rfl) rfl rfl (Nat.le_of_ble_eq_true rfl) .nil))))<|hy (fun _=>cC zE rfl rfl (by kernel_rfl) (G0 DP))<| ?_
 refine hx (aN zE (fun g3=> ?_))
 refine cL (aJ 0 rfl rfl rfl pf (IX.eg _) (IX.bz _) rfl ?_)
 refine aO (fun w m=>m.bQ 0 rfl (show _=aL g3 82 (qO (k7 zl 0) none 0).cs from rfl)) ?_
 refine ai<|al (ρ' :=[(3,_),(2,_),(0,_)]) ⟨rfl,rfl,rfl,trivial⟩<|ak (X' :=[_,_]) (S' :=[_,_]) (fun _ m=>m)<|ag<|ah<|ah<|aj<|hy (fun _=>ab rfl)<|ai<|ag<|aI<| ?_
 refine bx (fun w m=>m.dm (r' :=aG 100 33 (.slice none 0 0) 0 []) (.refl _ _) (Own.nil _ _ _ _) (fun k hk=>hk.elim)) ?_
 refine fH (fun i A1 c1=>n-i) (fun i A1 c1=>[(4,.int .i64 (i:Nat))]) (fun i A1 c1=>[aL g3 82 (qO (k7 zl i) A1 c1).cs,aG 100 33 (.slice A1 i c1) i (zT (k7 zl i))]) (fun i A1 c1=>[]) (fun i A1 c1=>i≤n∧i≤5) 0 none 0 [(3,_),(2,_),(0,_)] ⟨rfl,rfl,rfl,trivial⟩ [1,0] rfl [] rfl (⟨Nat.zero_le _,Nat.zero_le _⟩) ⟨rfl,trivial⟩ (fun i A1 c1 ⟨hin,hi5⟩=> ?_)
 refine ah<|ah<|aj<|hy (fun _=>aa rfl)<|hy (fun _=>aa rfl)<|hy (fun _=>aS rfl Tryz.underlying44)<|hy (fun _=>bq rfl rfl)<|hy (fun _=>aa rfl)<| ?_
 refine eK 12 rfl (fun h1=> ?_) (fun h1=> ?_)
 ·refine dU (o:=_) rfl rfl rfl (fun _=>aa rfl)<|dU (o:=_) rfl rfl rfl (fun _=>bq rfl rfl)<|hy (fun _=>bM rfl rfl)<|ai<|al (ρ' :=[(15,_),(4,_),(3,_),(2,_),(0,_)]) ⟨rfl,rfl,rfl,rfl,rfl,trivial⟩<|ag<| ?_
  refine cD rfl (fun h2=> ?_) (fun h2=> ?_)
  ·have hil:i<zl.length:=by omega
   have hz:=hzl.at hil
   have har:=n9 (zl.getD i 0) 5 (by decide)
   obtain⟨k5,hk5,hk5l⟩:∃k5:Nat,ef (zl.getD i 0) 5=(k5:Int)∧k5<5:=⟨(ef (zl.getD i 0) 5).toNat,by omega,by omega⟩
   have hkz:kz (zl.getD i 0)=k5+1:=by unfold kz;rw[hk5];omega
   have h6:ef ((k5+1:Nat):Int) 6=((k5+1:Nat):Int):=by unfold ef;rw[if_neg (by omega)];omega
   have hsc:=xE hil
   rw[hkz]at hsc
   obtain⟨tt,htt⟩:∃tt:It,tt=(⟨bk (bm (k5+1)),br _⟩,((3*(k5+1):Nat):Int)):=⟨_,rfl⟩
   rw[←htt]at hsc
   have hl1:(k7 zl (i+1)).length=i+1:=ni (by omega)
   refine aD<|ag<|ah<|aI<|ah<|aj<|hy (fun _=>aa rfl)<|hy (fun _=>aa rfl)<|hy (fun _=>aT rfl rfl Tryz.underlying44 s8 hA_rl rfl (by omega))<|hy (fun m=>ay rfl fS ((m.rd 0 rfl).cell (mK hil)))<| ?_
   refine hx (aq rfl Tryz.call16 (sa hz.1 hz.2 (by decide) (n:=(zl.getD i 0)) (m:=5)) [] rfl [] rfl ?_)
   rintro _ _ _ ⟨rfl,rfl,rfl⟩
   refine hy (fun _=>yV (aM rfl rfl (bG (by omega) (by omega))) ((show Value.int .i64 (1+ef (zl.getD i 0) 5)= .int .i64 ((k5+1:Nat):Int)from by rw[hk5];congr 1;omega)))<|hy (fun _=>ab rfl)<|ai<|al (ρ' :=[(5,_),(15,_),(4,_),(3,_),(2,_),(0,_)]) ⟨rfl,rfl,rfl,rfl,rfl,rfl,trivial⟩<|ak (X' :=[_,_,_]) (S' :=[_,_]) (fun _ m=>m)<|ag<|c5 [3,7,8,10] [(0,some 2),(1,some 2),(2,some 0),(4,some 1),(5,some 1),(3,none),(6,some 1),(7,none),(8,none),(9,some 3),(10,none)] (by kernel_rfl) (by kernel_rfl) rfl 2<|an (aK rfl qz (by decide))<|cr (fun m=>ay rfl AI (aE (m.a6 0 rfl) (i:=35) (show(qO (k7 zl i) A1 c1).cs[35]? =some (Value.slice A1 i c1)from by rw[IX.Bu];show some (Value.slice A1 (k7 zl i).length c1)=_;rw[ni (by omega)])))<|an (aa rfl)<|an (aa rfl)<|an (yV (fB rfl rfl (bG (by omega) (by omega))) ((show Value.int .i64 (3*((k5+1:Nat):Int))= .int .i64 tt.2 from by rw[htt];congr 1)))<| ?_
   refine ew (aq rfl Tryz.call30 (o6 (⟨by omega,by omega⟩) h6 (by omega)) [] rfl [1] rfl ?_)
   rintro _ _ _ ⟨rfl,rfl,rfl⟩
   refine⟨(fun _=>wk [0,0,0] [0,1] rfl rfl), ?_⟩
   have hta:Value.agg (aV (bk (bm (k5+1)))).toArray= .agg (aV tt.1.b).toArray:=by rw[htt]
   rw[hta]
   refine an (cC wD rfl rfl (by kernel_rfl) (Gy Bw Bt))<| ?_
   refine ew (b5 Tryz.underlying80 wD rfl rfl rfl (by intro v hv;rw[List.mem_singleton.1 hv];show(xJ tt).toArray.size=33;rw[List.size_toArray,ll]) (by decide) (by decide) (fun g31=>⟨(fun _=>wk [1,1,1] [0,1] rfl rfl), ?_⟩))
   have hA_b31:0<1→(some (⟨g31,0,none⟩:Addr))≠none:=fun _ h=>by cases h
   refine gP (fun w m=>m.bQ 0 rfl (show _=aG 100 33 (.slice (some ⟨g31,0,none⟩) 1 1) 1 (zT [tt])from rfl)) ?_
   refine ew (bu 2 rfl rfl rfl Tryz.underlying80 Tryz.underlying80 (by exact .inl rfl) wD rfl (fun m=>Src.bP (m.ord 0 rfl)) Cz (by unfold maxLen;omega) (by omega) (fun u=>⟨(fun h=>absurd h (by decide)), ?_⟩))
   refine cA (fun m=>(m.own 0 rfl).slice) ?_
   rintro⟨A_z,c_z,rfl,hc_z⟩
   refine cA (fun m=>(m.ord 0 rfl).2.1) fun hA_z=> ?_
   refine gP (fun w m=>m.bQ 0 rfl (show _=aG 100 33 (.slice A_z (i+1) c_z) (i+1) (zT (k7 zl (i+1)))from congrArg (aG _ _ _ _) (by rw[hsc,vu]))) ?_
   refine an (aK rfl qz (by decide))<| ?_
   refine kE (cG 2 rfl rfl rfl G7 rfl (by rw[IX.eg];decide) ⟨(fun h=>absurd h (by decide)), ?_⟩)
   refine bD<|al (ρ' :=[(5,_),(15,_),(4,_),(3,_),(2,_),(0,_)]) ⟨rfl,rfl,rfl,rfl,rfl,rfl,trivial⟩<|ak (X' :=[_,_,_,_]) (S' :=[_,_]) (fun _ m=>m)<|aQ<|ag<|aj<|hy (fun _=>aa rfl)<|hy (fun _=>aM rfl rfl (bG (by omega) (by omega)))<|hy (fun _=>ab rfl)<|ai<|al (ρ' :=[(4,_),(5,_),(15,_),(3,_),(2,_),(0,_)]) ⟨rfl,rfl,rfl,rfl,rfl,rfl,trivial⟩<| ?_
   refine ak (fun w m=>m.bQ 0 rfl (show _=aL g3 82 (qO (k7 zl (i+1)) A_z c_z).cs from congrArg (aL _ _) (Cq hl1.symm))) ?_
   refine fx (i+1) A_z c_z ⟨rfl,rfl,rfl,rfl,trivial⟩ [0,0,1] rfl [0,1] rfl (⟨by omega,by omega⟩) (by omega)
  ·refine bJ<|ao<|ao<|aB<|ag<|ah<|aj<|hy (fun m=>aU rfl Bh pf (IX.eg _) ((m.a6 0 rfl).ax))<| ?_
   have htm:=ir (l:=zl) (i:=i) (n:=5) (by omega) (by omega) hi5
   have hid:k7 zl i=eI zl:=by unfold k7 eI;rw[htm]
   have hle:(eI zl).length=i:=by rw[←hid];exact ni (by omega)
   rw[hid,←hle]
   refine aO (fun w m=>(m.perm (au [1] _ [_] _ rfl)).freeze) ?_
   refine aO (fun w m=>m.iW 0 rfl .own) ?_
   refine cL (aJ 1 rfl rfl rfl pf (IX.eg _) (IX.bz _) rfl ?_)
   refine ai<|al (ρ' :=[(15,_),(4,_),(3,_),(2,_),(0,_)]) ⟨rfl,rfl,rfl,rfl,rfl,trivial⟩<|ak (X' :=[_,_]) (S' :=[_,_,_,_]) (fun _ m=>m)<|ag<|aX<| ?_
   exact fl trivial rfl rfl Bh pf (IX.eg _) (fun m=>(m.a6 0 rfl).ax) [] rfl [0] rfl ⟨A1,c1,rfl,rfl,rfl⟩
 ·refine bE rfl rfl rfl (by decide)<|bE rfl rfl rfl (by decide)<|hy (fun _=>bC rfl rfl)<|ai<|al (ρ' :=[(15,_),(4,_),(3,_),(2,_),(0,_)]) ⟨rfl,rfl,rfl,rfl,rfl,trivial⟩<|ag<| ?_
  refine dB rfl (rfl) ?_
  refine bJ<|ao<|ao<|aB<|ag<|ah<|aj<|hy (fun m=>aU rfl Bh pf (IX.eg _) ((m.a6 0 rfl).ax))<| ?_
  have htm:=ir (l:=zl) (i:=i) (n:=5) (by omega) (by omega) hi5
  have hid:k7 zl i=eI zl:=by unfold k7 eI;rw[htm]
  have hle:(eI zl).length=i:=by rw[←hid];exact ni (by omega)
  rw[hid,←hle]
  refine aO (fun w m=>(m.perm (au [1] _ [_] _ rfl)).freeze) ?_
  refine aO (fun w m=>m.iW 0 rfl .own) ?_
  refine cL (aJ 1 rfl rfl rfl pf (IX.eg _) (IX.bz _) rfl ?_)
  refine ai<|al (ρ' :=[(15,_),(4,_),(3,_),(2,_),(0,_)]) ⟨rfl,rfl,rfl,rfl,rfl,trivial⟩<|ak (X' :=[_,_]) (S' :=[_,_,_,_]) (fun _ m=>m)<|ag<|aX<| ?_
  exact fl trivial rfl rfl Bh pf (IX.eg _) (fun m=>(m.a6 0 rfl).ax) [] rfl [0] rfl ⟨A1,c1,rfl,rfl,rfl⟩
theorem SD.sync{d:RD}{F:List UInt8→Option (List UInt8)}{T:Nat}{room:Int}(h:SD d F T room):SD d.sync F T room:=by
 have e:d.sync={d with cO:=d.seen,waits:=[],pw:=en d.pw}:=by rw[RD.sync,if_neg (by rw[h.at_.pw];decide)]
 refine⟨h.at_.sync, ?_, ?_⟩
 ·rw[e]
 ·rw[e]
theorem qT(hs:lQ (lL [1,2] [] []).seen):∃d',(lL [1,2] [] []).prune [bk (bm 1)]=(d',1,0)∧d'.fg (bk (bm 1))=0∧d'.fg (bk (bm 2))=4:=by
 have l1:=jy 1
 have l2:=jy 2
 obtain⟨_,s1⟩:=lg (bm 1)
 obtain⟨_,s2⟩:=lg (bm 2)
 have m1:=br (bm 1)
 have m2:=br (bm 2)
 have hne:bk (bm 1)≠bk (bm 2):=fun e=>absurd (xA (by decide) (by decide) e) (by decide)
 have hpn:aH (bk (bm 2))≠aH (bk (bm 1)):=fun e=>hne (ka m2 m1 e).symm
 obtain⟨d1,e1,h1⟩:=(SD.new 2000).put (b:=bm 1) (by omega) rfl (by omega)
 have hF2:oS (fun _=>none) (bm 1) (aH (bk (bm 2)))=none:=by
  unfold oS sP
  rw[if_neg hpn,if_neg (eu _ _),if_neg (eu _ _)]
 obtain⟨d2,e2,h2⟩:=h1.put (b:=bm 2) (by omega) hF2 (by omega)
 have hb:lL [1,2] [] []=d2.sync:=by
  have c1:jw 1=bm 1:=lD (show ef 1 6=((1:Nat):Int) by decide)
  have c2:jw 2=bm 2:=lD (show ef 2 6=((2:Nat):Int) by decide)
  show(((RD.new 2000).put (jw 1)).1.put (jw 2)).1.sync=_
  rw[c1,c2,e1,e2]
 have hd:=h2.sync
 rw[←hb]at hd
 generalize lL [1,2] [] []=d at hs hd ⊢
 have hF:∀q,lk d.seen q=oS (oS (fun _=>none) (bm 1)) (bm 2) q:=hd.at_.look
 have hF1:oS (oS (fun _=>none) (bm 1)) (bm 2) (aH (bk (bm 1)))=some (bK (bm 1)):=by
  rw[oS,sP,if_neg (fun e=>hpn e.symm),sP,if_neg (eu _ _),sP,if_neg (eu _ _)]
  exact pZ _ _
 have hlo:bV (bw d) [bk (bm 1)]=[bk (bm 2)]:=by
  refine dI.ext (j6 (jB hs)) (List.pairwise_singleton _ _) fun x=> ?_
  unfold bV
  rw[List.mem_filter,ql,hF,decide_eq_true_eq,List.mem_singleton,List.mem_singleton]
  constructor
  ·rintro⟨⟨hx,hq⟩,hn⟩
   refine Decidable.byContradiction fun h2' =>hq ?_
   have p2:aH x≠aH (bk (bm 2)):=fun e=>h2' (ka hx m2 e)
   have p1:aH x≠aH (bk (bm 1)):=fun e=>hn (ka hx m1 e)
   rw[oS,sP,if_neg p2,sP,if_neg (eu _ _),sP,if_neg (eu _ _),oS,sP,if_neg p1,sP,if_neg (eu _ _),sP,if_neg (eu _ _)]
  ·rintro rfl
   exact⟨⟨m2,by rw[pZ];simp⟩,fun e=>hne e.symm⟩
 obtain⟨g1,g2,g3,g4,g5⟩:=zN (kp:=[bk (bm 1)]) hd.at_.pw hs hd.same hd.waits
 rw[hlo]at g1 g5
 refine⟨_,g1, ?_, ?_⟩
 ·have e5:=g5 (aH (bk (bm 1)))
  rw[if_neg (by rw[List.map_singleton,List.mem_singleton];exact fun e=>hpn e.symm)]at e5
  rw[(B6 (by rw[hd.at_.pw];decide) (by rw[g2];decide) e5).1]
  exact(get_at hd.at_ (by omega) hF1).1
 ·have e5:=g5 (aH (bk (bm 2)))
  rw[if_pos (by rw[List.map_singleton];exact List.mem_singleton.2 rfl)]at e5
  exact wU (d:=(d.prune [bk (bm 1)]).1) (F:=lk (d.prune [bk (bm 1)]).1.seen) (T:=dH (d.prune [bk (bm 1)]).1.seen) (room:=(d.prune [bk (bm 1)]).1.room) ⟨g2,rfl,fun _=>rfl,Nat.le_refl _⟩ e5
end Go.Proofs.YtmibdabdlgmafaaGreatDoor
end
section
set_option maxRecDepth 20000
set_option maxHeartbeats 4000000
namespace Go.Proofs.YtmibdabdlgmafaaGreatDoor
open Go.Eng Go.Hx
theorem Bd.F6{d:RD}{B W:Nat}(h:Bd d B W):∀x∈d.seen,x.1.length≤1000000:=fun f hf=>Nat.le_trans (h.nS f hf) (by decide)
theorem zz:ck Tryz.prog 63 [] [] [fh] (fun v_ X_ S_=>v_=(.bool true)∧X_=[]∧S_=[]):=by
 refine aP (N:=43) Tryz.func63 rfl rfl (by simp) fun b=> ?_
 refine ah<|aj<|hy (fun _=>ab rfl)<|ai<|ag<|ah<|aj<| ?_
 refine hx (b5 Tryz.underlying44 Fi rfl rfl rfl (by simp[Value.cells,B8]) (by decide) (by decide) (fun g4=> ?_))
 have hA_b4:0<2→(some (⟨g4,0,none⟩:Addr))≠none:=fun _ h=>by cases h
 refine aO (fun w m=>m.bQ 0 rfl (show _=aG 3 1 (.slice (some ⟨g4,0,none⟩) 2 2) 2 (ints [1,2])from rfl)) ?_
 refine aO (fun w m=>(m.perm (au [0] _ [_] _ rfl)).freeze) ?_
 refine aO (fun w m=>m.iW 0 rfl .own) ?_
 refine aA (fun m=>gE (m.rd 0 rfl)) ?_
 rintro⟨hl_b4r,hA_b4r⟩
 refine aO (fun w m=>m.qv (r' :=dr 1 none 0 []) (.refl _ _) (Rd.nil _ _ _) (fun k hk=>absurd rfl hk.1)) ?_
 have hA_z1:0<0→(none:Option Addr)≠none:=fun h=>absurd h (by decide)
 refine aO (fun w m=>m.qv (r' :=dr 1 none 0 []) (.refl _ _) (Rd.nil _ _ _) (fun k hk=>absurd rfl hk.1)) ?_
 have hA_z2:0<0→(none:Option Addr)≠none:=fun h=>absurd h (by decide)
 refine hx (aq rfl Tryz.call61 (uf (by intro z hz;simp only[List.mem_cons,List.not_mem_nil,or_false]at hz;rcases hz with rfl|rfl <;> decide) (fun z hz=>absurd hz (List.not_mem_nil)) (Nat.le_refl 0) (by decide) (zl:=[1,2]) (zb:=[]) (bb:=[])) [] rfl [2,1,0,4] rfl ?_)
 rintro _ _ _ ⟨gw,gd,st,y,rfl,rfl,rfl,hbg⟩
 refine hy (fun _=>ab rfl)<|ai<|al (ρ' :=[(1,_),(0,_)]) ⟨rfl,rfl,trivial⟩<|ak (X' :=[_,_]) (S' :=[_,_,_,_,_,_]) (fun _ m=>m)<|ag<|ah<|ah<|aj<|hy (fun _=>aa rfl)<|hy (fun _=>uR rfl rfl (by kernel_rfl))<|ai<|al (ρ' :=[(7,_),(1,_),(0,_)]) ⟨rfl,rfl,rfl,trivial⟩<|ag<| ?_
 refine dB rfl (rfl) ?_
 refine aD<|ag<|ah<|c5 [4,5,6,7,8] [(0,some 4),(1,some 4),(2,some 4),(3,some 4),(4,none),(5,none),(6,none),(7,none),(8,none),(9,some 5),(10,some 5),(11,some 5),(12,some 5),(13,some 5)] (by kernel_rfl) (by kernel_rfl) rfl 4<|an (aa rfl)<|an (bd rfl)<|an (aK rfl fp (by decide))<|cr (fun m=>ay rfl kV (aE (m.a6 0 rfl) (i:=0) rfl))<| ?_
 refine ew (b5 Tryz.underlying44 Fi rfl rfl rfl (by simp[Value.cells,B8]) (by decide) (by decide) (fun g13=>⟨(fun _=>wk [1,1] [0,1,2,3,4,5] rfl rfl), ?_⟩))
 have hA_b13:0<1→(some (⟨g13,0,none⟩:Addr))≠none:=fun _ h=>by cases h
 refine gP (fun w m=>m.bQ 0 rfl (show _=aG 3 1 (.slice (some ⟨g13,0,none⟩) 1 1) 1 (ints [0])from rfl)) ?_
 refine gP (fun w m=>(m.perm (au [0] _ [_] _ rfl)).freeze) ?_
 refine gP (fun w m=>m.iW 0 rfl .own) ?_
 refine cA (fun m=>gE (m.rd 0 rfl)) ?_
 rintro⟨hl_b13r,hA_b13r⟩
 refine ew (aq rfl Tryz.call64 (uC (by intro z hz;rw[List.mem_singleton.1 hz];decide) (zl:=[0])) [] rfl [0,7] rfl ?_)
 rintro _ _ _ ⟨A1,c1,rfl,rfl,rfl⟩
 refine⟨(fun _=>wk [0,0] [3,4,5,6,7,8] rfl rfl), ?_⟩
 refine cA (fun m=>gE (m.rd 0 rfl)) ?_
 rintro⟨hl_q2,hA_q2⟩
 refine ew (aq rfl Tryz.call65 (DA (x:=(qO (eI [0]) A1 c1))) [] rfl [] rfl ?_)
 rintro _ _ _ ⟨rfl,rfl,rfl⟩
 refine⟨(fun _=>wk [0,0] [3,4,5,6,7,8] rfl rfl), ?_⟩
 refine ew (b5 Tryz.underlying125 xp rfl rfl rfl (by simpa[Value.cells]using IX.eg _) (by decide) (by decide) (fun g16=>⟨(fun _=>wk [1,1] [3,4,5,6,7,8] rfl rfl), ?_⟩))
 have hA_b16:0<1→(some (⟨g16,0,none⟩:Addr))≠none:=fun _ h=>by cases h
 refine gP (fun w m=>m.bQ 0 rfl (show _=aG 88 36 (.slice (some ⟨g16,0,none⟩) 1 1) 1 (nb [qO (eI [0]) A1 c1])from congrArg (aG _ _ _ _) (by simp[nb,Value.cells]))) ?_
 refine gP (fun w m=>(m.perm (au [0] _ [_] _ rfl)).freeze) ?_
 refine gP (fun w m=>m.iW 0 rfl .own) ?_
 refine cA (fun m=>gE (m.rd 0 rfl)) ?_
 rintro⟨hl_b16r,hA_b16r⟩
 refine gP (S' :=gn ([qO (eI [0]) A1 c1].map IX.fi)::_) (fun w m=>m.xr [2] rfl) ?_
 obtain⟨hye,hD,hB⟩:=hbg
 have hal:cg [qO (eI [0]) A1 c1]=[bk (bm 1)]:=by
  show [bk (bm (kz 0))]=_
  rw[show kz 0=1 by decide]
 have hsr:lQ y.d.seen:=hD.mE.files.ord
 obtain⟨d',hpr,hg1,hg2⟩:=qT (by rw[←hye];exact hsr)
 rw[←hye,←hal]at hpr
 refine ew (aq rfl Tryz.call62 (vN hD (by omega) hB.F6 rfl (by decide) (by rw[hal];decide) (L:=[qO (eI [0]) A1 c1])) [1] rfl [1,0] rfl ?_)
 rintro _ _ _ ⟨st1,rfl,rfl,rfl,hE1⟩
 refine⟨(fun h=>absurd h (by decide)), ?_⟩
 rw[hpr]at hE1 ⊢
 replace hE1:DS st1 d' (100+100):=hE1
 refine an (aa rfl)<|an (ar rfl rfl)<|an (ar rfl rfl)<|an (ab rfl)<|an (ab rfl)<|bD<|al (ρ' :=[(3,_),(2,_),(7,_),(1,_),(0,_)]) ⟨rfl,rfl,rfl,rfl,rfl,trivial⟩<|ak (X' :=[_,_]) (S' :=[_,_,_,_,_,_,_,_,_,_,_,_]) (fun _ m=>m)<|ag<|ah<|qm [1] [0,1,2,3,4,5,6,7,8,9,10,11] rfl rfl [11,12,19,20] [(0,some 4),(1,some 4),(2,some 0),(3,some 4),(4,some 4),(5,some 0),(6,some 0),(7,some 4),(8,some 4),(9,some 1),(10,some 1),(11,none),(12,none),(13,some 2),(14,some 2),(15,some 3),(16,some 3),(17,some 3),(18,some 3),(19,none),(20,none),(21,some 4),(22,some 4),(23,some 4)] (by kernel_rfl) (by kernel_rfl) rfl 99<|an (aa rfl)<|an (cJ rfl rfl)<|an (aa rfl)<|bj (o:=_) rfl rfl rfl (aa rfl)<|bj (o:=_) rfl rfl rfl (cJ rfl rfl)<|an (bM rfl rfl)<|an (aa rfl)<|bj (o:=_) rfl rfl rfl (aa rfl)<|bj (o:=_) rfl rfl rfl (bd rfl)<|bj (o:=_) rfl rfl rfl (aK rfl fp (by decide))<|iS (o:=_) rfl rfl rfl (fun m=>ay rfl kV (aE (m.a6 0 rfl) (i:=0) rfl))<| ?_
 refine tr (o:=_) rfl rfl rfl (aq rfl Tryz.call30 (o6 (⟨by omega,by omega⟩) (by decide) (by omega) (k:=1)) [] rfl [11] rfl ?_)
 rintro _ _ _ ⟨rfl,rfl,rfl⟩
 refine⟨(fun _=>wk [1] [0,1,2,3,4,5,6,7,8,9,10,11] rfl rfl), ?_⟩
 refine tr (o:=_) rfl rfl rfl (aq rfl Tryz.call145 (FU hE1 (br _)) [0] rfl [11] rfl ?_)
 rintro _ _ _ ⟨rfl,rfl,rfl⟩
 refine⟨(fun _=>wk [1] [0,1,2,3,4,5,6,7,8,9,10,11] rfl rfl), ?_⟩
 rw[decide_eq_true hg1]
 refine an (bM rfl rfl)<|an (aa rfl)<|bj (o:=_) rfl rfl rfl (aa rfl)<|bj (o:=_) rfl rfl rfl (bd rfl)<|bj (o:=_) rfl rfl rfl (aK rfl fp (by decide))<|iS (o:=_) rfl rfl rfl (fun m=>ay rfl kV (aE (m.a6 0 rfl) (i:=0) rfl))<| ?_
 refine tr (o:=_) rfl rfl rfl (aq rfl Tryz.call30 (o6 (⟨by omega,by omega⟩) (by decide) (by omega) (k:=2)) [] rfl [11] rfl ?_)
 rintro _ _ _ ⟨rfl,rfl,rfl⟩
 refine⟨(fun _=>wk [1] [0,1,2,3,4,5,6,7,8,9,10,11] rfl rfl), ?_⟩
 refine tr (o:=_) rfl rfl rfl (aq rfl Tryz.call145 (FU hE1 (br _)) [0] rfl [11] rfl ?_)
 rintro _ _ _ ⟨rfl,rfl,rfl⟩
 refine⟨(fun _=>wk [1] [0,1,2,3,4,5,6,7,8,9,10,11] rfl rfl), ?_⟩
 rw[decide_eq_false (show¬d'.fg (bk (bm 2))=0 by rw[hg2];decide)]
 refine bj (o:=_) rfl rfl rfl ((kC rfl))<|an (bM rfl rfl)<|an (ab rfl)<|bD<|al (ρ' :=[(0,_),(3,_),(2,_),(7,_),(1,_)]) ⟨rfl,rfl,rfl,rfl,rfl,trivial⟩<|ak (X' :=[_,_]) (S' :=[_,_,_,_,_,_,_,_,_,_,_,_]) (fun _ m=>m)<|ag<|aX<| ?_
 exact bg trivial rfl rfl [] rfl [] rfl ⟨rfl,rfl,rfl⟩
end Go.Proofs.YtmibdabdlgmafaaGreatDoor
end
section
set_option maxRecDepth 20000
set_option maxHeartbeats 4000000
namespace Go.Proofs.YtmibdabdlgmafaaGreatDoor
open Go.Eng Go.Hx
theorem zJ(u:IX):cg [u]=u.names:=by simp[cg]
theorem xG(zl:List Int):(eI zl).length≤5:=by
 unfold eI
 rw[List.length_map,List.length_take]
 omega
theorem yr{j1:List It}{A:Option Addr}{c:Nat}:(cg [qO j1 A c]).length=j1.length:=by rw[zJ];simp[IX.names,qO]
end Go.Proofs.YtmibdabdlgmafaaGreatDoor
end
section
set_option maxRecDepth 20000
set_option maxHeartbeats 4000000
namespace Go.Proofs.YtmibdabdlgmafaaGreatDoor
open Go.Eng Go.Hx
theorem View.Fx{L:List IX}{x:IX}:View (gn [gn (L.map IX.fi),x.fi]) (gn ((L++[x]).map IX.fi)):=by
 rw[List.map_append]
 exact .of (fun w h s hs=>by
  rcases List.mem_append.1 hs with hs|hs
  ·exact h (gn (L.map IX.fi)) (List.mem_cons_self ..) s hs
  ·rw[List.mem_singleton.1 hs];exact h x.fi (List.mem_cons_of_mem _ (List.mem_cons_self ..))) (fun k hk=>by
  obtain⟨s,hs,hf⟩:=hk
  rcases List.mem_append.1 hs with hs|hs
  ·exact⟨gn (L.map IX.fi),List.mem_cons_self ..,s,hs,hf⟩
  ·rw[List.mem_singleton.1 hs]at hf;exact⟨x.fi,List.mem_cons_of_mem _ (List.mem_cons_self ..),hf⟩)
theorem xt{L:List IX}{j1:List It}{A:Option Addr}{c:Nat}:(cg (L++[qO j1 A c])).length=(cg L).length+j1.length:=by
 have:cg (L++[qO j1 A c])=cg L++cg [qO j1 A c]:=by simp[cg]
 rw[this,List.length_append,yr]
theorem sH{A B C H:Option Addr}{n c m mc_ k kc h hc_:Nat}{zl zb:List Int}{bb:List UInt8}{ws:List Cell}{pw:Int}(hzl:sB zl)(hzb:sB zb)(hkc:k≤kc)(hkb:k≤140737488351232)(hT:Ty Tryz.prog 124 [.s 1 H h hc_ ws])(hpw:-9223372036854775808≤pw∧pw≤9223372036854775807):ck Tryz.prog 11 [.slice A n c,.slice B m mc_,.slice C k kc,.slice H h hc_,.int .i64 pw] [] [dr 1 A n (ints zl),dr 1 B m (ints zb),dr 1 C k (aV bb),kI (.s 1 H h hc_ ws),fh] (fun v_ X_ S_=>v_=(.bool true)∧X_=[]∧S_=[]):=by
 obtain⟨_,_,_,_,e6,hnc,hnb,hxl,hel⟩:=py Tryz.underlying124 hT
 have c6:Tryz.prog.cellsOf 44=1:=by kernel_rfl
 rw[c6]at e6 hel hxl
 cases e6
 refine aP (N:=123) Tryz.func11 rfl rfl (by simp) fun b=> ?_
 refine aY (fun m=>gE (m.rd 0 rfl)) ?_
 rintro⟨hl_rl,hA_rl⟩
 refine aY (fun m=>gE (m.rd 1 rfl)) ?_
 rintro⟨hl_rb,hA_rb⟩
 refine aY (fun m=>gY (m.rd 2 rfl)) ?_
 rintro⟨hl_rc,hA_rc⟩
 refine aY (fun m=>FB (m.FV 3 rfl)) ?_
 rintro⟨hl_rx,hA_rx,hc_rx⟩
 refine ah<|aj<|hy (fun _=>ab rfl)<|ai<|ag<|ah<|aj<|hy (fun _=>aa rfl)<|hy (fun _=>aa rfl)<|hy (fun _=>aa rfl)<| ?_
 refine hx (aq rfl Tryz.call61 (uf hzl hzb hkc hkb) [] rfl [0,1,2,4] rfl ?_)
 rintro _ _ _ ⟨gw,gd,st,y,rfl,rfl,rfl,hbg⟩
 refine hy (fun _=>ab rfl)<|ai<|al (ρ' :=[(11,_),(10,_),(0,_),(1,_),(2,_),(3,_),(4,_)]) ⟨rfl,rfl,rfl,rfl,rfl,rfl,rfl,trivial⟩<|ak (X' :=[_,_]) (S' :=[_,_,_,_,_,_]) (fun _ m=>m)<|ag<|ah<|ah<|aj<|hy (fun _=>aa rfl)<|hy (fun _=>uR rfl rfl (by kernel_rfl))<|ai<|al (ρ' :=[(26,_),(11,_),(10,_),(0,_),(1,_),(2,_),(3,_),(4,_)]) ⟨rfl,rfl,rfl,rfl,rfl,rfl,rfl,rfl,trivial⟩<|ag<| ?_
 obtain⟨hye,hD,hB⟩:=hbg
 have har:=n9 pw 10 (by decide)
 refine dB rfl (rfl) ?_
 refine bx (fun w m=>m.dm (r' :=aG 82 36 (.slice none 0 0) 0 []) (.refl _ _) (Own.nil _ _ _ _) (fun k hk=>hk.elim)) ?_
 refine bx (fun w m=>m.dm (r' :=aG 88 36 (.slice none 0 0) 0 []) (.refl _ _) (Own.nil _ _ _ _) (fun k hk=>hk.elim)) ?_
 refine bx (fun w m=>m.iW 4 rfl View.Gk) ?_
 refine aY (fun m=>gE (m.rd 0 rfl)) ?_
 rintro⟨hl_rv,hA_rv⟩
 refine bx (S' :=gn (List.map IX.fi [])::_) (fun w m=>m.xr [] rfl) ?_
 refine aD<|ag<|ah<|aj<|hy (fun _=>ab rfl)<|ai<|ag<|ah<|aj<|hy (fun _=>ab rfl)<|ai<|ag<|ah<|ah<|aj<|hy (fun _=>ab rfl)<|ai<|ag<| ?_
 refine E3 (fun L Ao co Aa ca=>[(12,.slice Ao (List.length L) co),(13,.slice Aa (List.length L) ca)]) (fun L Ao co Aa ca=>[aG 82 36 (.slice Ao (List.length L) co) (List.length L) (nb L),aG 88 36 (.slice Aa (List.length L) ca) (List.length L) (nb L)]) (fun L Ao co Aa ca=>[gn (List.map IX.fi L)]) (fun L Ao co Aa ca=>L.length≤2∧(cg L).length≤10) [(26,_),(11,_),(10,_),(0,_),(1,_),(2,_),(3,_),(4,_)] ⟨rfl,rfl,rfl,rfl,rfl,rfl,rfl,rfl,trivial⟩ [1,0] rfl ?_ (fun L Ao co Aa ca ⟨hi2,hal⟩=> ?_)
 ·refine aI<| ?_
  refine nP (fun i L Ao co Aa ca=>h-i) (fun i L Ao co Aa ca=>[(14,.int .i64 (i:Nat)),(12,.slice Ao i co),(13,.slice Aa i ca)]) (fun i L Ao co Aa ca=>[aG 82 36 (.slice Ao i co) i (nb L),aG 88 36 (.slice Aa i ca) i (nb L)]) (fun i L Ao co Aa ca=>[gn (List.map IX.fi L)]) (fun i L Ao co Aa ca=>i≤h∧i≤2∧L.length=i∧(cg L).length≤5*i) 0 [] none 0 none 0 [(26,_),(11,_),(10,_),(0,_),(1,_),(2,_),(3,_),(4,_)] ⟨rfl,rfl,rfl,rfl,rfl,rfl,rfl,rfl,trivial⟩ [1,0] rfl [0] rfl (⟨Nat.zero_le _,Nat.zero_le _,rfl,Nat.le_refl _⟩) ⟨rfl,rfl,rfl,trivial⟩ (fun i L Ao co Aa ca ⟨hih,hi2,hLl,hal⟩=> ?_)
  refine ah<|ah<|aj<|hy (fun _=>aa rfl)<|hy (fun _=>aa rfl)<|hy (fun _=>aS rfl Tryz.underlying124)<|hy (fun _=>bq rfl rfl)<|hy (fun _=>aa rfl)<| ?_
  refine eK 31 rfl (fun h1=> ?_) (fun h1=> ?_)
  ·refine dU (o:=_) rfl rfl rfl (fun _=>aa rfl)<|dU (o:=_) rfl rfl rfl (fun _=>bq rfl rfl)<|hy (fun _=>bM rfl rfl)<|ai<|al (ρ' :=[(34,_),(14,_),(12,_),(13,_),(26,_),(11,_),(10,_),(0,_),(1,_),(2,_),(3,_),(4,_)]) ⟨rfl,rfl,rfl,rfl,rfl,rfl,rfl,rfl,rfl,rfl,rfl,rfl,trivial⟩<|ag<| ?_
   refine cD rfl (fun h2=> ?_) (fun h2=> ?_)
   ·obtain⟨A2,n2,c2,ys,lz,e2,hv2,hz2⟩:=s4 (hel i (by omega))
    have hg2:ws[i]? =some (.s 1 A2 n2 c2 ys):=by
     have:=x6 (sz:=1) (i:=i) (o:=0) e2 rfl
     rwa [Nat.mul_one,Nat.add_zero]at this
    refine bx (fun w m=>m.iW 7 rfl (View.Cm hg2 hv2)) ?_
    refine aY (fun m=>gE (m.rd 0 rfl)) ?_
    rintro⟨hl_r2,hA_r2⟩
    refine aD<|ag<|ah<|aI<|ah<|aj<|hy (fun _=>aa rfl)<|hy (fun _=>aa rfl)<|hy (fun _=>aa rfl)<|hy (fun _=>aT rfl rfl Tryz.underlying124 Hq hA_rx rfl (by omega))<|hy (fun m=>ay rfl GZ ((m.rd 3 rfl).cell (show(ws.map Cell.val)[i]? =some (.slice A2 n2 c2) by rw[List.getElem?_map,hg2];rfl)))<| ?_
    refine hx (aq rfl Tryz.call64 (uC hz2 (zl:=lz)) [] rfl [0,9] rfl ?_)
    rintro _ _ _ ⟨A1,c1,rfl,rfl,rfl⟩
    refine aA (fun m=>gE (m.rd 0 rfl)) ?_
    rintro⟨hl_q2,hA_q2⟩
    have hle:=xG lz
    obtain⟨x,hxd⟩:∃x,x=qO (eI lz) A1 c1:=⟨_,rfl⟩
    refine aO (S' :=gn [gn (List.map IX.fi L),IX.fi (qO (eI lz) A1 c1)]::_) (fun w m=>m.xr [2,0] rfl) ?_
    refine aO (fun w m=>m.iW 0 rfl (View.Fx (L:=L))) ?_
    rw[←hxd]
    have hxl:(cg (L++[x])).length≤5*(i+1):=by rw[hxd,xt];omega
    have hgx:(L++[x])[i]? =some x:=by rw[List.getElem?_append_right (by omega),hLl,Nat.sub_self];rfl
    have hixs:nb L++nb [x]=nb (L++[x]):=(vk L [x]).symm
    refine hx (b5 Tryz.underlying105 zE rfl rfl rfl (by simpa[Value.cells]using IX.eg _) (by decide) (by decide) (fun g43=> ?_))
    have hA_b43:0<1→(some (⟨g43,0,none⟩:Addr))≠none:=fun _ h=>by cases h
    refine aO (fun w m=>m.bQ 0 rfl (show _=aG 82 36 (.slice (some ⟨g43,0,none⟩) 1 1) 1 (nb [x])from congrArg (aG _ _ _ _) (by simp[nb,Value.cells]))) ?_
    refine hx (bu 1 rfl rfl rfl Tryz.underlying105 Tryz.underlying105 (by exact .inl rfl) zE rfl (fun m=>Src.bP (m.ord 0 rfl)) wh (by unfold maxLen;omega) (by omega) (fun u=> ?_))
    refine aA (fun m=>(m.own 0 rfl).slice) ?_
    rintro⟨A_o,c_o,rfl,hc_o⟩
    refine aA (fun m=>(m.ord 0 rfl).2.1) fun hA_o=> ?_
    rw[hixs]
    refine hy (fun _=>ab rfl)<|ai<|al (ρ' :=[(12,_),(34,_),(14,_),(13,_),(26,_),(11,_),(10,_),(0,_),(1,_),(2,_),(3,_),(4,_)]) ⟨rfl,rfl,rfl,rfl,rfl,rfl,rfl,rfl,rfl,rfl,rfl,rfl,trivial⟩<|ak (X' :=[_,_,_,_,_]) (S' :=[_,_,_,_,_,_,_,_,_,_,_,_,_]) (fun _ m=>m)<|ag<|aj<|hy (fun _=>aa rfl)<|hy (fun _=>aa rfl)<|hy (fun _=>aa rfl)<|hy (fun _=>cq rfl rfl Tryz.underlying105 pf hA_o rfl (by omega))<|hy (fun m=>yV (aU rfl Bh pf (IX.eg _) (iO (f:=IX.cs) IX.eg (m.ord 0 rfl) hgx)) ((rfl:_=Value.agg x.cs.toArray)))<| ?_
    refine hx (aq rfl Tryz.call65 (DA (x:=x)) [] rfl [] rfl ?_)
    rintro _ _ _ ⟨rfl,rfl,rfl⟩
    refine hx (b5 Tryz.underlying125 xp rfl rfl rfl (by simpa[Value.cells]using IX.eg _) (by decide) (by decide) (fun g51=> ?_))
    have hA_b51:0<1→(some (⟨g51,0,none⟩:Addr))≠none:=fun _ h=>by cases h
    refine aO (fun w m=>m.bQ 0 rfl (show _=aG 88 36 (.slice (some ⟨g51,0,none⟩) 1 1) 1 (nb [x])from congrArg (aG _ _ _ _) (by simp[nb,Value.cells]))) ?_
    refine hx (bu 3 rfl rfl rfl Tryz.underlying125 Tryz.underlying125 (by exact .inl rfl) xp rfl (fun m=>Src.bP (m.ord 0 rfl)) wh (by unfold maxLen;omega) (by omega) (fun u2=> ?_))
    refine aA (fun m=>(m.own 0 rfl).slice) ?_
    rintro⟨A_a,c_a,rfl,hc_a⟩
    refine aA (fun m=>(m.ord 0 rfl).2.1) fun hA_a=> ?_
    rw[hixs]
    refine hy (fun _=>ab rfl)<|ai<|al (ρ' :=[(13,_),(12,_),(34,_),(14,_),(26,_),(11,_),(10,_),(0,_),(1,_),(2,_),(3,_),(4,_)]) ⟨rfl,rfl,rfl,rfl,rfl,rfl,rfl,rfl,rfl,rfl,rfl,rfl,trivial⟩<|ak (X' :=[_,_,_,_,_,_]) (S' :=[_,_,_,_,_,_,_,_,_,_,_,_,_]) (fun _ m=>m)<|aQ<|ag<|aj<|hy (fun _=>aa rfl)<|hy (fun _=>aM rfl rfl (bG (by omega) (by omega)))<|hy (fun _=>ab rfl)<|ai<|al (ρ' :=[(14,_),(13,_),(12,_),(34,_),(26,_),(11,_),(10,_),(0,_),(1,_),(2,_),(3,_),(4,_)]) ⟨rfl,rfl,rfl,rfl,rfl,rfl,rfl,rfl,rfl,rfl,rfl,rfl,trivial⟩<| ?_
    refine gg (i+1) (L++[x]) _ _ _ _ ⟨rfl,rfl,rfl,rfl,rfl,rfl,rfl,rfl,rfl,rfl,rfl,trivial⟩ [2,0,2,2] rfl [0,5,6,7,8,9,10,11,12] rfl (⟨by omega,by omega,by rw[List.length_append,hLl];rfl,hxl⟩) (by omega)
   ·refine bJ<|ao<|ao<|aB<| ?_
    subst hLl
    exact xa (R:=fun L Ao co Aa ca=>[(12,.slice Ao (List.length L) co),(13,.slice Aa (List.length L) ca)]) (X1:=fun L Ao co Aa ca=>[aG 82 36 (.slice Ao (List.length L) co) (List.length L) (nb L),aG 88 36 (.slice Aa (List.length L) ca) (List.length L) (nb L)]) (S1:=fun L Ao co Aa ca=>[gn (List.map IX.fi L)]) (I:=fun L Ao co Aa ca=>L.length≤2∧(cg L).length≤10) L Ao co Aa ca ⟨rfl,rfl,rfl,rfl,rfl,rfl,rfl,rfl,rfl,rfl,trivial⟩ [0,0,0,0] rfl [0,1,2,3,4,5,6,7,8] rfl (⟨hi2,by omega⟩)
  ·refine bE rfl rfl rfl (by decide)<|bE rfl rfl rfl (by decide)<|hy (fun _=>bC rfl rfl)<|ai<|al (ρ' :=[(34,_),(14,_),(12,_),(13,_),(26,_),(11,_),(10,_),(0,_),(1,_),(2,_),(3,_),(4,_)]) ⟨rfl,rfl,rfl,rfl,rfl,rfl,rfl,rfl,rfl,rfl,rfl,rfl,trivial⟩<|ag<| ?_
   refine dB rfl (rfl) ?_
   refine bJ<|ao<|ao<|aB<| ?_
   subst hLl
   exact xa (R:=fun L Ao co Aa ca=>[(12,.slice Ao (List.length L) co),(13,.slice Aa (List.length L) ca)]) (X1:=fun L Ao co Aa ca=>[aG 82 36 (.slice Ao (List.length L) co) (List.length L) (nb L),aG 88 36 (.slice Aa (List.length L) ca) (List.length L) (nb L)]) (S1:=fun L Ao co Aa ca=>[gn (List.map IX.fi L)]) (I:=fun L Ao co Aa ca=>L.length≤2∧(cg L).length≤10) L Ao co Aa ca ⟨rfl,rfl,rfl,rfl,rfl,rfl,rfl,rfl,rfl,rfl,trivial⟩ [0,0,0,0] rfl [0,1,2,3,4,5,6,7,8] rfl (⟨hi2,by omega⟩)
 ·have hlo:(bV (bw y.d) (cg L)).length≤100:=Nat.le_trans lx (Nat.le_trans (iz y.d) hD.qM.seen)
  have hld:j8 (bV (bw y.d) (cg L)):=lh (fZ y.d)
  refine ak (fun w m=>(m.perm (au [0] _ [_] _ rfl)).freeze) ?_
  refine ak (fun w m=>m.iW 0 rfl .own) ?_
  refine qk (fun m=>gE (m.rd 0 rfl)) ?_
  rintro⟨hl_or,hA_or⟩
  refine ak (fun w m=>(m.perm (au [0] _ [_] _ rfl)).freeze) ?_
  refine ak (fun w m=>m.iW 0 rfl .own) ?_
  refine qk (fun m=>gE (m.rd 0 rfl)) ?_
  rintro⟨hl_ar,hA_ar⟩
  refine ag<|ah<|aj<|hy (fun _=>aa rfl)<| ?_
  refine hx (aq rfl Tryz.call16 (sa hpw.1 hpw.2 (by decide) (n:=pw) (m:=10)) [] rfl [] rfl ?_)
  rintro _ _ _ ⟨rfl,rfl,rfl⟩
  refine hy (fun _=>cn rfl rfl (bG (by omega) (by omega)))<|hy (fun _=>ab rfl)<|ai<|al (ρ' :=[(15,_),(12,_),(13,_),(26,_),(11,_),(10,_),(0,_),(1,_),(2,_),(3,_),(4,_)]) ⟨rfl,rfl,rfl,rfl,rfl,rfl,rfl,rfl,rfl,rfl,rfl,trivial⟩<|ak (X' :=[_,_]) (S' :=[_,_,_,_,_,_,_,_,_,_,_,_,_]) (fun _ m=>m)<|ag<|ah<|ah<|qm [0] [0,1,2,3,4,5,6,7,8,9,10,11,12] rfl rfl [5,11,12] [(0,some 3),(1,some 0),(2,some 0),(3,some 0),(4,some 0),(6,some 3),(7,some 1),(8,some 1),(9,some 1),(10,some 1),(5,none),(11,none),(12,none),(13,some 3)] (by kernel_rfl) (by kernel_rfl) rfl 99<|an (aa rfl)<|an (bd rfl)<|an (aK rfl fp (by decide))<|cr (fun m=>ay rfl kV (aE (m.a6 0 rfl) (i:=0) rfl))<|an (aa rfl)<|an (aa rfl)<|an (bd rfl)<|an (aK rfl eD (by decide))<|cr (fun m=>yV (aU rfl cd bh rfl (re (m.a6 0 rfl))) ((rfl:_=Value.agg y.cs.toArray)))<|an (aa rfl)<| ?_
  refine ew (aq rfl Tryz.call66 (zi hD (by omega) hB.F6 rfl (by omega) (by omega) (L:=L)) [1] rfl [0,4] rfl ?_)
  rintro _ _ _ ⟨A1,k2,c1,rfl,rfl,rfl,hk1⟩
  refine⟨(fun _=>wk [2] [0,1,2,3,4,5,6,7,8,9,10,11,12] rfl rfl), ?_⟩
  obtain⟨hk1,_⟩:=hk1
  subst hk1
  refine ew (aq rfl Tryz.call67 (xe hD.qM (by omega) hD.mE.files.ord hB.F6 rfl (by omega) (by omega) (L:=L)) [] rfl [7,2,4] rfl ?_)
  rintro _ _ _ ⟨A12,k3,c12,rfl,rfl,rfl,hk2⟩
  refine⟨(fun _=>wk [3] [0,1,2,3,4,5,6,7,8,9,10,11,12] rfl rfl), ?_⟩
  subst hk2
  refine ew (cM rfl Tryz.call19 (vC hld (by omega)) [] rfl (.x 2 rfl .own (.x 0 rfl .own .nil)) ?_)
  rintro _ _ _ ⟨rfl,rfl,rfl⟩
  refine⟨rfl, ?_⟩
  refine⟨(fun _=>wk [3] [0,1,2,3,4,5,6,7,8,9,10,11,12] rfl rfl), ?_⟩
  refine an ((kC rfl))<|bD<|al (ρ' :=[(69,_),(15,_),(12,_),(13,_),(26,_),(11,_),(10,_),(0,_),(1,_),(2,_),(3,_),(4,_)]) ⟨rfl,rfl,rfl,rfl,rfl,rfl,rfl,rfl,rfl,rfl,rfl,rfl,trivial⟩<|ak (X' :=[_,_,_,_]) (S' :=[_,_,_,_,_,_,_,_,_,_,_,_,_]) (fun _ m=>m)<|ag<| ?_
  refine dB rfl (rfl) ?_
  refine aD<|ag<|ah<|aj<|hy (fun _=>aa rfl)<|hy (fun _=>bd rfl)<|hy (fun _=>aK rfl fp (by decide))<|hy (fun m=>ay rfl kV (aE (m.a6 3 rfl) (i:=0) rfl))<|hy (fun _=>aa rfl)<| ?_
  refine hx (aq rfl Tryz.call57 (BY hD (show ef pw 10-1≤1000000000000 by omega)) [1] rfl [] rfl ?_)
  rintro _ _ _ ⟨st1,rfl,rfl,rfl,hE1⟩
  refine ai<|al (ρ' :=[(69,_),(15,_),(12,_),(13,_),(26,_),(11,_),(10,_),(0,_),(1,_),(2,_),(3,_),(4,_)]) ⟨rfl,rfl,rfl,rfl,rfl,rfl,rfl,rfl,rfl,rfl,rfl,rfl,trivial⟩<|ak (X' :=[_,_,_,_]) (S' :=[_,_,_,_,_,_,_,_,_,_,_,_,_]) (fun _ m=>m)<|ag<|ah<|aj<|hy (fun _=>aa rfl)<|hy (fun _=>aa rfl)<|hy (fun _=>bd rfl)<|hy (fun _=>aK rfl eD (by decide))<|hy (fun m=>yV (aU rfl cd bh rfl (re (m.a6 3 rfl))) ((rfl:_=Value.agg y.cs.toArray)))<|hy (fun _=>aa rfl)<| ?_
  refine hx (aq rfl Tryz.call58 (Cj) [] rfl [7] rfl ?_)
  rintro _ _ _ ⟨y2,rfl,rfl,rfl,hyw⟩
  refine hy (fun _=>bd rfl)<|hy (fun _=>aK rfl eD (by decide))<| ?_
  refine cL (lO 3 rfl rfl rfl bh rfl bz (show 6≤6 from Nat.le_refl 6) ?_)
  refine aO (fun w m=>m.bQ 0 rfl (show _=aL gw 121 (.pointer (some ⟨gd,0,none⟩)::y2.cs)from congrArg (aL _ _) mF)) ?_
  rw[←hyw]at hE1
  have hB1:Bd y2.d 27 27:=by rw[hyw];exact hB.bY
  refine ai<|al (ρ' :=[(69,_),(15,_),(12,_),(13,_),(26,_),(11,_),(10,_),(0,_),(1,_),(2,_),(3,_),(4,_)]) ⟨rfl,rfl,rfl,rfl,rfl,rfl,rfl,rfl,rfl,rfl,rfl,rfl,trivial⟩<|ak (X' :=[_,_,_,_]) (S' :=[_,_,_,_,_,_,_,_,_,_,_,_,_,_]) (fun _ m=>m)<|ag<|ah<|aj<|hy (fun _=>aa rfl)<|hy (fun _=>bd rfl)<|hy (fun _=>aK rfl eD (by decide))<|hy (fun m=>yV (aU rfl cd bh rfl (re (m.a6 0 rfl))) ((rfl:_=Value.agg y2.cs.toArray)))<|hy (fun _=>aa rfl)<| ?_
  refine hx (aq rfl Tryz.call68 (Cp (⟨_,hE1⟩) (by omega) hE1.mE.files.ord hB1.F6 rfl (by omega) (by omega) (L:=L)) [] rfl [0,3,5] rfl ?_)
  rintro _ _ _ ⟨y3,rfl,rfl,rfl,hyz⟩
  refine hy (fun _=>aa rfl)<|hy (fun _=>ar rfl rfl)<|hy (fun _=>ar rfl rfl)<|hy (fun _=>ar rfl rfl)<| ?_
  refine hx (aN fG (fun g16=> ?_))
  refine cL (aJ 0 rfl rfl rfl bh rfl bz rfl ?_)
  refine hy (fun _=>ab rfl)<|hy (fun _=>ab rfl)<|ai<|al (ρ' :=[(18,_),(17,_),(16,_),(69,_),(15,_),(12,_),(13,_),(26,_),(11,_),(10,_),(0,_),(1,_),(2,_),(3,_),(4,_)]) ⟨rfl,rfl,rfl,rfl,rfl,rfl,rfl,rfl,rfl,rfl,rfl,rfl,rfl,rfl,rfl,trivial⟩<|ak (X' :=[_,_,_,_,_]) (S' :=[_,_,_,_,_,_,_,_,_,_,_,_,_,_,_]) (fun _ m=>m)<|ag<|ah<|aj<|hy (fun _=>aa rfl)<|hy (fun m=>yV (aU rfl cd bh rfl ((m.a6 0 rfl).ax)) ((rfl:_=Value.agg y3.cs.toArray)))<|hy (fun _=>bd rfl)<|hy (fun _=>aK rfl eD (by decide))<| ?_
  refine cL (lO 1 rfl rfl rfl bh rfl bz (show 6≤6 from Nat.le_refl 6) ?_)
  refine aO (fun w m=>m.bQ 0 rfl (show _=aL gw 121 (.pointer (some ⟨gd,0,none⟩)::y3.cs)from congrArg (aL _ _) mF)) ?_
  refine ai<|al (ρ' :=[(18,_),(17,_),(16,_),(69,_),(15,_),(12,_),(13,_),(26,_),(11,_),(10,_),(0,_),(1,_),(2,_),(3,_),(4,_)]) ⟨rfl,rfl,rfl,rfl,rfl,rfl,rfl,rfl,rfl,rfl,rfl,rfl,rfl,rfl,rfl,trivial⟩<|ak (X' :=[_,_,_,_,_]) (S' :=[_,_,_,_,_,_,_,_,_,_,_,_,_,_,_]) (fun _ m=>m)<|ag<|ah<|aj<|hy (fun _=>aa rfl)<|hy (fun _=>bd rfl)<|hy (fun _=>aK rfl fp (by decide))<|hy (fun m=>ay rfl kV (aE (m.a6 0 rfl) (i:=0) rfl))<|hy (fun _=>aa rfl)<| ?_
  refine hx (aq rfl Tryz.call62 (vN hE1 (by omega) hB1.F6 rfl (by omega) (by omega) (L:=L)) [2] rfl [2,6] rfl ?_)
  rintro _ _ _ ⟨st12,rfl,rfl,rfl,hE2⟩
  rw[←hyz]at hE2
  refine hy (fun _=>aa rfl)<|hy (fun _=>ar rfl rfl)<|hy (fun _=>ar rfl rfl)<|hy (fun _=>ab rfl)<|hy (fun _=>ab rfl)<|ai<|al (ρ' :=[(20,_),(19,_),(18,_),(17,_),(16,_),(69,_),(15,_),(12,_),(13,_),(26,_),(11,_),(10,_),(0,_),(1,_),(2,_),(3,_),(4,_)]) ⟨rfl,rfl,rfl,rfl,rfl,rfl,rfl,rfl,rfl,rfl,rfl,rfl,rfl,rfl,rfl,rfl,rfl,trivial⟩<|ak (X' :=[_,_,_,_,_]) (S' :=[_,_,_,_,_,_,_,_,_,_,_,_,_,_,_]) (fun _ m=>m)<|ag<|ah<|aj<|hy (fun _=>aa rfl)<|hy (fun _=>aa rfl)<|hy (fun _=>yT (cJ rfl rfl) ((decide_eq_true rfl)))<|hy (fun _=>aa rfl)<|dU (o:=_) rfl rfl rfl (fun _=>aa rfl)<|dU (o:=_) rfl rfl rfl (fun _=>aa rfl)<|dU (o:=_) rfl rfl rfl (fun _=>yT (cJ rfl rfl) ((decide_eq_true rfl)))<|hy (fun _=>bM rfl rfl)<|hy (fun _=>aa rfl)<|dU (o:=_) rfl rfl rfl (fun _=>aa rfl)<| ?_
  refine F0 (o:=_) rfl rfl rfl (aq rfl Tryz.call69 (BQ hE2 (by omega)) [1,0] rfl [0] rfl ?_)
  rintro _ _ _ ⟨rfl,rfl,rfl⟩
  refine hy (fun _=>bM rfl rfl)<|hy (fun _=>aa rfl)<| ?_
  refine F0 (o:=_) rfl rfl rfl (aq rfl Tryz.call63 (zz) [] rfl [14] rfl ?_)
  rintro _ _ _ ⟨rfl,rfl,rfl⟩
  refine hy (fun _=>bM rfl rfl)<|hy (fun _=>ab rfl)<|ai<|al (ρ' :=[(10,_),(20,_),(19,_),(18,_),(17,_),(16,_),(69,_),(15,_),(12,_),(13,_),(26,_),(11,_),(0,_),(1,_),(2,_),(3,_),(4,_)]) ⟨rfl,rfl,rfl,rfl,rfl,rfl,rfl,rfl,rfl,rfl,rfl,rfl,rfl,rfl,rfl,rfl,rfl,trivial⟩<|ak (X' :=[_,_,_,_,_]) (S' :=[_,_,_,_,_,_,_,_,_,_,_,_,_,_,_]) (fun _ m=>m)<|ag<|aX<| ?_
  exact bg trivial rfl rfl [] rfl [] rfl ⟨rfl,rfl,rfl⟩
theorem jn(A:Option Addr)(n c:Nat)(xs:List Cell)(B:Option Addr)(m mc_:Nat)(ys:List Cell)(K:Option Addr)(k kc:Nat)(bl:List UInt8)(H:Option Addr)(h hc_:Nat)(ws:List Cell)(pw:Int)(W:World)(h1:(kI (.s 1 A n c xs)).holds W)(hT1:Ty Tryz.prog 44 [.s 1 A n c xs])(h2:(kI (.s 1 B m mc_ ys)).holds W)(hT2:Ty Tryz.prog 44 [.s 1 B m mc_ ys])(h3:Rd W 1 K k (aV bl))(hkc:k≤kc)(hkb:k≤140737488351232)(h4:(kI (.s 1 H h hc_ ws)).holds W)(hT4:Ty Tryz.prog 124 [.s 1 H h hc_ ws])(hpw:-9223372036854775808≤pw∧pw≤9223372036854775807)(hro:fh.holds W):
  Calls Tryz.prog 11 #[.slice A n c,.slice B m mc_,.slice K k kc,.slice H h hc_,.int .i64 pw] W fun e w' =>e= .returned (.bool true)∧Fr No W w' :=by
 obtain⟨_,_,_,_,l1,e1,hv1,hz1⟩:=s4 hT1
 cases e1
 obtain⟨_,_,_,_,l2,e2,hv2,hz2⟩:=s4 hT2
 cases e2
 have r1:=(View.rowOf (n:=n) (c:=c) (A:=A) hv1).ok.1 W h1
 have r2:=(View.rowOf (n:=m) (c:=mc_) (A:=B) hv2).ok.1 W h2
 exact qY (sH hz1 hz2 hkc hkb hT4 hpw) (by
  intro s hs
  simp only[List.mem_cons,List.not_mem_nil,or_false]at hs
  rcases hs with rfl|rfl|rfl|rfl|rfl
  ·exact r1
  ·exact r2
  ·exact h3
  ·exact h4
  ·exact hro)
end Go.Proofs.YtmibdabdlgmafaaGreatDoor
end
