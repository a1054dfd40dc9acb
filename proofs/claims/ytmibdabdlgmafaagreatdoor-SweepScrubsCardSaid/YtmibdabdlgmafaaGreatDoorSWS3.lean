/- Part. -/
import Derived.Test.YtmibdabdlgmafaaGreatDoorSWS2
import Derived.ProofKit
import Derived.OpenShut
import Derived.ShutString
import Derived.ChangeOld
import Derived.SizedLaws
import Derived.ChangeSame
import Derived.Laws.BitsAllLaws
set_option linter.all false
section
set_option maxRecDepth 20000
namespace Go.Proofs.YtmibdabdlgmafaaGreatDoor
open Go.Eng Go.Hx
abbrev dm:=List (List UInt8×eC)
def dK(l:dm):List (List UInt8×Value):=l.map fun x=>(x.1,x.2.val)
def mi(l:dm):Nat:=(l.map fun x=>x.2.n).sum
theorem nu:∀(l:dm) (p:List UInt8),ck (dK l) p=(ck l p).map eC.val
 | [],p=>rfl
 |(k,r)::q,p=>by
  have:=nu q p
  simp only[dK,List.map_cons,ck]at this ⊢
  split <;> simp_all
theorem lq:∀(l:dm) (p:List UInt8) (r:eC),cQ (dK l) p r.val=dK (cQ l p r)
 | [],p,r=>rfl
 |(k,u)::q,p,r=>by
  have:=lq q p r
  simp only[dK,List.map_cons,cQ]at this ⊢
  split <;> simp_all
theorem qC:∀(l:dm) (p:List UInt8),ej (dK l) p=dK (ej l p)
 | [],p=>rfl
 |(k,u)::q,p=>by
  have:=qC q p
  simp only[dK,List.map_cons,ej]at this ⊢
  split <;> simp_all
theorem wh{l:dm}{j:Nat}{p:List UInt8×Value}(h:(dK l)[j]? =some p):∃r,l[j]? =some (p.1,r)∧p.2=r.val:=by
 simp only[dK,List.getElem?_map]at h
 cases hl:l[j]? with
 |none=>rw[hl]at h;cases h
 |some x=>
  rw[hl]at h
  simp only[Option.map_some,Option.some.injEq]at h
  subst h
  exact⟨x.2,rfl,rfl⟩
theorem mz(l:dm)(j:Nat):(dK l).eraseIdx j=dK (l.eraseIdx j):=(map_eraseIdx _ l j).symm
theorem ry:∀{l:dm} {j:Nat} {x:List UInt8×eC},l[j]? =some x→mi (l.eraseIdx j)+x.2.n=mi l
 | [],j,x,h=>by simp at h
 |a::q,0,x,h=>by
  simp only[List.getElem?_cons_zero,Option.some.injEq]at h
  subst h
  simp[mi];omega
 |a::q,j+1,x,h=>by
  simp only[List.getElem?_cons_succ]at h
  have:=ry h
  simp only[mi,List.eraseIdx_cons_succ,List.map_cons,List.sum_cons]at this ⊢
  omega
inductive fA
 |written (p:List UInt8) (r:eC)
 |renamed (a b:List UInt8)
 |removed (p:List UInt8)
def fA.row:fA→Option eC
 | .written _ r=>some r
 |_=>none
def fA.val:fA→Value
 | .written p r=>.iface 189 (.agg [SV p,r.val].toArray)
 | .renamed a b=>.iface 257 (.agg [SV a,SV b].toArray)
 | .removed p=>.iface 237 (.agg [SV p].toArray)
structure cF where
 room:Int
 gs:Nat
 gl:Nat
 seen:dm
 b4:dm
 waits:List fA
 wA:Option Addr
 wc:Nat
 bW:Int
def rowsOf(st:cF):List eC:=st.seen.map (·.2)++st.b4.map (·.2)++st.waits.filterMap fA.row
def ic(st:cF):List Value:=[.int .i64 st.room,.map (some st.gs),.map (some st.gl),.slice st.wA st.waits.length st.wc,.int .i64 st.bW]
abbrev bk(g:Nat)(st:cF):bq:=fY [aL g 177 (ic st),dg SV st.gs (dK st.seen),dg SV st.gl (dK st.b4),aH 232 1 (.slice st.wA st.waits.length st.wc) st.waits.length (st.waits.map fA.val),fV (rowsOf st)]
def nE(n:Int)(gs gl:Nat):cF:=⟨n,gs,gl,[],[],[],none,0,-1⟩
theorem HJ{n:Int}(h1:1≤n)(h2:n≤1048576):cf Tryz.prog 24 [.int .i64 n] [] [] (fun v_ X_ S_=>∃g gs gl,v_=(.tuple #[.pointer (some ⟨g,0,none⟩),.int .i64 0])∧X_=[bk g (nE n gs gl)]∧S_=[]):=by
 refine aP (N:=15) Tryz.func24 rfl rfl (by simp) fun b=> ?_
 refine ah<|aj<|hy (fun _=>ab rfl)<|hy (fun _=>ab rfl)<|ai<|ag<|ah<|ah<|aj<|hy (fun _=>aa rfl)<|hy (fun _=>bw rfl rfl)<|hy (fun _=>aa rfl)<| ?_
 refine eY 6 rfl (fun h=> ?_) (fun h=> ?_)
 ·exact absurd h (by omega)
 ·refine dW (o:=_) rfl rfl rfl (fun _=>aa rfl)<|dW (o:=_) rfl rfl rfl (fun _=>dh rfl rfl)<|hy (fun _=>bD rfl rfl)<|ai<|al (ρ' :=[(9,_),(3,_),(2,_),(0,_)]) ⟨rfl,rfl,rfl,rfl,trivial⟩<|ag<| ?_
  refine dB rfl (decide_eq_false (by omega)) ?_
  refine aB<|ag<|ah<|aj<|hy (fun _=>aa rfl)<| ?_
  refine hx (nh SV (fun g11=> ?_))
  refine hx (nh SV (fun g12=> ?_))
  refine hy (fun _=>yV (cA Gz rfl rfl (by kernel_rfl) (.cons (o:=0) (sz:=1) (by kernel_rfl) rfl rfl (Nat.le_of_ble_eq_true rfl) (.cons (o:=1) (sz:=1) (by kernel_rfl) rfl rfl (Nat.le_of_ble_eq_true rfl) (.cons (o:=2) (sz:=1) (by kernel_rfl) rfl rfl (Nat.le_of_ble_eq_true rfl) (.cons (o:=4) (sz:=1) (by kernel_rfl) rfl rfl (Nat.le_of_ble_eq_true rfl) .nil))))) ((rfl:_=Value.agg (ic (nE n g11 g12)).toArray)))<| ?_
  refine hx (cw rfl (fun g14=> ?_))
  refine hy (fun _=>ab rfl)<|hy (fun _=>ab rfl)<|ai<|al (ρ' :=[(3,_),(2,_),(9,_),(0,_)]) ⟨rfl,rfl,rfl,rfl,trivial⟩<|ak (X' :=[_,_,_]) (S' :=[]) (fun _ m=>m)<|ag<|aX<| ?_
  refine ak (fun w m=>m.dj (r' :=aH 232 1 (.slice none 0 0) 0 []) (.refl _ _) (Own.nil _ _ _ _) (fun k hk=>hk.elim)) ?_
  refine ak (fun w m=>m.EY) ?_
  refine ak (X' :=bk g14 (nE n g11 g12)::_) (fun w m=>(m.perm (au [2,3,2,1,0] _ [_,_,_,_,_] _ rfl)).pack) ?_
  exact dy trivial rfl rfl rfl [0] rfl [] rfl ⟨_,_,_,rfl,rfl,rfl⟩
theorem FH{g:Nat}{st:cF}:cf Tryz.prog 87 [.pointer (some ⟨g,0,none⟩)] [bk g st] [] (fun v_ X_ S_=>v_=(.bool (decide (st.bW≠0)))∧X_=[bk g st]∧S_=[]):=by
 refine aP (N:=8) Tryz.func87 rfl rfl (by simp) fun b=> ?_
 refine bC (fun w m=>(m.perm (au [0] _ [_] _ rfl)).unpack) ?_
 refine ah<|aj<|hy (fun _=>ab rfl)<|ai<|ag<|ah<|aj<|hy (fun _=>aa rfl)<|hy (fun _=>ba rfl)<|hy (fun _=>aI rfl lB (by decide))<|hy (fun m=>aw rfl fZ (aE (m.aZ 0 rfl) rfl))<|hy (fun _=>cW rfl rfl)<|hy (fun _=>ab rfl)<|ai<|al (ρ' :=[(2,_),(0,_)]) ⟨rfl,rfl,trivial⟩<|ag<|aX<| ?_
 refine ak (X' :=bk g st::_) (fun w m=>(m.perm (au [0,0,0,0,0] _ [_,_,_,_,_] _ rfl)).pack) ?_
 exact bh trivial rfl rfl [0] rfl [] rfl ⟨rfl,rfl,rfl⟩
def cF.eV(st:cF):cF:={st with bW:=if 0<st.bW then st.bW-1 else st.bW}
theorem so{g:Nat}{st:cF}(hp:st.bW≤1000000000000):cf Tryz.prog 181 [.pointer (some ⟨g,0,none⟩)] [bk g st] [] (fun v_ X_ S_=>v_=(.tuple #[])∧X_=[bk g st.eV]∧S_=[]):=by
 refine aP (N:=14) Tryz.func181 rfl rfl (by simp) fun b=> ?_
 refine bC (fun w m=>(m.perm (au [0] _ [_] _ rfl)).unpack) ?_
 refine ah<|aj<|hy (fun _=>aa rfl)<|hy (fun _=>ba rfl)<|hy (fun _=>aI rfl lB (by decide))<|hy (fun m=>aw rfl fZ (aE (m.aZ 0 rfl) rfl))<|hy (fun _=>dh rfl rfl)<|ai<|al (ρ' :=[(6,_),(0,_)]) ⟨rfl,rfl,trivial⟩<|ag<| ?_
 refine cG rfl (fun h=> ?_) (fun h=> ?_)
 ·have e:st.eV={st with bW:=st.bW-1}:=by simp only[cF.eV,if_pos h]
  rw[e]
  refine aj<|hy (fun _=>aa rfl)<|hy (fun _=>ba rfl)<|hy (fun _=>aI rfl lB (by decide))<|hy (fun m=>aw rfl fZ (aE (m.aZ 0 rfl) rfl))<|hy (fun _=>cp rfl rfl (bF (by omega) (by omega)))<|hy (fun _=>ba rfl)<|hy (fun _=>aI rfl lB (by decide))<| ?_
  refine cH (ct 0 rfl rfl rfl s7 rfl (by first|exact Nat.le_of_ble_eq_true rfl|simp) ?_)
  refine ai<|al (ρ' :=[(6,_),(0,_)]) ⟨rfl,rfl,trivial⟩<|ak (X' :=[_,_,_,_,_]) (S' :=[]) (fun _ m=>m)<| ?_
  refine ak (X' :=bk g {st with bW:=st.bW-1}::_) (fun w m=>(m.perm (au [0,0,0,0,0] _ [_,_,_,_,_] _ rfl)).pack) ?_
  exact fJ trivial rfl [0] rfl [] rfl ⟨rfl,rfl,rfl⟩
 ·have e:st.eV=st:=by simp only[cF.eV,if_neg h]
  rw[e]
  refine aB<| ?_
  refine ak (X' :=bk g st::_) (fun w m=>(m.perm (au [0,0,0,0,0] _ [_,_,_,_,_] _ rfl)).pack) ?_
  exact fJ trivial rfl [0] rfl [] rfl ⟨rfl,rfl,rfl⟩
theorem FZ{g:Nat}{st:cF}(ht:mi st.seen≤1000000000000):cf Tryz.prog 88 [.pointer (some ⟨g,0,none⟩)] [bk g st] [] (fun v_ X_ S_=>v_=(.int .i64 (mi st.seen:Nat))∧X_=[bk g st]∧S_=[]):=by
 refine aP (N:=20) Tryz.func88 rfl rfl (by simp) fun b=> ?_
 refine bC (fun w m=>(m.perm (au [0] _ [_] _ rfl)).unpack) ?_
 refine ah<|aj<|hy (fun _=>ab rfl)<|ai<|ag<|ah<|aj<|hy (fun _=>ab rfl)<|ai<|ag<|ah<|ah<|aj<|hy (fun _=>aa rfl)<|hy (fun _=>ba rfl)<|hy (fun _=>aI rfl gK (by decide))<|hy (fun m=>aw rfl jh (aE (m.aZ 0 rfl) rfl))<| ?_
 refine hx (py 1 rfl rfl Tryz.underlying174 (fun r10=> ?_))
 refine ai<|al (ρ' :=[(10,_),(3,_),(2,_),(0,_)]) ⟨rfl,rfl,rfl,rfl,trivial⟩<|ak (X' :=[_,_,_,_,_]) (S' :=[]) (fun _ m=>m)<|ag<|aK<| ?_
 refine fS (fun left n cur=>left.length) (fun left n cur=>[(3,.int .i64 (n:Nat))]) (fun left n cur=>[jO SV r10 st.gs (dK st.seen) (dK left) cur]) (fun left n cur=>[]) (fun left n cur=>n+mi left=mi st.seen) st.seen 0 none [(10,_),(2,_),(0,_)] ⟨rfl,rfl,rfl,trivial⟩ [0] rfl [] rfl (Nat.zero_add _) ⟨rfl,trivial⟩ (fun left n cur hI=> ?_)
 refine ah<|aj<| ?_
 refine hx (sd 0 rfl rfl (fun h0=> ?_) (fun j p hp=> ?_))
 ·obtain rfl:left=[]:=List.map_eq_nil_iff.1 h0
  have hn:n=mi st.seen:=by simpa[mi]using hI
  subst hn
  refine hy (fun _=>ar rfl rfl)<|ai<|al (ρ' :=[(12,_),(3,_),(10,_),(2,_),(0,_)]) ⟨rfl,rfl,rfl,rfl,rfl,trivial⟩<|ag<|ah<| ?_
  refine dB rfl (rfl) ?_
  refine bL<|ao<|ao<|aD<|ag<|ah<|aj<|hy (fun _=>aa rfl)<|hy (fun _=>ab rfl)<|ai<|al (ρ' :=[(2,_),(12,_),(3,_),(10,_),(0,_)]) ⟨rfl,rfl,rfl,rfl,rfl,trivial⟩<|ag<|aX<| ?_
  refine ak (fun w m=>m.vF 0 rfl) ?_
  refine ak (X' :=bk g st::_) (fun w m=>(m.perm (au [1,0,0,0,0] _ [_,_,_,_,_] _ rfl)).pack) ?_
  exact bh trivial rfl rfl [0] rfl [] rfl ⟨rfl,rfl,rfl⟩
 ·obtain⟨k,v⟩:=p
  obtain⟨r,hr,e⟩:=wh hp
  obtain rfl:v=r.val:=e
  have ht:=ry hr
  have hlt:=(List.getElem?_eq_some_iff.1 hr).1
  simp only at ht
  refine hy (fun _=>ar rfl rfl)<|ai<|al (ρ' :=[(12,_),(3,_),(10,_),(2,_),(0,_)]) ⟨rfl,rfl,rfl,rfl,rfl,trivial⟩<|ag<|ah<| ?_
  refine gY rfl (rfl) ?_
  refine aB<|ag<|aK<|ah<|aj<|hy (fun m=>p4 rfl (m.EO 0 rfl))<|hy (fun _=>yV (ar rfl rfl) ((rfl:_=Value.slice r.A r.n r.c)))<|hy (fun _=>ab rfl)<|ai<|al (ρ' :=[(5,_),(12,_),(3,_),(10,_),(2,_),(0,_)]) ⟨rfl,rfl,rfl,rfl,rfl,rfl,trivial⟩<|ag<|aj<|hy (fun _=>aa rfl)<|hy (fun _=>aa rfl)<|hy (fun _=>aT rfl Tryz.underlying27)<|hy (fun _=>aN rfl rfl (bF (by omega) (by omega)))<|hy (fun _=>ab rfl)<|ai<|al (ρ' :=[(3,_),(5,_),(12,_),(10,_),(2,_),(0,_)]) ⟨rfl,rfl,rfl,rfl,rfl,rfl,trivial⟩<|aO<| ?_
  refine ak (fun w m=>m.bN 0 rfl (show _=jO SV r10 st.gs (dK st.seen) (dK (left.eraseIdx j)) (some (k,r.val))from congrArg (fun q=>jO SV r10 st.gs (dK st.seen) q (some (k,r.val))) (mz left j))) ?_
  refine fG (left.eraseIdx j) (n+r.n) (some (k,r.val)) ⟨rfl,rfl,rfl,rfl,trivial⟩ [0,0,0,0,0] rfl [] rfl (by omega) (by rw[List.length_eraseIdx,if_pos hlt];omega)
theorem qb{l:dm}(p:List UInt8):(ck l p=none∧ck (dK l) p=none)∨∃r,ck l p=some r∧ck (dK l) p=some r.val:=by
 rw[nu]
 cases ck l p with
 |none=>exact .inl ⟨rfl,rfl⟩
 |some r=>exact .inr ⟨r,rfl,rfl⟩
def dQ(st:cF)(p:List UInt8):Int:=if st.bW=0 then 6 else if ck st.seen p=none then 4 else 0
theorem vT{g:Nat}{st:cF}{p:List UInt8}:cf Tryz.prog 158 [.pointer (some ⟨g,0,none⟩),.string (strOf p)] [bk g st] [] (fun v_ X_ S_=>v_=(.int .i64 (dQ st p))∧X_=[bk g st]∧S_=[]):=by
 have hf:dQ st p=dQ st p:=rfl
 refine aP (N:=23) Tryz.func158 rfl rfl (by simp) fun b=> ?_
 refine bC (fun w m=>(m.perm (au [0] _ [_] _ rfl)).unpack) ?_
 have hh:(ck (dK st.seen) p).isSome=decide (ck st.seen p≠none):=by
  rcases qb (l:=st.seen) p with⟨h1,h2⟩|⟨r,h1,h2⟩ <;> simp[h1,h2]
 refine ah<|aj<|hy (fun _=>ab rfl)<|ai<|ag<|ah<|aj<|hy (fun _=>aa rfl)<|hy (fun _=>ba rfl)<|hy (fun _=>aI rfl gK (by decide))<|hy (fun m=>aw rfl jh (aE (m.aZ 0 rfl) rfl))<|hy (fun _=>aa rfl)<|hy (fun m=>kr (enc:=SV) rfl rfl Tryz.underlying174 tj (ku Tryz.underlying9) (m.pn 1 rfl))<|hy (fun _=>aa rfl)<|hy (fun _=>ar rfl rfl)<|hy (fun _=>yV (ar rfl rfl) ((show Value.bool (ck (dK st.seen) p).isSome= .bool (decide (ck st.seen p≠none)) by rw[hh])))<|hy (fun _=>ab rfl)<|hy (fun _=>ab rfl)<|ai<|al (ρ' :=[(6,_),(4,_),(0,_),(1,_)]) ⟨rfl,rfl,rfl,rfl,trivial⟩<|ag<|ah<|aK<|ah<|aj<| ?_
 refine aQ (X' :=bk g st::_) (fun w m=>(m.perm (au [0,0,0,0,0] _ [_,_,_,_,_] _ rfl)).pack) ?_
 refine hy (fun _=>aa rfl)<| ?_
 refine hx (aq rfl Tryz.call87 (FH) [0] rfl [] rfl ?_)
 rintro _ _ _ ⟨rfl,rfl,rfl⟩
 refine hy (fun _=>jK rfl)<|hy (fun _=>ab rfl)<|ai<|al (ρ' :=[(16,_),(6,_),(4,_),(0,_),(1,_)]) ⟨rfl,rfl,rfl,rfl,rfl,trivial⟩<|ak (X' :=[_]) (S' :=[]) (fun _ m=>m)<|ag<| ?_
 refine cG rfl (fun h1=> ?_) (fun h1=> ?_)
 ·refine ah<|aj<|hy (fun _=>ab rfl)<|ai<|ag<|aX<|bf<|ay<| ?_
  exact bh trivial rfl rfl [0] rfl [] rfl ⟨(by rw[dQ,if_pos (by omega)]),rfl,rfl⟩
 ·refine ah<|aj<|hy (fun _=>aa rfl)<|hy (fun _=>jK rfl)<|hy (fun _=>ab rfl)<|ai<|al (ρ' :=[(20,_),(16,_),(6,_),(4,_),(0,_),(1,_)]) ⟨rfl,rfl,rfl,rfl,rfl,rfl,trivial⟩<|ag<| ?_
  refine cG rfl (fun h2=> ?_) (fun h2=> ?_)
  ·refine ah<|aj<|hy (fun _=>ab rfl)<|ai<|ag<|aX<|bf<|ay<| ?_
   exact bh trivial rfl rfl [0] rfl [] rfl ⟨(by rw[dQ,if_neg (by omega),if_pos (Decidable.not_not.1 h2)]),rfl,rfl⟩
  ·refine aB<|aO<|ag<|ah<|aj<|hy (fun _=>ab rfl)<|ai<|ag<|aX<| ?_
   exact bh trivial rfl rfl [0] rfl [] rfl ⟨(by rw[dQ,if_neg (by omega),if_neg (fun e=>h2 (fun h=>h e))]),rfl,rfl⟩
end Go.Proofs.YtmibdabdlgmafaaGreatDoor
end
section
set_option maxRecDepth 20000
namespace Go.Proofs.YtmibdabdlgmafaaGreatDoor
open Go.Eng Go.Hx
theorem tA{st:cF}{p:List UInt8}{r:eC}(h:ck st.seen p=some r):r∈rowsOf st:=by
 unfold rowsOf
 refine List.mem_append_left _ (List.mem_append_left _ ?_)
 exact List.mem_map.2 ⟨_,iS h,rfl⟩
def cC(st:cF)(p:List UInt8):List UInt8:=if dQ st p=0 then((ck st.seen p).map (·.l)).getD []else []
theorem uo{st:cF}{p:List UInt8}(h:dQ st p≠0):cC st p=[]:=by rw[cC,if_neg h]
theorem ub{st:cF}{p:List UInt8}{r:eC}(h:dQ st p=0)(hr:ck st.seen p=some r):cC st p=r.l:=by rw[cC,if_pos h,hr];rfl
theorem ti{st:cF}{p:List UInt8}(h:dQ st p=0):∃r,ck st.seen p=some r:=by
 unfold dQ at h
 split at h
 ·omega
 ·split at h
  ·omega
  ·rename_i h2
   cases hq:ck st.seen p with
   |none=>exact absurd hq h2
   |some r=>exact⟨r,rfl⟩
def Small(st:cF):Prop:=∀r∈rowsOf st,r.n≤1000000000
theorem G2{g:Nat}{st:cF}{p:List UInt8}(hs:Small st):cf Tryz.prog 90 [.pointer (some ⟨g,0,none⟩),.string (strOf p)] [bk g st] [] (fun v_ X_ S_=>∃v,v_=(.tuple #[v,.int .i64 (dQ st p)])∧X_=[bk g st,aH 5 1 v (cC st p).length (aW (cC st p))]∧S_=[]):=by
 refine aP (N:=20) Tryz.func90 rfl rfl (by simp) fun b=> ?_
 refine ah<|aj<|hy (fun _=>ab rfl)<|hy (fun _=>ab rfl)<|ai<|ag<|ah<|ah<|aj<|hy (fun _=>aa rfl)<|hy (fun _=>aa rfl)<| ?_
 refine hx (aq rfl Tryz.call158 (vT) [0] rfl [] rfl ?_)
 rintro _ _ _ ⟨rfl,rfl,rfl⟩
 refine hy (fun _=>ab rfl)<|ai<|al (ρ' :=[(6,_),(5,_),(4,_),(0,_),(1,_)]) ⟨rfl,rfl,rfl,rfl,rfl,trivial⟩<|ak (X' :=[_]) (S' :=[]) (fun _ m=>m)<|ag<|ah<|aj<|hy (fun _=>aa rfl)<|hy (fun _=>cW rfl rfl)<|ai<|al (ρ' :=[(11,_),(6,_),(5,_),(4,_),(0,_),(1,_)]) ⟨rfl,rfl,rfl,rfl,rfl,rfl,trivial⟩<|ag<| ?_
 refine cG rfl (fun h=> ?_) (fun h=> ?_)
 ·rw[uo h]
  refine ah<|aj<|hy (fun _=>aa rfl)<|hy (fun _=>ab rfl)<|hy (fun _=>ab rfl)<|ai<|al (ρ' :=[(5,_),(4,_),(11,_),(6,_),(0,_),(1,_)]) ⟨rfl,rfl,rfl,rfl,rfl,rfl,trivial⟩<|ag<|aX<|ay<| ?_
  refine ak (fun w m=>m.dj (r' :=aH 5 1 (.slice none 0 0) 0 []) (.refl _ _) (Own.nil _ _ _ _) (fun k hk=>hk.elim)) ?_
  exact dy trivial rfl rfl rfl [1,0] rfl [] rfl ⟨_,rfl,rfl,rfl⟩
 ·have h0:=Decidable.not_not.1 h
  obtain⟨r,hr⟩:=ti h0
  have hv:ck (dK st.seen) p=some r.val:=by rw[nu,hr];rfl
  rw[ub h0 hr,h0]
  have hmem:=tA hr
  obtain⟨i,hi⟩:=List.mem_iff_getElem?.1 hmem
  have hsm:=hs r hmem
  refine bC (fun w m=>(m.perm (au [0] _ [_] _ rfl)).unpack) ?_
  refine a6 (fun m=>ig ((View.ok (View.row hi)).1 _ (m.FX 4 rfl))) fun hrl=> ?_
  have hrl:=hrl.1
  refine aB<|ag<|ah<|aj<|hy (fun _=>aa rfl)<|hy (fun _=>ba rfl)<|hy (fun _=>aI rfl gK (by decide))<|hy (fun m=>aw rfl jh (aE (m.aZ 0 rfl) rfl))<|hy (fun _=>aa rfl)<|hy (fun m=>yV (kr (enc:=SV) rfl rfl Tryz.underlying174 tj (ku Tryz.underlying9) (m.pn 1 rfl)) ((show ir false (.slice none 0 0) (ck (dK st.seen) p)= .slice r.A r.n r.c by rw[hv];rfl)))<| ?_
  refine hx (cI rfl Tryz.call117 (sE (by omega)) [] rfl (.x 4 rfl (View.row hi) .nil) ?_)
  rintro _ _ _ ⟨v,rfl,rfl,rfl⟩
  refine⟨rfl, ?_⟩
  refine aA (fun m=>(m.own 0 rfl).slice) ?_
  rintro⟨A_x,c_x,rfl,hc_x⟩
  refine aA (fun m=>(m.ord 0 rfl).2.1) fun hA_x=> ?_
  refine hy (fun _=>ab rfl)<|hy (fun _=>ab rfl)<|ai<|al (ρ' :=[(5,_),(4,_),(11,_),(6,_),(0,_),(1,_)]) ⟨rfl,rfl,rfl,rfl,rfl,rfl,trivial⟩<|ak (X' :=[_,_,_,_,_,_]) (S' :=[]) (fun _ m=>m)<|ag<|aX<| ?_
  refine ak (X' :=bk g st::_) (fun w m=>(m.perm (au [1,1,1,1,1] _ [_,_,_,_,_] _ rfl)).pack) ?_
  exact dy trivial rfl rfl rfl [0,0] rfl [] rfl ⟨_,rfl,(by rw[hrl]),rfl⟩
theorem u6{g:Nat}{l:List (List UInt8×Value)}{p:List UInt8}{r:eC}:cf Tryz.prog 153 [.agg [SV p,r.val].toArray,.map (some g)] [dg SV g l] [] (fun v_ X_ S_=>v_=(.tuple #[])∧X_=[dg SV g (cQ l p r.val)]∧S_=[]):=by
 refine aP (N:=9) Tryz.func153 rfl rfl (by simp) fun b=> ?_
 refine ah<|aj<| ?_
 refine hx (cw rfl (fun g2=> ?_))
 refine ai<|ak (X' :=[_,_]) (S' :=[]) (fun _ m=>m)<|ag<|aj<|hy (fun _=>aa rfl)<|hy (fun _=>aI rfl BB (by decide))<|hy (fun m=>aw rfl lz (aE (m.aZ 0 rfl) rfl))<|hy (fun _=>aI rfl pd (by decide))<|hy (fun m=>aw rfl eh (aE (m.aZ 0 rfl) rfl))<| ?_
 refine cH (p9 (enc:=SV) 1 rfl rfl rfl rfl Tryz.underlying174 (ku Tryz.underlying9) ?_)
 refine ai<|al (ρ' :=[(2,_),(0,_),(1,_)]) ⟨rfl,rfl,rfl,trivial⟩<|ak (X' :=[_,_]) (S' :=[]) (fun _ m=>m)<| ?_
 exact fJ trivial rfl [0] rfl [] rfl ⟨rfl,rfl,rfl⟩
theorem j0{l:dm}{p:List UInt8}{r x:eC}(h:x∈(cQ l p r).map (·.2)):x∈l.map (·.2)∨x=r:=by
 induction l with
 |nil=>simp only[cQ,List.map_cons,List.map_nil,List.mem_singleton]at h;exact .inr h
 |cons a q ih=>
  obtain⟨k,u⟩:=a
  simp only[cQ]at h
  split at h
  ·simp only[List.map_cons,List.mem_cons]at h ⊢
   rcases h with rfl|h
   ·exact .inr rfl
   ·exact .inl (.inr h)
  ·simp only[List.map_cons,List.mem_cons]at h ⊢
   rcases h with rfl|h
   ·exact .inl (.inl rfl)
   ·rcases ih h with h|h
    ·exact .inl (.inr h)
    ·exact .inr h
def cF.wrote(st:cF)(p:List UInt8)(r:eC)(A:Option Addr)(c:Nat):cF:={st.eV with seen:=cQ st.seen p r,waits:=st.waits++[.written p r],wA:=A,wc:=c}
theorem pD{st:cF}{p:List UInt8}{r:eC}{A:Option Addr}{c:Nat}:∀x∈rowsOf (st.wrote p r A c),x∈rowsOf st∨x=r:=by
 intro x hx
 unfold rowsOf cF.wrote at hx
 simp only[cF.eV,List.mem_append,List.filterMap_append]at hx
 unfold rowsOf
 simp only[List.mem_append]
 rcases hx with(h|h)|h|h
 ·rcases j0 h with h|h
  ·exact .inl (.inl (.inl h))
  ·exact .inr h
 ·exact .inl (.inl (.inr h))
 ·exact .inl (.inr h)
 ·simp[fA.row]at h
  exact .inr h
theorem Ht{g:Nat}{st:cF}{p:List UInt8}{r:eC}{e:TypeId}(hp:st.bW≤1000000000000)(hw:st.waits.length≤1000000):cf Tryz.prog 116 [.pointer (some ⟨g,0,none⟩),(fA.written p r).val] [bk g st,aH e 1 (.slice r.A r.n r.c) r.n (aW r.l)] [] (fun v_ X_ S_=>∃A c,v_=(.tuple #[])∧X_=[bk g (st.wrote p r A c)]∧S_=[]):=by
 have hsw:st.eV.waits.length=st.waits.length:=rfl
 refine aP (N:=25) Tryz.func116 rfl rfl (by simp) fun b=> ?_
 refine ah<|aj<|hy (fun _=>aa rfl)<| ?_
 refine hx (aq rfl Tryz.call181 (so (by omega)) [0] rfl [] rfl ?_)
 rintro _ _ _ ⟨rfl,rfl,rfl⟩
 refine aQ (fun w m=>(m.perm (au [0] _ [_] _ rfl)).unpack) ?_
 refine ai<|al (ρ' :=[(0,_),(1,_)]) ⟨rfl,rfl,trivial⟩<|ak (X' :=[_,_,_,_,_,_]) (S' :=[]) (fun _ m=>m)<|ag<|ah<|cT [8] [(0,some 0),(1,some 0),(2,some 0),(3,some 0),(4,some 0),(5,some 0),(6,some 0),(7,some 0),(8,none)] (by kernel_rfl) (by kernel_rfl) rfl 0<|an (aa rfl)<|an (aa rfl)<|an (ba rfl)<|an (aI rfl gK (by decide))<|cq (fun m=>aw rfl jh (aE (m.aZ 0 rfl) rfl))<|an (iP rfl rfl)<|an (ph rfl (by kernel_rfl))<|an (aa rfl)<| ?_
 refine ek (qd rfl rfl (fun w=>by kernel_rfl) Tryz.call153 (u6) [1] rfl [] rfl ?_)
 rintro _ _ _ ⟨rfl,rfl,rfl⟩
 refine⟨(fun h=>absurd h (by decide)), ?_⟩
 refine bz<|al (ρ' :=[(0,_),(1,_)]) ⟨rfl,rfl,trivial⟩<|ak (X' :=[_,_,_,_,_,_]) (S' :=[]) (fun _ m=>m)<|ag<|aj<|hy (fun _=>aa rfl)<|hy (fun _=>aa rfl)<|hy (fun _=>ba rfl)<|hy (fun _=>aI rfl gH (by decide))<|hy (fun m=>aw rfl uj (aE (m.aZ 1 rfl) rfl))<|hy (fun _=>aa rfl)<| ?_
 refine hx (b6 Tryz.underlying175 rG rfl rfl rfl (by simp[Value.cells,fA.val]) (by decide) (by decide) (fun g21=> ?_))
 have hA_b21:0<1→(some (⟨g21,0,none⟩:Addr))≠none:=fun _ h=>by cases h
 refine aQ (fun w m=>m.bN 0 rfl (show _=aH 232 1 (.slice (some ⟨g21,0,none⟩) 1 1) 1 [(fA.written p r).val]from rfl)) ?_
 refine hx (bx 4 rfl rfl rfl Tryz.underlying175 Tryz.underlying175 (by exact .inl rfl) rG rfl (fun m=>Src.bR (m.ord 0 rfl)) (by simp[fA.val,Value.oneCell']) (by unfold maxLen;omega) (by omega) (fun u=> ?_))
 refine aA (fun m=>(m.own 0 rfl).slice) ?_
 rintro⟨A_d3,c_d3,rfl,hc_d3⟩
 refine aA (fun m=>(m.ord 0 rfl).2.1) fun hA_d3=> ?_
 refine hy (fun _=>ba rfl)<|hy (fun _=>aI rfl gH (by decide))<| ?_
 refine cH (ct 3 rfl rfl rfl tR rfl (by first|exact Nat.le_of_ble_eq_true rfl|simp) ?_)
 refine ai<|al (ρ' :=[(0,_),(1,_)]) ⟨rfl,rfl,trivial⟩<|ak (X' :=[_,_,_,_,_,_,_]) (S' :=[]) (fun _ m=>m)<| ?_
 refine ak (fun w m=>m.bN 0 rfl (show _=aL g 177 (ic (st.wrote p r A_d3 c_d3))from by simp[ic,cF.wrote,cF.eV])) ?_
 refine ak (fun w m=>m.bN 3 rfl (show _=dg SV st.gs (dK (st.wrote p r A_d3 c_d3).seen)from congrArg (dg SV st.gs) (lq _ _ _))) ?_
 refine ak (fun w m=>m.bN 2 rfl (show _=aH 232 1 (.slice A_d3 (st.wrote p r A_d3 c_d3).waits.length c_d3) (st.wrote p r A_d3 c_d3).waits.length ((st.wrote p r A_d3 c_d3).waits.map fA.val)from by simp[cF.wrote,cF.eV])) ?_
 refine ak (X' :=fV (rowsOf (st.wrote p r A_d3 c_d3))::_) (fun w m=>(m.perm (au [5,5] _ [_,_] _ rfl)).Fo (pD)) ?_
 refine ak (X' :=bk g (st.wrote p r A_d3 c_d3)::_) (fun w m=>(m.perm (au [3,2,3,1,0] _ [_,_,_,_,_] _ rfl)).pack) ?_
 exact fJ trivial rfl [0] rfl [] rfl ⟨_,_,rfl,rfl,rfl⟩
def bP(st:cF)(p:List UInt8)(n:Nat):Int:=if¬gh p then 1 else if st.bW=0 then 6 else if st.room<(mi st.seen:Int)-(((ck st.seen p).map (·.n)).getD 0:Nat)+n then 5 else 0
theorem AL:∀{l:dm} {m:Nat},(∀x∈l,x.2.n≤m)→mi l≤l.length*m
 | [],m,h=>by simp[mi]
 |a::q,m,h=>by
  have:=AL (l:=q) (m:=m) (fun x hx=>h x (List.mem_cons_of_mem _ hx))
  have h1:=h a (List.mem_cons_self ..)
  simp only[mi,List.map_cons,List.sum_cons,List.length_cons,Nat.add_mul]at this ⊢
  omega
structure nJ(st:cF)(k:Nat):Prop where
 bW:st.bW≤1000000000000
 room:st.room≤1048576
 seen:st.seen.length≤k
 rest:st.b4.length+st.waits.length≤k
 small:∀r∈rowsOf st,r.n≤1048576
theorem nJ.le{st:cF}{k k' :Nat}(h:nJ st k)(hk:k≤k'):nJ st k' :=⟨h.bW,h.room,Nat.le_trans h.seen hk,Nat.le_trans h.rest hk,h.small⟩
theorem nJ.mi{st:cF}{k:Nat}(h:nJ st k):mi st.seen≤k*1048576:=Nat.le_trans (AL (m:=1048576) (fun x hx=>h.small _ (by unfold rowsOf;exact List.mem_append_left _ (List.mem_append_left _ (List.mem_map.2 ⟨x,hx,rfl⟩))))) (Nat.mul_le_mul_right _ h.seen)
theorem nJ.sm{st:cF}{k:Nat}(h:nJ st k):Small st:=fun r hr=>Nat.le_trans (h.small r hr) (by decide)
theorem nJ.init{n:Int}{gs gl:Nat}(h:n≤1048576):nJ (nE n gs gl) 0:=⟨by simp[nE],h,Nat.le_refl _,Nat.le_refl _,fun r hr=>by simp[rowsOf,nE]at hr⟩
theorem lj(l:dm)(p:List UInt8)(r:eC):(cQ l p r).length≤l.length+1:=by
 induction l with
 |nil=>simp[cQ]
 |cons a q ih=>
  obtain⟨k,u⟩:=a
  simp only[cQ]
  split <;> simp only[List.length_cons] <;> omega
theorem nF(l:dm)(p:List UInt8):(ej l p).length≤l.length:=by
 induction l with
 |nil=>simp[ej]
 |cons a q ih=>
  obtain⟨k,u⟩:=a
  simp only[ej]
  split <;> simp only[List.length_cons] <;> omega
theorem ln{st:cF}(h:st.bW≤1000000000000):st.eV.bW≤1000000000000:=by
 simp only[cF.eV]
 split <;> omega
theorem nJ.wrote{st:cF}{k:Nat}(h:nJ st k){p:List UInt8}{r:eC}(hr:r.n≤1048576)(A:Option Addr)(c:Nat):nJ (st.wrote p r A c) (k+1):=by
 refine⟨ln h.bW,h.room, ?_, ?_,fun x hx=> ?_⟩
 ·have:=lj st.seen p r
  have:=h.seen
  show(cQ st.seen p r).length≤k+1
  omega
 ·have:=h.rest
  show st.b4.length+(st.waits++[fA.written p r]).length≤k+1
  simp only[List.length_append,List.length_cons,List.length_nil]
  omega
 ·rcases pD x hx with h' |rfl
  ·exact h.small x h'
  ·exact hr
theorem E3{g:Nat}{st:cF}{p:List UInt8}{A:Option Addr}{n c:Nat}{l:List UInt8}{k:Nat}(ok:nJ st k)(hk:k≤100000)(hn:n≤1048576):cf Tryz.prog 33 [.pointer (some ⟨g,0,none⟩),.string (strOf p),.slice A n c] [bk g st] [di 1 A n (aW l)] (fun v_ X_ S_=>∃st1 B c1 A1 c2,v_=(.int .i64 (bP st p n))∧X_=[bk g st1]∧S_=[]∧((bP st p n≠0∧st1=st)∨(bP st p n=0∧st1=st.wrote p ⟨B,n,c1,l⟩ A1 c2))):=by
 have hp:=ok.bW
 have hw:st.waits.length≤1000000:=by have:=ok.rest;omega
 have ht:mi st.seen≤1000000000000:=by have:=ok.mi;omega
 have hs:=ok.sm
 refine aP (N:=41) Tryz.func33 rfl rfl (by simp) fun b=> ?_
 refine a6 (fun m=>ig (m.rd 0 rfl)) ?_
 rintro⟨hl_r,hA_r⟩
 refine ah<|aj<|hy (fun _=>ab rfl)<|ai<|ag<|ah<|aK<|ah<|aj<|hy (fun _=>aa rfl)<| ?_
 refine hx (aq rfl Tryz.call115 (zu) [] rfl [] rfl ?_)
 rintro _ _ _ ⟨rfl,rfl,rfl⟩
 refine hy (fun _=>jK rfl)<|hy (fun _=>ab rfl)<|ai<|al (ρ' :=[(7,_),(6,_),(0,_),(1,_),(2,_)]) ⟨rfl,rfl,rfl,rfl,rfl,trivial⟩<|ak (X' :=[_]) (S' :=[_]) (fun _ m=>m)<|ag<| ?_
 refine cG rfl (fun h1=> ?_) (fun h1=> ?_)
 ·have e:bP st p n=1:=by rw[bP,if_pos h1]
  rw[e]
  refine ah<|aj<|hy (fun _=>ab rfl)<|ai<|ag<|aX<|bf<|ay<| ?_
  exact bh trivial rfl rfl [0] rfl [] rfl ⟨_,none,0,none,0,rfl,rfl,rfl,.inl ⟨by decide,rfl⟩⟩
 ·refine ah<|aj<|hy (fun _=>aa rfl)<| ?_
  refine hx (aq rfl Tryz.call87 (FH) [0] rfl [] rfl ?_)
  rintro _ _ _ ⟨rfl,rfl,rfl⟩
  refine hy (fun _=>jK rfl)<|hy (fun _=>ab rfl)<|ai<|al (ρ' :=[(11,_),(7,_),(6,_),(0,_),(1,_),(2,_)]) ⟨rfl,rfl,rfl,rfl,rfl,rfl,trivial⟩<|ak (X' :=[_]) (S' :=[_]) (fun _ m=>m)<|ag<| ?_
  refine cG rfl (fun h2=> ?_) (fun h2=> ?_)
  ·have e:bP st p n=6:=by rw[bP,if_neg h1,if_pos (by omega)]
   rw[e]
   refine ah<|aj<|hy (fun _=>ab rfl)<|ai<|ag<|aX<|bf<|ay<| ?_
   exact bh trivial rfl rfl [0] rfl [] rfl ⟨_,none,0,none,0,rfl,rfl,rfl,.inl ⟨by decide,rfl⟩⟩
  ·have hwe:bP st p n=if st.room<(mi st.seen:Int)-(((ck st.seen p).map (·.n)).getD 0:Nat)+n then 5 else 0:=by rw[bP,if_neg h1,if_neg (by omega)]
   have hv:∃B m c0,ir false (.slice none 0 0) (ck (dK st.seen) p)= .slice B m c0∧m=((ck st.seen p).map (·.n)).getD 0∧m≤1000000000:=by
    rw[nu]
    cases hq:ck st.seen p with
    |none=>exact⟨none,0,0,rfl,rfl,by decide⟩
    |some r=>exact⟨r.A,r.n,r.c,rfl,rfl,hs r (tA hq)⟩
   obtain⟨B,m,c0,hv1,hv2,hv3⟩:=hv
   rw[←hv2]at hwe
   refine ah<|cT [1] [(0,some 0),(2,some 1),(3,some 1),(4,some 1),(5,some 1),(6,some 1),(7,some 1),(8,some 1),(10,some 1),(11,some 1),(13,some 1),(14,some 1),(15,some 1),(16,some 1),(1,none),(9,some 1),(12,some 1),(17,some 1),(18,some 1)] (by kernel_rfl) (by kernel_rfl) rfl 99<|an (aa rfl)<|an (aa rfl)<|an (ba rfl)<|an (aI rfl gK (by decide))<|cq (fun m=>aw rfl jh (aE (show fi _ _ _ _ from m.Ha 0 rfl 0 rfl) rfl))<|an (aa rfl)<|cq (fun m=>yV (kr (enc:=SV) rfl rfl Tryz.underlying174 tj (ku Tryz.underlying9) (show gR _ _ _ _ from m.Ha 0 rfl 1 rfl)) (hv1))<|an (aT rfl Tryz.underlying27)<|an (aa rfl)<|an (aT rfl Tryz.underlying27)<|an (aa rfl)<|an (ba rfl)<|an (aI rfl Ce (by decide))<|cq (fun m=>aw rfl fZ (aE (show fi _ _ _ _ from m.Ha 0 rfl 0 rfl) rfl))<| ?_
   refine ek (aq rfl Tryz.call88 (FZ (by omega)) [0] rfl [] rfl ?_)
   rintro _ _ _ ⟨rfl,rfl,rfl⟩
   refine⟨(fun _=>wk [0] [0] rfl rfl), ?_⟩
   refine an (cp rfl rfl (bF (by omega) (by omega)))<|an (aN rfl rfl (bF (by omega) (by omega)))<|an (dh rfl rfl)<|an (ab rfl)<|bz<|al (ρ' :=[(15,_),(11,_),(7,_),(6,_),(0,_),(1,_),(2,_)]) ⟨rfl,rfl,rfl,rfl,rfl,rfl,rfl,trivial⟩<|ak (X' :=[_]) (S' :=[_]) (fun _ m=>m)<|ag<| ?_
   refine cG rfl (fun h3=> ?_) (fun h3=> ?_)
   ·rw[if_pos (by omega)]at hwe
    rw[hwe]
    refine ah<|aj<|hy (fun _=>ab rfl)<|ai<|ag<|aX<|bf<|ay<| ?_
    exact bh trivial rfl rfl [0] rfl [] rfl ⟨_,none,0,none,0,rfl,rfl,rfl,.inl ⟨by decide,rfl⟩⟩
   ·rw[if_neg (by omega)]at hwe
    rw[hwe]
    refine aB<|aO<|ag<|ah<|aj<|hy (fun _=>aa rfl)<|hy (fun _=>aa rfl)<|hy (fun _=>aa rfl)<| ?_
    refine hx (aq rfl Tryz.call117 (sE (by omega)) [] rfl [0] rfl ?_)
    rintro _ _ _ ⟨v,rfl,rfl,rfl⟩
    refine aA (fun m=>(m.own 0 rfl).slice) ?_
    rintro⟨A_x,c_x,rfl,hc_x⟩
    refine aA (fun m=>(m.ord 0 rfl).2.1) fun hA_x=> ?_
    refine hy (fun _=>yV (cA DT rfl rfl (by kernel_rfl) (.cons (o:=0) (sz:=1) (by kernel_rfl) rfl rfl (Nat.le_of_ble_eq_true rfl) (.cons (o:=1) (sz:=1) (by kernel_rfl) rfl rfl (Nat.le_of_ble_eq_true rfl) .nil))) ((rfl:_=Value.agg [SV p,Value.slice A_x n c_x].toArray)))<|hy (fun _=>kK rfl Tryz.underlying189 (fun _ h=>by cases h))<| ?_
    refine hx (aq rfl Tryz.call116 (Ht (by omega) (by omega) (r:=⟨A_x,n,c_x,l⟩)) [1,0] rfl [] rfl ?_)
    rintro _ _ _ ⟨A2,c2,rfl,rfl,rfl⟩
    refine ai<|al (ρ' :=[(15,_),(11,_),(7,_),(6,_),(0,_),(1,_),(2,_)]) ⟨rfl,rfl,rfl,rfl,rfl,rfl,rfl,trivial⟩<|ak (X' :=[_]) (S' :=[_]) (fun _ m=>m)<|ag<|ah<|aj<|hy (fun _=>ab rfl)<|ai<|ag<|aX<| ?_
    exact bh trivial rfl rfl [0] rfl [] rfl ⟨_,_,_,_,_,rfl,rfl,rfl,.inr ⟨rfl,rfl⟩⟩
theorem wi{g:Nat}{l:List (List UInt8×Value)}:cf Tryz.prog 154 [.map (some g)] [dg SV g l] [] (fun v_ X_ S_=>∃g1,v_=(.map (some g1))∧X_=[dg SV g l,dg SV g1 l]∧S_=[]):=by
 refine aP (N:=9) Tryz.func154 rfl rfl (by simp) fun b=> ?_
 refine ah<|aj<|hy (fun _=>ab rfl)<|ai<|ag<|ah<|ah<|aj<|hy (fun _=>aa rfl)<|hy (fun _=>EA rfl rfl Tryz.underlying174)<|ai<|al (ρ' :=[(4,_),(2,_),(0,_)]) ⟨rfl,rfl,rfl,trivial⟩<|ag<| ?_
 refine dB rfl (rfl) ?_
 refine aB<|ag<|ah<|aj<|hy (fun _=>aa rfl)<|hy (fun _=>kK rfl Tryz.underlying174 (fun _ h=>by cases h))<| ?_
 refine hx (yu 0 rfl rfl Tryz.func209 (by kernel_rfl) (by kernel_rfl) (by kernel_rfl) (by kernel_rfl) (fun g1=> ?_))
 refine hy (fun _=>m7 rfl (show _=Result.ok (Value.map (some g1)) _ by kernel_rfl))<|hy (fun _=>ab rfl)<|ai<|al (ρ' :=[(2,_),(4,_),(0,_)]) ⟨rfl,rfl,rfl,trivial⟩<|ak (X' :=[_,_]) (S' :=[]) (fun _ m=>m)<|ag<|aX<| ?_
 exact bh trivial rfl rfl [1,0] rfl [] rfl ⟨_,rfl,rfl,rfl⟩
def cF.synced(st:cF)(gl:Nat):cF:={st.eV with gl:=gl,b4:=st.seen,waits:=[],wA:=none,wc:=0}
def dx(st:cF):Int:=if st.bW=0 then 6 else 0
theorem oM{st:cF}{gl:Nat}:∀x∈rowsOf (st.synced gl),x∈rowsOf st:=by
 intro x hx
 unfold rowsOf cF.synced at hx
 simp only[cF.eV,List.filterMap_nil,List.append_nil,List.mem_append,or_self]at hx
 unfold rowsOf
 exact List.mem_append_left _ (List.mem_append_left _ hx)
theorem nJ.synced{st:cF}{k:Nat}(h:nJ st k)(gl:Nat):nJ (st.synced gl) k:=
 ⟨ln h.bW,h.room,h.seen,by show st.seen.length+0≤k;have:=h.seen;omega,fun x hx=>h.small x (oM x hx)⟩
theorem Gs{g:Nat}{st:cF}{k:Nat}(ok:nJ st k):cf Tryz.prog 110 [.pointer (some ⟨g,0,none⟩)] [bk g st] [] (fun v_ X_ S_=>∃st1 gl,v_=(.int .i64 (dx st))∧X_=[bk g st1]∧S_=[]∧((st.bW=0∧st1=st)∨(st.bW≠0∧st1=st.synced gl))):=by
 refine aP (N:=19) Tryz.func110 rfl rfl (by simp) fun b=> ?_
 refine ah<|aj<|hy (fun _=>ab rfl)<|ai<|ag<|ah<|ah<|aj<|hy (fun _=>aa rfl)<| ?_
 refine hx (aq rfl Tryz.call87 (FH) [0] rfl [] rfl ?_)
 rintro _ _ _ ⟨rfl,rfl,rfl⟩
 refine hy (fun _=>jK rfl)<|ai<|al (ρ' :=[(5,_),(2,_),(0,_)]) ⟨rfl,rfl,rfl,trivial⟩<|ak (X' :=[_]) (S' :=[]) (fun _ m=>m)<|ag<| ?_
 refine cG rfl (fun h1=> ?_) (fun h1=> ?_)
 ·have h0:st.bW=0:=Decidable.not_not.1 h1
  have e:dx st=6:=by rw[dx,if_pos h0]
  rw[e]
  refine ah<|aj<|hy (fun _=>ab rfl)<|ai<|ag<|aX<|ay<| ?_
  exact bh trivial rfl rfl [0] rfl [] rfl ⟨_,0,rfl,rfl,rfl,.inl ⟨h0,rfl⟩⟩
 ·have h0:st.bW≠0:=fun e=>h1 (fun h=>h e)
  have e:dx st=0:=by rw[dx,if_neg h0]
  rw[e]
  have hp:=ok.bW
  refine aB<|ag<|ah<|aj<|hy (fun _=>aa rfl)<| ?_
  refine hx (aq rfl Tryz.call181 (so (by omega)) [0] rfl [] rfl ?_)
  rintro _ _ _ ⟨rfl,rfl,rfl⟩
  refine aQ (fun w m=>(m.perm (au [0] _ [_] _ rfl)).unpack) ?_
  refine ai<|al (ρ' :=[(5,_),(2,_),(0,_)]) ⟨rfl,rfl,rfl,trivial⟩<|ak (X' :=[_,_,_,_,_]) (S' :=[]) (fun _ m=>m)<|ag<|ah<|aj<|hy (fun _=>aa rfl)<|hy (fun _=>aa rfl)<|hy (fun _=>aa rfl)<|hy (fun _=>ba rfl)<|hy (fun _=>aI rfl gK (by decide))<|hy (fun m=>aw rfl jh (aE (m.aZ 0 rfl) rfl))<| ?_
  refine hx (aq rfl Tryz.call154 (wi) [1] rfl [] rfl ?_)
  rintro _ _ _ ⟨g1,rfl,rfl,rfl⟩
  refine hy (fun _=>ba rfl)<|hy (fun _=>aI rfl lv (by decide))<| ?_
  refine cH (ct 2 rfl rfl rfl DP rfl (by first|exact Nat.le_of_ble_eq_true rfl|simp) ?_)
  refine hy (fun _=>ba rfl)<|hy (fun _=>aI rfl gH (by decide))<| ?_
  refine cH (ct 0 rfl rfl rfl tR rfl (by first|exact Nat.le_of_ble_eq_true rfl|simp) ?_)
  refine ai<|al (ρ' :=[(5,_),(2,_),(0,_)]) ⟨rfl,rfl,rfl,trivial⟩<|ak (X' :=[_,_,_,_,_,_]) (S' :=[]) (fun _ m=>m)<|ag<|ah<|aj<|hy (fun _=>ab rfl)<|ai<|ag<|aX<| ?_
  refine ak (fun w m=>m.dj (r' :=aH 232 1 (.slice none 0 0) 0 []) (.refl _ _) (Own.nil _ _ _ _) (fun k hk=>hk.elim)) ?_
  refine ak (fun w m=>Mem.zw (X:=[_]) (m.perm (au [4] _ [_] _ rfl))) ?_
  refine ak (fun w m=>Mem.zw (X:=[_]) (m.perm (au [4] _ [_] _ rfl))) ?_
  refine ak (fun w m=>m.bN 1 rfl (show _=aL g 177 (ic (st.synced g1))from rfl)) ?_
  refine ak (X' :=fV (rowsOf (st.synced g1))::_) (fun w m=>(m.perm (au [4] _ [_] _ rfl)).vI (oM)) ?_
  refine ak (X' :=bk g (st.synced g1)::_) (fun w m=>(m.perm (au [1,2,2,1,0] _ [_,_,_,_,_] _ rfl)).pack) ?_
  exact bh trivial rfl rfl [0] rfl [] rfl ⟨_,_,rfl,rfl,rfl,.inr ⟨h0,rfl⟩⟩
end Go.Proofs.YtmibdabdlgmafaaGreatDoor
end
section
set_option maxRecDepth 20000
namespace Go.Proofs.YtmibdabdlgmafaaGreatDoor
open Go.Eng Go.Hx
def qX(l:List Bool):List Value:=l.map Value.bool
theorem tE{g n c:Nat}{A:Option Addr}{bs:List Bool}(hc:n≤c):cf Tryz.prog 152 [.pointer (some ⟨g,0,none⟩)] [aL g 28 [.slice A n c]] [di 1 A n (qX bs)] (fun v_ X_ S_=>∃A1 n1 c1,v_=(.bool (bs.headD false))∧X_=[aL g 28 [.slice A1 n1 c1]]∧S_=[di 1 A1 n1 (qX bs.tail)]∧(n1≤c1)):=by
 refine aP (N:=12) Tryz.func152 rfl rfl (by simp) fun b=> ?_
 refine a6 (fun m=>gX (m.rd 0 rfl)) ?_
 rintro⟨hl_r,hA_r⟩
 have hbl:bs.length=n:=by simpa[qX]using hl_r
 refine ah<|aj<|hy (fun _=>ab rfl)<|ai<|ag<|ah<|ah<|aj<|hy (fun m=>aw rfl EI (aE (m.aZ 0 rfl) rfl))<|hy (fun _=>aT rfl Tryz.underlying28)<|hy (fun _=>cM rfl rfl)<|ai<|al (ρ' :=[(5,_),(1,_),(0,_)]) ⟨rfl,rfl,rfl,trivial⟩<|ag<| ?_
 refine cG rfl (fun h=> ?_) (fun h=> ?_)
 ·obtain rfl:bs=[]:=List.eq_nil_of_length_eq_zero (by omega)
  refine ah<|aj<|hy (fun _=>ab rfl)<|ai<|ag<|aX<|ay<| ?_
  refine ak (fun w m=>m.jL 0 rfl .same) ?_
  refine sa (fun m=>gX (m.rd 0 rfl)) ?_
  rintro⟨hl_q,hA_q⟩
  exact bh trivial rfl rfl [0] rfl [0] rfl ⟨_,_,_,rfl,rfl,rfl,hc⟩
 ·obtain⟨b1,t,rfl⟩:∃b1 t,bs=b1::t:=by
   cases bs with
   |nil=>simp at hbl;omega
   |cons b1 t=>exact⟨b1,t,rfl⟩
  refine bC (fun w m=>m.jL 0 rfl (View.FY (k:=1) hc (by omega))) ?_
  refine a6 (fun m=>gX (m.rd 0 rfl)) ?_
  rintro⟨hl_q,hA_q⟩
  refine aB<|ag<|ah<|aj<|hy (fun m=>aw rfl EI (aE (m.aZ 0 rfl) rfl))<|hy (fun _=>aS rfl rfl Tryz.underlying28 HY hA_r (show((0:Nat):Int)=0 from rfl) (by omega))<|hy (fun m=>aw rfl Ik ((m.rd 1 rfl).cell (j:=0) rfl))<|hy (fun _=>ab rfl)<|ai<|al (ρ' :=[(2,_),(5,_),(1,_),(0,_)]) ⟨rfl,rfl,rfl,rfl,trivial⟩<|ag<|ah<|aj<|hy (fun m=>aw rfl EI (aE (m.aZ 0 rfl) rfl))<|hy (fun _=>dE rfl rfl Tryz.underlying28 HY (show((1:Nat):Int)=1 from rfl) (by omega))<| ?_
  refine cH (dO 0 rfl rfl rfl Hs rfl (by first|exact Nat.le_of_ble_eq_true rfl|simp) ?_)
  refine ai<|al (ρ' :=[(2,_),(5,_),(1,_),(0,_)]) ⟨rfl,rfl,rfl,rfl,trivial⟩<|ak (X' :=[_]) (S' :=[_,_]) (fun _ m=>m)<|ag<|ah<|aj<|hy (fun _=>aa rfl)<|hy (fun _=>ab rfl)<|ai<|al (ρ' :=[(1,_),(2,_),(5,_),(0,_)]) ⟨rfl,rfl,rfl,rfl,trivial⟩<|ag<|aX<| ?_
  exact bh trivial rfl rfl [0] rfl [0] rfl ⟨_,_,_,rfl,rfl,rfl,(by omega)⟩
def ik(st:List Bool×dm)(c:fA):List Bool×dm:=
 if st.1.headD false then
  match c with
  | .written p r=>(st.1.tail.tail,cQ st.2 p (if st.1.tail.headD false then r else r.half))
  | .renamed a b=>(st.1.tail,match ck st.2 a with
   |none=>st.2
   |some r=>cQ (ej st.2 a) b r)
  | .removed p=>(st.1.tail,ej st.2 p)
 else(st.1.tail,st.2)
def eu(keep:List Bool)(st:cF)(i:Nat):List Bool×dm:=(st.waits.take i).foldl ik (keep,st.b4)
theorem mq{keep:List Bool}{st:cF}{i:Nat}{c:fA}(h:st.waits[i]? =some c):eu keep st (i+1)=ik (eu keep st i) c:=by
 unfold eu
 obtain⟨hi,rfl⟩:=List.getElem?_eq_some_iff.1 h
 rw[List.take_succ_eq_append_getElem hi,List.foldl_append]
 rfl
def Ez(rows:List eC)(r:eC):Prop:=∃q∈rows,r=q∨∃k,k≤q.n∧r=⟨q.A,k,q.c,q.l.take k⟩
theorem vH{keep:List Bool}{st:cF}(i:Nat):∀r∈(eu keep st i).2.map (·.2),Ez (rowsOf st) r:=by
 have base:∀r∈st.b4.map (·.2),Ez (rowsOf st) r:=fun r hr=>⟨r,by unfold rowsOf;exact List.mem_append_left _ (List.mem_append_right _ hr),.inl rfl⟩
 have iz:∀{l:dm} {p:List UInt8} {x:eC},x∈(ej l p).map (·.2)→x∈l.map (·.2):=fun{l p x} h=>by
  induction l with
  |nil=>exact h
  |cons a q ih=>
   obtain⟨k,u⟩:=a
   simp only[ej]at h
   split at h
   ·exact List.mem_cons_of_mem _ h
   ·simp only[List.map_cons,List.mem_cons]at h ⊢
    rcases h with rfl|h
    ·exact .inl rfl
    ·exact .inr (ih h)
 induction i with
 |zero=>intro r hr;exact base r (by simpa[eu]using hr)
 |succ i ih=>
  cases hc:st.waits[i]? with
  |none=>
   have:eu keep st (i+1)=eu keep st i:=by
    unfold eu
    have:=List.getElem?_eq_none_iff.1 hc
    rw[List.take_of_length_le (by omega),List.take_of_length_le this]
   rw[this]
   exact ih
  |some c=>
   rw[mq hc]
   have hcm:=List.mem_of_getElem? hc
   intro r hr
   unfold ik at hr
   split at hr
   ·cases c with
    |written p q=>
     have hq:q∈rowsOf st:=by
      unfold rowsOf
      exact List.mem_append_right _ (List.mem_filterMap.2 ⟨_,hcm,rfl⟩)
     rcases j0 hr with h|h
     ·exact ih r h
     ·rw[h]
      split
      ·exact⟨q,hq,.inl rfl⟩
      ·exact⟨q,hq,.inr ⟨q.n/2,by omega,rfl⟩⟩
    |renamed a b=>
     simp only at hr
     split at hr
     ·exact ih r hr
     ·rename_i u hu
      rcases j0 hr with h|h
      ·exact ih r (iz h)
      ·rw[h];exact ih u (List.mem_map.2 ⟨_,iS hu,rfl⟩)
    |removed p=>exact ih r (iz hr)
   ·exact ih r hr
def cF.started(st:cF)(keep:List Bool)(gs:Nat):cF:=
 let L:=(eu keep st st.waits.length).2
 {st with gs:=gs,seen:=L,b4:=L,waits:=[],wA:=none,wc:=0,bW:=-1}
theorem na{st:cF}{keep:List Bool}(gs:Nat):∀r∈rowsOf (st.started keep gs),Ez (rowsOf st) r:=by
 intro r hr
 unfold rowsOf cF.started at hr
 simp only[List.filterMap_nil,List.append_nil,List.mem_append,or_self]at hr
 exact vH _ r hr
theorem yB(keep:List Bool)(st:cF)(i:Nat):(eu keep st i).2.length≤st.b4.length+i:=by
 induction i with
 |zero=>simp[eu]
 |succ i ih=>
  cases hc:st.waits[i]? with
  |none=>
   have:eu keep st (i+1)=eu keep st i:=by
    unfold eu
    have:=List.getElem?_eq_none_iff.1 hc
    rw[List.take_of_length_le (by omega),List.take_of_length_le this]
   rw[this];omega
  |some c=>
   rw[mq hc]
   unfold ik
   split
   ·cases c with
    |written p r=>
     have:=lj (eu keep st i).2 p (if(eu keep st i).1.tail.headD false then r else r.half)
     show(cQ _ _ _).length≤_
     omega
    |renamed a b=>
     simp only
     split
     ·omega
     ·rename_i u hu
      have h1:=lj (ej (eu keep st i).2 a) b u
      have h2:=nF (eu keep st i).2 a
      omega
    |removed p=>
     have h2:=nF (eu keep st i).2 p
     show(ej _ _).length≤_
     omega
   ·show(eu keep st i).2.length≤_
    omega
theorem nJ.started{st:cF}{k:Nat}(h:nJ st k)(keep:List Bool)(gs:Nat):nJ (st.started keep gs) k:=by
 have hl:=yB keep st st.waits.length
 have hr:=h.rest
 refine⟨by show(-1:Int)≤_;omega,h.room, ?_, ?_,fun x hx=> ?_⟩
 ·show(eu keep st st.waits.length).2.length≤k
  omega
 ·show(eu keep st st.waits.length).2.length+0≤k
  omega
 ·obtain⟨q,hq,rfl|⟨j,hj,rfl⟩⟩:=na gs x hx
  ·exact h.small _ hq
  ·exact Nat.le_trans hj (h.small q hq)
end Go.Proofs.YtmibdabdlgmafaaGreatDoor
end
section
namespace Go.Eng
open Go.RowKit Go.ChangeShapes Go.WideShapes
theorem qM{zs:List Int}(h:∀n∈zs,(Lit.int .u8 n).wf=true):zs.map (Value.int .u8)=aW (zs.map fun n=>UInt8.ofNat n.toNat):=by
 rw[aW,List.map_map]
 apply List.map_congr_left
 intro n hn
 have:=bounds_u8 (h n hn)
 simp only[B8,Function.comp]
 have e:(UInt8.ofNat n.toNat).toNat=n.toNat:=by
  rw[UInt8.toNat_ofNat']
  exact Nat.mod_eq_of_lt (by omega)
 rw[e]
 congr 1
 omega
theorem vt{W:World}{x:Addr}{len cap:Nat}{zs:List Int}(hl:len≤cap)(hz:zs.length=cap)(hcell:∀i,i<zs.length→W.cell? (x.add i)=some (.int .u8 (zs.getD i 0)))(hw:∀n∈zs,(Lit.int .u8 n).wf=true):
  Rd W 1 (some x) len (aW ((zs.take len).map fun n=>UInt8.ofNat n.toNat)):=by
 rw[←qM (fun n hn=>hw n (List.mem_of_mem_take hn))]
 refine⟨by simp;omega,fun _ e=>(by cases e),fun j u hu=> ?_⟩
 have hj:=(List.getElem?_eq_some_iff.1 hu).1
 simp at hj
 have hc:=hcell j (by omega)
 rw[List.getElem?_map,List.getElem?_take,if_pos (by omega)]at hu
 rw[List.getD,List.getElem?_eq_getElem (by omega)]at hc
 rw[List.getElem?_eq_getElem (by omega)]at hu
 simp at hu hc
 rw[Option.getD_some,hc,←hu]
theorem vL{H:Type}{enc:TypeId×Value→H}{P:Program}{W:World}{t e:TypeId}{A:Option Addr}{len cap:Nat}{d:DataW H}{ps:List MemPlace}{spare:Nat→Bool}{held:Bool}
  (hu:P.underlying t=some (.slice e)) (he:P.underlying e=some (.int .u8)) (hc:P.cellsOf e=1) (h:DataW.Trod enc P W 0 spare held t (.slice A len cap) d ps):len≤cap∧∃l,Rd W 1 A len (aW l):=by
 obtain⟨fuel,hf⟩:=h
 rcases open_ints hu he hc hf with⟨hcs,_⟩|⟨x,l,c,zs,hcs,_,hl,hm,hz,_,hcell,hwz⟩
 ·simp[Value.cells]at hcs
  obtain⟨rfl,rfl,rfl⟩:=hcs
  exact⟨Nat.le_refl _,[],Rd.nil _ _ _⟩
 ·simp[Value.cells]at hcs
  obtain⟨rfl,rfl,rfl⟩:=hcs
  refine⟨hl,_,vt (cap:=zs.length) (by rw[hz];split <;> omega) rfl hcell hwz⟩
theorem tD{H:Type}{enc:TypeId×Value→H}{P:Program}{W:World}{base:Nat}{spare:Nat→Bool}{held:Bool}{t e:TypeId}{k:IntKind}{a:Option Addr}{len cap:Nat}{d:DataW H}{ps:List MemPlace}{ts:List TypeId}{ds:List (DataW H)}{j:Nat}
  (hsz:(DataW.weightsEach P ts ds).all (· ≤reachBytes)=true) (ht:ts[j]? =some t) (hd:ds[j]? =some d) (hu:P.underlying t=some (.slice e)) (he:P.underlying e=some (.int k)) (hc:P.cellsOf e=1) (hB:P.bytesOf e=1)
  (h:DataW.Trod enc P W base spare held t (.slice a len cap) d ps):len≤140737488351232:=by
 obtain⟨fuel,hf⟩:=h
 rcases open_ints hu he hc hf with⟨hcs,_⟩|⟨x,l,c,zs,hcs,_,hl,_,hz,hx,_,_⟩
 ·simp[Value.cells]at hcs
  obtain⟨rfl,rfl,rfl⟩:=hcs
  simp
 ·simp[Value.cells]at hcs
  obtain⟨rfl,rfl,rfl⟩:=hcs
  obtain⟨hx,_⟩:=Prod.mk.inj hx
  subst hx
  have z:=sized_slice hsz ht hd hu
  rw[hB,Nat.mul_one]at z
  have hl2:len≤zs.length:=by rw[hz];split <;> omega
  have h1:(lits (H:=H) k (zs.take len)).length+(lits (H:=H) k (zs.drop len)).length=zs.length:=by
   simp[lits]
   omega
  rw[h1]at z
  exact Nat.le_trans hl2 z
theorem yX{H:Type}{enc:TypeId×Value→H}{P:Program}{w:World}{base:Nat}{spare:Nat→Bool}{held:Bool}{r:Reach}{b0:Nat}{t:TypeId}{v:Value}{d:DataW H}{ps:List MemPlace}(ht:P.underlying t=some (.int .i64))(hval:Value.okWide P w r b0 t v)(hd:DataW.Trod enc P w base spare held t v d ps):
  ∃n:Int,v= .int .i64 n∧(-9223372036854775808≤n∧n≤9223372036854775807)∧ps=[]:=by
 obtain⟨n,rfl,_,rfl,hw⟩:=open_int ht hval hd
 refine⟨n,rfl, ?_,rfl⟩
 simp only[Lit.wf,IntKind.min,IntKind.max,IntKind.signed,IntKind.bits]at hw
 simp at hw
 omega
end Go.Eng
end
section
namespace Go.Eng
open Go.RowKit Go.ChangeShapes Go.WideShapes
inductive Cell
 |v (x:Value)
 |s (sz:Nat) (A:Option Addr) (n c:Nat) (xs:List Cell)
def Cell.val:Cell→Value
 | .v x=>x
 | .s _ A n c _=>.slice A n c
mutual
def Cell.dD:Cell→Nat→Prop
 | .v _=>fun _=>False
 | .s _ A _ _ xs=>fun k=>(xs≠ []∧∃a,A=some a∧k=a.block)∨vY xs k
def vY:List Cell→Nat→Prop
 | []=>fun _=>False
 |x::r=>fun k=>x.dD k∨vY r k
end
mutual
def Cell.holds(w:World):Cell→Prop
 | .v _=>True
 | .s sz A n c xs=>Rd w sz A n (xs.map Cell.val)∧n≤c∧jo w xs
def jo(w:World):List Cell→Prop
 | []=>True
 |x::r=>x.holds w∧jo w r
end
theorem gy{w:World}:∀{xs:List Cell},jo w xs↔∀x∈xs,x.holds w
 | []=>by simp[jo]
 |x::r=>by simp only[jo,gy (xs:=r),List.mem_cons,forall_eq_or_imp]
mutual
theorem Cell.keep{S:Nat→Prop}{w w' :World}(f:Fr S w w'):∀(c:Cell),(∀k,c.dD k→¬S k)→c.holds w→c.holds w'
 | .v _,_,_=>trivial
 | .s sz A n c xs,h,hh=>by
  obtain⟨h1,h2,h3⟩:=hh
  refine⟨Rd.keep h1 f (fun k hk=>h k ?_),h2,Dv f xs (fun k hk=>h k (.inr hk)) h3⟩
  obtain⟨hne,a,ha,hk⟩:=hk
  exact .inl ⟨fun e=>hne (by rw[e];rfl),a,ha,hk⟩
theorem Dv{S:Nat→Prop}{w w' :World}(f:Fr S w w'):∀(xs:List Cell),(∀k,vY xs k→¬S k)→jo w xs→jo w' xs
 | [],_,_=>trivial
 |x::r,h,hh=>⟨Cell.keep f x (fun k hk=>h k (.inl hk)) hh.1,Dv f r (fun k hk=>h k (.inr hk)) hh.2⟩
end
mutual
theorem Cell.low{w:World}:∀(c:Cell) {k:Nat},c.holds w→c.dD k→k<w.heap.size
 | .v _,_,_,h=>h.elim
 | .s sz A n c xs,k,hh,hk=>by
  obtain⟨h1,h2,h3⟩:=hh
  rcases hk with⟨hne,a,ha,hk⟩|hk
  ·exact(di sz A n (xs.map Cell.val)).low h1 ⟨fun e=>hne (List.map_eq_nil_iff.1 e),a,ha,hk⟩
  ·exact Gr xs h3 hk
theorem Gr{w:World}:∀(xs:List Cell) {k:Nat},jo w xs→vY xs k→k<w.heap.size
 | [],_,_,h=>h.elim
 |x::r,k,hh,hk=>by
  rcases hk with hk|hk
  ·exact Cell.low x hh.1 hk
  ·exact Gr r hh.2 hk
end
def uv(c:Cell):bq:=⟨c.dD,fun w=>c.holds w,fun f h x=>c.keep f h x,fun x hk=>c.low x hk⟩
theorem View.HR{sz n c:Nat}{A:Option Addr}{xs:List Cell}:View (uv (.s sz A n c xs)) (di sz A n (xs.map Cell.val)):=
 .of (fun w h=>h.1) (fun k hk=>by
  obtain⟨hne,a,ha,hk⟩:=hk
  exact .inl ⟨fun e=>hne (by rw[e];rfl),a,ha,hk⟩)
inductive Ty(P:Program):TypeId→List Cell→Prop
 |int {t:TypeId} {k:IntKind} {z:Int} (ht:P.underlying t=some (.int k)) (hw:(Lit.int k z).wf=true):Ty P t [.v (.int k z)]
 |bool {t:TypeId} {b:Bool} (ht:P.underlying t=some .bool):Ty P t [.v (.bool b)]
 |str {t:TypeId} {s:List UInt8} (ht:P.underlying t=some .string) (hs:s.length≤140737488351232):Ty P t [.v (.string (strOf s))]
 |slice {t e:TypeId} {A:Option Addr} {n c:Nat} {xs:List Cell} (ht:P.underlying t=some (.slice e)) (hc:n≤c) (hn:n*P.bytesOf e≤140737488351232) (hl:xs.length=n*P.cellsOf e)
   (h:∀i,i<n→Ty P e ((xs.drop (i*P.cellsOf e)).take (P.cellsOf e))):Ty P t [.s (P.cellsOf e) A n c xs]
 |arr {t e:TypeId} {n:Nat} {xs:List Cell} (ht:P.underlying t=some (.array n e)) (hl:xs.length=P.cellsOf t) (h:∀i,i<n→Ty P e ((xs.drop (i*P.cellsOf e)).take (P.cellsOf e))):Ty P t xs
 |struct {t:TypeId} {fs:Array Field} {xs:List Cell} (ht:P.underlying t=some (.struct fs)) (hl:xs.length=P.cellsOf t) (h:∀(i:Nat) (f:Field),fs[i]? =some f→Ty P f.type ((xs.drop f.offset).take (P.cellsOf f.type))):Ty P t xs
def jz(P:Program):List Field→Nat→Nat→Bool
 | [],o,e=>o == e
 |f::r,o,e=>f.offset == o && jz P r (o+P.cellsOf f.type) e
def parts(P:Program):Nat→TypeId→Bool
 |0,_=>false
 |n+1,t=>match P.underlying t with
  |some (.int _)|some .bool|some .string=>true
  |some (.slice e)=>parts P n e && decide (0<P.cellsOf e)
  |some (.array m e)=>parts P n e && (P.cellsOf t == m*P.cellsOf e)
  |some (.struct fs)=>fs.toList.all (fun f=>parts P n f.type) && jz P fs.toList 0 (P.cellsOf t)
  |_=>false
section
variable{H:Type}{enc:TypeId×Value→H}{P:Program}{w:World}{base:Nat}{spare:Nat→Bool}{held:Bool}
theorem xG{b:Nat}{a:Addr}{n:Nat}{cs:List Value}(h:w.cells? b a n=some cs):cs.length=n∧∀j u,cs[j]? =some u→w.cell? (a.add j)=some u:=by
 obtain⟨hb,hl,hcell⟩:=World.cells?_some h
 refine⟨hl,fun j u hu=> ?_⟩
 have hj:j<n:=by rw[←hl];exact(List.getElem?_eq_some_iff.1 hu).1
 rw[hcell j hj,hu]
theorem jb{e:TypeId}{d:DataW H}{n:Nat}:∀{ds:List (DataW H)},d∈ds→n∈d.weights P e→n∈DataW.weightsAll P e ds
 | [],h,_=>by cases h
 |a::r,h,hn=>by
  simp only[DataW.weightsAll,List.mem_append]
  rcases List.mem_cons.1 h with rfl|h
  ·exact .inl hn
  ·exact .inr (jb h hn)
theorem pieces{sz:Nat}{Q:List Cell→Prop}{R:Nat→List Value→Prop}:∀(m:Nat),(∀i,i<m→∃ys:List Cell,ys.length=sz∧Q ys∧R i (ys.map Cell.val)∧jo w ys)→
  ∃xs:List Cell,xs.length=m*sz∧(∀i,i<m→Q ((xs.drop (i*sz)).take sz)∧R i (((xs.drop (i*sz)).take sz).map Cell.val))∧jo w xs
 |0,_=>⟨[],by simp,fun i hi=>absurd hi (by omega),trivial⟩
 |m+1,h=>by
  obtain⟨xs,h1,h2,h3⟩:=pieces m (fun i hi=>h i (by omega))
  obtain⟨ys,h4,h5,h6,h7⟩:=h m (by omega)
  have hlen:(m+1)*sz=m*sz+sz:=by rw[Nat.add_mul,Nat.one_mul]
  refine⟨xs++ys,by rw[List.length_append,h1,h4,hlen],fun i hi=> ?_,gy.2 fun x hx=> ?_⟩
  ·by_cases hm:i=m
   ·subst hm
    have e:((xs++ys).drop (i*sz)).take sz=ys:=by
     rw[←h1,List.drop_left,List.take_of_length_le (by omega)]
    rw[e]
    exact⟨h5,h6⟩
   ·have hi' :i<m:=by omega
    have hle:i*sz+sz≤m*sz:=by
     have:=Nat.mul_le_mul_right sz (show i+1≤m by omega)
     rwa [Nat.add_mul,Nat.one_mul]at this
    have e:((xs++ys).drop (i*sz)).take sz=(xs.drop (i*sz)).take sz:=by
     rw[List.drop_append_of_le_length (by omega),List.take_append_of_le_length (by rw[List.length_drop];omega)]
    rw[e]
    exact h2 i hi'
  ·rcases List.mem_append.1 hx with hx|hx
   ·exact gy.1 h3 x hx
   ·exact gy.1 h7 x hx
theorem oc{xs:List Value}{sz i j:Nat}(hj:j<sz):((xs.drop (i*sz)).take sz)[j]? =xs[i*sz+j]? :=by
 rw[List.getElem?_take,if_pos hj,List.getElem?_drop]
theorem mD{cs:List Value}:∀(fs:List Field) (o e:Nat),jz P fs o e=true→(∀f∈fs,∃ys:List Cell,ys.length=P.cellsOf f.type∧Ty P f.type ys∧ys.map Cell.val=(cs.drop f.offset).take (P.cellsOf f.type)∧jo w ys)→
  o≤e∧∃xs:List Cell,xs.length=e-o∧xs.map Cell.val=(cs.drop o).take (e-o)∧jo w xs∧∀f∈fs,o≤f.offset∧Ty P f.type ((xs.drop (f.offset-o)).take (P.cellsOf f.type))
 | [],o,e,hc,_=>by
  have:o=e:=by simpa[jz]using hc
  subst this
  exact⟨Nat.le_refl _,[],by simp,by simp,trivial,by simp⟩
 |f::r,o,e,hc,h=>by
  simp only[jz,Bool.and_eq_true,beq_iff_eq]at hc
  obtain⟨h0,hc⟩:=hc
  obtain⟨hle,xs,h1,h2,h3,h4⟩:=mD r _ e hc (fun g hg=>h g (List.mem_cons_of_mem _ hg))
  obtain⟨ys,h5,h6,h7,h8⟩:=h f (List.mem_cons_self ..)
  rw[h0]at h7
  refine⟨by omega,ys++xs,by rw[List.length_append,h1,h5];omega, ?_,gy.2 fun x hx=> ?_,fun g hg=> ?_⟩
  ·rw[List.map_append,h7,h2,←List.drop_drop,show e-o=P.cellsOf f.type+(e-(o+P.cellsOf f.type)) by omega,List.take_add]
  ·rcases List.mem_append.1 hx with hx|hx
   ·exact gy.1 h8 x hx
   ·exact gy.1 h3 x hx
  ·rcases List.mem_cons.1 hg with rfl|hg
   ·refine⟨by omega, ?_⟩
    rw[h0,Nat.sub_self,List.drop_zero,←h5,List.take_left]
    exact h6
   ·obtain⟨h9,h10⟩:=h4 g hg
    refine⟨by omega, ?_⟩
    have e1:(ys++xs).drop (g.offset-o)=xs.drop (g.offset-(o+P.cellsOf f.type)):=by
     rw[List.drop_append,List.drop_of_length_le (by omega),List.nil_append]
     congr 1
     omega
    rw[e1]
    exact h10
theorem kg:∀(k fuel:Nat) (t:TypeId) (cs:List Value) (x:DataW H×List MemPlace),parts P k t=true→DataW.trod enc P w 0 spare held fuel t cs=some x→(∀q∈DataW.weights P t x.1,q≤140737488351232)→∃xs:List Cell,xs.map Cell.val=cs∧jo w xs∧Ty P t xs
 |0,fuel,t,cs,x,hp,_,_=>by simp[parts]at hp
 |k+1,fuel,t,cs,x,hp,h,hw=>by
  unfold parts at hp
  split at hp
  ·rename_i q ht
   obtain⟨z,rfl,_,hz⟩:=DataW.trod_int ht h
   exact⟨[.v (.int q z)],rfl,⟨trivial,trivial⟩,.int ht hz⟩
  ·rename_i ht
   obtain⟨b,rfl,_⟩:=DataW.trod_bool ht h
   exact⟨[.v (.bool b)],rfl,⟨trivial,trivial⟩,.bool ht⟩
  ·rename_i ht
   obtain⟨s,rfl,hx,_⟩:=DataW.trod_string ht h
   have h1:=hw s.data.toList.length (by rw[hx];simp[DataW.weights])
   exact⟨[.v (.string s)],rfl,⟨trivial,trivial⟩,.str (s:=bytesOf s) ht h1⟩
  ·rename_i e ht
   simp only[Bool.and_eq_true,decide_eq_true_eq]at hp
   rcases DataW.trod_slice ht h with⟨rfl,rfl⟩|⟨a,len,cap,elems,rest,m,_,rfl,hx,hb,hl,hm,hlen,hel,_,_⟩
   ·exact⟨[.s (P.cellsOf e) none 0 0 []],rfl,⟨⟨Rd.nil _ _ _,Nat.le_refl _,trivial⟩,trivial⟩,.slice ht (Nat.le_refl _) (by simp) (by simp) (fun i hi=>absurd hi (by omega))⟩
   ·have hwe:∀d∈elems.map (·.1),∀q∈DataW.weights P e d,q≤140737488351232:=fun d hd q hq=>hw q (by
     rw[hx]
     simp only[DataW.weights,ht,List.mem_cons,List.mem_append]
     exact .inr (.inl (jb hd hq)))
    obtain⟨xs,h1,h2,h3⟩:=pieces (w:=w) (sz:=P.cellsOf e) (Q:=Ty P e) (R:=fun i vs=>∀j u,vs[j]? =some u→w.cell? (a.add (i*P.cellsOf e+j))=some u) len (fun i hi=>by
     have h1:=hel i hi
     rw[List.getElem?_eq_getElem (by omega)]at h1
     obtain⟨c,hc1,hc2⟩:=Option.bind_eq_some_iff.1 h1
     obtain⟨hcl,hcc⟩:=xG hc1
     obtain⟨ys,h4,h5,h6⟩:=kg k _ e c _ hp.1 hc2 (fun q hq=>hwe _ (List.mem_map.2 ⟨_,List.getElem_mem _,rfl⟩) q hq)
     refine⟨ys,by rw[←hcl,←h4,List.length_map],h6,fun j u hu=> ?_,h5⟩
     rw[h4]at hu
     have:=hcc j u hu
     rwa [add_add]at this)
    have hR:Rd w (P.cellsOf e) (some a) len (xs.map Cell.val):=⟨by rw[List.length_map,h1],fun _ e=>(by cases e),fun q u hu=>by
     have hq:q<len*P.cellsOf e:=by
      have:=(List.getElem?_eq_some_iff.1 hu).1
      rwa [List.length_map,h1]at this
     have hd:q/P.cellsOf e<len:=(Nat.div_lt_iff_lt_mul hp.2).2 hq
     have hmod:=Nat.mod_lt q hp.2
     have hqe:q/P.cellsOf e*P.cellsOf e+q % P.cellsOf e=q:=by
      have:=Nat.div_add_mod q (P.cellsOf e)
      rw[Nat.mul_comm]at this
      exact this
     have:=(h2 _ hd).2 (q % P.cellsOf e) u (by rw[List.map_take,List.map_drop,oc hmod,hqe];exact hu)
     rw[hqe]at this
     simpa using this⟩
    have hn:len*P.bytesOf e≤140737488351232:=by
     have:=hw ((elems.length+rest.length)*P.bytesOf e) (by rw[hx];simp[DataW.weights,ht])
     rw[hlen,Nat.add_mul]at this
     omega
    exact⟨[.s (P.cellsOf e) (some a) len cap xs],rfl,⟨⟨hR,hl,h3⟩,trivial⟩,.slice ht hl hn h1 (fun i hi=>(h2 i hi).1)⟩
  ·rename_i m e ht
   simp only[Bool.and_eq_true,beq_iff_eq]at hp
   obtain⟨ys,n,_,hx,hlen,hyl,hel⟩:=DataW.trod_array ht h
   have hwe:∀d∈ys.map (·.1),∀q∈DataW.weights P e d,q≤140737488351232:=fun d hd q hq=>hw q (by
    rw[hx]
    simp only[DataW.weights,ht]
    exact jb hd hq)
   obtain⟨xs,h1,h2,h3⟩:=pieces (w:=w) (sz:=P.cellsOf e) (Q:=Ty P e) (R:=fun i vs=>vs=(cs.drop (i*P.cellsOf e)).take (P.cellsOf e)) m (fun i hi=>by
    have h1:=hel i hi
    rw[List.getElem?_eq_getElem (by omega)]at h1
    obtain⟨zs,h4,h5,h6⟩:=kg k _ e _ _ hp.1 h1 (fun q hq=>hwe _ (List.mem_map.2 ⟨_,List.getElem_mem _,rfl⟩) q hq)
    refine⟨zs, ?_,h6,h4,h5⟩
    have:=congrArg List.length h4
    rw[List.length_map,List.length_take,List.length_drop,hlen,hp.2]at this
    have hle:i*P.cellsOf e+P.cellsOf e≤m*P.cellsOf e:=by
     have:=Nat.mul_le_mul_right (P.cellsOf e) (show i+1≤m by omega)
     rwa [Nat.add_mul,Nat.one_mul]at this
    omega)
   refine⟨xs, ?_,h3,.arr ht (by rw[h1,hp.2]) (fun i hi=>(h2 i hi).1)⟩
   apply List.ext_getElem?
   intro q
   by_cases hq:q<m*P.cellsOf e
   ·have hpos:0<P.cellsOf e:=by
     rcases Nat.eq_zero_or_pos (P.cellsOf e)with h0|h0
     ·rw[h0,Nat.mul_zero]at hq;omega
     ·exact h0
    have hd:q/P.cellsOf e<m:=(Nat.div_lt_iff_lt_mul hpos).2 hq
    have hmod:=Nat.mod_lt q hpos
    have hqe:q/P.cellsOf e*P.cellsOf e+q % P.cellsOf e=q:=by
     have:=Nat.div_add_mod q (P.cellsOf e)
     rw[Nat.mul_comm]at this
     exact this
    have h4:=congrArg (fun l:List Value=>l[q % P.cellsOf e]?) (h2 _ hd).2
    simp only[List.map_take,List.map_drop]at h4
    rwa [oc hmod,oc hmod,hqe]at h4
   ·rw[List.getElem?_eq_none (by rw[List.length_map,h1];omega),List.getElem?_eq_none (by rw[hlen,hp.2];omega)]
  ·rename_i fs ht
   simp only[Bool.and_eq_true,List.all_eq_true]at hp
   obtain⟨ys,n,_,hx,hlen,hyl,hel⟩:=DataW.trod_struct ht h
   have hw2:∀(i:Nat) (f:Field) (d:DataW H),fs[i]? =some f→(ys.map (·.1))[i]? =some d→∀q∈DataW.weights P f.type d,q≤140737488351232:=fun i f d hf hd q hq=>hw q (by
    rw[hx]
    simp only[DataW.weights,ht]
    exact DataW.weights_mem_each (j:=i) (t:=f.type) (d:=d) (by simp[hf]) hd q hq)
   obtain⟨_,xs,h1,h2,h3,h4⟩:=mD (P:=P) (w:=w) (cs:=cs) fs.toList 0 (P.cellsOf t) hp.2 (fun f hf=>by
    obtain⟨i,hi⟩:=List.mem_iff_getElem?.1 hf
    have hi' :fs[i]? =some f:=by simpa using hi
    have h1:=hel i f hi'
    have hlt:i<ys.length:=by
     rw[hyl]
     exact(Array.getElem?_eq_some_iff.1 hi').1
    rw[List.getElem?_eq_getElem hlt]at h1
    obtain⟨zs,h5,h6,h7⟩:=kg k _ f.type _ _ (hp.1 f hf) h1 (fun q hq=>hw2 i f _ hi' (by rw[List.getElem?_map,List.getElem?_eq_getElem hlt];rfl) q hq)
    have hz:zs.length=P.cellsOf f.type:=by
     have hz:=congrArg List.length h5
     rw[List.length_map,List.length_take,List.length_drop,hlen]at hz
     have hin:∀(l:List Field) (o e:Nat),jz P l o e=true→f∈l→f.offset+P.cellsOf f.type≤e∧o≤e:=by
      intro l
      induction l with
      |nil=>intro o e _ hm;cases hm
      |cons g r ih=>
       intro o e hc hm
       simp only[jz,Bool.and_eq_true,beq_iff_eq]at hc
       have hge:∀(l:List Field) (o e:Nat),jz P l o e=true→o≤e:=by
        intro l
        induction l with
        |nil=>intro o e hc;simp[jz]at hc;omega
        |cons g r ih=>intro o e hc;simp only[jz,Bool.and_eq_true,beq_iff_eq]at hc;have:=ih _ _ hc.2;omega
       rcases List.mem_cons.1 hm with rfl|hm
       ·have:=hge _ _ _ hc.2
        omega
       ·have:=ih _ _ hc.2 hm
        omega
     have:=hin _ _ _ hp.2 hf
     omega
    exact⟨zs,hz,h7,h5,h6⟩)
   refine⟨xs, ?_,h3,.struct ht (by rw[h1];omega) (fun i f hf=> ?_)⟩
   ·rw[h2,List.drop_zero,Nat.sub_zero,←hlen,List.take_length]
   ·have:=(h4 f (by rw[Array.mem_toList_iff];exact Array.mem_of_getElem? hf)).2
    rwa [Nat.sub_zero]at this
  ·cases hp
end
section
variable{P:Program}{t e:TypeId}{xs:List Cell}
theorem E2{k:IntKind}(ht:P.underlying t=some (.int k))(h:Ty P t xs):∃z,xs=[.v (.int k z)]∧(Lit.int k z).wf=true:=by
 cases h with
 |int ht' hw=>rw[ht]at ht';cases ht';exact⟨_,rfl,hw⟩
 |bool ht' =>rw[ht]at ht';cases ht'
 |str ht' =>rw[ht]at ht';cases ht'
 |slice ht' =>rw[ht]at ht';cases ht'
 |arr ht' =>rw[ht]at ht';cases ht'
 |struct ht' =>rw[ht]at ht';cases ht'
theorem EN(ht:P.underlying t=some (.int .i64))(h:Ty P t xs):∃z,xs=[.v (.int .i64 z)]∧-9223372036854775808≤z∧z≤9223372036854775807:=by
 obtain⟨z,rfl,hw⟩:=E2 ht h
 refine⟨z,rfl, ?_⟩
 simp only[Lit.wf,IntKind.min,IntKind.max,IntKind.signed,IntKind.bits]at hw
 simp at hw
 omega
theorem ue(ht:P.underlying t=some (.slice e))(h:Ty P t xs):∃A n c ys,xs=[.s (P.cellsOf e) A n c ys]∧n≤c∧n*P.bytesOf e≤140737488351232∧ys.length=n*P.cellsOf e∧∀i,i<n→Ty P e ((ys.drop (i*P.cellsOf e)).take (P.cellsOf e)):=by
 cases h with
 |int ht' =>rw[ht]at ht';cases ht'
 |bool ht' =>rw[ht]at ht';cases ht'
 |str ht' =>rw[ht]at ht';cases ht'
 |slice ht' hc hn hl h=>rw[ht]at ht';cases ht';exact⟨_,_,_,_,rfl,hc,hn,hl,h⟩
 |arr ht' =>rw[ht]at ht';cases ht'
 |struct ht' =>rw[ht]at ht';cases ht'
end
theorem fm{w:World}{sz n i o:Nat}{A:Option Addr}{xs:List Value}{u:Value}(h:Rd w sz A n xs)(hu:xs[i*sz+o]? =some u):w.cell? (((A.getD d0).add (i*sz)).add o)=some u:=by
 rw[add_add]
 exact h.cell hu
theorem View.rowOf{sz n c:Nat}{A:Option Addr}{xs:List Cell}{vs:List Value}(h:xs.map Cell.val=vs):View (uv (.s sz A n c xs)) (di sz A n vs):=h▸View.HR
section
variable{H:Type}{enc:TypeId×Value→H}{P:Program}{W:World}{spare:Nat→Bool}{held:Bool}{tss:List TypeId}{dss:List (DataW H)}
theorem vG{t:TypeId}{v:Value}{d:DataW H}{ps:List MemPlace}{j:Nat}(k:Nat)(hp:parts P k t=true)(h:DataW.Trod enc P W 0 spare held t v d ps)(hsz:(DataW.weightsEach P tss dss).all (· ≤reachBytes)=true)(hjt:tss[j]? =some t)(hjd:dss[j]? =some d):
  ∃xs:List Cell,xs.map Cell.val=v.cells.toList∧jo W xs∧Ty P t xs:=by
 obtain⟨fuel,hf⟩:=h
 refine kg k fuel t _ _ hp hf (fun q hq=> ?_)
 have:=List.all_eq_true.1 hsz q (DataW.weights_mem_each hjt hjd q hq)
 have hr:reachBytes=140737488351232:=rfl
 simp at this
 omega
theorem xm{t e:TypeId}{A:Option Addr}{n c:Nat}{d:DataW H}{ps:List MemPlace}{j:Nat}(k:Nat)(hp:parts P k t=true)(ht:P.underlying t=some (.slice e))(h:DataW.Trod enc P W 0 spare held t (.slice A n c) d ps)(hsz:(DataW.weightsEach P tss dss).all (· ≤reachBytes)=true)(hjt:tss[j]? =some t)(hjd:dss[j]? =some d):
  ∃ys:List Cell,(uv (.s (P.cellsOf e) A n c ys)).holds W∧Ty P t [.s (P.cellsOf e) A n c ys]:=by
 obtain⟨xs,h1,h2,h3⟩:=vG k hp h hsz hjt hjd
 obtain⟨A',n',c',ys,rfl,_⟩:=ue ht h3
 have e1:[Cell.val (.s (P.cellsOf e) A' n' c' ys)]=[Value.slice A n c]:=h1
 simp only[Cell.val,List.cons.injEq,Value.slice.injEq,and_true]at e1
 obtain⟨rfl,rfl,rfl⟩:=e1
 exact⟨ys,h2.1,h3⟩
end
end Go.Eng
end
section
set_option maxRecDepth 20000
namespace Go.Proofs.YtmibdabdlgmafaaGreatDoor
open Go.Eng Go.Hx
theorem Dt{P:Program}{N:Nat}{D:List Deferred}{ρ:Env}{w:World}{x y:Operand}{ty t t' :TypeId}{a b:ByteArray}(hx:ev ρ x=some (.string a))(hy:ev ρ y=some (.string b)):Yl P N D ρ w (.binOp .geq t x y t') ty (.bool (!Op.bytesLess a.toList b.toList)):=
 fun _ _ _ _ _ ha=>by simp[execOp,ha.eval hx,ha.eval hy,eqGuard,binOp,Op.stringOp]
abbrev FP:=List UInt8×List UInt8
def fc(l:List FP):List Value:=l.flatMap fun x=>[SV x.1,SV x.2]
theorem iF(a b:List FP):fc (a++b)=fc a++fc b:=by simp[fc]
theorem iR:∀(l:List FP) (i:Nat) (x:FP),l[i]? =some x→(fc l)[i*2]? =some (SV x.1)∧(fc l)[i*2+1]? =some (SV x.2)
 | [],i,x,h=>by simp at h
 |a::r,0,x,h=>by
  simp only[List.getElem?_cons_zero,Option.some.injEq]at h
  subst h
  exact⟨rfl,rfl⟩
 |a::r,i+1,x,h=>by
  have ih:=iR r i x (by simpa using h)
  have e:fc (a::r)=SV a.1::SV a.2::fc r:=by simp[fc]
  rw[e,show(i+1)*2=i*2+2 by omega]
  exact ih
theorem mR{w:World}{A:Option Addr}{n i:Nat}{l:List FP}{x:FP}(h:Rd w 2 A n (fc l))(hx:l[i]? =some x):∀(j:Nat) (u:Value),[SV x.1,SV x.2][j]? =some u→w.cell? (((A.getD d0).add (i*2)).add j)=some u:=by
 obtain⟨g0,g1⟩:=iR l i x hx
 intro j u hu
 match j,hu with
 |0,hu=>cases hu;exact fm h g0
 |1,hu=>cases hu;exact fm h g1
 |j+2,hu=>simp at hu
theorem nY{l:List FP}:∀u∈fc l,u.oneCell' =true:=by
 intro u hu
 obtain⟨x,_,h⟩:=List.mem_flatMap.1 hu
 simp only[List.mem_cons,List.not_mem_nil,or_false]at h
 rcases h with rfl|rfl <;> rfl
theorem xu{p:List UInt8}(hp:p.length≤1000000000):cf Tryz.prog 112 [.string (strOf p)] [] [] (fun v_ X_ S_=>v_=(.bool (decide (gh p)))∧X_=[]∧S_=[]):=by
 have hsz:=c7 p
 refine aP (N:=22) Tryz.func112 rfl rfl (by simp) fun b=> ?_
 refine ah<|aj<|hy (fun _=>ab rfl)<|ai<|ag<|ah<|ah<|aj<|hy (fun _=>ab rfl)<|ai<|ag<|aK<| ?_
 refine dH (fun i=>p.length-i) (fun i=>[(3,.int .i64 (i:Nat))]) (fun i=>[]) (fun i=>[]) (fun i=>i≤p.length∧¬(0:UInt8)∈p.take i) 0 [(0,_)] ⟨rfl,trivial⟩ [] rfl [] rfl (⟨Nat.zero_le _,by simp⟩) ⟨rfl,trivial⟩ (fun i hI=> ?_)
 obtain⟨hip,hno⟩:=hI
 refine ah<|ah<|aj<|hy (fun _=>aa rfl)<|hy (fun _=>aa rfl)<|hy (fun _=>cY rfl Tryz.underlying9)<|hy (fun _=>bw rfl rfl)<|ai<|al (ρ' :=[(7,_),(3,_),(0,_)]) ⟨rfl,rfl,rfl,trivial⟩<|ag<| ?_
 refine cG rfl (fun h=> ?_) (fun h=> ?_)
 ·have hil:i<p.length:=by omega
  refine aB<|ag<|ah<|aK<|ah<|aj<|hy (fun _=>aa rfl)<|hy (fun _=>aa rfl)<|hy (fun _=>eW rfl rfl Tryz.underlying9 rfl (iM hil))<|hy (fun _=>cM rfl rfl)<|ai<|al (ρ' :=[(13,_),(7,_),(3,_),(0,_)]) ⟨rfl,rfl,rfl,rfl,trivial⟩<|ag<| ?_
  refine cG rfl (fun h0=> ?_) (fun h0=> ?_)
  ·have h00:p.getD i 0=0:=UInt8.toNat_inj.1 (by simpa using h0)
   refine ah<|aj<|hy (fun _=>ab rfl)<|ai<|ag<|aX<|bf<|ay<|ay<|bf<|ay<| ?_
   exact bh trivial rfl rfl [] rfl [] rfl ⟨(congrArg Value.bool (decide_eq_false (fun hN=>hN.2.2 (by rw[←h00];rw[List.getD,List.getElem?_eq_getElem hil];exact List.getElem_mem hil))).symm),rfl,rfl⟩
  ·have hno2:¬(0:UInt8)∈p.take (i+1):=fun hm=>by
    rw[List.take_succ_eq_append_getElem hil]at hm
    rcases List.mem_append.1 hm with h1|h1
    ·exact hno h1
    ·apply h0
     have:=List.mem_singleton.1 h1
     rw[List.getD,List.getElem?_eq_getElem hil]
     simp[←this]
   refine aB<|aO<|ag<|aj<|hy (fun _=>aa rfl)<|hy (fun _=>aN rfl rfl (bF (by omega) (by omega)))<|hy (fun _=>ab rfl)<|ai<|al (ρ' :=[(3,_),(13,_),(7,_),(0,_)]) ⟨rfl,rfl,rfl,rfl,trivial⟩<| ?_
   refine cX (i+1) ⟨rfl,rfl,trivial⟩ [] rfl [] rfl (⟨by omega,hno2⟩) (by omega)
 ·obtain rfl:i=p.length:=by omega
  rw[List.take_of_length_le (Nat.le_refl _)]at hno
  by_cases h1:0<p.length
  ·refine bL<|ao<|ao<|aD<|ag<|ah<|aj<|hy (fun _=>aa rfl)<|hy (fun _=>cY rfl Tryz.underlying9)<|hy (fun _=>yT (dh rfl rfl) ((decide_eq_true (by omega))))<|hy (fun _=>aa rfl)<|dW (o:=_) rfl rfl rfl (fun _=>aa rfl)<|dW (o:=_) rfl rfl rfl (fun _=>cY rfl Tryz.underlying9)<|dW (o:=_) rfl rfl rfl (fun _=>bw rfl rfl)<|hy (fun _=>bT rfl rfl)<|hy (fun _=>ab rfl)<|ai<|al (ρ' :=[(2,_),(7,_),(3,_),(0,_)]) ⟨rfl,rfl,rfl,rfl,trivial⟩<|ag<|aX<| ?_
   exact bh trivial rfl rfl [] rfl [] rfl ⟨(congrArg Value.bool (decide_eq_decide.2 ⟨fun h=>⟨fun e=>by rw[e]at h1;exact absurd h1 (by decide),by omega,hno⟩,fun h=>by have:=h.2.1;omega⟩)),rfl,rfl⟩
  ·refine bL<|ao<|ao<|aD<|ag<|ah<|aj<|hy (fun _=>aa rfl)<|hy (fun _=>cY rfl Tryz.underlying9)<|hy (fun _=>yF (dh rfl rfl) ((decide_eq_false (by omega))))<|hy (fun _=>aa rfl)<|bI rfl rfl rfl (by decide)<|bI rfl rfl rfl (by decide)<|bI rfl rfl rfl (by decide)<|hy (fun _=>bD rfl rfl)<|hy (fun _=>ab rfl)<|ai<|al (ρ' :=[(2,_),(7,_),(3,_),(0,_)]) ⟨rfl,rfl,rfl,rfl,trivial⟩<|ag<|aX<| ?_
   exact bh trivial rfl rfl [] rfl [] rfl ⟨(congrArg Value.bool (decide_eq_false (fun hN=>hN.1 (List.eq_nil_of_length_eq_zero (by omega)))).symm),rfl,rfl⟩
def cK(l:List FP)(p:List UInt8):Nat:=l.findIdx (fun x=>decide (x.1=p))
def lr(l:List FP)(p:List UInt8):Int:=if cK l p<l.length then(cK l p:Nat)else-1
theorem y0{l:List FP}{p:List UInt8}{i:Nat}{x:FP}(hx:l[i]? =some x)(h:x.1=p)(hno:∀j,j<i→∀y,l[j]? =some y→y.1≠p):cK l p=i:=by
 obtain⟨hi,rfl⟩:=List.getElem?_eq_some_iff.1 hx
 unfold cK
 rw[List.findIdx_eq hi]
 exact⟨by simpa using h,fun j hj=>by simpa using hno j hj _ (List.getElem?_eq_getElem (by omega))⟩
theorem zr{l:List FP}{p:List UInt8}(hno:∀j,j<l.length→∀y,l[j]? =some y→y.1≠p):¬cK l p<l.length:=by
 intro h
 have h1:=List.findIdx_getElem (w:=h)
 exact hno _ h _ (List.getElem?_eq_getElem h) (of_decide_eq_true h1)
theorem vx{A:Option Addr}{n c:Nat}{l:List FP}{p:List UInt8}(hl:l.length=n)(hn:n≤1000000000):cf Tryz.prog 113 [.slice A n c,.string (strOf p)] [] [di 2 A n (fc l)] (fun v_ X_ S_=>v_=(.int .i64 (lr l p))∧X_=[]∧S_=[]):=by
 refine aP (N:=20) Tryz.func113 rfl rfl (by simp) fun b=> ?_
 refine a6 (fun m=>gX (m.rd 0 rfl)) ?_
 rintro⟨hl_r,hA_r⟩
 refine ah<|aj<|hy (fun _=>ab rfl)<|ai<|ag<|ah<|ah<|aj<|hy (fun _=>ab rfl)<|ai<|ag<|aK<| ?_
 refine dH (fun i=>n-i) (fun i=>[(5,.int .i64 (i:Nat))]) (fun i=>[]) (fun i=>[]) (fun i=>i≤n∧∀j,j<i→∀y,l[j]? =some y→y.1≠p) 0 [(0,_),(1,_)] ⟨rfl,rfl,trivial⟩ [] rfl [] rfl (⟨Nat.zero_le _,fun j hj=>absurd hj (Nat.not_lt_zero j)⟩) ⟨rfl,trivial⟩ (fun i hI=> ?_)
 obtain⟨hin,hno⟩:=hI
 refine ah<|ah<|aj<|hy (fun _=>aa rfl)<|hy (fun _=>aa rfl)<|hy (fun _=>aT rfl Tryz.underlying36)<|hy (fun _=>bw rfl rfl)<|ai<|al (ρ' :=[(9,_),(5,_),(0,_),(1,_)]) ⟨rfl,rfl,rfl,rfl,trivial⟩<|ag<| ?_
 refine cG rfl (fun h=> ?_) (fun h=> ?_)
 ·have hil:i<l.length:=by omega
  obtain⟨x,hx⟩:∃x,l[i]? =some x:=⟨_,List.getElem?_eq_getElem hil⟩
  obtain⟨g0,g1⟩:=iR l i x hx
  refine aB<|ag<|ah<|aK<|ah<|aj<|hy (fun _=>aa rfl)<|hy (fun _=>aa rfl)<|hy (fun _=>cD rfl rfl Tryz.underlying36 fa hA_r rfl (by omega))<|hy (fun _=>aI rfl eQ (by decide))<|hy (fun m=>yV (aw rfl lz (fm (m.rd 0 rfl) g0)) ((rfl:_=Value.string (strOf x.1))))<|hy (fun _=>aa rfl)<|hy (fun _=>rC rfl rfl)<|ai<|al (ρ' :=[(18,_),(9,_),(5,_),(0,_),(1,_)]) ⟨rfl,rfl,rfl,rfl,rfl,trivial⟩<|ag<| ?_
  refine cG rfl (fun h0=> ?_) (fun h0=> ?_)
  ·have he:x.1=p:=cN.1 h0
   have hN:=y0 hx he hno
   refine ah<|aj<|hy (fun _=>aa rfl)<|hy (fun _=>ab rfl)<|ai<|al (ρ' :=[(4,_),(18,_),(9,_),(5,_),(0,_),(1,_)]) ⟨rfl,rfl,rfl,rfl,rfl,rfl,trivial⟩<|ag<|aX<|bf<|ay<|ay<|bf<|ay<| ?_
   exact bh trivial rfl rfl [] rfl [] rfl ⟨(by rw[lr,hN,if_pos hil]),rfl,rfl⟩
  ·have he:x.1≠p:=fun e=>h0 (cN.2 e)
   have hno2:∀j,j<i+1→∀y,l[j]? =some y→y.1≠p:=fun j hj y hy=>by
    rcases Nat.lt_succ_iff_lt_or_eq.1 hj with h1|h1
    ·exact hno j h1 y hy
    ·rw[h1,hx]at hy;cases hy;exact he
   refine aB<|aO<|ag<|aj<|hy (fun _=>aa rfl)<|hy (fun _=>aN rfl rfl (bF (by omega) (by omega)))<|hy (fun _=>ab rfl)<|ai<|al (ρ' :=[(5,_),(18,_),(9,_),(0,_),(1,_)]) ⟨rfl,rfl,rfl,rfl,rfl,trivial⟩<| ?_
   refine cX (i+1) ⟨rfl,rfl,rfl,trivial⟩ [] rfl [0] rfl (⟨by omega,hno2⟩) (by omega)
 ·obtain rfl:i=n:=by omega
  refine bL<|ao<|ao<|aD<|ag<|ah<|aj<|hy (fun _=>ab rfl)<|ai<|ag<|aX<| ?_
  exact bh trivial rfl rfl [] rfl [] rfl ⟨(by rw[lr,if_neg (zr (fun j hj=>hno j (by omega)))]),rfl,rfl⟩
def dM(l:List FP):Nat:=(l.map fun x=>x.2.length).sum
theorem rk{l:List FP}{i:Nat}{x:FP}(h:l[i]? =some x):dM (l.take (i+1))=dM (l.take i)+x.2.length:=by
 obtain⟨hi,rfl⟩:=List.getElem?_eq_some_iff.1 h
 rw[List.take_succ_eq_append_getElem hi]
 unfold dM
 rw[List.map_append,List.sum_append]
 simp
theorem wb(l:List FP)(i:Nat):dM (l.take i)≤dM l:=by
 have:dM l=dM (l.take i)+dM (l.drop i):=by
  conv=>lhs;rw[←List.take_append_drop i l]
  simp only[dM,List.map_append,List.sum_append]
 omega
def dv(room:Int)(s l w:Value)(pw:Int):List Value:=[.int .i64 room,s,l,w,.int .i64 pw]
theorem Fh{room pw:Int}{vl vw:Value}{A:Option Addr}{n c:Nat}{l:List FP}(hl:l.length=n)(hn:n≤1000000000)(ht:dM l≤1000000000000):cf Tryz.prog 89 [.agg (dv room (.slice A n c) vl vw pw).toArray] [] [di 2 A n (fc l)] (fun v_ X_ S_=>v_=(.int .i64 (dM l:Nat))∧X_=[]∧S_=[]):=by
 refine aP (N:=22) Tryz.func89 rfl rfl (by simp) fun b=> ?_
 refine a6 (fun m=>gX (m.rd 0 rfl)) ?_
 rintro⟨hl_r,hA_r⟩
 refine ah<|aj<| ?_
 refine hx (cw rfl (fun g1=> ?_))
 refine aQ (fun w m=>m.bN 0 rfl (show _=aL g1 39 (dv room (.slice A n c) vl vw pw)from congrArg (aL _ _) (bu _))) ?_
 refine hy (fun _=>ab rfl)<|ai<|ak (X' :=[_]) (S' :=[_]) (fun _ m=>m)<|ag<|ah<|aj<|hy (fun _=>ab rfl)<|ai<|ag<|ah<|ah<|aj<|hy (fun _=>ab rfl)<|ai<|ag<|aK<| ?_
 refine dH (fun i=>n-i) (fun i=>[(3,.int .i64 (dM (l.take i):Nat)),(4,.int .i64 (i:Nat))]) (fun i=>[aL g1 39 (dv room (.slice A n c) vl vw pw)]) (fun i=>[]) (fun i=>i≤n) 0 [(2,_),(1,_),(0,_)] ⟨rfl,rfl,rfl,trivial⟩ [0] rfl [] rfl (Nat.zero_le _) ⟨rfl,rfl,trivial⟩ (fun i hI=> ?_)
 refine ah<|ah<|aj<|hy (fun _=>aa rfl)<|hy (fun _=>aI rfl gD (by decide))<|hy (fun m=>aw rfl oQ (aE (m.aZ 0 rfl) rfl))<|hy (fun _=>aT rfl Tryz.underlying36)<|hy (fun _=>bw rfl rfl)<|ai<|al (ρ' :=[(9,_),(3,_),(4,_),(2,_),(1,_),(0,_)]) ⟨rfl,rfl,rfl,rfl,rfl,rfl,trivial⟩<|ag<| ?_
 refine cG rfl (fun h=> ?_) (fun h=> ?_)
 ·have hil:i<l.length:=by omega
  obtain⟨x,hx⟩:∃x,l[i]? =some x:=⟨_,List.getElem?_eq_getElem hil⟩
  obtain⟨g0,g2⟩:=iR l i x hx
  have h1:=rk hx
  have h2:=wb l (i+1)
  have hsz:=c7 x.2
  refine aB<|ag<|ah<|aK<|aj<|hy (fun _=>aa rfl)<|hy (fun _=>aI rfl gD (by decide))<|hy (fun m=>aw rfl oQ (aE (m.aZ 0 rfl) (i:=1) rfl))<|hy (fun _=>aa rfl)<|hy (fun _=>cD rfl rfl Tryz.underlying36 fa hA_r rfl (by omega))<|hy (fun _=>aI rfl o5 (by decide))<|hy (fun m=>yV (aw rfl lz (fm (m.rd 0 rfl) g2)) ((rfl:_=Value.string (strOf x.2))))<|hy (fun _=>cY rfl Tryz.underlying9)<|hy (fun _=>yV (aN rfl rfl (bF (by omega) (by omega))) ((show Value.int .i64 ((dM (l.take i):Nat)+((strOf x.2).size:Nat))= .int .i64 (dM (l.take (i+1)):Nat) by rw[hsz,h1];rfl)))<|hy (fun _=>ab rfl)<|ai<|al (ρ' :=[(3,_),(9,_),(4,_),(2,_),(1,_),(0,_)]) ⟨rfl,rfl,rfl,rfl,rfl,rfl,trivial⟩<|aO<|ag<|aj<|hy (fun _=>aa rfl)<|hy (fun _=>aN rfl rfl (bF (by omega) (by omega)))<|hy (fun _=>ab rfl)<|ai<|al (ρ' :=[(4,_),(3,_),(9,_),(2,_),(1,_),(0,_)]) ⟨rfl,rfl,rfl,rfl,rfl,rfl,trivial⟩<| ?_
  refine cX (i+1) ⟨rfl,rfl,rfl,rfl,rfl,trivial⟩ [0] rfl [0] rfl (by omega) (by omega)
 ·obtain rfl:i=n:=by omega
  refine bL<|ao<|ao<|aD<|ag<|ah<|aj<|hy (fun _=>aa rfl)<|hy (fun _=>ab rfl)<|ai<|al (ρ' :=[(2,_),(9,_),(3,_),(4,_),(1,_),(0,_)]) ⟨rfl,rfl,rfl,rfl,rfl,rfl,trivial⟩<|ag<|aX<| ?_
  exact bh trivial rfl rfl [] rfl [] rfl ⟨(by rw[←hl,List.take_of_length_le (Nat.le_refl _)]),rfl,rfl⟩
theorem q9{A:Option Addr}{n c:Nat}{l:List FP}{p:List UInt8}(hl:l.length=n)(hn:n≤1000000):cf Tryz.prog 221 [.slice A n c,.string (strOf p)] [] [di 2 A n (fc l)] (fun v_ X_ S_=>∃v k,v_=v∧X_=[aH 156 2 v k (fc (l.filter fun x=>decide (x.1≠p)))]∧S_=[]∧(k=(l.filter fun x=>decide (x.1≠p)).length)):=by
 refine aP (N:=28) Tryz.func221 rfl rfl (by simp) fun b=> ?_
 refine a6 (fun m=>gX (m.rd 0 rfl)) ?_
 rintro⟨hl_r,hA_r⟩
 refine ah<|aj<|hy (fun _=>ab rfl)<|ai<|ag<|ah<|aj<|hy (fun _=>ab rfl)<|ai<|ag<|ah<|ah<|aj<|hy (fun _=>ab rfl)<|ai<|ag<|aK<| ?_
 refine bC (fun w m=>m.dj (r' :=aH 156 2 (.slice none 0 0) 0 []) (.refl _ _) (Own.nil _ _ _ _) (fun k hk=>hk.elim)) ?_
 refine jJ (fun i A1 k c1=>n-i) (fun i A1 k c1=>[(5,.slice A1 k c1),(6,.int .i64 (i:Nat))]) (fun i A1 k c1=>[aH 156 2 (.slice A1 k c1) k (fc ((l.take i).filter fun x=>decide (x.1≠p)))]) (fun i A1 k c1=>[]) (fun i A1 k c1=>i≤n∧k=((l.take i).filter fun x=>decide (x.1≠p)).length) 0 none 0 0 [(4,_),(0,_),(1,_)] ⟨rfl,rfl,rfl,trivial⟩ [0] rfl [] rfl (⟨Nat.zero_le _,rfl⟩) ⟨rfl,rfl,trivial⟩ (fun i A1 k c1 hI=> ?_)
 obtain⟨hin,hk⟩:=hI
 have hkl:((l.take i).filter fun x=>decide (x.1≠p)).length≤i:=Nat.le_trans (List.length_filter_le ..) (by rw[List.length_take];omega)
 refine ah<|ah<|aj<|hy (fun _=>aa rfl)<|hy (fun _=>aa rfl)<|hy (fun _=>aT rfl Tryz.underlying36)<|hy (fun _=>bw rfl rfl)<|ai<|al (ρ' :=[(10,_),(5,_),(6,_),(4,_),(0,_),(1,_)]) ⟨rfl,rfl,rfl,rfl,rfl,rfl,trivial⟩<|ag<| ?_
 refine cG rfl (fun h=> ?_) (fun h=> ?_)
 ·have hil:i<l.length:=by omega
  obtain⟨x,hgx⟩:∃x,l[i]? =some x:=⟨_,List.getElem?_eq_getElem hil⟩
  obtain⟨g0,g2⟩:=iR l i x hgx
  have D3:(l.take (i+1)).filter (fun x=>decide (x.1≠p))=(l.take i).filter (fun x=>decide (x.1≠p))++[x].filter (fun x=>decide (x.1≠p)):=by
   obtain⟨hi,rfl⟩:=List.getElem?_eq_some_iff.1 hgx
   rw[List.take_succ_eq_append_getElem hi,List.filter_append]
  refine aB<|ag<|ah<|aK<|ah<|aj<|hy (fun _=>aa rfl)<|hy (fun _=>aa rfl)<|hy (fun _=>cD rfl rfl Tryz.underlying36 fa hA_r rfl (by omega))<|hy (fun _=>aI rfl eQ (by decide))<|hy (fun m=>yV (aw rfl lz (fm (m.rd 0 rfl) g0)) ((rfl:_=Value.string (strOf x.1))))<|hy (fun _=>aa rfl)<|hy (fun _=>oC rfl rfl)<|ai<|al (ρ' :=[(19,_),(10,_),(5,_),(6,_),(4,_),(0,_),(1,_)]) ⟨rfl,rfl,rfl,rfl,rfl,rfl,rfl,trivial⟩<|ag<| ?_
  refine cG rfl (fun h0=> ?_) (fun h0=> ?_)
  ·have hF:(l.take i).filter (fun x=>decide (x.1≠p))++[x]=(l.take (i+1)).filter (fun x=>decide (x.1≠p)):=by
    have hne:x.1≠p:=fun e=>h0 (cN.2 e)
    rw[D3];simp[hne]
   refine aj<|hy (fun _=>aa rfl)<|hy (fun _=>aa rfl)<|hy (fun _=>aa rfl)<|hy (fun _=>cD rfl rfl Tryz.underlying36 fa hA_r rfl (by omega))<|hy (fun m=>yV (aU rfl qV fa rfl (mR (m.rd 0 rfl) hgx)) ((rfl:_=Value.agg [SV x.1,SV x.2].toArray)))<| ?_
   refine hx (b6 Tryz.underlying36 jg rfl rfl rfl (by simp[Value.cells,B8]) (by decide) (by decide) (fun g25=> ?_))
   have hA_b25:0<1→(some (⟨g25,0,none⟩:Addr))≠none:=fun _ h=>by cases h
   refine aQ (fun w m=>m.bN 0 rfl (show _=aH 156 2 (.slice (some ⟨g25,0,none⟩) 1 1) 1 (fc [x])from rfl)) ?_
   refine hx (bx 1 rfl rfl rfl Tryz.underlying36 Tryz.underlying36 (by exact .inl rfl) jg rfl (fun m=>Src.bR (m.ord 0 rfl)) nY (by unfold maxLen;omega) (by omega) (fun u=> ?_))
   refine aA (fun m=>(m.own 0 rfl).slice) ?_
   rintro⟨A_o,c_o,rfl,hc_o⟩
   refine aA (fun m=>(m.ord 0 rfl).2.1) fun hA_o=> ?_
   refine aQ (fun w m=>m.bN 0 rfl (show _=aH 156 2 (.slice A_o (k+1) c_o) (k+1) (fc ((l.take (i+1)).filter fun x=>decide (x.1≠p)))from congrArg (aH _ _ _ _) ((iF ..).symm.trans (congrArg fc hF)))) ?_
   refine hy (fun _=>ab rfl)<|ai<|al (ρ' :=[(5,_),(19,_),(10,_),(6,_),(4,_),(0,_),(1,_)]) ⟨rfl,rfl,rfl,rfl,rfl,rfl,rfl,trivial⟩<|ak (X' :=[_,_]) (S' :=[_]) (fun _ m=>m)<|aO<|ag<|aj<|hy (fun _=>aa rfl)<|hy (fun _=>aN rfl rfl (bF (by omega) (by omega)))<|hy (fun _=>ab rfl)<|ai<|al (ρ' :=[(6,_),(5,_),(19,_),(10,_),(4,_),(0,_),(1,_)]) ⟨rfl,rfl,rfl,rfl,rfl,rfl,rfl,trivial⟩<| ?_
   refine eO (i+1) A_o (k+1) c_o ⟨rfl,rfl,rfl,rfl,rfl,trivial⟩ [0] rfl [0] rfl (⟨by omega,by rw[←hF,hk,List.length_append];rfl⟩) (by omega)
  ·have hF:(l.take (i+1)).filter (fun x=>decide (x.1≠p))=(l.take i).filter (fun x=>decide (x.1≠p)):=by
    have hne:x.1=p:=cN.1 (Decidable.not_not.1 h0)
    rw[D3];simp[hne]
   refine bC (fun w m=>m.bN 0 rfl (show _=aH 156 2 (.slice A1 k c1) k (fc ((l.take (i+1)).filter fun x=>decide (x.1≠p)))from by rw[hF])) ?_
   refine aB<|aO<|ag<|aj<|hy (fun _=>aa rfl)<|hy (fun _=>aN rfl rfl (bF (by omega) (by omega)))<|hy (fun _=>ab rfl)<|ai<|al (ρ' :=[(6,_),(19,_),(10,_),(5,_),(4,_),(0,_),(1,_)]) ⟨rfl,rfl,rfl,rfl,rfl,rfl,rfl,trivial⟩<| ?_
   refine eO (i+1) A1 k c1 ⟨rfl,rfl,rfl,rfl,rfl,trivial⟩ [0] rfl [0] rfl (⟨by omega,by rw[hF];exact hk⟩) (by omega)
 ·obtain rfl:i=n:=by omega
  rw[←hl,List.take_of_length_le (Nat.le_refl _)]at hk
  refine bC (fun w m=>m.bN 0 rfl (show _=aH 156 2 (.slice A1 k c1) k (fc (l.filter fun x=>decide (x.1≠p)))from by rw[←hl,List.take_of_length_le (Nat.le_refl _)])) ?_
  refine bL<|ao<|ao<|aD<|ag<|ah<|aj<|hy (fun _=>aa rfl)<|hy (fun _=>ab rfl)<|ai<|al (ρ' :=[(4,_),(10,_),(5,_),(6,_),(0,_),(1,_)]) ⟨rfl,rfl,rfl,rfl,rfl,rfl,trivial⟩<|ag<|aX<| ?_
  exact bh trivial rfl rfl [0] rfl [] rfl ⟨_,_,rfl,rfl,rfl,hk⟩
end Go.Proofs.YtmibdabdlgmafaaGreatDoor
end
section
set_option maxRecDepth 20000
namespace Go.Proofs.YtmibdabdlgmafaaGreatDoor
open Go.Eng Go.Hx
def nk(a b:List UInt8):Bool:=Op.bytesLess (strOf a).toList (strOf b).toList
def iQ(f:FP)(st:List FP×Bool)(x:FP):List FP×Bool:=
 let s1:=if st.2=false∧nk x.1 f.1=false then(st.1++[f],true)else st
 (if x.1≠f.1 then s1.1++[x]else s1.1,s1.2)
def B6(f:FP)(l:List FP)(i:Nat):List FP×Bool:=(l.take i).foldl (iQ f) ([],false)
theorem za{f:FP}{l:List FP}{i:Nat}{x:FP}(h:l[i]? =some x):B6 f l (i+1)=iQ f (B6 f l i) x:=by
 obtain⟨hi,rfl⟩:=List.getElem?_eq_some_iff.1 h
 unfold B6
 rw[List.take_succ_eq_append_getElem hi,List.foldl_append]
 rfl
def gT(l:List FP)(f:FP):List FP:=if(B6 f l l.length).2 then(B6 f l l.length).1 else(B6 f l l.length).1++[f]
theorem Ar{A:Option Addr}{n c:Nat}{l:List FP}{f:FP}(hl:l.length=n)(hn:n≤1000000):cf Tryz.prog 220 [.slice A n c,.agg [SV f.1,SV f.2].toArray] [] [di 2 A n (fc l)] (fun v_ X_ S_=>∃v k,v_=v∧X_=[aH 156 2 v k (fc (gT l f))]∧S_=[]∧(k=(gT l f).length∧k≤n+1)):=by
 refine aP (N:=52) Tryz.func220 rfl rfl (by simp) fun b=> ?_
 refine a6 (fun m=>gX (m.rd 0 rfl)) ?_
 rintro⟨hl_r,hA_r⟩
 refine ah<|aj<| ?_
 refine hx (cw rfl (fun g3=> ?_))
 refine aQ (fun w m=>m.bN 0 rfl (show _=aL g3 156 [SV f.1,SV f.2]from congrArg (aL _ _) (bu _))) ?_
 refine hy (fun _=>ab rfl)<|ai<|ak (X' :=[_]) (S' :=[_]) (fun _ m=>m)<|ag<|ah<|aj<|hy (fun _=>ab rfl)<|ai<|ag<|ah<|aj<|hy (fun _=>ab rfl)<|ai<|ag<|ah<|ah<|aj<|hy (fun _=>ab rfl)<|ai<|ag<|aK<| ?_
 refine bC (fun w m=>m.dj (r' :=aH 156 2 (.slice none 0 0) 0 []) (.refl _ _) (Own.nil _ _ _ _) (fun k hk=>hk.elim)) ?_
 refine n0 (fun i A1 k c1 out pt=>n-i) (fun i A1 k c1 out pt=>[(5,.slice A1 k c1),(6,.bool pt),(7,.int .i64 (i:Nat))]) (fun i A1 k c1 out pt=>[aH 156 2 (.slice A1 k c1) k (fc out),aL g3 156 [SV f.1,SV f.2]]) (fun i A1 k c1 out pt=>[]) (fun i A1 k c1 out pt=>i≤n∧B6 f l i=(out,pt)∧k=out.length∧k≤i+pt.toNat) 0 none 0 0 [] false [(4,_),(3,_),(0,_),(1,_)] ⟨rfl,rfl,rfl,rfl,trivial⟩ [0,0] rfl [] rfl (⟨Nat.zero_le _,rfl,rfl,Nat.le_refl _⟩) ⟨rfl,rfl,rfl,trivial⟩ (fun i A1 k c1 out pt ⟨hin,hw,hk,hki⟩=> ?_)
 have hpt:pt.toNat≤1:=by cases pt <;> decide
 refine ah<|ah<|aj<|hy (fun _=>aa rfl)<|hy (fun _=>aa rfl)<|hy (fun _=>aT rfl Tryz.underlying36)<|hy (fun _=>bw rfl rfl)<|ai<|al (ρ' :=[(11,_),(5,_),(6,_),(7,_),(4,_),(3,_),(0,_),(1,_)]) ⟨rfl,rfl,rfl,rfl,rfl,rfl,rfl,rfl,trivial⟩<|ag<| ?_
 refine cG rfl (fun h=> ?_) (fun h=> ?_)
 ·have hil:i<l.length:=by omega
  obtain⟨x,hgx⟩:∃x,l[i]? =some x:=⟨_,List.getElem?_eq_getElem hil⟩
  obtain⟨g0,g2⟩:=iR l i x hgx
  have hs:=za (f:=f) hgx
  rw[hw]at hs
  unfold iQ at hs
  by_cases hp:pt=true
  ·subst hp
   simp only[Bool.true_eq_false,false_and,if_false]at hs
   refine aB<|ag<|ah<|aK<|ah<|ah<|cT [] [(0,some 0),(1,some 0),(2,some 0),(3,some 0),(4,some 0),(5,some 0),(6,some 0),(7,some 0),(8,some 0),(9,some 0),(10,some 0),(11,some 0)] (by kernel_rfl) (by kernel_rfl) rfl 99<|an (aa rfl)<|an ((jl rfl))<|an (aa rfl)<|aR rfl rfl rfl (by decide)<|aR rfl rfl rfl (by decide)<|aR rfl rfl rfl (by decide)<|aR rfl rfl rfl (by decide)<|aR rfl rfl rfl (by decide)<|aR rfl rfl rfl (by decide)<|aR rfl rfl rfl (by decide)<|aR rfl rfl rfl (by decide)<|an (bD rfl rfl)<|bz<|al (ρ' :=[(25,_),(11,_),(5,_),(6,_),(7,_),(4,_),(3,_),(0,_),(1,_)]) ⟨rfl,rfl,rfl,rfl,rfl,rfl,rfl,rfl,rfl,trivial⟩<|ag<| ?_
   refine dB rfl (rfl) ?_
   refine aB<|ag<|ah<|cT [] [(0,some 0),(1,some 0),(2,some 0),(3,some 0),(4,some 0),(5,some 0),(6,some 0),(7,some 0)] (by kernel_rfl) (by kernel_rfl) rfl 99<|an (aa rfl)<|an (aa rfl)<|an (cD rfl rfl Tryz.underlying36 fa hA_r rfl (by omega))<|an (aI rfl eQ (by decide))<|cq (fun m=>yV (aw rfl lz (fm (m.rd 0 rfl) g0)) ((rfl:_=Value.string (strOf x.1))))<|an (aI rfl eQ (by decide))<|cq (fun m=>yV (aw rfl lz (aE (m.aZ 1 rfl) (i:=0) rfl)) ((rfl:_=Value.string (strOf f.1))))<|an (oC rfl rfl)<|bz<|al (ρ' :=[(37,_),(25,_),(11,_),(5,_),(6,_),(7,_),(4,_),(3,_),(0,_),(1,_)]) ⟨rfl,rfl,rfl,rfl,rfl,rfl,rfl,rfl,rfl,rfl,trivial⟩<|ag<| ?_
   refine cG rfl (fun h1=> ?_) (fun h1=> ?_)
   ·have hne:x.1≠f.1:=fun e=>h1 (cN.2 e)
    refine aj<|hy (fun _=>aa rfl)<|hy (fun _=>aa rfl)<|hy (fun _=>aa rfl)<|hy (fun _=>cD rfl rfl Tryz.underlying36 fa hA_r rfl (by omega))<|hy (fun m=>yV (aU rfl qV fa rfl (mR (m.rd 0 rfl) hgx)) ((rfl:_=Value.agg [SV x.1,SV x.2].toArray)))<| ?_
    refine hx (b6 Tryz.underlying36 jg rfl rfl rfl (by simp[Value.cells,B8]) (by decide) (by decide) (fun g43=> ?_))
    have hA_b43:0<1→(some (⟨g43,0,none⟩:Addr))≠none:=fun _ h=>by cases h
    refine aQ (fun w m=>m.bN 0 rfl (show _=aH 156 2 (.slice (some ⟨g43,0,none⟩) 1 1) 1 (fc [x])from rfl)) ?_
    refine hx (bx 1 rfl rfl rfl Tryz.underlying36 Tryz.underlying36 (by exact .inl rfl) jg rfl (fun m=>Src.bR (m.ord 0 rfl)) nY (by unfold maxLen;omega) (by omega) (fun u=> ?_))
    refine aA (fun m=>(m.own 0 rfl).slice) ?_
    rintro⟨A_o,c_o,rfl,hc_o⟩
    refine aA (fun m=>(m.ord 0 rfl).2.1) fun hA_o=> ?_
    refine aQ (fun w m=>m.bN 0 rfl (show _=aH 156 2 (.slice A_o (k+1) c_o) (k+1) (fc (out++[x]))from congrArg (aH _ _ _ _) (iF ..).symm)) ?_
    refine hy (fun _=>ab rfl)<|ai<|al (ρ' :=[(5,_),(37,_),(25,_),(11,_),(6,_),(7,_),(4,_),(3,_),(0,_),(1,_)]) ⟨rfl,rfl,rfl,rfl,rfl,rfl,rfl,rfl,rfl,rfl,trivial⟩<|ak (X' :=[_,_,_]) (S' :=[_]) (fun _ m=>m)<|aO<|ag<|aj<|hy (fun _=>aa rfl)<|hy (fun _=>aN rfl rfl (bF (by omega) (by omega)))<|hy (fun _=>ab rfl)<|ai<|al (ρ' :=[(7,_),(5,_),(37,_),(25,_),(11,_),(6,_),(4,_),(3,_),(0,_),(1,_)]) ⟨rfl,rfl,rfl,rfl,rfl,rfl,rfl,rfl,rfl,rfl,trivial⟩<| ?_
    refine eX (i+1) A_o (k+1) c_o (out++[x]) true ⟨rfl,rfl,rfl,rfl,rfl,rfl,rfl,trivial⟩ [0,1] rfl [0] rfl (⟨by omega,by rw[hs,if_pos hne],by rw[List.length_append,hk.symm];rfl,by simp at hki ⊢;omega⟩) (by omega)
   ·have hne:¬x.1≠f.1:=fun e=>h1 (fun h=>e (cN.1 h))
    refine aB<|aO<|ag<|aj<|hy (fun _=>aa rfl)<|hy (fun _=>aN rfl rfl (bF (by omega) (by omega)))<|hy (fun _=>ab rfl)<|ai<|al (ρ' :=[(7,_),(37,_),(25,_),(11,_),(5,_),(6,_),(4,_),(3,_),(0,_),(1,_)]) ⟨rfl,rfl,rfl,rfl,rfl,rfl,rfl,rfl,rfl,rfl,trivial⟩<| ?_
    refine eX (i+1) A1 (k) c1 (out) true ⟨rfl,rfl,rfl,rfl,rfl,rfl,rfl,trivial⟩ [0,0] rfl [0] rfl (⟨by omega,by rw[hs,if_neg hne],hk.symm.symm,by simp at hki ⊢;omega⟩) (by omega)
  ·obtain rfl:pt=false:=by simpa using hp
   by_cases hge:nk x.1 f.1=false
   ·simp only[hge,and_self,if_true]at hs
    refine aB<|ag<|ah<|aK<|ah<|ah<|cT [] [(0,some 0),(1,some 0),(2,some 0),(3,some 0),(4,some 0),(5,some 0),(6,some 0),(7,some 0),(8,some 0),(9,some 0),(10,some 0),(11,some 0)] (by kernel_rfl) (by kernel_rfl) rfl 99<|an (aa rfl)<|an ((jl rfl))<|an (aa rfl)<|bm (o:=_) rfl rfl rfl (aa rfl)<|bm (o:=_) rfl rfl rfl (aa rfl)<|bm (o:=_) rfl rfl rfl (cD rfl rfl Tryz.underlying36 fa hA_r rfl (by omega))<|bm (o:=_) rfl rfl rfl (aI rfl eQ (by decide))<|iV (o:=_) rfl rfl rfl (fun m=>yV (aw rfl lz (fm (m.rd 0 rfl) g0)) ((rfl:_=Value.string (strOf x.1))))<|bm (o:=_) rfl rfl rfl (aI rfl eQ (by decide))<|iV (o:=_) rfl rfl rfl (fun m=>yV (aw rfl lz (aE (m.aZ 1 rfl) (i:=0) rfl)) ((rfl:_=Value.string (strOf f.1))))<|bm (o:=_) rfl rfl rfl (yT (Dt rfl rfl) ((by show(!nk x.1 f.1)=true;rw[hge];rfl)))<|an (bT rfl rfl)<|bz<|al (ρ' :=[(25,_),(11,_),(5,_),(6,_),(7,_),(4,_),(3,_),(0,_),(1,_)]) ⟨rfl,rfl,rfl,rfl,rfl,rfl,rfl,rfl,rfl,trivial⟩<|ag<| ?_
    refine gY rfl (rfl) ?_
    refine ah<|aj<|hy (fun _=>aa rfl)<|hy (fun m=>yV (aU rfl qV fa rfl ((m.aZ 1 rfl).ax)) ((rfl:_=Value.agg [SV f.1,SV f.2].toArray)))<| ?_
    refine hx (b6 Tryz.underlying36 jg rfl rfl rfl (by simp[Value.cells,B8]) (by decide) (by decide) (fun g28=> ?_))
    have hA_b28:0<1→(some (⟨g28,0,none⟩:Addr))≠none:=fun _ h=>by cases h
    refine aQ (fun w m=>m.bN 0 rfl (show _=aH 156 2 (.slice (some ⟨g28,0,none⟩) 1 1) 1 (fc [f])from rfl)) ?_
    refine hx (bx 1 rfl rfl rfl Tryz.underlying36 Tryz.underlying36 (by exact .inl rfl) jg rfl (fun m=>Src.bR (m.ord 0 rfl)) nY (by unfold maxLen;omega) (by omega) (fun u=> ?_))
    refine aA (fun m=>(m.own 0 rfl).slice) ?_
    rintro⟨A_o,c_o,rfl,hc_o⟩
    refine aA (fun m=>(m.ord 0 rfl).2.1) fun hA_o=> ?_
    refine aQ (fun w m=>m.bN 0 rfl (show _=aH 156 2 (.slice A_o (k+1) c_o) (k+1) (fc (out++[f]))from congrArg (aH _ _ _ _) (iF ..).symm)) ?_
    have hk1:(out++[f]).length=k+1:=by rw[List.length_append,hk];rfl
    refine hy (fun _=>ab rfl)<|ai<|al (ρ' :=[(5,_),(25,_),(11,_),(6,_),(7,_),(4,_),(3,_),(0,_),(1,_)]) ⟨rfl,rfl,rfl,rfl,rfl,rfl,rfl,rfl,rfl,trivial⟩<|ak (X' :=[_,_,_]) (S' :=[_]) (fun _ m=>m)<|ag<|aj<|hy (fun _=>ab rfl)<|ai<|ag<|ah<|cT [] [(0,some 0),(1,some 0),(2,some 0),(3,some 0),(4,some 0),(5,some 0),(6,some 0),(7,some 0)] (by kernel_rfl) (by kernel_rfl) rfl 99<|an (aa rfl)<|an (aa rfl)<|an (cD rfl rfl Tryz.underlying36 fa hA_r rfl (by omega))<|an (aI rfl eQ (by decide))<|cq (fun m=>yV (aw rfl lz (fm (m.rd 0 rfl) g0)) ((rfl:_=Value.string (strOf x.1))))<|an (aI rfl eQ (by decide))<|cq (fun m=>yV (aw rfl lz (aE (m.aZ 2 rfl) (i:=0) rfl)) ((rfl:_=Value.string (strOf f.1))))<|an (oC rfl rfl)<|bz<|al (ρ' :=[(37,_),(6,_),(5,_),(25,_),(11,_),(7,_),(4,_),(3,_),(0,_),(1,_)]) ⟨rfl,rfl,rfl,rfl,rfl,rfl,rfl,rfl,rfl,rfl,trivial⟩<|ag<| ?_
    refine cG rfl (fun h1=> ?_) (fun h1=> ?_)
    ·have hne:x.1≠f.1:=fun e=>h1 (cN.2 e)
     refine aj<|hy (fun _=>aa rfl)<|hy (fun _=>aa rfl)<|hy (fun _=>aa rfl)<|hy (fun _=>cD rfl rfl Tryz.underlying36 fa hA_r rfl (by omega))<|hy (fun m=>yV (aU rfl qV fa rfl (mR (m.rd 0 rfl) hgx)) ((rfl:_=Value.agg [SV x.1,SV x.2].toArray)))<| ?_
     refine hx (b6 Tryz.underlying36 jg rfl rfl rfl (by simp[Value.cells,B8]) (by decide) (by decide) (fun g43=> ?_))
     have hA_b43:0<1→(some (⟨g43,0,none⟩:Addr))≠none:=fun _ h=>by cases h
     refine aQ (fun w m=>m.bN 0 rfl (show _=aH 156 2 (.slice (some ⟨g43,0,none⟩) 1 1) 1 (fc [x])from rfl)) ?_
     refine hx (bx 1 rfl rfl rfl Tryz.underlying36 Tryz.underlying36 (by exact .inl rfl) jg rfl (fun m=>Src.bR (m.ord 0 rfl)) nY (by unfold maxLen;omega) (by omega) (fun u2=> ?_))
     refine aA (fun m=>(m.own 0 rfl).slice) ?_
     rintro⟨A_o2,c_o2,rfl,hc_o⟩
     refine aA (fun m=>(m.ord 0 rfl).2.1) fun hA_o=> ?_
     refine aQ (fun w m=>m.bN 0 rfl (show _=aH 156 2 (.slice A_o2 (k+1+1) c_o2) (k+1+1) (fc ((out++[f])++[x]))from congrArg (aH _ _ _ _) (iF ..).symm)) ?_
     refine hy (fun _=>ab rfl)<|ai<|al (ρ' :=[(5,_),(37,_),(6,_),(25,_),(11,_),(7,_),(4,_),(3,_),(0,_),(1,_)]) ⟨rfl,rfl,rfl,rfl,rfl,rfl,rfl,rfl,rfl,rfl,trivial⟩<|ak (X' :=[_,_,_,_]) (S' :=[_]) (fun _ m=>m)<|aO<|ag<|aj<|hy (fun _=>aa rfl)<|hy (fun _=>aN rfl rfl (bF (by omega) (by omega)))<|hy (fun _=>ab rfl)<|ai<|al (ρ' :=[(7,_),(5,_),(37,_),(6,_),(25,_),(11,_),(4,_),(3,_),(0,_),(1,_)]) ⟨rfl,rfl,rfl,rfl,rfl,rfl,rfl,rfl,rfl,rfl,trivial⟩<| ?_
     refine eX (i+1) A_o2 (k+1+1) c_o2 ((out++[f])++[x]) true ⟨rfl,rfl,rfl,rfl,rfl,rfl,rfl,trivial⟩ [0,2] rfl [0] rfl (⟨by omega,by rw[hs,if_pos hne],by rw[List.length_append,hk1];rfl,by simp at hki ⊢;omega⟩) (by omega)
    ·have hne:¬x.1≠f.1:=fun e=>h1 (fun h=>e (cN.1 h))
     refine aB<|aO<|ag<|aj<|hy (fun _=>aa rfl)<|hy (fun _=>aN rfl rfl (bF (by omega) (by omega)))<|hy (fun _=>ab rfl)<|ai<|al (ρ' :=[(7,_),(37,_),(6,_),(5,_),(25,_),(11,_),(4,_),(3,_),(0,_),(1,_)]) ⟨rfl,rfl,rfl,rfl,rfl,rfl,rfl,rfl,rfl,rfl,trivial⟩<| ?_
     refine eX (i+1) A_o (k+1) c_o ((out++[f])) true ⟨rfl,rfl,rfl,rfl,rfl,rfl,rfl,trivial⟩ [0,1] rfl [0] rfl (⟨by omega,by rw[hs,if_neg hne],hk1.symm,by simp at hki ⊢;omega⟩) (by omega)
   ·have hlt:nk x.1 f.1=true:=by simpa using hge
    simp only[hlt,Bool.true_eq_false,and_false,if_false]at hs
    refine aB<|ag<|ah<|aK<|ah<|ah<|cT [] [(0,some 0),(1,some 0),(2,some 0),(3,some 0),(4,some 0),(5,some 0),(6,some 0),(7,some 0),(8,some 0),(9,some 0),(10,some 0),(11,some 0)] (by kernel_rfl) (by kernel_rfl) rfl 99<|an (aa rfl)<|an ((jl rfl))<|an (aa rfl)<|bm (o:=_) rfl rfl rfl (aa rfl)<|bm (o:=_) rfl rfl rfl (aa rfl)<|bm (o:=_) rfl rfl rfl (cD rfl rfl Tryz.underlying36 fa hA_r rfl (by omega))<|bm (o:=_) rfl rfl rfl (aI rfl eQ (by decide))<|iV (o:=_) rfl rfl rfl (fun m=>yV (aw rfl lz (fm (m.rd 0 rfl) g0)) ((rfl:_=Value.string (strOf x.1))))<|bm (o:=_) rfl rfl rfl (aI rfl eQ (by decide))<|iV (o:=_) rfl rfl rfl (fun m=>yV (aw rfl lz (aE (m.aZ 1 rfl) (i:=0) rfl)) ((rfl:_=Value.string (strOf f.1))))<|bm (o:=_) rfl rfl rfl (yF (Dt rfl rfl) ((by show(!nk x.1 f.1)=false;rw[hlt];rfl)))<|an (bT rfl rfl)<|bz<|al (ρ' :=[(25,_),(11,_),(5,_),(6,_),(7,_),(4,_),(3,_),(0,_),(1,_)]) ⟨rfl,rfl,rfl,rfl,rfl,rfl,rfl,rfl,rfl,trivial⟩<|ag<| ?_
    refine dB rfl (rfl) ?_
    refine aB<|ag<|ah<|cT [] [(0,some 0),(1,some 0),(2,some 0),(3,some 0),(4,some 0),(5,some 0),(6,some 0),(7,some 0)] (by kernel_rfl) (by kernel_rfl) rfl 99<|an (aa rfl)<|an (aa rfl)<|an (cD rfl rfl Tryz.underlying36 fa hA_r rfl (by omega))<|an (aI rfl eQ (by decide))<|cq (fun m=>yV (aw rfl lz (fm (m.rd 0 rfl) g0)) ((rfl:_=Value.string (strOf x.1))))<|an (aI rfl eQ (by decide))<|cq (fun m=>yV (aw rfl lz (aE (m.aZ 1 rfl) (i:=0) rfl)) ((rfl:_=Value.string (strOf f.1))))<|an (oC rfl rfl)<|bz<|al (ρ' :=[(37,_),(25,_),(11,_),(5,_),(6,_),(7,_),(4,_),(3,_),(0,_),(1,_)]) ⟨rfl,rfl,rfl,rfl,rfl,rfl,rfl,rfl,rfl,rfl,trivial⟩<|ag<| ?_
    refine cG rfl (fun h1=> ?_) (fun h1=> ?_)
    ·have hne:x.1≠f.1:=fun e=>h1 (cN.2 e)
     refine aj<|hy (fun _=>aa rfl)<|hy (fun _=>aa rfl)<|hy (fun _=>aa rfl)<|hy (fun _=>cD rfl rfl Tryz.underlying36 fa hA_r rfl (by omega))<|hy (fun m=>yV (aU rfl qV fa rfl (mR (m.rd 0 rfl) hgx)) ((rfl:_=Value.agg [SV x.1,SV x.2].toArray)))<| ?_
     refine hx (b6 Tryz.underlying36 jg rfl rfl rfl (by simp[Value.cells,B8]) (by decide) (by decide) (fun g43=> ?_))
     have hA_b43:0<1→(some (⟨g43,0,none⟩:Addr))≠none:=fun _ h=>by cases h
     refine aQ (fun w m=>m.bN 0 rfl (show _=aH 156 2 (.slice (some ⟨g43,0,none⟩) 1 1) 1 (fc [x])from rfl)) ?_
     refine hx (bx 1 rfl rfl rfl Tryz.underlying36 Tryz.underlying36 (by exact .inl rfl) jg rfl (fun m=>Src.bR (m.ord 0 rfl)) nY (by unfold maxLen;omega) (by omega) (fun u=> ?_))
     refine aA (fun m=>(m.own 0 rfl).slice) ?_
     rintro⟨A_o,c_o,rfl,hc_o⟩
     refine aA (fun m=>(m.ord 0 rfl).2.1) fun hA_o=> ?_
     refine aQ (fun w m=>m.bN 0 rfl (show _=aH 156 2 (.slice A_o (k+1) c_o) (k+1) (fc (out++[x]))from congrArg (aH _ _ _ _) (iF ..).symm)) ?_
     refine hy (fun _=>ab rfl)<|ai<|al (ρ' :=[(5,_),(37,_),(25,_),(11,_),(6,_),(7,_),(4,_),(3,_),(0,_),(1,_)]) ⟨rfl,rfl,rfl,rfl,rfl,rfl,rfl,rfl,rfl,rfl,trivial⟩<|ak (X' :=[_,_,_]) (S' :=[_]) (fun _ m=>m)<|aO<|ag<|aj<|hy (fun _=>aa rfl)<|hy (fun _=>aN rfl rfl (bF (by omega) (by omega)))<|hy (fun _=>ab rfl)<|ai<|al (ρ' :=[(7,_),(5,_),(37,_),(25,_),(11,_),(6,_),(4,_),(3,_),(0,_),(1,_)]) ⟨rfl,rfl,rfl,rfl,rfl,rfl,rfl,rfl,rfl,rfl,trivial⟩<| ?_
     refine eX (i+1) A_o (k+1) c_o (out++[x]) false ⟨rfl,rfl,rfl,rfl,rfl,rfl,rfl,trivial⟩ [0,1] rfl [0] rfl (⟨by omega,by rw[hs,if_pos hne],by rw[List.length_append,hk.symm];rfl,by simp at hki ⊢;omega⟩) (by omega)
    ·have hne:¬x.1≠f.1:=fun e=>h1 (fun h=>e (cN.1 h))
     refine aB<|aO<|ag<|aj<|hy (fun _=>aa rfl)<|hy (fun _=>aN rfl rfl (bF (by omega) (by omega)))<|hy (fun _=>ab rfl)<|ai<|al (ρ' :=[(7,_),(37,_),(25,_),(11,_),(5,_),(6,_),(4,_),(3,_),(0,_),(1,_)]) ⟨rfl,rfl,rfl,rfl,rfl,rfl,rfl,rfl,rfl,rfl,trivial⟩<| ?_
     refine eX (i+1) A1 (k) c1 (out) false ⟨rfl,rfl,rfl,rfl,rfl,rfl,rfl,trivial⟩ [0,0] rfl [0] rfl (⟨by omega,by rw[hs,if_neg hne],hk.symm.symm,by simp at hki ⊢;omega⟩) (by omega)
 ·obtain rfl:i=n:=by omega
  have hww:B6 f l l.length=(out,pt):=by rw[hl];exact hw
  by_cases hp:pt=true
  ·subst hp
   have hW:gT l f=out:=by rw[gT,hww];rfl
   refine bL<|ao<|ao<|aD<|ag<|ah<|ah<|aj<|hy (fun _=>aa rfl)<|hy (fun _=>(jl rfl))<|ai<|al (ρ' :=[(46,_),(11,_),(5,_),(6,_),(7,_),(4,_),(3,_),(0,_),(1,_)]) ⟨rfl,rfl,rfl,rfl,rfl,rfl,rfl,rfl,rfl,trivial⟩<|ag<| ?_
   refine dB rfl (rfl) ?_
   refine aB<|ag<|ah<|aj<|hy (fun _=>aa rfl)<|hy (fun _=>ab rfl)<|ai<|al (ρ' :=[(4,_),(46,_),(11,_),(5,_),(6,_),(7,_),(3,_),(0,_),(1,_)]) ⟨rfl,rfl,rfl,rfl,rfl,rfl,rfl,rfl,rfl,trivial⟩<|ag<|aX<| ?_
   refine ak (fun w m=>m.bN 0 rfl (show _=aH 156 2 (.slice A1 k c1) k (fc (gT l f))from by rw[hW])) ?_
   exact bh trivial rfl rfl [0] rfl [] rfl ⟨_,_,rfl,rfl,rfl,⟨by rw[hW];exact hk,by simp at hki;omega⟩⟩
  ·obtain rfl:pt=false:=by simpa using hp
   have hW:gT l f=out++[f]:=by rw[gT,hww];rfl
   refine bL<|ao<|ao<|aD<|ag<|ah<|ah<|aj<|hy (fun _=>aa rfl)<|hy (fun _=>(jl rfl))<|ai<|al (ρ' :=[(46,_),(11,_),(5,_),(6,_),(7,_),(4,_),(3,_),(0,_),(1,_)]) ⟨rfl,rfl,rfl,rfl,rfl,rfl,rfl,rfl,rfl,trivial⟩<|ag<| ?_
   refine gY rfl (rfl) ?_
   refine aj<|hy (fun _=>aa rfl)<|hy (fun m=>yV (aU rfl qV fa rfl ((m.aZ 1 rfl).ax)) ((rfl:_=Value.agg [SV f.1,SV f.2].toArray)))<| ?_
   refine hx (b6 Tryz.underlying36 jg rfl rfl rfl (by simp[Value.cells,B8]) (by decide) (by decide) (fun g49=> ?_))
   have hA_b49:0<1→(some (⟨g49,0,none⟩:Addr))≠none:=fun _ h=>by cases h
   refine aQ (fun w m=>m.bN 0 rfl (show _=aH 156 2 (.slice (some ⟨g49,0,none⟩) 1 1) 1 (fc [f])from rfl)) ?_
   refine hx (bx 1 rfl rfl rfl Tryz.underlying36 Tryz.underlying36 (by exact .inl rfl) jg rfl (fun m=>Src.bR (m.ord 0 rfl)) nY (by unfold maxLen;omega) (by omega) (fun u=> ?_))
   refine aA (fun m=>(m.own 0 rfl).slice) ?_
   rintro⟨A_o,c_o,rfl,hc_o⟩
   refine aA (fun m=>(m.ord 0 rfl).2.1) fun hA_o=> ?_
   refine aQ (fun w m=>m.bN 0 rfl (show _=aH 156 2 (.slice A_o (k+1) c_o) (k+1) (fc (gT l f))from(congrArg (aH _ _ _ _) ((iF ..).symm.trans (congrArg fc hW.symm))))) ?_
   refine hy (fun _=>ab rfl)<|ai<|al (ρ' :=[(5,_),(46,_),(11,_),(6,_),(7,_),(4,_),(3,_),(0,_),(1,_)]) ⟨rfl,rfl,rfl,rfl,rfl,rfl,rfl,rfl,rfl,trivial⟩<|ak (X' :=[_,_,_]) (S' :=[_]) (fun _ m=>m)<|ag<|ah<|aj<|hy (fun _=>aa rfl)<|hy (fun _=>ab rfl)<|ai<|al (ρ' :=[(4,_),(5,_),(46,_),(11,_),(6,_),(7,_),(3,_),(0,_),(1,_)]) ⟨rfl,rfl,rfl,rfl,rfl,rfl,rfl,rfl,rfl,trivial⟩<|ag<|aX<| ?_
   exact bh trivial rfl rfl [0] rfl [] rfl ⟨_,_,rfl,rfl,rfl,⟨by rw[hW,List.length_append,hk];rfl,by simp at hki;omega⟩⟩
end Go.Proofs.YtmibdabdlgmafaaGreatDoor
end
section
set_option maxRecDepth 20000
namespace Go.Proofs.YtmibdabdlgmafaaGreatDoor
open Go.Eng Go.Hx
def dA(l:List FP)(p:List UInt8):List FP:=l.filter fun x=>decide (x.1≠p)
def cv(k:Int)(p t b:List UInt8):List Value:=[.int .i64 k,SV p,SV t,SV b]
def dG(l:List FP)(k:Int)(p t b:List UInt8):List FP:=
 if k=0 then gT l (p,b)else match l[cK l p]? with
  |none=>l
  |some x=>if k=2 then dA l p else gT (dA l p) (t,x.2)
theorem iH{l:List FP}{p:List UInt8}:lr l p<0↔l[cK l p]? =none:=by
 unfold lr
 by_cases h:cK l p<l.length
 ·rw[if_pos h,List.getElem?_eq_getElem h];simp
 ·rw[if_neg h,List.getElem?_eq_none (by omega)];simp
theorem Ed{A:Option Addr}{n c:Nat}{l:List FP}{k:Int}{p t bb:List UInt8}(hl:l.length=n)(hn:n≤900000):cf Tryz.prog 162 [.slice A n c,.agg (cv k p t bb).toArray] [] [di 2 A n (fc l)] (fun v_ X_ S_=>∃A1 n1 c1,v_=(.slice A1 n1 c1)∧X_=[]∧S_=[di 2 A1 n1 (fc (dG l k p t bb))]∧(n1=(dG l k p t bb).length∧n1≤n+1)):=by
 refine aP (N:=43) Tryz.func162 rfl rfl (by simp) fun b=> ?_
 refine a6 (fun m=>gX (m.rd 0 rfl)) ?_
 rintro⟨hl_r,hA_r⟩
 refine ah<|aj<| ?_
 refine hx (cw rfl (fun g3=> ?_))
 refine aQ (fun w m=>m.bN 0 rfl (show _=aL g3 186 (cv k p t bb)from congrArg (aL _ _) (bu _))) ?_
 refine hy (fun _=>ab rfl)<|ai<|ak (X' :=[_]) (S' :=[_]) (fun _ m=>m)<|ag<|ah<|ah<|aj<|hy (fun _=>aI rfl vZ (by decide))<|hy (fun m=>aw rfl fZ (aE (m.aZ 0 rfl) (i:=0) rfl))<|hy (fun _=>cM rfl rfl)<|ai<|al (ρ' :=[(8,_),(4,_),(3,_),(0,_),(1,_)]) ⟨rfl,rfl,rfl,rfl,rfl,trivial⟩<|ag<| ?_
 refine cG rfl (fun h0=> ?_) (fun h0=> ?_)
 ·have hM:dG l k p t bb=gT l (p,bb):=by rw[dG,if_pos h0]
  refine ah<|aj<|hy (fun _=>aa rfl)<|hy (fun _=>aI rfl pb (by decide))<|hy (fun m=>yV (aw rfl lz (aE (m.aZ 0 rfl) (i:=1) rfl)) ((rfl:_=SV p)))<|hy (fun _=>aI rfl Cx (by decide))<|hy (fun m=>yV (aw rfl lz (aE (m.aZ 0 rfl) (i:=3) rfl)) ((rfl:_=SV bb)))<|hy (fun _=>yV (cA jg rfl rfl (by kernel_rfl) (.cons (o:=0) (sz:=1) (by kernel_rfl) rfl rfl (Nat.le_of_ble_eq_true rfl) (.cons (o:=1) (sz:=1) (by kernel_rfl) rfl rfl (Nat.le_of_ble_eq_true rfl) .nil))) ((rfl:_=Value.agg [SV p,SV bb].toArray)))<| ?_
  refine hx (aq rfl Tryz.call220 (Ar (by omega) (by omega) (f:=(p,bb))) [] rfl [0] rfl ?_)
  rintro _ _ _ ⟨v,k2,rfl,rfl,rfl,hp⟩
  refine aA (fun m=>(m.own 0 rfl).slice) ?_
  rintro⟨A_x,c_x,rfl,hc_x⟩
  refine aA (fun m=>(m.ord 0 rfl).2.1) fun hA_x=> ?_
  refine hy (fun _=>ab rfl)<|ai<|al (ρ' :=[(4,_),(8,_),(3,_),(0,_),(1,_)]) ⟨rfl,rfl,rfl,rfl,rfl,trivial⟩<|ak (X' :=[_,_]) (S' :=[_]) (fun _ m=>m)<|ag<|aX<|ay<| ?_
  rw[←hM]at hp
  refine ak (fun w m=>m.bN 0 rfl (show _=aH 156 2 (.slice A_x k2 c_x) k2 (fc (dG l k p t bb))from by rw[hM])) ?_
  refine ak (fun w m=>(m.perm (au [0] _ [_] _ rfl)).freeze) ?_
  refine ak (fun w m=>m.jL 0 rfl .own) ?_
  refine sa (fun m=>gX (m.rd 0 rfl)) ?_
  rintro⟨hl_xr,hA_xr⟩
  exact bh trivial rfl rfl [] rfl [0] rfl ⟨_,_,_,rfl,rfl,rfl,hp⟩
 ·refine aB<|ag<|ah<|aj<|hy (fun _=>aa rfl)<|hy (fun _=>aI rfl pb (by decide))<|hy (fun m=>yV (aw rfl lz (aE (m.aZ 0 rfl) (i:=1) rfl)) ((rfl:_=SV p)))<| ?_
  refine hx (aq rfl Tryz.call113 (vx (by omega) (by omega)) [] rfl [0] rfl ?_)
  rintro _ _ _ ⟨rfl,rfl,rfl⟩
  refine hy (fun _=>ab rfl)<|ai<|al (ρ' :=[(5,_),(8,_),(4,_),(3,_),(0,_),(1,_)]) ⟨rfl,rfl,rfl,rfl,rfl,rfl,trivial⟩<|ak (X' :=[_]) (S' :=[_]) (fun _ m=>m)<|ag<|ah<|ah<|aj<|hy (fun _=>aa rfl)<|hy (fun _=>bw rfl rfl)<|ai<|al (ρ' :=[(21,_),(5,_),(8,_),(4,_),(3,_),(0,_),(1,_)]) ⟨rfl,rfl,rfl,rfl,rfl,rfl,rfl,trivial⟩<|ag<| ?_
  refine cG rfl (fun h1=> ?_) (fun h1=> ?_)
  ·have hM:dG l k p t bb=l:=by rw[dG,if_neg h0,iH.1 h1]
   refine ah<|aj<|hy (fun _=>aa rfl)<|hy (fun _=>ab rfl)<|ai<|al (ρ' :=[(4,_),(21,_),(5,_),(8,_),(3,_),(0,_),(1,_)]) ⟨rfl,rfl,rfl,rfl,rfl,rfl,rfl,trivial⟩<|ag<|aX<|ay<| ?_
   rw[hM]
   exact bh trivial rfl rfl [] rfl [0] rfl ⟨_,_,_,rfl,rfl,rfl,⟨hl.symm,by omega⟩⟩
  ·obtain⟨x0,cH⟩:∃x0,l[cK l p]? =some x0:=by
    cases hq:l[cK l p]? with
    |none=>exact absurd (iH.2 hq) h1
    |some x0=>exact⟨x0,rfl⟩
   have hfl:cK l p<l.length:=(List.getElem?_eq_some_iff.1 cH).1
   obtain⟨f0,f1⟩:=iR l _ x0 cH
   have hfi:lr l p=(cK l p:Nat):=by rw[lr,if_pos hfl]
   have hwl:(dA l p).length≤l.length:=List.length_filter_le ..
   refine aB<|ag<|ah<|ah<|aj<|hy (fun _=>aI rfl vZ (by decide))<|hy (fun m=>aw rfl fZ (aE (m.aZ 0 rfl) (i:=0) rfl))<|hy (fun _=>cM rfl rfl)<|ai<|al (ρ' :=[(25,_),(21,_),(5,_),(8,_),(4,_),(3,_),(0,_),(1,_)]) ⟨rfl,rfl,rfl,rfl,rfl,rfl,rfl,rfl,trivial⟩<|ag<| ?_
   refine cG rfl (fun h2=> ?_) (fun h2=> ?_)
   ·have hM:dG l k p t bb=dA l p:=by rw[dG,if_neg h0,cH];simp only[if_pos h2]
    refine ah<|aj<|hy (fun _=>aa rfl)<|hy (fun _=>aI rfl pb (by decide))<|hy (fun m=>yV (aw rfl lz (aE (m.aZ 0 rfl) (i:=1) rfl)) ((rfl:_=SV p)))<| ?_
    refine hx (aq rfl Tryz.call221 (q9 (by omega) (by omega)) [] rfl [0] rfl ?_)
    rintro _ _ _ ⟨v,k2,rfl,rfl,rfl,hp⟩
    refine aA (fun m=>(m.own 0 rfl).slice) ?_
    rintro⟨A_x,c_x,rfl,hc_x⟩
    refine aA (fun m=>(m.ord 0 rfl).2.1) fun hA_x=> ?_
    refine hy (fun _=>ab rfl)<|ai<|al (ρ' :=[(4,_),(25,_),(21,_),(5,_),(8,_),(3,_),(0,_),(1,_)]) ⟨rfl,rfl,rfl,rfl,rfl,rfl,rfl,rfl,trivial⟩<|ak (X' :=[_,_]) (S' :=[_]) (fun _ m=>m)<|ag<|aX<|ay<| ?_
    refine ak (fun w m=>m.bN 0 rfl (show _=aH 156 2 (.slice A_x k2 c_x) k2 (fc (dG l k p t bb))from by rw[hM];rfl)) ?_
    refine ak (fun w m=>(m.perm (au [0] _ [_] _ rfl)).freeze) ?_
    refine ak (fun w m=>m.jL 0 rfl .own) ?_
    refine sa (fun m=>gX (m.rd 0 rfl)) ?_
    rintro⟨hl_xr,hA_xr⟩
    exact bh trivial rfl rfl [] rfl [0] rfl ⟨_,_,_,rfl,rfl,rfl,⟨hp.trans (congrArg List.length hM.symm),by rw[hp];show(dA l p).length≤_;omega⟩⟩
   ·have hM:dG l k p t bb=gT (dA l p) (t,x0.2):=by rw[dG,if_neg h0,cH];simp only[if_neg h2]
    refine aB<|ag<|ah<|cT [3,12] [(0,some 0),(1,some 0),(2,some 0),(4,some 1),(5,some 1),(6,some 2),(7,some 2),(8,some 1),(9,some 1),(10,some 1),(11,some 1),(3,none),(12,none),(13,some 2)] (by kernel_rfl) (by kernel_rfl) rfl 99<|an (aa rfl)<|an (aI rfl pb (by decide))<|cq (fun m=>yV (aw rfl lz (aE (m.aZ 0 rfl) (i:=1) rfl)) ((rfl:_=SV p)))<|an (aI rfl BG (by decide))<|cq (fun m=>yV (aw rfl lz (aE (m.aZ 0 rfl) (i:=2) rfl)) ((rfl:_=SV t)))<|an (aa rfl)<|an (aa rfl)<|an (cD rfl rfl Tryz.underlying36 fa hA_r hfi.symm (by omega))<|an (aI rfl o5 (by decide))<|cq (fun m=>yV (aw rfl lz (fm (m.rd 0 rfl) f1)) ((rfl:_=SV x0.2)))<|an (yV (cA jg rfl rfl (by kernel_rfl) (.cons (o:=0) (sz:=1) (by kernel_rfl) rfl rfl (Nat.le_of_ble_eq_true rfl) (.cons (o:=1) (sz:=1) (by kernel_rfl) rfl rfl (Nat.le_of_ble_eq_true rfl) .nil))) ((rfl:_=Value.agg [SV t,SV x0.2].toArray)))<| ?_
    refine ek (aq rfl Tryz.call221 (q9 (by omega) (by omega)) [] rfl [0] rfl ?_)
    rintro _ _ _ ⟨v,k2,rfl,rfl,rfl,hp⟩
    refine⟨(fun _=>wk [1] [0] rfl rfl), ?_⟩
    refine cm (fun m=>(m.own 0 rfl).slice) ?_
    rintro⟨A_x,c_x,rfl,hc_x⟩
    refine cm (fun m=>(m.ord 0 rfl).2.1) fun hA_x=> ?_
    have hk2:k2=(dA l p).length:=hp
    clear hp
    refine ek (cI rfl Tryz.call220 (Ar (by omega) (by omega) (l:=(dA l p)) (f:=(t,x0.2))) [] rfl (.x 0 rfl .own .nil) ?_)
    rintro _ _ _ ⟨v2,k3,rfl,rfl,rfl,hp2⟩
    refine⟨rfl, ?_⟩
    refine⟨(fun _=>wk [2] [0] rfl rfl), ?_⟩
    refine cm (fun m=>(m.own 0 rfl).slice) ?_
    rintro⟨A_x2,c_x2,rfl,hc_x2⟩
    refine cm (fun m=>(m.ord 0 rfl).2.1) fun hA_x2=> ?_
    refine an (ab rfl)<|bz<|al (ρ' :=[(4,_),(25,_),(21,_),(5,_),(8,_),(3,_),(0,_),(1,_)]) ⟨rfl,rfl,rfl,rfl,rfl,rfl,rfl,rfl,trivial⟩<|ak (X' :=[_,_,_]) (S' :=[_]) (fun _ m=>m)<|ag<|aX<| ?_
    rw[hM]
    refine ak (fun w m=>(m.perm (au [0] _ [_] _ rfl)).freeze) ?_
    refine ak (fun w m=>m.jL 0 rfl .own) ?_
    refine sa (fun m=>gX (m.rd 0 rfl)) ?_
    rintro⟨hl_x2r,hA_x2r⟩
    exact bh trivial rfl rfl [] rfl [0] rfl ⟨_,_,_,rfl,rfl,rfl,⟨hp2.1,by omega⟩⟩
abbrev RC:=Int×List UInt8×List UInt8×List UInt8
def uY(l:List RC):List Value:=l.flatMap fun x=>cv x.1 x.2.1 x.2.2.1 x.2.2.2
theorem vy(a b:List RC):uY (a++b)=uY a++uY b:=by simp[uY]
theorem wG{l:List RC}:∀u∈uY l,u.oneCell' =true:=by
 intro u hu
 obtain⟨x,_,h⟩:=List.mem_flatMap.1 hu
 simp only[cv,List.mem_cons,List.not_mem_nil,or_false]at h
 rcases h with rfl|rfl|rfl|rfl <;> rfl
theorem jH{room pw:Int}{A A2 A3:Option Addr}{n c n2 c2 n3 c3:Nat}:∀u∈dv room (.slice A n c) (.slice A2 n2 c2) (.slice A3 n3 c3) pw,u.oneCell' =true:=by
 intro u hu
 simp only[dv,List.mem_cons,List.not_mem_nil,or_false]at hu
 rcases hu with rfl|rfl|rfl|rfl|rfl <;> rfl
def dU(pw:Int):Int:=if 0<pw then pw-1 else pw
theorem Fy{room pw:Int}{A Al A3:Option Addr}{n c nl cl n3 c3:Nat}{l:List FP}{wl:List RC}{k:Int}{p t bb:List UInt8}(hl:l.length=n)(hn:n≤900000)(hw:wl.length=n3)(hn3:n3≤900000)(hp1:-10≤pw)(hp2:pw≤1000000000000):cf Tryz.prog 114 [.agg (dv room (.slice A n c) (.slice Al nl cl) (.slice A3 n3 c3) pw).toArray,.agg (cv k p t bb).toArray] [] [di 2 A n (fc l),di 4 A3 n3 (uY wl)] (fun v_ X_ S_=>∃A1 n1 c1 A2 n2 c2,v_=(.agg (dv room (.slice A1 n1 c1) (.slice Al nl cl) (.slice A2 n2 c2) (dU pw)).toArray)∧X_=[]∧S_=[di 2 A1 n1 (fc (dG l k p t bb)),di 4 A2 n2 (uY (wl++[(k,p,t,bb)]))]∧(n1=(dG l k p t bb).length∧n1≤n+1∧n2=n3+1)):=by
 refine aP (N:=28) Tryz.func114 rfl rfl (by simp) fun b=> ?_
 refine a6 (fun m=>gX (m.rd 0 rfl)) ?_
 rintro⟨hl_r,hA_r⟩
 refine a6 (fun m=>gX (m.rd 1 rfl)) ?_
 rintro⟨hl_w,hA_w⟩
 refine ah<|aj<| ?_
 refine hx (cw rfl (fun g2=> ?_))
 refine aQ (fun w m=>m.bN 0 rfl (show _=aL g2 39 (dv room (.slice A n c) (.slice Al nl cl) (.slice A3 n3 c3) pw)from congrArg (aL _ _) (bu _))) ?_
 refine hx (cw rfl (fun g3=> ?_))
 refine aQ (fun w m=>m.bN 0 rfl (show _=aL g3 186 (cv k p t bb)from congrArg (aL _ _) (bu _))) ?_
 refine hx (aM fO (fun g4=> ?_))
 refine ai<|ak (X' :=[_,_,_]) (S' :=[_,_]) (fun _ m=>m)<|ag<|ah<|aj<|hy (fun _=>aI rfl gD (by decide))<|hy (fun m=>aw rfl oQ (aE (m.aZ 2 rfl) (i:=1) rfl))<|hy (fun m=>yV (aU rfl DL Dq rfl ((m.aZ 1 rfl).ax)) ((rfl:_=Value.agg (cv k p t bb).toArray)))<| ?_
 refine hx (aq rfl Tryz.call162 (Ed (by omega) (by omega)) [] rfl [0] rfl ?_)
 rintro _ _ _ ⟨A1,n1,c1,rfl,rfl,rfl,hp⟩
 refine aA (fun m=>gX (m.rd 0 rfl)) ?_
 rintro⟨hl_q,hA_q⟩
 refine hy (fun _=>aI rfl gD (by decide))<| ?_
 refine cH (ct 2 rfl rfl rfl GO rfl (by first|exact Nat.le_of_ble_eq_true rfl|simp) ?_)
 refine ai<|al (ρ' :=[(4,_),(3,_),(2,_),(0,_),(1,_)]) ⟨rfl,rfl,rfl,rfl,rfl,trivial⟩<|ak (X' :=[_,_,_]) (S' :=[_,_,_]) (fun _ m=>m)<|ag<|ah<|aj<|hy (fun _=>ab rfl)<|ai<|ag<|ah<|aj<|hy (fun _=>aa rfl)<|hy (fun _=>aI rfl sH (by decide))<|hy (fun m=>aw rfl G0 (aE (m.aZ 0 rfl) rfl))<| ?_
 refine aQ (fun w m=>m.dj (r' :=aH 186 4 (.slice none 0 0) 0 []) (.refl _ _) (Own.nil _ _ _ _) (fun k hk=>hk.elim)) ?_
 refine hx (bx 0 rfl rfl rfl Tryz.underlying37 Tryz.underlying37 (by exact .inl rfl) pM rfl (fun m=>Src.bR (m.rd 2 rfl)) wG (by unfold maxLen;omega) (by omega) (fun u=> ?_))
 refine aA (fun m=>(m.own 0 rfl).slice) ?_
 rintro⟨A_o,c_o,rfl,hc_o⟩
 refine aA (fun m=>(m.ord 0 rfl).2.1) fun hA_o=> ?_
 rw[Nat.zero_add]
 refine aQ (fun w m=>m.bN 0 rfl (show _=aH 186 4 (.slice A_o n3 c_o) n3 (uY wl)from rfl)) ?_
 refine hy (fun _=>ab rfl)<|ai<|al (ρ' :=[(5,_),(4,_),(3,_),(2,_),(0,_),(1,_)]) ⟨rfl,rfl,rfl,rfl,rfl,rfl,trivial⟩<|ak (X' :=[_,_,_,_]) (S' :=[_,_,_]) (fun _ m=>m)<|ag<|ah<|aj<|hy (fun _=>aa rfl)<|hy (fun m=>yV (aU rfl DL Dq rfl ((m.aZ 3 rfl).ax)) ((rfl:_=Value.agg (cv k p t bb).toArray)))<| ?_
 refine hx (b6 Tryz.underlying37 pM rfl rfl rfl (by simp[Value.cells,cv]) (by decide) (by decide) (fun g17=> ?_))
 have hA_b17:0<1→(some (⟨g17,0,none⟩:Addr))≠none:=fun _ h=>by cases h
 refine aQ (fun w m=>m.bN 0 rfl (show _=aH 186 4 (.slice (some ⟨g17,0,none⟩) 1 1) 1 (uY [(k,p,t,bb)])from rfl)) ?_
 refine hx (bx 1 rfl rfl rfl Tryz.underlying37 Tryz.underlying37 (by exact .inl rfl) pM rfl (fun m=>Src.bR (m.ord 0 rfl)) wG (by unfold maxLen;omega) (by omega) (fun u2=> ?_))
 refine aA (fun m=>(m.own 0 rfl).slice) ?_
 rintro⟨A_o2,c_o2,rfl,hc_o⟩
 refine aA (fun m=>(m.ord 0 rfl).2.1) fun hA_o=> ?_
 refine aQ (fun w m=>m.bN 0 rfl (show _=aH 186 4 (.slice A_o2 (n3+1) c_o2) (n3+1) (uY (wl++[(k,p,t,bb)]))from congrArg (aH _ _ _ _) (vy ..).symm)) ?_
 refine hy (fun _=>aI rfl sH (by decide))<| ?_
 refine cH (ct 2 rfl rfl rfl FT rfl (by first|exact Nat.le_of_ble_eq_true rfl|simp) ?_)
 refine aQ (fun w m=>m.bN 0 rfl (show _=aL g2 39 (dv room (.slice A1 n1 c1) (.slice Al nl cl) (.slice A_o2 (n3+1) c_o2) pw)from rfl)) ?_
 refine ai<|al (ρ' :=[(5,_),(4,_),(3,_),(2,_),(0,_),(1,_)]) ⟨rfl,rfl,rfl,rfl,rfl,rfl,trivial⟩<|ak (X' :=[_,_,_,_,_]) (S' :=[_,_,_]) (fun _ m=>m)<|ag<|ah<|ah<|aj<|hy (fun _=>aI rfl hO (by decide))<|hy (fun m=>aw rfl fZ (aE (m.aZ 0 rfl) (i:=4) rfl))<|hy (fun _=>dh rfl rfl)<|ai<|al (ρ' :=[(22,_),(5,_),(4,_),(3,_),(2,_),(0,_),(1,_)]) ⟨rfl,rfl,rfl,rfl,rfl,rfl,rfl,trivial⟩<|ag<| ?_
 refine bC (fun w m=>(m.perm (au [1] _ [_] _ rfl)).freeze) ?_
 refine bC (fun w m=>m.jL 0 rfl .own) ?_
 refine cG rfl (fun h=> ?_) (fun h=> ?_)
 ·refine aj<|hy (fun _=>aI rfl hO (by decide))<|hy (fun m=>aw rfl fZ (aE (m.aZ 0 rfl) (i:=4) rfl))<|hy (fun _=>cp rfl rfl (bF (by omega) (by omega)))<|hy (fun _=>aI rfl hO (by decide))<| ?_
  refine cH (ct 0 rfl rfl rfl s7 rfl (by first|exact Nat.le_of_ble_eq_true rfl|simp) ?_)
  refine aQ (fun w m=>m.bN 0 rfl (show _=aL g2 39 (dv room (.slice A1 n1 c1) (.slice Al nl cl) (.slice A_o2 (n3+1) c_o2) (dU pw))from by rw[dU,if_pos h];rfl)) ?_
  refine ai<|al (ρ' :=[(22,_),(5,_),(4,_),(3,_),(2,_),(0,_),(1,_)]) ⟨rfl,rfl,rfl,rfl,rfl,rfl,rfl,trivial⟩<|ak (X' :=[_,_,_,_]) (S' :=[_,_,_,_,_]) (fun _ m=>m)<|ag<|ah<|aj<|hy (fun m=>aU rfl ca bj rfl ((m.aZ 0 rfl).ax))<| ?_
  refine cH (aJ 2 rfl rfl rfl bj rfl jH rfl ?_)
  refine ai<|al (ρ' :=[(22,_),(5,_),(4,_),(3,_),(2,_),(0,_),(1,_)]) ⟨rfl,rfl,rfl,rfl,rfl,rfl,rfl,trivial⟩<|ak (X' :=[_,_,_,_]) (S' :=[_,_,_,_,_]) (fun _ m=>m)<|ag<|aX<| ?_
  exact fw trivial rfl rfl ca bj rfl (fun m=>(m.aZ 0 rfl).ax) [] rfl [2,0] rfl ⟨_,_,_,_,_,_,rfl,rfl,rfl,⟨hp.1,hp.2,rfl⟩⟩
 ·refine bC (fun w m=>m.bN 0 rfl (show _=aL g2 39 (dv room (.slice A1 n1 c1) (.slice Al nl cl) (.slice A_o2 (n3+1) c_o2) (dU pw))from by rw[dU,if_neg h])) ?_
  refine aB<|ag<|ah<|aj<|hy (fun m=>aU rfl ca bj rfl ((m.aZ 0 rfl).ax))<| ?_
  refine cH (aJ 2 rfl rfl rfl bj rfl jH rfl ?_)
  refine ai<|al (ρ' :=[(22,_),(5,_),(4,_),(3,_),(2,_),(0,_),(1,_)]) ⟨rfl,rfl,rfl,rfl,rfl,rfl,rfl,trivial⟩<|ak (X' :=[_,_,_,_]) (S' :=[_,_,_,_,_]) (fun _ m=>m)<|ag<|aX<| ?_
  exact fw trivial rfl rfl ca bj rfl (fun m=>(m.aZ 0 rfl).ax) [] rfl [2,0] rfl ⟨_,_,_,_,_,_,rfl,rfl,rfl,⟨hp.1,hp.2,rfl⟩⟩
end Go.Proofs.YtmibdabdlgmafaaGreatDoor
end
section
set_option maxRecDepth 20000
namespace Go.Proofs.YtmibdabdlgmafaaGreatDoor
open Go.Eng Go.Hx
structure RD where
 room:Int
 seen:List FP
 b4:List FP
 waits:List RC
 pw:Int
def RD.sz(d:RD)(p:List UInt8):Nat:=((d.seen[cK d.seen p]?).map (·.2.length)).getD 0
def RD.bP(d:RD)(p bb:List UInt8):Int:=if¬gh p then 1 else if d.pw=0 then 6 else if d.room<(dM d.seen:Int)+(bb.length:Nat)-(d.sz p:Nat)then 5 else 0
def RD.gz(d:RD)(k:Int)(p t bb:List UInt8):RD:={d with seen:=dG d.seen k p t bb,waits:=d.waits++[(k,p,t,bb)],pw:=dU d.pw}
def RD.write(d:RD)(p bb:List UInt8):RD:=if d.bP p bb=0 then d.gz 0 p [] bb else d
structure xP(d:RD)(k:Nat):Prop where
 seen:d.seen.length≤k
 waits:d.waits.length≤k
 mi:dM d.seen≤k*1048576
 p1:-10≤d.pw
 p2:d.pw≤1000000000000
theorem FV(d:RD)(p:List UInt8):d.sz p≤dM d.seen:=by
 unfold RD.sz
 cases h:d.seen[cK d.seen p]? with
 |none=>simp
 |some x=>
  have h1:=rk h
  have h2:=wb d.seen (cK d.seen p+1)
  simp only[Option.map_some,Option.getD_some]
  omega
def rv(d:RD)(A:Option Addr)(n c:Nat)(Al:Option Addr)(nl cl:Nat)(A3:Option Addr)(n3 c3:Nat):List Value:=dv d.room (.slice A n c) (.slice Al nl cl) (.slice A3 n3 c3) d.pw
theorem FO{room:Int}:cf Tryz.prog 25 [.int .i64 room] [] [] (fun v_ X_ S_=>v_=(.agg (dv room (.slice none 0 0) (.slice none 0 0) (.slice none 0 0) (-1)).toArray)∧X_=[]∧S_=[]):=by
 refine aP (N:=5) Tryz.func25 rfl rfl (by simp) fun b=> ?_
 refine ah<|aj<| ?_
 refine hx (aM fO (fun g2=> ?_))
 refine ai<|ak (X' :=[_]) (S' :=[]) (fun _ m=>m)<|ag<|ah<|aj<|hy (fun _=>aa rfl)<|hy (fun _=>yV (cA fO rfl rfl (by kernel_rfl) (.cons (o:=0) (sz:=1) (by kernel_rfl) rfl rfl (Nat.le_of_ble_eq_true rfl) (.cons (o:=4) (sz:=1) (by kernel_rfl) rfl rfl (Nat.le_of_ble_eq_true rfl) .nil))) ((rfl:_=Value.agg (dv room (.slice none 0 0) (.slice none 0 0) (.slice none 0 0) (-1)).toArray)))<| ?_
 refine cH (aJ 0 rfl rfl rfl bj rfl jH rfl ?_)
 refine ai<|al (ρ' :=[(2,_),(0,_)]) ⟨rfl,rfl,trivial⟩<|ak (X' :=[_]) (S' :=[]) (fun _ m=>m)<|ag<|aX<| ?_
 exact fw trivial rfl rfl ca bj rfl (fun m=>(m.aZ 0 rfl).ax) [] rfl [] rfl ⟨rfl,rfl,rfl⟩
theorem C8{d:RD}{kk:Nat}{A Al A3:Option Addr}{n c nl cl n3 c3:Nat}{p bb:List UInt8}(hl:d.seen.length=n)(hw:d.waits.length=n3)(ok:xP d kk)(hkk:kk≤100000)(hpl:p.length≤1000000)(hbb:bb.length≤1000000):cf Tryz.prog 31 [.agg (rv d A n c Al nl cl A3 n3 c3).toArray,.string (strOf p),.string (strOf bb)] [] [di 2 A n (fc d.seen),di 4 A3 n3 (uY d.waits)] (fun v_ X_ S_=>∃A1 n1 c1 A2 n2 c2,v_=(.tuple #[.agg (rv (d.write p bb) A1 n1 c1 Al nl cl A2 n2 c2).toArray,.int .i64 (d.bP p bb)])∧X_=[]∧S_=[di 2 A1 n1 (fc (d.write p bb).seen),di 4 A2 n2 (uY (d.write p bb).waits)]∧((d.write p bb).seen.length=n1∧(d.write p bb).waits.length=n2)):=by
 have hk1:=ok.seen
 have hk2:=ok.waits
 have hk3:=ok.mi
 have hk4:=ok.p1
 have hk5:=ok.p2
 have hsz:=FV d p
 refine aP (N:=50) Tryz.func31 rfl rfl (by simp) fun b=> ?_
 refine a6 (fun m=>gX (m.rd 0 rfl)) ?_
 rintro⟨hl_r,hA_r⟩
 refine a6 (fun m=>gX (m.rd 1 rfl)) ?_
 rintro⟨hl_w,hA_w⟩
 refine ah<|aj<| ?_
 refine hx (cw rfl (fun g3=> ?_))
 refine aQ (fun w m=>m.bN 0 rfl (show _=aL g3 39 (rv d A n c Al nl cl A3 n3 c3)from congrArg (aL _ _) (bu _))) ?_
 refine hx (aM fO (fun g6=> ?_))
 refine hy (fun _=>ab rfl)<|ai<|ak (X' :=[_,_]) (S' :=[_,_]) (fun _ m=>m)<|ag<|ah<|aj<|hy (fun _=>aa rfl)<| ?_
 refine hx (aq rfl Tryz.call112 (xu (by omega)) [] rfl [] rfl ?_)
 rintro _ _ _ ⟨rfl,rfl,rfl⟩
 refine hy (fun _=>ab rfl)<|ai<|al (ρ' :=[(8,_),(7,_),(6,_),(3,_),(0,_),(1,_),(2,_)]) ⟨rfl,rfl,rfl,rfl,rfl,rfl,rfl,trivial⟩<|ak (X' :=[_,_]) (S' :=[_,_]) (fun _ m=>m)<|ag<|ah<|ah<|aj<|hy (fun _=>aa rfl)<|hy (fun _=>jK rfl)<|ai<|al (ρ' :=[(14,_),(8,_),(7,_),(6,_),(3,_),(0,_),(1,_),(2,_)]) ⟨rfl,rfl,rfl,rfl,rfl,rfl,rfl,rfl,trivial⟩<|ag<| ?_
 refine cG rfl (fun hN=> ?_) (fun hN=> ?_)
 ·have hE:d.bP p bb=1:=by rw[RD.bP,if_pos hN]
  have hW:d.write p bb=d:=by rw[RD.write,if_neg (by rw[hE];decide)]
  rw[hE,hW]
  refine ah<|aj<|hy (fun m=>yV (aU rfl ca bj rfl ((m.aZ 1 rfl).ax)) ((rfl:_=Value.agg (rv d A n c Al nl cl A3 n3 c3).toArray)))<| ?_
  refine cH (aJ 0 rfl rfl rfl bj rfl jH rfl ?_)
  refine hy (fun _=>ab rfl)<|ai<|al (ρ' :=[(7,_),(14,_),(8,_),(6,_),(3,_),(0,_),(1,_),(2,_)]) ⟨rfl,rfl,rfl,rfl,rfl,rfl,rfl,rfl,trivial⟩<|ak (X' :=[_,_]) (S' :=[_,_]) (fun _ m=>m)<|ag<|aX<|ay<| ?_
  exact dX trivial rfl rfl rfl ca bj rfl (fun m=>(m.aZ 0 rfl).ax) [] rfl [0,1] rfl ⟨_,_,_,_,_,_,rfl,rfl,rfl,⟨hl,hw⟩⟩
 ·refine aB<|ag<|ah<|ah<|aj<|hy (fun _=>aI rfl hO (by decide))<|hy (fun m=>aw rfl fZ (aE (m.aZ 1 rfl) (i:=4) rfl))<|hy (fun _=>cM rfl rfl)<|ai<|al (ρ' :=[(18,_),(14,_),(8,_),(7,_),(6,_),(3,_),(0,_),(1,_),(2,_)]) ⟨rfl,rfl,rfl,rfl,rfl,rfl,rfl,rfl,rfl,trivial⟩<|ag<| ?_
  refine cG rfl (fun h0=> ?_) (fun h0=> ?_)
  ·have hE:d.bP p bb=6:=by rw[RD.bP,if_neg hN,if_pos h0]
   have hW:d.write p bb=d:=by rw[RD.write,if_neg (by rw[hE];decide)]
   rw[hE,hW]
   refine ah<|aj<|hy (fun m=>yV (aU rfl ca bj rfl ((m.aZ 1 rfl).ax)) ((rfl:_=Value.agg (rv d A n c Al nl cl A3 n3 c3).toArray)))<| ?_
   refine cH (aJ 0 rfl rfl rfl bj rfl jH rfl ?_)
   refine hy (fun _=>ab rfl)<|ai<|al (ρ' :=[(7,_),(18,_),(14,_),(8,_),(6,_),(3,_),(0,_),(1,_),(2,_)]) ⟨rfl,rfl,rfl,rfl,rfl,rfl,rfl,rfl,rfl,trivial⟩<|ak (X' :=[_,_]) (S' :=[_,_]) (fun _ m=>m)<|ag<|aX<|ay<| ?_
   exact dX trivial rfl rfl rfl ca bj rfl (fun m=>(m.aZ 0 rfl).ax) [] rfl [0,1] rfl ⟨_,_,_,_,_,_,rfl,rfl,rfl,⟨hl,hw⟩⟩
  ·have hsb:=c7 bb
   refine aB<|ag<|ah<|aj<|hy (fun m=>yV (aU rfl ca bj rfl ((m.aZ 1 rfl).ax)) ((rfl:_=Value.agg (rv d A n c Al nl cl A3 n3 c3).toArray)))<| ?_
   refine hx (aq rfl Tryz.call89 (Fh (by omega) (by omega) (by omega)) [] rfl [0] rfl ?_)
   rintro _ _ _ ⟨rfl,rfl,rfl⟩
   refine hy (fun _=>aa rfl)<|hy (fun _=>cY rfl Tryz.underlying9)<|hy (fun _=>aN rfl rfl (bF (by omega) (by omega)))<|hy (fun _=>ab rfl)<|ai<|al (ρ' :=[(9,_),(18,_),(14,_),(8,_),(7,_),(6,_),(3,_),(0,_),(1,_),(2,_)]) ⟨rfl,rfl,rfl,rfl,rfl,rfl,rfl,rfl,rfl,rfl,trivial⟩<|ak (X' :=[_,_]) (S' :=[_,_]) (fun _ m=>m)<|ag<|ah<|aj<|hy (fun _=>aI rfl gD (by decide))<|hy (fun m=>aw rfl oQ (aE (m.aZ 1 rfl) (i:=1) rfl))<|hy (fun _=>aa rfl)<| ?_
   refine hx (aq rfl Tryz.call113 (vx (by omega) (by omega)) [] rfl [0] rfl ?_)
   rintro _ _ _ ⟨rfl,rfl,rfl⟩
   refine hy (fun _=>ab rfl)<|ai<|al (ρ' :=[(10,_),(9,_),(18,_),(14,_),(8,_),(7,_),(6,_),(3,_),(0,_),(1,_),(2,_)]) ⟨rfl,rfl,rfl,rfl,rfl,rfl,rfl,rfl,rfl,rfl,rfl,trivial⟩<|ak (X' :=[_,_]) (S' :=[_,_]) (fun _ m=>m)<|ag<|ah<|ah<|aj<|hy (fun _=>aa rfl)<|hy (fun _=>iX rfl rfl)<|ai<|al (ρ' :=[(30,_),(10,_),(9,_),(18,_),(14,_),(8,_),(7,_),(6,_),(3,_),(0,_),(1,_),(2,_)]) ⟨rfl,rfl,rfl,rfl,rfl,rfl,rfl,rfl,rfl,rfl,rfl,rfl,trivial⟩<|ag<| ?_
   refine cG rfl (fun hf=> ?_) (fun hf=> ?_)
   ·obtain⟨x0,hfx⟩:∃x0,d.seen[cK d.seen p]? =some x0:=by
     cases hq:d.seen[cK d.seen p]? with
     |none=>exact absurd (iH.2 hq) (by omega)
     |some x0=>exact⟨x0,rfl⟩
    have hfl:cK d.seen p<d.seen.length:=(List.getElem?_eq_some_iff.1 hfx).1
    obtain⟨f0,f1⟩:=iR d.seen _ x0 hfx
    have hfi:lr d.seen p=(cK d.seen p:Nat):=by rw[lr,if_pos hfl]
    have hsx:=c7 x0.2
    have hs0:d.sz p=x0.2.length:=by unfold RD.sz;rw[hfx];rfl
    refine aj<|hy (fun _=>aa rfl)<|hy (fun _=>aI rfl gD (by decide))<|hy (fun m=>aw rfl oQ (aE (m.aZ 1 rfl) (i:=1) rfl))<|hy (fun _=>aa rfl)<|hy (fun _=>cD rfl rfl Tryz.underlying36 fa hA_r hfi.symm (by omega))<|hy (fun _=>aI rfl o5 (by decide))<|hy (fun m=>yV (aw rfl lz (fm (m.rd 0 rfl) f1)) ((rfl:_=Value.string (strOf x0.2))))<|hy (fun _=>cY rfl Tryz.underlying9)<|hy (fun _=>cp rfl rfl (bF (by omega) (by omega)))<|hy (fun _=>ab rfl)<|ai<|al (ρ' :=[(9,_),(30,_),(10,_),(18,_),(14,_),(8,_),(7,_),(6,_),(3,_),(0,_),(1,_),(2,_)]) ⟨rfl,rfl,rfl,rfl,rfl,rfl,rfl,rfl,rfl,rfl,rfl,rfl,trivial⟩<|ag<|ah<|ah<|aj<|hy (fun _=>aa rfl)<|hy (fun _=>aI rfl zL (by decide))<|hy (fun m=>aw rfl fZ (aE (m.aZ 1 rfl) (i:=0) rfl))<|hy (fun _=>dh rfl rfl)<|ai<|al (ρ' :=[(43,_),(9,_),(30,_),(10,_),(18,_),(14,_),(8,_),(7,_),(6,_),(3,_),(0,_),(1,_),(2,_)]) ⟨rfl,rfl,rfl,rfl,rfl,rfl,rfl,rfl,rfl,rfl,rfl,rfl,rfl,trivial⟩<|ag<| ?_
    refine cG rfl (fun hR=> ?_) (fun hR=> ?_)
    ·have hE:d.bP p bb=5:=by rw[RD.bP,if_neg hN,if_neg h0,if_pos (by omega)]
     have hW:d.write p bb=d:=by rw[RD.write,if_neg (by rw[hE];decide)]
     rw[hE,hW]
     refine ah<|aj<|hy (fun m=>yV (aU rfl ca bj rfl ((m.aZ 1 rfl).ax)) ((rfl:_=Value.agg (rv d A n c Al nl cl A3 n3 c3).toArray)))<| ?_
     refine cH (aJ 0 rfl rfl rfl bj rfl jH rfl ?_)
     refine hy (fun _=>ab rfl)<|ai<|al (ρ' :=[(7,_),(43,_),(9,_),(30,_),(10,_),(18,_),(14,_),(8,_),(6,_),(3,_),(0,_),(1,_),(2,_)]) ⟨rfl,rfl,rfl,rfl,rfl,rfl,rfl,rfl,rfl,rfl,rfl,rfl,rfl,trivial⟩<|ak (X' :=[_,_]) (S' :=[_,_]) (fun _ m=>m)<|ag<|aX<|ay<| ?_
     exact dX trivial rfl rfl rfl ca bj rfl (fun m=>(m.aZ 0 rfl).ax) [] rfl [0,1] rfl ⟨_,_,_,_,_,_,rfl,rfl,rfl,⟨hl,hw⟩⟩
    ·have hE:d.bP p bb=0:=by rw[RD.bP,if_neg hN,if_neg h0,if_neg (by omega)]
     have hW:d.write p bb=d.gz 0 p [] bb:=by rw[RD.write,if_pos hE]
     rw[hE,hW]
     refine aB<|ag<|ah<|aj<|hy (fun m=>yV (aU rfl ca bj rfl ((m.aZ 1 rfl).ax)) ((rfl:_=Value.agg (dv d.room (.slice A n c) (.slice Al nl cl) (.slice A3 n3 c3) d.pw).toArray)))<|hy (fun _=>aa rfl)<|hy (fun _=>aa rfl)<|hy (fun _=>yV (cA pM rfl rfl (by kernel_rfl) (.cons (o:=1) (sz:=1) (by kernel_rfl) rfl rfl (Nat.le_of_ble_eq_true rfl) (.cons (o:=3) (sz:=1) (by kernel_rfl) rfl rfl (Nat.le_of_ble_eq_true rfl) .nil))) ((rfl:_=Value.agg (cv 0 p [] bb).toArray)))<| ?_
     refine hx (aq rfl Tryz.call114 (Fy (by omega) (by omega) (by omega) (by omega) (by omega) (by omega)) [] rfl [0,1] rfl ?_)
     rintro _ _ _ ⟨A1,n1,c1,A2,n2,c2,rfl,rfl,rfl,hp⟩
     refine aA (fun m=>gX (m.rd 0 rfl)) ?_
     rintro⟨hl_q,hA_q⟩
     refine aA (fun m=>gX (m.rd 1 rfl)) ?_
     rintro⟨hl_u,hA_u⟩
     refine cH (aJ 0 rfl rfl rfl bj rfl jH rfl ?_)
     refine hy (fun _=>ab rfl)<|ai<|al (ρ' :=[(7,_),(43,_),(9,_),(30,_),(10,_),(18,_),(14,_),(8,_),(6,_),(3,_),(0,_),(1,_),(2,_)]) ⟨rfl,rfl,rfl,rfl,rfl,rfl,rfl,rfl,rfl,rfl,rfl,rfl,rfl,trivial⟩<|ak (X' :=[_,_]) (S' :=[_,_,_,_]) (fun _ m=>m)<|ag<|aX<| ?_
     exact dX trivial rfl rfl rfl ca bj rfl (fun m=>(m.aZ 0 rfl).ax) [] rfl [0,1] rfl ⟨_,_,_,_,_,_,rfl,rfl,rfl,⟨hp.1.symm,by rw[hp.2.2,←hw];exact List.length_append⟩⟩
   ·have hs0:d.sz p=0:=by
     unfold RD.sz
     rw[iH.1 (by omega)];rfl
    refine aB<|ag<|ah<|ah<|aj<|hy (fun _=>aa rfl)<|hy (fun _=>aI rfl zL (by decide))<|hy (fun m=>aw rfl fZ (aE (m.aZ 1 rfl) (i:=0) rfl))<|hy (fun _=>dh rfl rfl)<|ai<|al (ρ' :=[(43,_),(30,_),(10,_),(9,_),(18,_),(14,_),(8,_),(7,_),(6,_),(3,_),(0,_),(1,_),(2,_)]) ⟨rfl,rfl,rfl,rfl,rfl,rfl,rfl,rfl,rfl,rfl,rfl,rfl,rfl,trivial⟩<|ag<| ?_
    refine cG rfl (fun hR=> ?_) (fun hR=> ?_)
    ·have hE:d.bP p bb=5:=by rw[RD.bP,if_neg hN,if_neg h0,if_pos (by omega)]
     have hW:d.write p bb=d:=by rw[RD.write,if_neg (by rw[hE];decide)]
     rw[hE,hW]
     refine ah<|aj<|hy (fun m=>yV (aU rfl ca bj rfl ((m.aZ 1 rfl).ax)) ((rfl:_=Value.agg (rv d A n c Al nl cl A3 n3 c3).toArray)))<| ?_
     refine cH (aJ 0 rfl rfl rfl bj rfl jH rfl ?_)
     refine hy (fun _=>ab rfl)<|ai<|al (ρ' :=[(7,_),(43,_),(30,_),(10,_),(9,_),(18,_),(14,_),(8,_),(6,_),(3,_),(0,_),(1,_),(2,_)]) ⟨rfl,rfl,rfl,rfl,rfl,rfl,rfl,rfl,rfl,rfl,rfl,rfl,rfl,trivial⟩<|ak (X' :=[_,_]) (S' :=[_,_]) (fun _ m=>m)<|ag<|aX<|ay<| ?_
     exact dX trivial rfl rfl rfl ca bj rfl (fun m=>(m.aZ 0 rfl).ax) [] rfl [0,1] rfl ⟨_,_,_,_,_,_,rfl,rfl,rfl,⟨hl,hw⟩⟩
    ·have hE:d.bP p bb=0:=by rw[RD.bP,if_neg hN,if_neg h0,if_neg (by omega)]
     have hW:d.write p bb=d.gz 0 p [] bb:=by rw[RD.write,if_pos hE]
     rw[hE,hW]
     refine aB<|ag<|ah<|aj<|hy (fun m=>yV (aU rfl ca bj rfl ((m.aZ 1 rfl).ax)) ((rfl:_=Value.agg (dv d.room (.slice A n c) (.slice Al nl cl) (.slice A3 n3 c3) d.pw).toArray)))<|hy (fun _=>aa rfl)<|hy (fun _=>aa rfl)<|hy (fun _=>yV (cA pM rfl rfl (by kernel_rfl) (.cons (o:=1) (sz:=1) (by kernel_rfl) rfl rfl (Nat.le_of_ble_eq_true rfl) (.cons (o:=3) (sz:=1) (by kernel_rfl) rfl rfl (Nat.le_of_ble_eq_true rfl) .nil))) ((rfl:_=Value.agg (cv 0 p [] bb).toArray)))<| ?_
     refine hx (aq rfl Tryz.call114 (Fy (by omega) (by omega) (by omega) (by omega) (by omega) (by omega)) [] rfl [0,1] rfl ?_)
     rintro _ _ _ ⟨A1,n1,c1,A2,n2,c2,rfl,rfl,rfl,hp⟩
     refine aA (fun m=>gX (m.rd 0 rfl)) ?_
     rintro⟨hl_q,hA_q⟩
     refine aA (fun m=>gX (m.rd 1 rfl)) ?_
     rintro⟨hl_u,hA_u⟩
     refine cH (aJ 0 rfl rfl rfl bj rfl jH rfl ?_)
     refine hy (fun _=>ab rfl)<|ai<|al (ρ' :=[(7,_),(43,_),(30,_),(10,_),(9,_),(18,_),(14,_),(8,_),(6,_),(3,_),(0,_),(1,_),(2,_)]) ⟨rfl,rfl,rfl,rfl,rfl,rfl,rfl,rfl,rfl,rfl,rfl,rfl,rfl,trivial⟩<|ak (X' :=[_,_]) (S' :=[_,_,_,_]) (fun _ m=>m)<|ag<|aX<| ?_
     exact dX trivial rfl rfl rfl ca bj rfl (fun m=>(m.aZ 0 rfl).ax) [] rfl [0,1] rfl ⟨_,_,_,_,_,_,rfl,rfl,rfl,⟨hp.1.symm,by rw[hp.2.2,←hw];exact List.length_append⟩⟩
def RD.cj(d:RD)(p:List UInt8):Int:=if d.pw=0 then 6 else if d.seen[cK d.seen p]? =none then 4 else 0
def RD.cC(d:RD)(p:List UInt8):List UInt8:=if d.pw=0 then []else((d.seen[cK d.seen p]?).map (·.2)).getD []
theorem EJ{d:RD}{kk:Nat}{A Al A3:Option Addr}{n c nl cl n3 c3:Nat}{p:List UInt8}(hl:d.seen.length=n)(ok:xP d kk)(hkk:kk≤100000):cf Tryz.prog 91 [.agg (rv d A n c Al nl cl A3 n3 c3).toArray,.string (strOf p)] [] [di 2 A n (fc d.seen)] (fun v_ X_ S_=>v_=(.tuple #[.string (strOf (d.cC p)),.int .i64 (d.cj p)])∧X_=[]∧S_=[]):=by
 have hk1:=ok.seen
 refine aP (N:=22) Tryz.func91 rfl rfl (by simp) fun b=> ?_
 refine a6 (fun m=>gX (m.rd 0 rfl)) ?_
 rintro⟨hl_r,hA_r⟩
 refine ah<|aj<| ?_
 refine hx (cw rfl (fun g2=> ?_))
 refine aQ (fun w m=>m.bN 0 rfl (show _=aL g2 39 (rv d A n c Al nl cl A3 n3 c3)from congrArg (aL _ _) (bu _))) ?_
 refine hy (fun _=>ab rfl)<|hy (fun _=>ab rfl)<|ai<|ak (X' :=[_]) (S' :=[_]) (fun _ m=>m)<|ag<|ah<|aj<|hy (fun _=>aI rfl gD (by decide))<|hy (fun m=>aw rfl oQ (aE (m.aZ 0 rfl) (i:=1) rfl))<|hy (fun _=>aa rfl)<| ?_
 refine hx (aq rfl Tryz.call113 (vx (by omega) (by omega)) [] rfl [0] rfl ?_)
 rintro _ _ _ ⟨rfl,rfl,rfl⟩
 refine hy (fun _=>ab rfl)<|ai<|al (ρ' :=[(6,_),(5,_),(4,_),(2,_),(0,_),(1,_)]) ⟨rfl,rfl,rfl,rfl,rfl,rfl,trivial⟩<|ak (X' :=[_]) (S' :=[_]) (fun _ m=>m)<|ag<|ah<|ah<|aj<|hy (fun _=>aI rfl hO (by decide))<|hy (fun m=>aw rfl fZ (aE (m.aZ 0 rfl) (i:=4) rfl))<|hy (fun _=>cM rfl rfl)<|ai<|al (ρ' :=[(13,_),(6,_),(5,_),(4,_),(2,_),(0,_),(1,_)]) ⟨rfl,rfl,rfl,rfl,rfl,rfl,rfl,trivial⟩<|ag<| ?_
 refine cG rfl (fun h0=> ?_) (fun h0=> ?_)
 ·have hE:d.cj p=6:=by rw[RD.cj,if_pos h0]
  have hB:d.cC p=[]:=by rw[RD.cC,if_pos h0]
  rw[hE,hB]
  refine ah<|aj<|hy (fun _=>ab rfl)<|hy (fun _=>ab rfl)<|ai<|ag<|aX<|ay<| ?_
  exact dy trivial rfl rfl rfl [] rfl [] rfl ⟨rfl,rfl,rfl⟩
 ·refine aB<|ag<|ah<|ah<|aj<|hy (fun _=>aa rfl)<|hy (fun _=>bw rfl rfl)<|ai<|al (ρ' :=[(15,_),(13,_),(6,_),(5,_),(4,_),(2,_),(0,_),(1,_)]) ⟨rfl,rfl,rfl,rfl,rfl,rfl,rfl,rfl,trivial⟩<|ag<| ?_
  refine cG rfl (fun h1=> ?_) (fun h1=> ?_)
  ·have hq:=iH.1 h1
   have hE:d.cj p=4:=by rw[RD.cj,if_neg h0,if_pos hq]
   have hB:d.cC p=[]:=by rw[RD.cC,if_neg h0,hq];rfl
   rw[hE,hB]
   refine ah<|aj<|hy (fun _=>ab rfl)<|hy (fun _=>ab rfl)<|ai<|ag<|aX<|ay<| ?_
   exact dy trivial rfl rfl rfl [] rfl [] rfl ⟨rfl,rfl,rfl⟩
  ·obtain⟨x0,hfx⟩:∃x0,d.seen[cK d.seen p]? =some x0:=by
    cases hq:d.seen[cK d.seen p]? with
    |none=>exact absurd (iH.2 hq) h1
    |some x0=>exact⟨x0,rfl⟩
   have hfl:cK d.seen p<d.seen.length:=(List.getElem?_eq_some_iff.1 hfx).1
   obtain⟨f0,f1⟩:=iR d.seen _ x0 hfx
   have hfi:lr d.seen p=(cK d.seen p:Nat):=by rw[lr,if_pos hfl]
   have hE:d.cj p=0:=by rw[RD.cj,if_neg h0,if_neg (by rw[hfx];exact fun e=>by cases e)]
   have hB:d.cC p=x0.2:=by rw[RD.cC,if_neg h0,hfx];rfl
   rw[hE,hB]
   refine aB<|ag<|ah<|aj<|hy (fun _=>aI rfl gD (by decide))<|hy (fun m=>aw rfl oQ (aE (m.aZ 0 rfl) (i:=1) rfl))<|hy (fun _=>aa rfl)<|hy (fun _=>cD rfl rfl Tryz.underlying36 fa hA_r hfi.symm (by omega))<|hy (fun _=>aI rfl o5 (by decide))<|hy (fun m=>yV (aw rfl lz (fm (m.rd 0 rfl) f1)) ((rfl:_=Value.string (strOf x0.2))))<|hy (fun _=>ab rfl)<|hy (fun _=>ab rfl)<|ai<|al (ρ' :=[(5,_),(4,_),(15,_),(13,_),(6,_),(2,_),(0,_),(1,_)]) ⟨rfl,rfl,rfl,rfl,rfl,rfl,rfl,rfl,trivial⟩<|ag<|aX<| ?_
   exact dy trivial rfl rfl rfl [] rfl [] rfl ⟨rfl,rfl,rfl⟩
end Go.Proofs.YtmibdabdlgmafaaGreatDoor
end
section
set_option maxRecDepth 20000
namespace Go.Proofs.YtmibdabdlgmafaaGreatDoor
open Go.Eng Go.Hx
def cF.mU(st:cF)(n:Int):cF:={st with bW:=max n (-1)}
theorem EZ{g:Nat}{st:cF}{n:Int}:cf Tryz.prog 57 [.pointer (some ⟨g,0,none⟩),.int .i64 n] [bk g st] [] (fun v_ X_ S_=>v_=(.tuple #[])∧X_=[bk g (st.mU n)]∧S_=[]):=by
 refine aP (N:=9) Tryz.func57 rfl rfl (by simp) fun b=> ?_
 refine bC (fun w m=>(m.perm (au [0] _ [_] _ rfl)).unpack) ?_
 refine aj<|hy (fun _=>aa rfl)<|hy (fun _=>aa rfl)<|hy (fun _=>DO rfl rfl)<|hy (fun _=>ba rfl)<|hy (fun _=>aI rfl lB (by decide))<| ?_
 refine cH (ct 0 rfl rfl rfl s7 rfl (by first|exact Nat.le_of_ble_eq_true rfl|simp) ?_)
 refine ai<|al (ρ' :=[(0,_),(1,_)]) ⟨rfl,rfl,trivial⟩<|ak (X' :=[_,_,_,_,_]) (S' :=[]) (fun _ m=>m)<| ?_
 refine ak (fun w m=>m.bN 0 rfl (show _=aL g 177 (ic (st.mU n))from by simp[ic,cF.mU])) ?_
 refine ak (X' :=bk g (st.mU n)::_) (fun w m=>(m.perm (au [0,0,0,0,0] _ [_,_,_,_,_] _ rfl)).pack) ?_
 exact fJ trivial rfl [0] rfl [] rfl ⟨rfl,rfl,rfl⟩
theorem Fz{g:Nat}{st:cF}:cf Tryz.prog 60 [.pointer (some ⟨g,0,none⟩)] [bk g st] [] (fun v_ X_ S_=>v_=(.int .i64 (st.waits.length:Nat))∧X_=[bk g st]∧S_=[]):=by
 refine aP (N:=8) Tryz.func60 rfl rfl (by simp) fun b=> ?_
 refine bC (fun w m=>(m.perm (au [0] _ [_] _ rfl)).unpack) ?_
 refine ah<|aj<|hy (fun _=>ab rfl)<|ai<|ag<|ah<|aj<|hy (fun _=>aa rfl)<|hy (fun _=>ba rfl)<|hy (fun _=>aI rfl gH (by decide))<|hy (fun m=>aw rfl uj (aE (m.aZ 0 rfl) rfl))<|hy (fun _=>aT rfl Tryz.underlying175)<|hy (fun _=>ab rfl)<|ai<|al (ρ' :=[(2,_),(0,_)]) ⟨rfl,rfl,trivial⟩<|ag<|aX<| ?_
 refine ak (X' :=bk g st::_) (fun w m=>(m.perm (au [0,0,0,0,0] _ [_,_,_,_,_] _ rfl)).pack) ?_
 exact bh trivial rfl rfl [0] rfl [] rfl ⟨rfl,rfl,rfl⟩
theorem EM:cf Tryz.prog 258 [.slice none 0 0,.int .i64 0,.int .i64 0] [] [] (fun v_ X_ S_=>v_=(.tuple #[])∧X_=[]∧S_=[]):=by
 refine aP (N:=49) Tryz.func258 rfl rfl (by simp) fun b=> ?_
 refine ah<|aj<|hy (fun _=>aa rfl)<|hy (fun _=>aN rfl rfl (bF (by omega) (by omega)))<|hy (fun _=>ab rfl)<|ai<|al (ρ' :=[(6,_),(0,_),(1,_),(2,_)]) ⟨rfl,rfl,rfl,rfl,trivial⟩<|ag<|aK<| ?_
 refine dH (fun u=>0) (fun u=>[(6,.int .i64 1)]) (fun u=>[]) (fun u=>[]) (fun u=>u=0) 0 [(0,_),(1,_),(2,_)] ⟨rfl,rfl,rfl,trivial⟩ [] rfl [] rfl (rfl) ⟨rfl,trivial⟩ (fun u hI=> ?_)
 refine ah<|ah<|aj<|hy (fun _=>aa rfl)<|hy (fun _=>aa rfl)<|hy (fun _=>bw rfl rfl)<|ai<|al (ρ' :=[(12,_),(6,_),(0,_),(1,_),(2,_)]) ⟨rfl,rfl,rfl,rfl,rfl,trivial⟩<|ag<| ?_
 refine dB rfl (rfl) ?_
 refine bL<|ao<|ao<|aD<| ?_
 exact fJ trivial rfl [] rfl [] rfl ⟨rfl,rfl,rfl⟩
theorem yR:cf Tryz.prog 255 [.int .u64 0] [] [] (fun v_ X_ S_=>v_=(.int .i64 0)∧X_=[]∧S_=[]):=by
 refine aP (N:=25) Tryz.func255 rfl rfl (by simp) fun b=> ?_
 refine ah<|aj<|hy (fun _=>ab rfl)<|ai<|ag<|ah<|ah<|aj<|hy (fun _=>aa rfl)<|hy (fun _=>iX rfl rfl)<|ai<|al (ρ' :=[(4,_),(2,_),(0,_)]) ⟨rfl,rfl,rfl,trivial⟩<|ag<| ?_
 refine dB rfl (rfl) ?_
 refine aB<|ag<|ah<|ah<|aj<|hy (fun _=>aa rfl)<|hy (fun _=>iX rfl rfl)<|ai<|al (ρ' :=[(8,_),(4,_),(2,_),(0,_)]) ⟨rfl,rfl,rfl,rfl,trivial⟩<|ag<| ?_
 refine dB rfl (rfl) ?_
 refine aB<|ag<|ah<|ah<|aj<|hy (fun _=>aa rfl)<|hy (fun _=>iX rfl rfl)<|ai<|al (ρ' :=[(14,_),(8,_),(4,_),(2,_),(0,_)]) ⟨rfl,rfl,rfl,rfl,rfl,trivial⟩<|ag<| ?_
 refine dB rfl (rfl) ?_
 refine aB<|ag<|ah<|aj<|hy (fun _=>aa rfl)<|hy (fun _=>aa rfl)<|hy (fun _=>bX rfl Tryz.underlying310 Tryz.underlying5 (show IntKind.u8.wrap 0=0 from rfl))<|hy (fun _=>eW rfl rfl Tryz.underlying9 (show((0:Nat):Int)=0 from rfl) (show _=some (0:UInt8)from rfl))<|hy (fun _=>bX rfl Tryz.underlying5 Tryz.underlying3 (show IntKind.i64.wrap ((0:UInt8).toNat:Int)=0 from rfl))<|hy (fun _=>aN rfl rfl (bF (by omega) (by omega)))<|hy (fun _=>ab rfl)<|ai<|al (ρ' :=[(2,_),(14,_),(8,_),(4,_),(0,_)]) ⟨rfl,rfl,rfl,rfl,rfl,trivial⟩<|ag<|aX<| ?_
 exact bh trivial rfl rfl [] rfl [] rfl ⟨rfl,rfl,rfl⟩
theorem ER:cf Tryz.prog 207 [.int .u64 0] [] [] (fun v_ X_ S_=>v_=(.int .i64 0)∧X_=[]∧S_=[]):=by
 refine aP (N:=8) Tryz.func207 rfl rfl (by simp) fun b=> ?_
 refine ah<|aj<|hy (fun _=>ab rfl)<|ai<|ag<|ah<| ?_
 refine dB rfl (rfl) ?_
 refine aB<|ag<|ah<|aj<|hy (fun _=>aa rfl)<| ?_
 refine hx (aq rfl Tryz.call255 (yR) [] rfl [] rfl ?_)
 rintro _ _ _ ⟨rfl,rfl,rfl⟩
 refine hy (fun _=>ab rfl)<|ai<|al (ρ' :=[(2,_),(0,_)]) ⟨rfl,rfl,trivial⟩<|ak (X' :=[]) (S' :=[]) (fun _ m=>m)<|ag<|aX<| ?_
 exact bh trivial rfl rfl [] rfl [] rfl ⟨rfl,rfl,rfl⟩
theorem Ec:cf Tryz.prog 223 [.slice none 0 0,.int .i64 0,.int .i64 0,.int .i64 0] [] [] (fun v_ X_ S_=>v_=(.tuple #[])∧X_=[]∧S_=[]):=by
 refine aP (N:=134) Tryz.func223 rfl rfl (by simp) fun b=> ?_
 refine ah<|aj<|hy (fun _=>ab rfl)<|ai<|ag<|ah<|aj<|hy (fun _=>ab rfl)<|ai<|ag<|aK<| ?_
 refine dH (fun u=>0) (fun u=>[(1,.int .i64 0),(2,.int .i64 0)]) (fun u=>[]) (fun u=>[]) (fun u=>u=0) 0 [(0,_)] ⟨rfl,trivial⟩ [] rfl [] rfl (rfl) ⟨rfl,rfl,trivial⟩ (fun u hI=> ?_)
 refine aK<|ah<|aj<|hy (fun _=>aa rfl)<|hy (fun _=>aa rfl)<|hy (fun _=>cp rfl rfl (bF (by omega) (by omega)))<|hy (fun _=>ab rfl)<|ai<|al (ρ' :=[(10,_),(1,_),(2,_),(0,_)]) ⟨rfl,rfl,rfl,rfl,trivial⟩<|ag<|ah<|ah<|aj<|hy (fun _=>aa rfl)<|hy (fun _=>ot rfl rfl)<|ai<|al (ρ' :=[(23,_),(10,_),(1,_),(2,_),(0,_)]) ⟨rfl,rfl,rfl,rfl,rfl,trivial⟩<|ag<| ?_
 refine gY rfl (rfl) ?_
 refine ah<|aj<|hy (fun _=>aa rfl)<|hy (fun _=>aa rfl)<|hy (fun _=>aa rfl)<| ?_
 refine hx (aq rfl Tryz.call258 (EM) [] rfl [] rfl ?_)
 rintro _ _ _ ⟨rfl,rfl,rfl⟩
 refine ai<|al (ρ' :=[(23,_),(10,_),(1,_),(2,_),(0,_)]) ⟨rfl,rfl,rfl,rfl,rfl,trivial⟩<|ak (X' :=[]) (S' :=[]) (fun _ m=>m)<|ag<|aX<|ay<|bf<|ay<|bf<| ?_
 exact fJ trivial rfl [] rfl [] rfl ⟨rfl,rfl,rfl⟩
theorem Dp:cf Tryz.prog 165 [.slice none 0 0] [] [] (fun v_ X_ S_=>v_=(.tuple #[])∧X_=[]∧S_=[]):=by
 refine aP (N:=11) Tryz.func165 rfl rfl (by simp) fun b=> ?_
 refine ah<|aj<|hy (fun _=>aa rfl)<|hy (fun _=>aT rfl Tryz.underlying152)<|hy (fun _=>ab rfl)<|ai<|al (ρ' :=[(2,_),(0,_)]) ⟨rfl,rfl,trivial⟩<|ag<|aj<|hy (fun _=>aa rfl)<|hy (fun _=>aa rfl)<|hy (fun _=>aa rfl)<|hy (fun _=>bX rfl Tryz.underlying3 Tryz.underlying263 rfl)<| ?_
 refine hx (aq rfl Tryz.call207 (ER) [] rfl [] rfl ?_)
 rintro _ _ _ ⟨rfl,rfl,rfl⟩
 refine hx (aq rfl Tryz.call223 (Ec) [] rfl [] rfl ?_)
 rintro _ _ _ ⟨rfl,rfl,rfl⟩
 refine ai<|al (ρ' :=[(2,_),(0,_)]) ⟨rfl,rfl,trivial⟩<|ak (X' :=[]) (S' :=[]) (fun _ m=>m)<| ?_
 exact fJ trivial rfl [] rfl [] rfl ⟨rfl,rfl,rfl⟩
end Go.Proofs.YtmibdabdlgmafaaGreatDoor
end
section
set_option maxRecDepth 20000
namespace Go.Proofs.YtmibdabdlgmafaaGreatDoor
open Go.Eng Go.Hx
def oT(l:dm):fA→dm
 | .written p r=>cQ l p r
 | .renamed a c=>match ck l a with
  |none=>l
  |some r=>cQ (ej l a) c r
 | .removed p=>ej l p
theorem zJ{g:Nat}{l:dm}{a c:List UInt8}:cf Tryz.prog 337 [.agg [SV a,SV c].toArray,.map (some g)] [dg SV g (dK l)] [] (fun v_ X_ S_=>v_=(.tuple #[])∧X_=[dg SV g (dK (oT l (.renamed a c)))]∧S_=[]):=by
 refine aP (N:=21) Tryz.func337 rfl rfl (by simp) fun b=> ?_
 refine ah<|aj<| ?_
 refine hx (cw rfl (fun g2=> ?_))
 refine aQ (fun w m=>m.bN 0 rfl (show _=aL g2 257 [SV a,SV c]from congrArg (aL _ _) (bu _))) ?_
 rcases qb (l:=l) a with⟨h1,h2⟩|⟨r,h1,h2⟩
 ·refine ai<|ak (X' :=[_,_]) (S' :=[]) (fun _ m=>m)<|ag<|ah<|aj<|hy (fun _=>aa rfl)<|hy (fun _=>aI rfl sM (by decide))<|hy (fun m=>aw rfl lz (aE (m.aZ 0 rfl) (i:=0) rfl))<|hy (fun m=>yV (kr (enc:=SV) rfl rfl Tryz.underlying174 tj (ku Tryz.underlying9) (m.pn 1 rfl)) ((show ir true (.slice none 0 0) (ck (dK l) a)= .tuple #[.slice none 0 0,.bool false] by rw[h2];rfl)))<|hy (fun _=>aa rfl)<|hy (fun _=>ar rfl rfl)<|hy (fun _=>ar rfl rfl)<|hy (fun _=>ab rfl)<|hy (fun _=>ab rfl)<|ai<|al (ρ' :=[(5,_),(4,_),(2,_),(0,_),(1,_)]) ⟨rfl,rfl,rfl,rfl,rfl,trivial⟩<|ag<|ah<|aj<|hy (fun _=>aa rfl)<|ai<|ag<| ?_
  refine dB rfl (rfl) ?_
  refine aB<| ?_
  have e:oT l (.renamed a c)=l:=by rw[oT,h1]
  rw[e]
  exact fJ trivial rfl [1] rfl [] rfl ⟨rfl,rfl,rfl⟩
 ·refine ai<|ag<|ah<|aj<|hy (fun _=>aa rfl)<|hy (fun _=>aI rfl sM (by decide))<|hy (fun m=>aw rfl lz (aE (m.aZ 0 rfl) rfl))<|hy (fun m=>yV (kr (enc:=SV) rfl rfl Tryz.underlying174 tj (ku Tryz.underlying9) (m.pn 1 rfl)) ((show ir true (.slice none 0 0) (ck (dK l) a)= .tuple #[r.val,.bool true] by rw[h2];rfl)))<|hy (fun _=>aa rfl)<|hy (fun _=>ar rfl rfl)<|hy (fun _=>ar rfl rfl)<|hy (fun _=>ab rfl)<|hy (fun _=>ab rfl)<|ai<|al (ρ' :=[(5,_),(4,_),(2,_),(0,_),(1,_)]) ⟨rfl,rfl,rfl,rfl,rfl,trivial⟩<|ag<|ah<|aj<|hy (fun _=>aa rfl)<|ai<|ag<| ?_
  refine gY rfl (rfl) ?_
  refine ah<|aj<|hy (fun _=>aa rfl)<|hy (fun _=>aI rfl sM (by decide))<|hy (fun m=>aw rfl lz (aE (m.aZ 0 rfl) (i:=0) rfl))<| ?_
  refine cH (nM (enc:=SV) 1 rfl rfl rfl Tryz.underlying174 (ku Tryz.underlying9) ?_)
  refine ai<|al (ρ' :=[(13,_),(5,_),(4,_),(2,_),(0,_),(1,_)]) ⟨rfl,rfl,rfl,rfl,rfl,rfl,trivial⟩<|ak (X' :=[_,_]) (S' :=[]) (fun _ m=>m)<|ag<|aj<|hy (fun _=>aa rfl)<|hy (fun _=>aI rfl BS (by decide))<|hy (fun m=>aw rfl lz (aE (m.aZ 1 rfl) (i:=1) rfl))<|hy (fun _=>aa rfl)<| ?_
  refine cH (p9 (enc:=SV) 0 rfl rfl rfl rfl Tryz.underlying174 (ku Tryz.underlying9) ?_)
  refine ai<|al (ρ' :=[(13,_),(5,_),(4,_),(2,_),(0,_),(1,_)]) ⟨rfl,rfl,rfl,rfl,rfl,rfl,trivial⟩<|ak (X' :=[_,_]) (S' :=[]) (fun _ m=>m)<| ?_
  have e:cQ (ej (dK l) a) c r.val=dK (oT l (.renamed a c)):=by rw[oT,h1,qC,lq]
  refine ak (fun w m=>m.bN 0 rfl (show _=dg SV g (dK (oT l (.renamed a c)))from congrArg (dg SV g) e)) ?_
  exact fJ trivial rfl [0] rfl [] rfl ⟨rfl,rfl,rfl⟩
theorem Ai{g:Nat}{l:dm}{p:List UInt8}:cf Tryz.prog 335 [.agg [SV p].toArray,.map (some g)] [dg SV g (dK l)] [] (fun v_ X_ S_=>v_=(.tuple #[])∧X_=[dg SV g (dK (oT l (.removed p)))]∧S_=[]):=by
 refine aP (N:=7) Tryz.func335 rfl rfl (by simp) fun b=> ?_
 refine ah<|aj<| ?_
 refine hx (cw rfl (fun g2=> ?_))
 refine aQ (fun w m=>m.bN 0 rfl (show _=aL g2 237 [SV p]from congrArg (aL _ _) (bu _))) ?_
 refine ai<|ak (X' :=[_,_]) (S' :=[]) (fun _ m=>m)<|ag<|aj<|hy (fun _=>aa rfl)<|hy (fun _=>aI rfl BE (by decide))<|hy (fun m=>aw rfl lz (aE (m.aZ 0 rfl) (i:=0) rfl))<| ?_
 refine cH (nM (enc:=SV) 1 rfl rfl rfl Tryz.underlying174 (ku Tryz.underlying9) ?_)
 refine ai<|al (ρ' :=[(2,_),(0,_),(1,_)]) ⟨rfl,rfl,rfl,trivial⟩<|ak (X' :=[_,_]) (S' :=[]) (fun _ m=>m)<| ?_
 rw[qC]
 exact fJ trivial rfl [0] rfl [] rfl ⟨rfl,rfl,rfl⟩
def cF.gz(st:cF)(c:fA)(A:Option Addr)(k:Nat):cF:={st.eV with seen:=oT st.seen c,waits:=st.waits++[c],wA:=A,wc:=k}
theorem iz{l:dm}{p:List UInt8}{x:eC}(h:x∈(ej l p).map (·.2)):x∈l.map (·.2):=by
 induction l with
 |nil=>exact h
 |cons a q ih=>
  obtain⟨k,u⟩:=a
  simp only[ej]at h
  split at h
  ·exact List.mem_cons_of_mem _ h
  ·simp only[List.map_cons,List.mem_cons]at h ⊢
   rcases h with rfl|h
   ·exact .inl rfl
   ·exact .inr (ih h)
theorem zI{l:dm}{c:fA}(hc:c.row=none){x:eC}(h:x∈(oT l c).map (·.2)):x∈l.map (·.2):=by
 cases c with
 |written p r=>cases hc
 |renamed a b=>
  simp only[oT]at h
  split at h
  ·exact h
  ·rename_i r hr
   rcases j0 h with h|h
   ·exact iz h
   ·exact h▸List.mem_map.2 ⟨_,iS hr,rfl⟩
 |removed p=>exact iz h
theorem C1(l:dm)(c:fA):(oT l c).length≤l.length+1:=by
 cases c with
 |written p r=>exact lj l p r
 |renamed a b=>
  simp only[oT]
  split
  ·omega
  ·rename_i r hr
   have h1:=lj (ej l a) b r
   have h2:=nF l a
   omega
 |removed p=>have h2:=nF l p;show(ej l p).length≤_;omega
theorem pP{st:cF}{c:fA}{A:Option Addr}{k:Nat}(hc:c.row=none):∀x∈rowsOf (st.gz c A k),x∈rowsOf st:=by
 intro x hx
 unfold rowsOf cF.gz at hx
 simp only[cF.eV,List.mem_append,List.filterMap_append]at hx
 unfold rowsOf
 simp only[List.mem_append]
 rcases hx with(h|h)|h|h
 ·exact .inl (.inl (zI hc h))
 ·exact .inl (.inr h)
 ·exact .inr h
 ·simp[hc]at h
theorem nJ.gz{st:cF}{k:Nat}(h:nJ st k){c:fA}(hc:c.row=none)(A:Option Addr)(j:Nat):nJ (st.gz c A j) (k+1):=by
 refine⟨ln h.bW,h.room, ?_, ?_,fun x hx=>h.small x (pP hc x hx)⟩
 ·have:=C1 st.seen c
  have:=h.seen
  show(oT st.seen c).length≤k+1
  omega
 ·have:=h.rest
  show st.b4.length+(st.waits++[c]).length≤k+1
  simp only[List.length_append,List.length_cons,List.length_nil]
  omega
theorem Hk{g:Nat}{st:cF}{a c:List UInt8}(hp:st.bW≤1000000000000)(hw:st.waits.length≤1000000):cf Tryz.prog 116 [.pointer (some ⟨g,0,none⟩),(fA.renamed a c).val] [bk g st] [] (fun v_ X_ S_=>∃A k,v_=(.tuple #[])∧X_=[bk g (st.gz (.renamed a c) A k)]∧S_=[]):=by
 have hsw:st.eV.waits.length=st.waits.length:=rfl
 refine aP (N:=25) Tryz.func116 rfl rfl (by simp) fun b=> ?_
 refine ah<|aj<|hy (fun _=>aa rfl)<| ?_
 refine hx (aq rfl Tryz.call181 (so (by omega)) [0] rfl [] rfl ?_)
 rintro _ _ _ ⟨rfl,rfl,rfl⟩
 refine aQ (fun w m=>(m.perm (au [0] _ [_] _ rfl)).unpack) ?_
 refine ai<|al (ρ' :=[(0,_),(1,_)]) ⟨rfl,rfl,trivial⟩<|ak (X' :=[_,_,_,_,_]) (S' :=[]) (fun _ m=>m)<|ag<|ah<|cT [8] [(0,some 0),(1,some 0),(2,some 0),(3,some 0),(4,some 0),(5,some 0),(6,some 0),(7,some 0),(8,none)] (by kernel_rfl) (by kernel_rfl) rfl 0<|an (aa rfl)<|an (aa rfl)<|an (ba rfl)<|an (aI rfl gK (by decide))<|cq (fun m=>aw rfl jh (aE (m.aZ 0 rfl) rfl))<|an (iP rfl rfl)<|an (ph rfl (by kernel_rfl))<|an (aa rfl)<| ?_
 refine ek (qd rfl rfl (fun w=>by kernel_rfl) Tryz.call337 (zJ) [1] rfl [] rfl ?_)
 rintro _ _ _ ⟨rfl,rfl,rfl⟩
 refine⟨(fun h=>absurd h (by decide)), ?_⟩
 refine bz<|al (ρ' :=[(0,_),(1,_)]) ⟨rfl,rfl,trivial⟩<|ak (X' :=[_,_,_,_,_]) (S' :=[]) (fun _ m=>m)<|ag<|aj<|hy (fun _=>aa rfl)<|hy (fun _=>aa rfl)<|hy (fun _=>ba rfl)<|hy (fun _=>aI rfl gH (by decide))<|hy (fun m=>aw rfl uj (aE (m.aZ 1 rfl) rfl))<|hy (fun _=>aa rfl)<| ?_
 refine hx (b6 Tryz.underlying175 rG rfl rfl rfl (by simp[Value.cells,fA.val]) (by decide) (by decide) (fun g21=> ?_))
 have hA_b21:0<1→(some (⟨g21,0,none⟩:Addr))≠none:=fun _ h=>by cases h
 refine aQ (fun w m=>m.bN 0 rfl (show _=aH 232 1 (.slice (some ⟨g21,0,none⟩) 1 1) 1 [((fA.renamed a c)).val]from rfl)) ?_
 refine hx (bx 4 rfl rfl rfl Tryz.underlying175 Tryz.underlying175 (by exact .inl rfl) rG rfl (fun m=>Src.bR (m.ord 0 rfl)) (by simp[fA.val,Value.oneCell']) (by unfold maxLen;omega) (by omega) (fun u=> ?_))
 refine aA (fun m=>(m.own 0 rfl).slice) ?_
 rintro⟨A_d3,c_d3,rfl,hc_d3⟩
 refine aA (fun m=>(m.ord 0 rfl).2.1) fun hA_d3=> ?_
 refine hy (fun _=>ba rfl)<|hy (fun _=>aI rfl gH (by decide))<| ?_
 refine cH (ct 3 rfl rfl rfl tR rfl (by first|exact Nat.le_of_ble_eq_true rfl|simp) ?_)
 refine ai<|al (ρ' :=[(0,_),(1,_)]) ⟨rfl,rfl,trivial⟩<|ak (X' :=[_,_,_,_,_,_]) (S' :=[]) (fun _ m=>m)<| ?_
 refine ak (fun w m=>m.bN 0 rfl (show _=aL g 177 (ic (st.gz ((fA.renamed a c)) A_d3 c_d3))from by simp[ic,cF.gz,cF.eV])) ?_
 refine ak (fun w m=>m.bN 3 rfl (show _=dg SV st.gs (dK (st.gz ((fA.renamed a c)) A_d3 c_d3).seen)from rfl)) ?_
 refine ak (fun w m=>m.bN 2 rfl (show _=aH 232 1 (.slice A_d3 (st.gz ((fA.renamed a c)) A_d3 c_d3).waits.length c_d3) (st.gz ((fA.renamed a c)) A_d3 c_d3).waits.length ((st.gz ((fA.renamed a c)) A_d3 c_d3).waits.map fA.val)from by simp[cF.gz,cF.eV])) ?_
 refine ak (X' :=fV (rowsOf (st.gz ((fA.renamed a c)) A_d3 c_d3))::_) (fun w m=>(m.perm (au [5] _ [_] _ rfl)).vI ((pP rfl))) ?_
 refine ak (X' :=bk g (st.gz ((fA.renamed a c)) A_d3 c_d3)::_) (fun w m=>(m.perm (au [3,2,3,1,0] _ [_,_,_,_,_] _ rfl)).pack) ?_
 exact fJ trivial rfl [0] rfl [] rfl ⟨_,_,rfl,rfl,rfl⟩
theorem Hn{g:Nat}{st:cF}{p:List UInt8}(hp:st.bW≤1000000000000)(hw:st.waits.length≤1000000):cf Tryz.prog 116 [.pointer (some ⟨g,0,none⟩),(fA.removed p).val] [bk g st] [] (fun v_ X_ S_=>∃A k,v_=(.tuple #[])∧X_=[bk g (st.gz (.removed p) A k)]∧S_=[]):=by
 have hsw:st.eV.waits.length=st.waits.length:=rfl
 refine aP (N:=25) Tryz.func116 rfl rfl (by simp) fun b=> ?_
 refine ah<|aj<|hy (fun _=>aa rfl)<| ?_
 refine hx (aq rfl Tryz.call181 (so (by omega)) [0] rfl [] rfl ?_)
 rintro _ _ _ ⟨rfl,rfl,rfl⟩
 refine aQ (fun w m=>(m.perm (au [0] _ [_] _ rfl)).unpack) ?_
 refine ai<|al (ρ' :=[(0,_),(1,_)]) ⟨rfl,rfl,trivial⟩<|ak (X' :=[_,_,_,_,_]) (S' :=[]) (fun _ m=>m)<|ag<|ah<|cT [8] [(0,some 0),(1,some 0),(2,some 0),(3,some 0),(4,some 0),(5,some 0),(6,some 0),(7,some 0),(8,none)] (by kernel_rfl) (by kernel_rfl) rfl 0<|an (aa rfl)<|an (aa rfl)<|an (ba rfl)<|an (aI rfl gK (by decide))<|cq (fun m=>aw rfl jh (aE (m.aZ 0 rfl) rfl))<|an (iP rfl rfl)<|an (ph rfl (by kernel_rfl))<|an (aa rfl)<| ?_
 refine ek (qd rfl rfl (fun w=>by kernel_rfl) Tryz.call335 (Ai) [1] rfl [] rfl ?_)
 rintro _ _ _ ⟨rfl,rfl,rfl⟩
 refine⟨(fun h=>absurd h (by decide)), ?_⟩
 refine bz<|al (ρ' :=[(0,_),(1,_)]) ⟨rfl,rfl,trivial⟩<|ak (X' :=[_,_,_,_,_]) (S' :=[]) (fun _ m=>m)<|ag<|aj<|hy (fun _=>aa rfl)<|hy (fun _=>aa rfl)<|hy (fun _=>ba rfl)<|hy (fun _=>aI rfl gH (by decide))<|hy (fun m=>aw rfl uj (aE (m.aZ 1 rfl) rfl))<|hy (fun _=>aa rfl)<| ?_
 refine hx (b6 Tryz.underlying175 rG rfl rfl rfl (by simp[Value.cells,fA.val]) (by decide) (by decide) (fun g21=> ?_))
 have hA_b21:0<1→(some (⟨g21,0,none⟩:Addr))≠none:=fun _ h=>by cases h
 refine aQ (fun w m=>m.bN 0 rfl (show _=aH 232 1 (.slice (some ⟨g21,0,none⟩) 1 1) 1 [((fA.removed p)).val]from rfl)) ?_
 refine hx (bx 4 rfl rfl rfl Tryz.underlying175 Tryz.underlying175 (by exact .inl rfl) rG rfl (fun m=>Src.bR (m.ord 0 rfl)) (by simp[fA.val,Value.oneCell']) (by unfold maxLen;omega) (by omega) (fun u=> ?_))
 refine aA (fun m=>(m.own 0 rfl).slice) ?_
 rintro⟨A_d3,c_d3,rfl,hc_d3⟩
 refine aA (fun m=>(m.ord 0 rfl).2.1) fun hA_d3=> ?_
 refine hy (fun _=>ba rfl)<|hy (fun _=>aI rfl gH (by decide))<| ?_
 refine cH (ct 3 rfl rfl rfl tR rfl (by first|exact Nat.le_of_ble_eq_true rfl|simp) ?_)
 refine ai<|al (ρ' :=[(0,_),(1,_)]) ⟨rfl,rfl,trivial⟩<|ak (X' :=[_,_,_,_,_,_]) (S' :=[]) (fun _ m=>m)<| ?_
 refine ak (fun w m=>m.bN 0 rfl (show _=aL g 177 (ic (st.gz ((fA.removed p)) A_d3 c_d3))from by simp[ic,cF.gz,cF.eV])) ?_
 refine ak (fun w m=>m.bN 3 rfl (show _=dg SV st.gs (dK (st.gz ((fA.removed p)) A_d3 c_d3).seen)from rfl)) ?_
 refine ak (fun w m=>m.bN 2 rfl (show _=aH 232 1 (.slice A_d3 (st.gz ((fA.removed p)) A_d3 c_d3).waits.length c_d3) (st.gz ((fA.removed p)) A_d3 c_d3).waits.length ((st.gz ((fA.removed p)) A_d3 c_d3).waits.map fA.val)from by simp[cF.gz,cF.eV])) ?_
 refine ak (X' :=fV (rowsOf (st.gz ((fA.removed p)) A_d3 c_d3))::_) (fun w m=>(m.perm (au [5] _ [_] _ rfl)).vI ((pP rfl))) ?_
 refine ak (X' :=bk g (st.gz ((fA.removed p)) A_d3 c_d3)::_) (fun w m=>(m.perm (au [3,2,3,1,0] _ [_,_,_,_,_] _ rfl)).pack) ?_
 exact fJ trivial rfl [0] rfl [] rfl ⟨_,_,rfl,rfl,rfl⟩
def b7(st:cF)(a c:List UInt8):Int:=if¬gh c then 1 else dQ st a
theorem B5{g:Nat}{st:cF}{a c:List UInt8}{k:Nat}(ok:nJ st k)(hk:k≤100000):cf Tryz.prog 108 [.pointer (some ⟨g,0,none⟩),.string (strOf a),.string (strOf c)] [bk g st] [] (fun v_ X_ S_=>∃st1 A j,v_=(.int .i64 (b7 st a c))∧X_=[bk g st1]∧S_=[]∧((b7 st a c≠0∧st1=st)∨(b7 st a c=0∧st1=st.gz (.renamed a c) A j))):=by
 have hp:=ok.bW
 have hw:st.waits.length≤1000000:=by have:=ok.rest;omega
 refine aP (N:=23) Tryz.func108 rfl rfl (by simp) fun b=> ?_
 refine ah<|aj<|hy (fun _=>ab rfl)<|ai<|ag<|ah<|ah<|aj<|hy (fun _=>aa rfl)<| ?_
 refine hx (aq rfl Tryz.call115 (zu) [] rfl [] rfl ?_)
 rintro _ _ _ ⟨rfl,rfl,rfl⟩
 refine hy (fun _=>jK rfl)<|ai<|al (ρ' :=[(10,_),(6,_),(0,_),(1,_),(2,_)]) ⟨rfl,rfl,rfl,rfl,rfl,trivial⟩<|ak (X' :=[_]) (S' :=[]) (fun _ m=>m)<|ag<| ?_
 refine cG rfl (fun h1=> ?_) (fun h1=> ?_)
 ·have e:b7 st a c=1:=by rw[b7,if_pos h1]
  rw[e]
  refine ah<|aj<|hy (fun _=>ab rfl)<|ai<|ag<|aX<|ay<| ?_
  exact bh trivial rfl rfl [0] rfl [] rfl ⟨_,none,0,rfl,rfl,rfl,.inl ⟨by decide,rfl⟩⟩
 ·have e:b7 st a c=dQ st a:=by rw[b7,if_neg h1]
  rw[e]
  refine aB<|ag<|ah<|ah<|aj<|hy (fun _=>aa rfl)<|hy (fun _=>aa rfl)<| ?_
  refine hx (aq rfl Tryz.call158 (vT) [0] rfl [] rfl ?_)
  rintro _ _ _ ⟨rfl,rfl,rfl⟩
  refine hy (fun _=>ab rfl)<|ai<|al (ρ' :=[(7,_),(10,_),(6,_),(0,_),(1,_),(2,_)]) ⟨rfl,rfl,rfl,rfl,rfl,rfl,trivial⟩<|ak (X' :=[_]) (S' :=[]) (fun _ m=>m)<|ag<|ah<|aj<|hy (fun _=>aa rfl)<|hy (fun _=>cW rfl rfl)<|ai<|al (ρ' :=[(15,_),(7,_),(10,_),(6,_),(0,_),(1,_),(2,_)]) ⟨rfl,rfl,rfl,rfl,rfl,rfl,rfl,trivial⟩<|ag<| ?_
  refine cG rfl (fun h2=> ?_) (fun h2=> ?_)
  ·refine ah<|aj<|hy (fun _=>aa rfl)<|hy (fun _=>ab rfl)<|ai<|al (ρ' :=[(6,_),(15,_),(7,_),(10,_),(0,_),(1,_),(2,_)]) ⟨rfl,rfl,rfl,rfl,rfl,rfl,rfl,trivial⟩<|ag<|aX<|ay<| ?_
   exact bh trivial rfl rfl [0] rfl [] rfl ⟨_,none,0,rfl,rfl,rfl,.inl ⟨h2,rfl⟩⟩
  ·have h0:=Decidable.not_not.1 h2
   rw[h0]
   refine aB<|ag<|ah<|aj<|hy (fun _=>aa rfl)<|hy (fun _=>aa rfl)<|hy (fun _=>aa rfl)<|hy (fun _=>yV (cA Gl rfl rfl (by kernel_rfl) (.cons (o:=0) (sz:=1) (by kernel_rfl) rfl rfl (Nat.le_of_ble_eq_true rfl) (.cons (o:=1) (sz:=1) (by kernel_rfl) rfl rfl (Nat.le_of_ble_eq_true rfl) .nil))) ((rfl:_=Value.agg [SV a,SV c].toArray)))<|hy (fun _=>yV (kK rfl Tryz.underlying257 (fun _ h=>by cases h)) ((rfl:_=(fA.renamed a c).val)))<| ?_
   refine hx (aq rfl Tryz.call116 (Hk (by omega) (by omega)) [0] rfl [] rfl ?_)
   rintro _ _ _ ⟨A,k2,rfl,rfl,rfl⟩
   refine ai<|al (ρ' :=[(15,_),(7,_),(10,_),(6,_),(0,_),(1,_),(2,_)]) ⟨rfl,rfl,rfl,rfl,rfl,rfl,rfl,trivial⟩<|ak (X' :=[_]) (S' :=[]) (fun _ m=>m)<|ag<|ah<|aj<|hy (fun _=>ab rfl)<|ai<|ag<|aX<| ?_
   exact bh trivial rfl rfl [0] rfl [] rfl ⟨_,_,_,rfl,rfl,rfl,.inr ⟨rfl,rfl⟩⟩
theorem B9{g:Nat}{st:cF}{p:List UInt8}{k:Nat}(ok:nJ st k)(hk:k≤100000):cf Tryz.prog 79 [.pointer (some ⟨g,0,none⟩),.string (strOf p)] [bk g st] [] (fun v_ X_ S_=>∃st1 A j,v_=(.int .i64 (dQ st p))∧X_=[bk g st1]∧S_=[]∧((dQ st p≠0∧st1=st)∨(dQ st p=0∧st1=st.gz (.removed p) A j))):=by
 have hp:=ok.bW
 have hw:st.waits.length≤1000000:=by have:=ok.rest;omega
 refine aP (N:=17) Tryz.func79 rfl rfl (by simp) fun b=> ?_
 refine ah<|aj<|hy (fun _=>ab rfl)<|ai<|ag<|ah<|ah<|aj<|hy (fun _=>aa rfl)<|hy (fun _=>aa rfl)<| ?_
 refine hx (aq rfl Tryz.call158 (vT) [0] rfl [] rfl ?_)
 rintro _ _ _ ⟨rfl,rfl,rfl⟩
 refine hy (fun _=>ab rfl)<|ai<|al (ρ' :=[(5,_),(4,_),(0,_),(1,_)]) ⟨rfl,rfl,rfl,rfl,trivial⟩<|ak (X' :=[_]) (S' :=[]) (fun _ m=>m)<|ag<|ah<|aj<|hy (fun _=>aa rfl)<|hy (fun _=>cW rfl rfl)<|ai<|al (ρ' :=[(10,_),(5,_),(4,_),(0,_),(1,_)]) ⟨rfl,rfl,rfl,rfl,rfl,trivial⟩<|ag<| ?_
 refine cG rfl (fun h2=> ?_) (fun h2=> ?_)
 ·refine ah<|aj<|hy (fun _=>aa rfl)<|hy (fun _=>ab rfl)<|ai<|al (ρ' :=[(4,_),(10,_),(5,_),(0,_),(1,_)]) ⟨rfl,rfl,rfl,rfl,rfl,trivial⟩<|ag<|aX<|ay<| ?_
  exact bh trivial rfl rfl [0] rfl [] rfl ⟨_,none,0,rfl,rfl,rfl,.inl ⟨h2,rfl⟩⟩
 ·have h0:=Decidable.not_not.1 h2
  rw[h0]
  refine aB<|ag<|ah<|aj<|hy (fun _=>aa rfl)<|hy (fun _=>aa rfl)<|hy (fun _=>yV (cA F4 rfl rfl (by kernel_rfl) (.cons (o:=0) (sz:=1) (by kernel_rfl) rfl rfl (Nat.le_of_ble_eq_true rfl) .nil)) ((rfl:_=Value.agg [SV p].toArray)))<|hy (fun _=>yV (kK rfl Tryz.underlying237 (fun _ h=>by cases h)) ((rfl:_=(fA.removed p).val)))<| ?_
  refine hx (aq rfl Tryz.call116 (Hn (by omega) (by omega)) [0] rfl [] rfl ?_)
  rintro _ _ _ ⟨A,k2,rfl,rfl,rfl⟩
  refine ai<|al (ρ' :=[(10,_),(5,_),(4,_),(0,_),(1,_)]) ⟨rfl,rfl,rfl,rfl,rfl,trivial⟩<|ak (X' :=[_]) (S' :=[]) (fun _ m=>m)<|ag<|ah<|aj<|hy (fun _=>ab rfl)<|ai<|ag<|aX<| ?_
  exact bh trivial rfl rfl [0] rfl [] rfl ⟨_,_,_,rfl,rfl,rfl,.inr ⟨rfl,rfl⟩⟩
theorem yb{g:Nat}{st:cF}{A:Option Addr}{n c:Nat}{bs:List Bool}(hc:n≤c)(hs:Small st)(hw:st.waits.length≤1000000):cf Tryz.prog 72 [.pointer (some ⟨g,0,none⟩),.slice A n c] [bk g st] [di 1 A n (qX bs)] (fun v_ X_ S_=>∃gs,v_=(.tuple #[])∧X_=[bk g (st.started bs gs)]∧S_=[]):=by
 refine aP (N:=67) Tryz.func72 rfl rfl (by simp) fun b=> ?_
 refine a6 (fun m=>gX (m.rd 0 rfl)) ?_
 rintro⟨hl_r,hA_r⟩
 refine bC (fun w m=>(m.perm (au [0] _ [_] _ rfl)).unpack) ?_
 refine a6 (fun m=>(m.ord 3 rfl).2.1) fun hwA=> ?_
 refine ah<|aj<| ?_
 refine hx (cw rfl (fun g3=> ?_))
 refine ai<|ak (X' :=[_,_,_,_,_,_]) (S' :=[_]) (fun _ m=>m)<|ag<|ah<|aj<|hy (fun _=>iP rfl rfl)<|hy (fun _=>ab rfl)<|ai<|al (ρ' :=[(4,_),(3,_),(0,_),(1,_)]) ⟨rfl,rfl,rfl,rfl,trivial⟩<|ag<|ah<|ah<|aj<|hy (fun _=>aa rfl)<|hy (fun _=>ba rfl)<|hy (fun _=>aI rfl gH (by decide))<|hy (fun m=>aw rfl uj (aE (m.aZ 1 rfl) rfl))<|hy (fun _=>aT rfl Tryz.underlying175)<|hy (fun _=>aa rfl)<|ai<|al (ρ' :=[(15,_),(14,_),(13,_),(4,_),(3,_),(0,_),(1,_)]) ⟨rfl,rfl,rfl,rfl,rfl,rfl,rfl,trivial⟩<|ag<|aK<| ?_
 refine n0 (fun i ks L A1 n1 c1=>st.waits.length-i) (fun i ks L A1 n1 c1=>[(15,.int .i64 (i:Nat))]) (fun i ks L A1 n1 c1=>[aL g3 28 [.slice A1 n1 c1],dg SV st.gl (dK L)]) (fun i ks L A1 n1 c1=>[di 1 A1 n1 (qX ks)]) (fun i ks L A1 n1 c1=>n1≤c1∧i≤st.waits.length∧(ks,L)=eu bs st i) 0 bs st.b4 A n c [(14,_),(13,_),(4,_),(3,_),(0,_),(1,_)] ⟨rfl,rfl,rfl,rfl,rfl,rfl,trivial⟩ [0,2] rfl [0] rfl (⟨hc,Nat.zero_le _,by simp[eu]⟩) ⟨rfl,trivial⟩ (fun i ks L A1 n1 c1 ⟨hc1,hi,hf⟩=> ?_)
 refine ah<|aj<|hy (fun _=>bw rfl rfl)<|ai<|ag<|ah<| ?_
 refine cG rfl (fun hlt=> ?_) (fun hlt=> ?_)
 ·obtain⟨cg,hcg⟩:∃cg,st.waits[i]? =some cg:=⟨_,List.getElem?_eq_getElem (by omega)⟩
  have hfs:=mq (keep:=bs) hcg
  rw[←hf]at hfs
  refine aB<|ag<|ah<|aK<|ah<|aj<|hy (fun _=>aS rfl rfl Tryz.underlying175 Gu hwA rfl (by omega))<|hy (fun m=>aw rfl Gd ((m.ord 4 rfl).cell (j:=i) (by rw[List.getElem?_map,hcg];rfl)))<|hy (fun _=>ab rfl)<|ai<|al (ρ' :=[(6,_),(16,_),(15,_),(14,_),(13,_),(4,_),(3,_),(0,_),(1,_)]) ⟨rfl,rfl,rfl,rfl,rfl,rfl,rfl,rfl,rfl,trivial⟩<|ag<|ah<|ah<|aj<|hy (fun _=>aa rfl)<| ?_
  refine hx (kX rfl rfl Tryz.call152 (tE (by omega)) [0] rfl [0] rfl ?_)
  rintro _ _ _ ⟨A12,n12,c12,rfl,rfl,rfl,hp⟩
  refine aA (fun m=>gX (m.rd 0 rfl)) ?_
  rintro⟨hl_q,hA_q⟩
  refine hy (fun _=>(jl rfl))<|ai<|al (ρ' :=[(21,_),(6,_),(16,_),(15,_),(14,_),(13,_),(4,_),(3,_),(0,_),(1,_)]) ⟨rfl,rfl,rfl,rfl,rfl,rfl,rfl,rfl,rfl,rfl,trivial⟩<|ak (X' :=[_,_,_,_,_,_]) (S' :=[_,_,_]) (fun _ m=>m)<|ag<| ?_
  refine tc rfl (fun hb=> ?_) (fun hb=> ?_)
  ·have hb' :ks.headD false=false:=by simpa using hb
   refine bL<|ao<|aD<|ag<|aj<|hy (fun _=>aN rfl rfl (bF (by omega) (by omega)))<|hy (fun _=>aa rfl)<|ai<|al (ρ' :=[(15,_),(21,_),(6,_),(16,_),(14,_),(13,_),(4,_),(3,_),(0,_),(1,_)]) ⟨rfl,rfl,rfl,rfl,rfl,rfl,rfl,rfl,rfl,rfl,trivial⟩<| ?_
   refine eX (i+1) ks.tail L A12 n12 c12 ⟨rfl,rfl,rfl,rfl,rfl,rfl,rfl,trivial⟩ [0,0,0,0,0,0] rfl [0,2] rfl (⟨hp,by omega,by rw[hfs];unfold ik;rw[if_neg (by rw[hb'];decide)]⟩) (by omega)
  ·have hb' :ks.headD false=true:=by simpa using hb
   rcases cg with⟨p,r⟩|⟨a,c9⟩|⟨p⟩
   ·have hrm:r∈rowsOf st:=by
     unfold rowsOf
     exact List.mem_append_right _ (List.mem_filterMap.2 ⟨_,List.mem_of_getElem? hcg,rfl⟩)
    have hsr:=hs r hrm
    obtain⟨ri,hri⟩:=List.mem_iff_getElem?.1 hrm
    refine a6 (fun m=>CL (m.FX 5 rfl) hri) fun hrc=> ?_
    refine aB<|ag<|ah<|aj<|hy (fun _=>aa rfl)<|ai<|ag<|aK<|ah<|aj<|hy (fun _=>m7 rfl (show _=Result.ok (Value.tuple #[.agg [SV p,r.val].toArray,.bool true]) _ by kernel_rfl))<|hy (fun _=>ar rfl rfl)<|hy (fun _=>ar rfl rfl)<|ai<|al (ρ' :=[(34,_),(33,_),(22,_),(21,_),(6,_),(16,_),(15,_),(14,_),(13,_),(4,_),(3,_),(0,_),(1,_)]) ⟨rfl,rfl,rfl,rfl,rfl,rfl,rfl,rfl,rfl,rfl,rfl,rfl,rfl,trivial⟩<|ag<| ?_
    refine gY rfl (rfl) ?_
    refine ah<|aj<| ?_
    refine hx (aM DT (fun g7=> ?_))
    refine cH (aJ 0 rfl rfl rfl zW rfl (by simp[SV,eC.val,Value.oneCell']) rfl ?_)
    refine ai<|ak (X' :=[_,_,_,_,_,_,_]) (S' :=[_,_,_]) (fun _ m=>m)<|ag<|ah<|ah<|aj<|hy (fun _=>aa rfl)<| ?_
    refine hx (kX rfl rfl Tryz.call152 (tE (by omega)) [1] rfl [0] rfl ?_)
    rintro _ _ _ ⟨A13,n13,c13,rfl,rfl,rfl,hp2⟩
    refine aA (fun m=>gX (m.rd 0 rfl)) ?_
    rintro⟨hl_q2,hA_q2⟩
    refine hy (fun _=>(jl rfl))<|ai<|al (ρ' :=[(37,_),(7,_),(34,_),(33,_),(22,_),(21,_),(6,_),(16,_),(15,_),(14,_),(13,_),(4,_),(3,_),(0,_),(1,_)]) ⟨rfl,rfl,rfl,rfl,rfl,rfl,rfl,rfl,rfl,rfl,rfl,rfl,rfl,rfl,rfl,trivial⟩<|ak (X' :=[_,_,_,_,_,_,_]) (S' :=[_,_,_,_]) (fun _ m=>m)<|ag<| ?_
    refine tc rfl (fun hb2=> ?_) (fun hb2=> ?_)
    ·have hb2' :ks.tail.headD false=false:=by simpa using hb2
     refine aj<|hy (fun _=>aI rfl pd (by decide))<|hy (fun m=>aw rfl eh (aE (m.aZ 1 rfl) rfl))<|hy (fun _=>aI rfl pd (by decide))<|hy (fun m=>aw rfl eh (aE (m.aZ 1 rfl) rfl))<|hy (fun _=>aT rfl Tryz.underlying27)<|hy (fun _=>jV rfl rfl (by omega) (by omega) (bF (by omega) (by omega)))<|hy (fun _=>kj rfl rfl Tryz.underlying27 dZ (show((r.n/2:Nat):Int)=_ by omega) (by omega))<|hy (fun _=>aI rfl pd (by decide))<| ?_
     refine cH (ct 1 rfl rfl rfl oV rfl (by first|exact Nat.le_of_ble_eq_true rfl|simp) ?_)
     refine aQ (fun w m=>m.bN 0 rfl (show _=aL g7 189 [SV p,r.half.val]from rfl)) ?_
     refine ai<|al (ρ' :=[(37,_),(7,_),(34,_),(33,_),(22,_),(21,_),(6,_),(16,_),(15,_),(14,_),(13,_),(4,_),(3,_),(0,_),(1,_)]) ⟨rfl,rfl,rfl,rfl,rfl,rfl,rfl,rfl,rfl,rfl,rfl,rfl,rfl,rfl,rfl,trivial⟩<|ak (X' :=[_,_,_,_,_,_,_]) (S' :=[_,_,_,_]) (fun _ m=>m)<|ag<|cT [5] [(0,some 0),(1,some 0),(2,some 0),(3,some 0),(4,some 0),(5,none)] (by kernel_rfl) (by kernel_rfl) rfl 0<|cq (fun m=>aU rfl DR zW (by simp) (m.aZ 0 rfl).ax)<|an (aa rfl)<|an (ba rfl)<|an (aI rfl lv (by decide))<|cq (fun m=>aw rfl jh (aE (m.aZ 3 rfl) rfl))<| ?_
     refine ek (aq rfl Tryz.call153 (u6) [2] rfl [] rfl ?_)
     rintro _ _ _ ⟨rfl,rfl,rfl⟩
     refine⟨(fun h=>absurd h (by decide)), ?_⟩
     refine bz<|al (ρ' :=[(37,_),(7,_),(34,_),(33,_),(22,_),(21,_),(6,_),(16,_),(15,_),(14,_),(13,_),(4,_),(3,_),(0,_),(1,_)]) ⟨rfl,rfl,rfl,rfl,rfl,rfl,rfl,rfl,rfl,rfl,rfl,rfl,rfl,rfl,rfl,trivial⟩<|ak (X' :=[_,_,_,_,_,_,_]) (S' :=[_,_,_,_]) (fun _ m=>m)<|aO<|aO<|ag<|aj<|hy (fun _=>aN rfl rfl (bF (by omega) (by omega)))<|hy (fun _=>aa rfl)<|ai<|al (ρ' :=[(15,_),(37,_),(7,_),(34,_),(33,_),(22,_),(21,_),(6,_),(16,_),(14,_),(13,_),(4,_),(3,_),(0,_),(1,_)]) ⟨rfl,rfl,rfl,rfl,rfl,rfl,rfl,rfl,rfl,rfl,rfl,rfl,rfl,rfl,rfl,trivial⟩<| ?_
     refine ak (fun w m=>m.bN 0 rfl (show _=dg SV st.gl (dK (cQ L p r.half))from congrArg (dg SV st.gl) (lq _ _ _))) ?_
     refine eX (i+1) ks.tail.tail (cQ L p r.half) A13 n13 c13 ⟨rfl,rfl,rfl,rfl,rfl,rfl,rfl,trivial⟩ [2,0,1,1,1,1] rfl [0,3] rfl (⟨hp2,by omega,by rw[hfs,ik,if_pos hb',hb2'];rfl⟩) (by omega)
    ·have hb2' :ks.tail.headD false=true:=by simpa using hb2
     refine aB<|ag<|cT [5] [(0,some 0),(1,some 0),(2,some 0),(3,some 0),(4,some 0),(5,none)] (by kernel_rfl) (by kernel_rfl) rfl 0<|cq (fun m=>aU rfl DR zW (by simp) (m.aZ 1 rfl).ax)<|an (aa rfl)<|an (ba rfl)<|an (aI rfl lv (by decide))<|cq (fun m=>aw rfl jh (aE (m.aZ 3 rfl) rfl))<| ?_
     refine ek (aq rfl Tryz.call153 (u6) [2] rfl [] rfl ?_)
     rintro _ _ _ ⟨rfl,rfl,rfl⟩
     refine⟨(fun h=>absurd h (by decide)), ?_⟩
     refine bz<|al (ρ' :=[(37,_),(7,_),(34,_),(33,_),(22,_),(21,_),(6,_),(16,_),(15,_),(14,_),(13,_),(4,_),(3,_),(0,_),(1,_)]) ⟨rfl,rfl,rfl,rfl,rfl,rfl,rfl,rfl,rfl,rfl,rfl,rfl,rfl,rfl,rfl,trivial⟩<|ak (X' :=[_,_,_,_,_,_,_]) (S' :=[_,_,_,_]) (fun _ m=>m)<|aO<|aO<|ag<|aj<|hy (fun _=>aN rfl rfl (bF (by omega) (by omega)))<|hy (fun _=>aa rfl)<|ai<|al (ρ' :=[(15,_),(37,_),(7,_),(34,_),(33,_),(22,_),(21,_),(6,_),(16,_),(14,_),(13,_),(4,_),(3,_),(0,_),(1,_)]) ⟨rfl,rfl,rfl,rfl,rfl,rfl,rfl,rfl,rfl,rfl,rfl,rfl,rfl,rfl,rfl,trivial⟩<| ?_
     refine ak (fun w m=>m.bN 0 rfl (show _=dg SV st.gl (dK (cQ L p r))from congrArg (dg SV st.gl) (lq _ _ _))) ?_
     refine eX (i+1) ks.tail.tail (cQ L p r) A13 n13 c13 ⟨rfl,rfl,rfl,rfl,rfl,rfl,rfl,trivial⟩ [1,0,1,1,1,1] rfl [0,3] rfl (⟨hp2,by omega,by rw[hfs,ik,if_pos hb',hb2'];rfl⟩) (by omega)
   ·refine aB<|ag<|ah<|aj<|hy (fun _=>aa rfl)<|ai<|ag<|aK<|ah<|aj<|hy (fun _=>m7 rfl (show _=Result.ok (Value.tuple #[.agg [SV [],.slice none 0 0].toArray,.bool false]) _ by kernel_rfl))<|hy (fun _=>ar rfl rfl)<|hy (fun _=>ar rfl rfl)<|ai<|al (ρ' :=[(34,_),(33,_),(22,_),(21,_),(6,_),(16,_),(15,_),(14,_),(13,_),(4,_),(3,_),(0,_),(1,_)]) ⟨rfl,rfl,rfl,rfl,rfl,rfl,rfl,rfl,rfl,rfl,rfl,rfl,rfl,trivial⟩<|ag<| ?_
    refine dB rfl (rfl) ?_
    refine ah<|aj<|hy (fun _=>ab rfl)<|ai<|al (ρ' :=[(34,_),(33,_),(22,_),(21,_),(6,_),(16,_),(15,_),(14,_),(13,_),(4,_),(3,_),(0,_),(1,_)]) ⟨rfl,rfl,rfl,rfl,rfl,rfl,rfl,rfl,rfl,rfl,rfl,rfl,rfl,trivial⟩<|ag<|cT [8] [(0,some 0),(1,some 0),(2,some 0),(3,some 0),(4,some 0),(5,some 0),(6,some 0),(7,some 0),(8,none)] (by kernel_rfl) (by kernel_rfl) rfl 0<|an (aa rfl)<|an (aa rfl)<|an (ba rfl)<|an (aI rfl lv (by decide))<|cq (fun m=>aw rfl jh (aE (m.aZ 2 rfl) rfl))<|an (iP rfl rfl)<|an (ph rfl (by kernel_rfl))<|an (aa rfl)<| ?_
    refine ek (qd rfl rfl (fun w=>by kernel_rfl) Tryz.call337 (zJ) [1] rfl [] rfl ?_)
    rintro _ _ _ ⟨rfl,rfl,rfl⟩
    refine⟨(fun h=>absurd h (by decide)), ?_⟩
    refine bz<|al (ρ' :=[(34,_),(33,_),(22,_),(21,_),(6,_),(16,_),(15,_),(14,_),(13,_),(4,_),(3,_),(0,_),(1,_)]) ⟨rfl,rfl,rfl,rfl,rfl,rfl,rfl,rfl,rfl,rfl,rfl,rfl,rfl,trivial⟩<|ak (X' :=[_,_,_,_,_,_]) (S' :=[_,_,_]) (fun _ m=>m)<|aO<|aO<|ag<|aj<|hy (fun _=>aN rfl rfl (bF (by omega) (by omega)))<|hy (fun _=>aa rfl)<|ai<|al (ρ' :=[(15,_),(34,_),(33,_),(22,_),(21,_),(6,_),(16,_),(14,_),(13,_),(4,_),(3,_),(0,_),(1,_)]) ⟨rfl,rfl,rfl,rfl,rfl,rfl,rfl,rfl,rfl,rfl,rfl,rfl,rfl,trivial⟩<| ?_
    refine eX (i+1) ks.tail (oT L (.renamed a c9)) A12 n12 c12 ⟨rfl,rfl,rfl,rfl,rfl,rfl,rfl,trivial⟩ [1,0,0,0,0,0] rfl [0,2] rfl (⟨hp,by omega,by rw[hfs];unfold ik;rw[if_pos hb'];rfl⟩) (by omega)
   ·refine aB<|ag<|ah<|aj<|hy (fun _=>aa rfl)<|ai<|ag<|aK<|ah<|aj<|hy (fun _=>m7 rfl (show _=Result.ok (Value.tuple #[.agg [SV [],.slice none 0 0].toArray,.bool false]) _ by kernel_rfl))<|hy (fun _=>ar rfl rfl)<|hy (fun _=>ar rfl rfl)<|ai<|al (ρ' :=[(34,_),(33,_),(22,_),(21,_),(6,_),(16,_),(15,_),(14,_),(13,_),(4,_),(3,_),(0,_),(1,_)]) ⟨rfl,rfl,rfl,rfl,rfl,rfl,rfl,rfl,rfl,rfl,rfl,rfl,rfl,trivial⟩<|ag<| ?_
    refine dB rfl (rfl) ?_
    refine ah<|aj<|hy (fun _=>ab rfl)<|ai<|al (ρ' :=[(34,_),(33,_),(22,_),(21,_),(6,_),(16,_),(15,_),(14,_),(13,_),(4,_),(3,_),(0,_),(1,_)]) ⟨rfl,rfl,rfl,rfl,rfl,rfl,rfl,rfl,rfl,rfl,rfl,rfl,rfl,trivial⟩<|ag<|cT [8] [(0,some 0),(1,some 0),(2,some 0),(3,some 0),(4,some 0),(5,some 0),(6,some 0),(7,some 0),(8,none)] (by kernel_rfl) (by kernel_rfl) rfl 0<|an (aa rfl)<|an (aa rfl)<|an (ba rfl)<|an (aI rfl lv (by decide))<|cq (fun m=>aw rfl jh (aE (m.aZ 2 rfl) rfl))<|an (iP rfl rfl)<|an (ph rfl (by kernel_rfl))<|an (aa rfl)<| ?_
    refine ek (qd rfl rfl (fun w=>by kernel_rfl) Tryz.call335 (Ai) [1] rfl [] rfl ?_)
    rintro _ _ _ ⟨rfl,rfl,rfl⟩
    refine⟨(fun h=>absurd h (by decide)), ?_⟩
    refine bz<|al (ρ' :=[(34,_),(33,_),(22,_),(21,_),(6,_),(16,_),(15,_),(14,_),(13,_),(4,_),(3,_),(0,_),(1,_)]) ⟨rfl,rfl,rfl,rfl,rfl,rfl,rfl,rfl,rfl,rfl,rfl,rfl,rfl,trivial⟩<|ak (X' :=[_,_,_,_,_,_]) (S' :=[_,_,_]) (fun _ m=>m)<|aO<|aO<|ag<|aj<|hy (fun _=>aN rfl rfl (bF (by omega) (by omega)))<|hy (fun _=>aa rfl)<|ai<|al (ρ' :=[(15,_),(34,_),(33,_),(22,_),(21,_),(6,_),(16,_),(14,_),(13,_),(4,_),(3,_),(0,_),(1,_)]) ⟨rfl,rfl,rfl,rfl,rfl,rfl,rfl,rfl,rfl,rfl,rfl,rfl,rfl,trivial⟩<| ?_
    refine eX (i+1) ks.tail (oT L (.removed p)) A12 n12 c12 ⟨rfl,rfl,rfl,rfl,rfl,rfl,rfl,trivial⟩ [1,0,0,0,0,0] rfl [0,2] rfl (⟨hp,by omega,by rw[hfs,ik,if_pos hb'];rfl⟩) (by omega)
 ·obtain rfl:i=st.waits.length:=by omega
  have hL:L=(eu bs st st.waits.length).2:=by rw[←hf]
  refine bL<|ao<|ao<|aD<|ag<|aj<|hy (fun _=>aa rfl)<|hy (fun _=>aa rfl)<|hy (fun _=>aa rfl)<|hy (fun _=>aa rfl)<|hy (fun _=>ba rfl)<|hy (fun _=>aI rfl lv (by decide))<|hy (fun m=>aw rfl jh (aE (m.aZ 2 rfl) rfl))<| ?_
  refine hx (aq rfl Tryz.call154 (wi) [1] rfl [] rfl ?_)
  rintro _ _ _ ⟨g1,rfl,rfl,rfl⟩
  refine hy (fun _=>ba rfl)<|hy (fun _=>aI rfl gK (by decide))<| ?_
  refine cH (ct 3 rfl rfl rfl DP rfl (by first|exact Nat.le_of_ble_eq_true rfl|simp) ?_)
  refine hy (fun _=>ba rfl)<|hy (fun _=>aI rfl gH (by decide))<| ?_
  refine cH (ct 0 rfl rfl rfl tR rfl (by first|exact Nat.le_of_ble_eq_true rfl|simp) ?_)
  refine hy (fun _=>ba rfl)<|hy (fun _=>aI rfl lB (by decide))<| ?_
  refine cH (ct 0 rfl rfl rfl s7 rfl (by first|exact Nat.le_of_ble_eq_true rfl|simp) ?_)
  refine ai<|al (ρ' :=[(16,_),(15,_),(14,_),(13,_),(4,_),(3,_),(0,_),(1,_)]) ⟨rfl,rfl,rfl,rfl,rfl,rfl,rfl,rfl,trivial⟩<|ak (X' :=[_,_,_,_,_,_,_]) (S' :=[_,_]) (fun _ m=>m)<| ?_
  refine ak (fun w m=>m.dj (r' :=aH 232 1 (.slice none 0 0) 0 []) (.refl _ _) (Own.nil _ _ _ _) (fun k hk=>hk.elim)) ?_
  have e:∀gs,st.started bs gs={st with gs:=gs,seen:=L,b4:=L,waits:=[],wA:=none,wc:=0,bW:=-1}:=fun gs=>by rw[hL];rfl
  refine ak (fun w m=>m.bN 1 rfl (show _=aL g 177 (ic (st.started bs g1))from rfl)) ?_
  refine ak (fun w m=>m.bN 3 rfl (show _=dg SV g1 (dK (st.started bs g1).seen)from by rw[hL];rfl)) ?_
  refine ak (fun w m=>m.bN 3 rfl (show _=dg SV st.gl (dK (st.started bs g1).b4)from by rw[hL];rfl)) ?_
  refine ak (X' :=fV (rowsOf (st.started bs g1))::_) (fun w m=>(m.perm (au [7] _ [_] _ rfl)).Cn (na g1)) ?_
  refine ak (X' :=bk g (st.started bs g1)::_) (fun w m=>(m.perm (au [3,2,1,1,0] _ [_,_,_,_,_] _ rfl)).pack) ?_
  exact fJ trivial rfl [0] rfl [] rfl ⟨_,rfl,rfl,rfl⟩
end Go.Proofs.YtmibdabdlgmafaaGreatDoor
end
section
namespace Go.Proofs.YtmibdabdlgmafaaGreatDoor
open Go.Eng Go.Hx
theorem Dw:∀(x y:List UInt8),Op.bytesLess x y=decide (x<y)
 | [],[]=>by simp[Op.bytesLess]
 |_::_,[]=>by simp[Op.bytesLess]
 | [],_::_=>by simp[Op.bytesLess]
 |a::x,b::y=>by
  rw[Op.bytesLess,Dw x y]
  simp only[List.cons_lt_cons_iff]
  by_cases h1:a<b <;> by_cases h2:a=b <;> by_cases h3:x<y <;> simp[h1,h2,h3]
theorem rp{a b:List UInt8}:nk a b=decide (a<b):=by
 unfold nk
 rw[Dw,Lib.toList_data,Lib.toList_data]
 rfl
def iq:List FP→FP→List FP
 | [],f=>[f]
 |x::r,f=>if x.1<f.1 then x::iq r f else f::(x::r).filter fun y=>decide (y.1≠f.1)
theorem lS(f:FP):∀(l acc:List FP),l.foldl (iQ f) (acc,true)=(acc++l.filter (fun y=>decide (y.1≠f.1)),true)
 | [],acc=>by simp
 |x::r,acc=>by
  rw[List.foldl_cons]
  by_cases h:x.1=f.1
  ·have:iQ f (acc,true) x=(acc,true):=by simp[iQ,h]
   rw[this,lS f r acc];simp[h]
  ·have:iQ f (acc,true) x=(acc++[x],true):=by simp[iQ,h]
   rw[this,lS f r (acc++[x])];simp[h]
def AJ(f:FP)(st:List FP×Bool):List FP:=if st.2 then st.1 else st.1++[f]
theorem p8(f:FP):∀(l acc:List FP),AJ f (l.foldl (iQ f) (acc,false))=acc++iq l f
 | [],acc=>by simp[iq,AJ]
 |x::r,acc=>by
  rw[List.foldl_cons]
  by_cases h:x.1<f.1
  ·have hne:x.1≠f.1:=fun e=>by rw[e]at h;exact List.lt_irrefl _ h
   have:iQ f (acc,false) x=(acc++[x],false):=by simp[iQ,rp,h,hne]
   rw[this,p8 f r (acc++[x]),iq,if_pos h];simp
  ·have hs:nk x.1 f.1=false:=by rw[rp];simpa using h
   rw[iq,if_neg h]
   by_cases he:x.1=f.1
   ·have hs' :nk f.1 f.1=false:=he▸hs
    have:iQ f (acc,false) x=(acc++[f],true):=by simp[iQ,hs',he]
    rw[this,lS];simp[he,AJ]
   ·have:iQ f (acc,false) x=(acc++[f]++[x],true):=by simp[iQ,hs,he]
    rw[this,lS];simp[he,AJ]
theorem jR(l:List FP)(f:FP):gT l f=iq l f:=by
 have:=p8 f l []
 rw[List.nil_append]at this
 rw[←this]
 unfold gT B6 AJ
 rw[List.take_of_length_le (Nat.le_refl _)]
def lk:List FP→List UInt8→Option (List UInt8)
 | [],_=>none
 |x::r,p=>if x.1=p then some x.2 else lk r p
theorem fT:∀(l:List FP) (p:List UInt8),(l[cK l p]?).map (·.2)=lk l p
 | [],p=>rfl
 |x::r,p=>by
  have:=fT r p
  unfold cK at this ⊢
  rw[List.findIdx_cons]
  by_cases h:x.1=p
  ·simp[h,lk]
  ·simp[h,lk,this]
theorem iI(q:List UInt8):∀(l:List FP) (p:List UInt8),lk (l.filter fun y=>decide (y.1≠q)) p=if p=q then none else lk l p
 | [],p=>by simp[lk]
 |x::r,p=>by
  have ih:=iI q r p
  by_cases h:x.1=q
  ·rw[List.filter_cons,if_neg (by simp[h]),ih]
   by_cases hp:p=q
   ·simp[hp]
   ·rw[if_neg hp,if_neg hp,lk,if_neg (fun e=>hp (e.symm.trans h))]
  ·rw[List.filter_cons,if_pos (by simp[h]),lk,ih]
   by_cases hp:p=q
   ·rw[if_pos hp,if_pos hp,if_neg (fun e=>h (e.trans hp))]
   ·rw[if_neg hp,if_neg hp,lk]
theorem sO:∀(l:List FP) (f:FP) (p:List UInt8),lk (iq l f) p=if p=f.1 then some f.2 else lk l p
 | [],f,p=>by simp only[iq,lk,eq_comm]
 |x::r,f,p=>by
  unfold iq
  by_cases h:x.1<f.1
  ·rw[if_pos h,lk,sO r f p,lk]
   have hne:x.1≠f.1:=fun e=>by rw[e]at h;exact List.lt_irrefl _ h
   by_cases hp:p=f.1
   ·rw[if_pos hp,if_pos hp,if_neg (fun e=>hne (e.trans hp))]
   ·rw[if_neg hp,if_neg hp]
  ·rw[if_neg h,lk,iI]
   by_cases hp:p=f.1
   ·rw[if_pos hp.symm,if_pos hp]
   ·rw[if_neg (fun e=>hp e.symm),if_neg hp,if_neg hp]
def kH(l:List FP):Prop:=(l.map (·.1)).Pairwise (· <·)
theorem ow{l:List FP}(q:FP→Bool)(h:kH l):kH (l.filter q):=List.Pairwise.sublist (List.Sublist.map _ List.filter_sublist) h
theorem wM{l:List FP}{f y:FP}(h:y∈iq l f):y=f∨y∈l:=by
 induction l with
 |nil=>exact .inl (by simpa[iq]using h)
 |cons x r ih=>
  unfold iq at h
  split at h
  ·rcases List.mem_cons.1 h with h|h
   ·exact .inr (by rw[h];exact List.mem_cons_self ..)
   ·rcases ih h with h|h
    ·exact .inl h
    ·exact .inr (List.mem_cons_of_mem _ h)
  ·rcases List.mem_cons.1 h with h|h
   ·exact .inl h
   ·exact .inr ((List.mem_filter.1 h).1)
theorem z7{l:List FP}{f:FP}(h:kH l):kH (iq l f):=by
 induction l with
 |nil=>simp[kH,iq]
 |cons x r ih=>
  have hx:∀y∈r,x.1<y.1:=by
   intro y hy
   exact(List.pairwise_cons.1 h).1 _ (List.mem_map.2 ⟨y,hy,rfl⟩)
  have hr:kH r:=(List.pairwise_cons.1 h).2
  unfold iq
  by_cases hlt:x.1<f.1
  ·rw[if_pos hlt]
   refine List.pairwise_cons.2 ⟨?_,ih hr⟩
   intro a ha
   obtain⟨y,hy,rfl⟩:=List.mem_map.1 ha
   rcases wM hy with rfl|hy
   ·exact hlt
   ·exact hx y hy
  ·rw[if_neg hlt]
   refine List.pairwise_cons.2 ⟨?_,ow _ h⟩
   intro a ha
   obtain⟨y,hy,rfl⟩:=List.mem_map.1 ha
   have hy1:=(List.mem_filter.1 hy).1
   have hy2:y.1≠f.1:=by simpa using(List.mem_filter.1 hy).2
   have hge:¬y.1<f.1:=by
    rcases List.mem_cons.1 hy1 with rfl|h1
    ·exact hlt
    ·exact fun e=>hlt (List.lt_trans (hx y h1) e)
   exact Decidable.byContradiction fun hn=>hy2 (List.le_antisymm (List.not_lt.1 hn) (List.not_lt.1 hge))
structure fp(fs:dm)(l:List FP):Prop where
 ord:kH l
 nd:(cn fs).Nodup
 look:∀p,(ck fs p).map (·.l)=lk l p
 len:∀x∈fs,x.2.n=x.2.l.length
theorem fp.nil:fp [] []:=⟨by simp[kH],by simp[cn],fun p=>rfl,fun x h=>by cases h⟩
theorem u0{l:List FP}{p:List UInt8}:lk l p≠none↔p∈l.map (·.1):=by
 induction l with
 |nil=>simp[lk]
 |cons x r ih=>
  unfold lk
  by_cases h:x.1=p
  ·simp[h]
  ·rw[if_neg h,ih];simp[Ne.symm h]
theorem fp.keys{fs:dm}{l:List FP}(h:fp fs l):(cn fs).Perm (l.map (·.1)):=by
 have hn:(l.map (·.1)).Nodup:=List.Pairwise.imp (fun hlt e=>by rw[e]at hlt;exact List.lt_irrefl _ hlt) h.ord
 refine(List.perm_ext_iff_of_nodup h.nd hn).2 fun p=> ?_
 rw[←u0,←h.look p]
 have:= @jY (List UInt8) eC _ fs p
 cases hq:ck fs p with
 |none=>simp[this.1 hq]
 |some r=>simp;exact Decidable.byContradiction fun hm=>by rw[this.2 hm]at hq;cases hq
theorem fp.put{fs:dm}{l:List FP}(h:fp fs l){p:List UInt8}{r:eC}(hr:r.n=r.l.length):fp (cQ fs p r) (gT l (p,r.l)):=by
 rw[jR]
 refine⟨z7 h.ord,gA h.nd,fun q=> ?_,fun x hx=> ?_⟩
 ·rw[rX,sO]
  by_cases hq:p=q
  ·rw[if_pos hq,if_pos hq.symm];rfl
  ·rw[if_neg hq,if_neg (fun e=>hq e.symm)];exact h.look q
 ·rcases j0 (List.mem_map.2 ⟨x,hx,rfl⟩)with h1|h1
  ·obtain⟨y,hy,e⟩:=List.mem_map.1 h1
   rw[←e];exact h.len y hy
  ·rw[h1];exact hr
theorem Ad{a b:List Nat}(h:a.Perm b):a.sum=b.sum:=by
 induction h with
 |nil=>rfl
 |cons x _ ih=>simp[ih]
 |swap x y l=>simp;omega
 |trans _ _ h1 h2=>rw[h1,h2]
theorem C5{l:List FP}(h:kH l){x:FP}(hx:x∈l):lk l x.1=some x.2:=by
 induction l with
 |nil=>cases hx
 |cons y r ih=>
  unfold lk
  rcases List.mem_cons.1 hx with rfl|h1
  ·rw[if_pos rfl]
  ·have hlt:y.1<x.1:=(List.pairwise_cons.1 h).1 _ (List.mem_map.2 ⟨x,h1,rfl⟩)
   rw[if_neg (fun e=>by rw[e]at hlt;exact List.lt_irrefl _ hlt)]
   exact ih (List.pairwise_cons.1 h).2 h1
theorem fp.mi{fs:dm}{l:List FP}(h:fp fs l):mi fs=dM l:=by
 let g:List UInt8→Nat:=fun p=>((lk l p).getD []).length
 have h1:fs.map (fun x=>x.2.n)=(cn fs).map g:=by
  rw[cn,List.map_map]
  refine List.map_congr_left fun x hx=> ?_
  have:=h.look x.1
  rw[oq h.nd (show(x.1,x.2)∈fs from hx)]at this
  show x.2.n=((lk l x.1).getD []).length
  rw[←this,h.len x hx];rfl
 have h2:l.map (fun x=>x.2.length)=(l.map (·.1)).map g:=by
  rw[List.map_map]
  refine List.map_congr_left fun x hx=> ?_
  show x.2.length=((lk l x.1).getD []).length
  rw[C5 h.ord hx];rfl
 show(fs.map fun x=>x.2.n).sum=(l.map fun x=>x.2.length).sum
 rw[h1,h2]
 exact Ad (h.keys.map g)
theorem fp.Db{fs:dm}{l:List FP}(h:fp fs l):fs.length=l.length:=by
 have:=h.keys.length_eq
 simpa[cn]using this
theorem fp.sz{fs:dm}{l:List FP}(h:fp fs l)(p:List UInt8):((ck fs p).map (·.n)).getD 0=((l[cK l p]?).map (·.2.length)).getD 0:=by
 have h1:=h.look p
 rw[←fT]at h1
 cases hq:ck fs p with
 |none=>
  rw[hq]at h1
  cases hl:l[cK l p]? with
  |none=>rfl
  |some x=>rw[hl]at h1;cases h1
 |some r=>
  rw[hq]at h1
  cases hl:l[cK l p]? with
  |none=>rw[hl]at h1;cases h1
  |some x=>
   rw[hl]at h1
   have e:r.l=x.2:=Option.some.inj h1
   have:=h.len _ (iS hq)
   simp only[Option.map_some,Option.getD_some]
   rw[←e];exact this
structure vq(st:cF)(d:RD):Prop where
 room:st.room=d.room
 bW:st.bW=d.pw
 files:fp st.seen d.seen
 waits:st.waits.length=d.waits.length
theorem vq.bP{st:cF}{d:RD}(h:vq st d)(p bb:List UInt8):bP st p bb.length=d.bP p bb:=by
 have h1:=h.files.sz p
 have h2:=h.files.mi
 unfold Go.Proofs.YtmibdabdlgmafaaGreatDoor.bP RD.bP RD.sz
 rw[h.bW,h.room,h1,h2]
 by_cases hn:¬gh p
 ·rw[if_pos hn,if_pos hn]
 ·rw[if_neg hn,if_neg hn]
  by_cases h0:d.pw=0
  ·rw[if_pos h0,if_pos h0]
  ·rw[if_neg h0,if_neg h0]
   by_cases hr:d.room<(dM d.seen:Int)+(bb.length:Nat)-(((d.seen[cK d.seen p]?).map (·.2.length)).getD 0:Nat)
   ·rw[if_pos hr,if_pos (by omega)]
   ·rw[if_neg hr,if_neg (by omega)]
theorem vq.cj{st:cF}{d:RD}(h:vq st d)(p:List UInt8):dQ st p=d.cj p:=by
 have h1:=h.files.look p
 rw[←fT]at h1
 unfold dQ RD.cj
 rw[h.bW]
 by_cases h0:d.pw=0
 ·rw[if_pos h0,if_pos h0]
 ·rw[if_neg h0,if_neg h0]
  cases ha:ck st.seen p with
  |none=>
   rw[ha]at h1
   cases hb:d.seen[cK d.seen p]? with
   |none=>simp
   |some y=>rw[hb]at h1;cases h1
  |some r=>
   rw[ha]at h1
   cases hb:d.seen[cK d.seen p]? with
   |none=>rw[hb]at h1;cases h1
   |some y=>simp
theorem vq.cC{st:cF}{d:RD}(h:vq st d)(p:List UInt8):cC st p=d.cC p:=by
 have h1:=h.files.look p
 rw[←fT]at h1
 have h2:=h.cj p
 unfold Go.Proofs.YtmibdabdlgmafaaGreatDoor.cC RD.cC
 rw[h2,←h1]
 unfold RD.cj
 by_cases h0:d.pw=0
 ·rw[if_pos h0,if_pos h0,if_neg (by decide)]
 ·rw[if_neg h0,if_neg h0]
  cases hb:d.seen[cK d.seen p]? with
  |none=>
   rw[hb]at h1
   cases ha:ck st.seen p with
   |none=>simp
   |some r=>rw[ha]at h1;cases h1
  |some y=>simp
end Go.Proofs.YtmibdabdlgmafaaGreatDoor
end
section
set_option maxRecDepth 20000
namespace Go.Proofs.YtmibdabdlgmafaaGreatDoor
open Go.Eng Go.Hx
structure RX where
 d:RD
 A:Option Addr
 c:Nat
 Al:Option Addr
 cl:Nat
 A3:Option Addr
 c3:Nat
def RX.cs(x:RX):List Value:=rv x.d x.A x.d.seen.length x.c x.Al x.d.b4.length x.cl x.A3 x.d.waits.length x.c3
abbrev RX.parts(x:RX):List bq:=[di 2 x.A x.d.seen.length (fc x.d.seen),di 2 x.Al x.d.b4.length (fc x.d.b4),di 4 x.A3 x.d.waits.length (uY x.d.waits)]
def c6(x:RX):bq:=oW x.parts
theorem bA{x:RX}:∀u∈x.cs,u.oneCell' =true:=jH
theorem View.yz{x:RX}:View (c6 x) (di 2 x.A x.d.seen.length (fc x.d.seen)):=View.pS 0 rfl
theorem View.Fx{x:RX}:View (c6 x) (di 2 x.Al x.d.b4.length (fc x.d.b4)):=View.pS 1 rfl
theorem View.GK{x:RX}:View (c6 x) (di 4 x.A3 x.d.waits.length (uY x.d.waits)):=View.pS 2 rfl
def RD.new(room:Int):RD:=⟨room,[],[],[],-1⟩
def RX.new(room:Int):RX:=⟨RD.new room,none,0,none,0,none,0⟩
theorem xc{y:RX}{S:List bq}(h0:∃t∈S,View t (di 2 y.A y.d.seen.length (fc y.d.seen)))(h1:∃t∈S,View t (di 2 y.Al y.d.b4.length (fc y.d.b4)))(h2:∃t∈S,View t (di 4 y.A3 y.d.waits.length (uY y.d.waits))):si S [c6 y]:=by
 refine si.cons (fun s hs=> ?_) si.nil
 simp only[List.mem_cons,List.not_mem_nil,or_false]at hs
 rcases hs with rfl|rfl|rfl
 ·exact h0
 ·exact h1
 ·exact h2
theorem BD{room:Int}:si [] [c6 (RX.new room)]:=by
 intro s hs
 obtain rfl:=List.mem_singleton.1 hs
 refine⟨fun w _ x hx=> ?_,fun k hk=> ?_⟩
 ·simp only[List.mem_cons,List.not_mem_nil,or_false]at hx
  rcases hx with rfl|rfl|rfl <;> exact Rd.nil _ _ _
 ·obtain⟨x,hx,hk⟩:=hk
  simp only[List.mem_cons,List.not_mem_nil,or_false]at hx
  rcases hx with rfl|rfl|rfl <;> exact absurd rfl hk.1
theorem Hp{r:bq}{S:List bq}:∃t∈r::S,View t r:=⟨r,List.mem_cons_self ..,.same⟩
theorem inr{r a:bq}{S:List bq}(h:∃t∈S,View t r):∃t∈a::S,View t r:=by
 obtain⟨t,ht,hv⟩:=h
 exact⟨t,List.mem_cons_of_mem _ ht,hv⟩
theorem inv1{r a:bq}{S:List bq}(h:View a r):∃t∈a::S,View t r:=⟨a,List.mem_cons_self ..,h⟩
theorem Gp{room:Int}:cf Tryz.prog 25 [.int .i64 room] [] [] (fun v_ X_ S_=>∃y,v_=(.agg y.cs.toArray)∧X_=[]∧S_=[c6 y]∧(y.d=RD.new room)):=by
 exact cf.vB FO (fun s hs=>by cases hs) (fun v X S h=>by
  obtain⟨rfl,rfl,rfl⟩:=h
  exact⟨_,⟨RX.new room,rfl,rfl,rfl,rfl⟩,BD⟩)
theorem vv{x:RX}{kk:Nat}{p:List UInt8}(ok:xP x.d kk)(hkk:kk≤100000):cf Tryz.prog 91 [.agg x.cs.toArray,.string (strOf p)] [] [c6 x] (fun v_ X_ S_=>v_=(.tuple #[.string (strOf (x.d.cC p)),.int .i64 (x.d.cj p)])∧X_=[]∧S_=[]):=by
 exact cf.vB (EJ rfl ok hkk) (fun s hs=>⟨_,List.mem_singleton_self _,by rw[List.mem_singleton.1 hs];exact View.yz⟩) (fun v X S h=>⟨[],⟨h.1,h.2.1,rfl⟩,si.nil⟩)
theorem oo(d:RD)(p bb:List UInt8):(d.write p bb).b4=d.b4:=by
 unfold RD.write
 split <;> rfl
theorem xi{x:RX}:∀s∈ [di 2 x.A x.d.seen.length (fc x.d.seen),di 4 x.A3 x.d.waits.length (uY x.d.waits)],∃t∈ [c6 x],View t s:=by
 intro s hs
 refine⟨_,List.mem_singleton_self _, ?_⟩
 simp only[List.mem_cons,List.not_mem_nil,or_false]at hs
 rcases hs with rfl|rfl
 ·exact View.yz
 ·exact View.GK
theorem nb{x:RX}{kk:Nat}{p bb:List UInt8}(ok:xP x.d kk)(hkk:kk≤100000)(hpl:p.length≤1000000)(hbb:bb.length≤1000000):cf Tryz.prog 31 [.agg x.cs.toArray,.string (strOf p),.string (strOf bb)] [] [c6 x] (fun v_ X_ S_=>∃y,v_=(.tuple #[.agg y.cs.toArray,.int .i64 (x.d.bP p bb)])∧X_=[]∧S_=[c6 y]∧(y.d=x.d.write p bb)):=by
 refine cf.vB (C8 rfl rfl ok hkk hpl hbb) xi (fun v X S h=> ?_)
 obtain⟨A1,n1,c1,A2,n2,c2,rfl,rfl,rfl,rfl,rfl⟩:=h
 refine⟨_,⟨⟨x.d.write p bb,A1,c1,x.Al,x.cl,A2,c2⟩,by unfold RX.cs;simp only[oo],rfl,rfl,rfl⟩,xc Hp (inr (inr (inv1 ?_))) (inr Hp)⟩
 simp only[oo]
 exact View.Fx
theorem GF{x:RX}{kk:Nat}{k:Int}{p t bb:List UInt8}(ok:xP x.d kk)(hkk:kk≤100000):cf Tryz.prog 114 [.agg x.cs.toArray,.agg (cv k p t bb).toArray] [] [c6 x] (fun v_ X_ S_=>∃y,v_=(.agg y.cs.toArray)∧X_=[]∧S_=[c6 y]∧(y.d=x.d.gz k p t bb)):=by
 have h1:=ok.seen
 have h2:=ok.waits
 refine cf.vB (Fy rfl (by omega) rfl (by omega) ok.p1 ok.p2) xi (fun v X S h=> ?_)
 obtain⟨A1,n1,c1,A2,n2,c2,rfl,rfl,rfl,rfl,_,rfl⟩:=h
 have e:(x.d.waits++[(k,p,t,bb)]).length=x.d.waits.length+1:=by simp
 refine⟨_,⟨⟨x.d.gz k p t bb,A1,c1,x.Al,x.cl,A2,c2⟩,by unfold RX.cs;simp only[RD.gz,e];rfl,rfl,rfl,rfl⟩,xc Hp (inr (inr (inv1 View.Fx))) (inr (inv1 ?_))⟩
 simp only[RD.gz,e]
 exact .same
def RD.b7(d:RD)(a c:List UInt8):Int:=if¬gh c then 1 else d.cj a
def RD.rename(d:RD)(a c:List UInt8):RD:=if d.b7 a c=0 then d.gz 1 a c []else d
def RD.remove(d:RD)(p:List UInt8):RD:=if d.cj p=0 then d.gz 2 p [] []else d
theorem A7{x:RX}{kk:Nat}{a c:List UInt8}(ok:xP x.d kk)(hkk:kk≤100000)(hcl:c.length≤1000000):cf Tryz.prog 100 [.agg x.cs.toArray,.string (strOf a),.string (strOf c)] [] [c6 x] (fun v_ X_ S_=>∃y,v_=(.tuple #[.agg y.cs.toArray,.int .i64 (x.d.b7 a c)])∧X_=[]∧S_=[c6 y]∧(y.d=x.d.rename a c)):=by
 refine aP (N:=31) Tryz.func100 rfl rfl (by simp) fun b=> ?_
 refine ah<|aj<| ?_
 refine hx (cw rfl (fun g3=> ?_))
 refine aQ (fun w m=>m.bN 0 rfl (show _=aL g3 39 x.cs from congrArg (aL _ _) (bu _))) ?_
 refine hx (aM fO (fun g6=> ?_))
 refine hy (fun _=>ab rfl)<|ai<|ak (X' :=[_,_]) (S' :=[_]) (fun _ m=>m)<|ag<|ah<|aj<|hy (fun _=>aa rfl)<| ?_
 refine hx (aq rfl Tryz.call112 (xu (by omega)) [] rfl [] rfl ?_)
 rintro _ _ _ ⟨rfl,rfl,rfl⟩
 refine hy (fun _=>ab rfl)<|ai<|al (ρ' :=[(8,_),(7,_),(6,_),(3,_),(0,_),(1,_),(2,_)]) ⟨rfl,rfl,rfl,rfl,rfl,rfl,rfl,trivial⟩<|ak (X' :=[_,_]) (S' :=[_]) (fun _ m=>m)<|ag<|ah<|ah<|aj<|hy (fun _=>aa rfl)<|hy (fun _=>jK rfl)<|ai<|al (ρ' :=[(14,_),(8,_),(7,_),(6,_),(3,_),(0,_),(1,_),(2,_)]) ⟨rfl,rfl,rfl,rfl,rfl,rfl,rfl,rfl,trivial⟩<|ag<| ?_
 refine cG rfl (fun hN=> ?_) (fun hN=> ?_)
 ·have hE:x.d.b7 a c=1:=by rw[RD.b7,if_pos hN]
  have hE0:¬(1:Int)=0:=by decide
  have hW:x.d.rename a c=x.d:=by rw[RD.rename,if_neg (by rw[hE];exact hE0)]
  rw[hE,hW]
  refine ah<|aj<|hy (fun m=>yV (aU rfl ca bj rfl ((m.aZ 1 rfl).ax)) ((rfl:_=Value.agg x.cs.toArray)))<| ?_
  refine cH (aJ 0 rfl rfl rfl bj rfl bA rfl ?_)
  refine hy (fun _=>ab rfl)<|ai<|al (ρ' :=[(7,_),(14,_),(8,_),(6,_),(3,_),(0,_),(1,_),(2,_)]) ⟨rfl,rfl,rfl,rfl,rfl,rfl,rfl,rfl,trivial⟩<|ak (X' :=[_,_]) (S' :=[_]) (fun _ m=>m)<|ag<|aX<|ay<| ?_
  exact dX trivial rfl rfl rfl ca bj rfl (fun m=>(m.aZ 0 rfl).ax) [] rfl [0] rfl ⟨x,rfl,rfl,rfl,rfl⟩
 ·have hE:x.d.b7 a c=x.d.cj a:=by rw[RD.b7,if_neg hN]
  refine aB<|ag<|ah<|aj<|hy (fun m=>yV (aU rfl ca bj rfl ((m.aZ 1 rfl).ax)) ((rfl:_=Value.agg x.cs.toArray)))<|hy (fun _=>aa rfl)<| ?_
  refine hx (aq rfl Tryz.call91 (vv (by omega) (by omega)) [] rfl [0] rfl ?_)
  rintro _ _ _ ⟨rfl,rfl,rfl⟩
  refine hy (fun _=>aa rfl)<|hy (fun _=>ar rfl rfl)<|hy (fun _=>ar rfl rfl)<|hy (fun _=>ab rfl)<|hy (fun _=>ab rfl)<|ai<|al (ρ' :=[(10,_),(14,_),(8,_),(7,_),(6,_),(3,_),(0,_),(1,_),(2,_)]) ⟨rfl,rfl,rfl,rfl,rfl,rfl,rfl,rfl,rfl,trivial⟩<|ak (X' :=[_,_]) (S' :=[_]) (fun _ m=>m)<|ag<|ah<|ah<|aj<|hy (fun _=>aa rfl)<|hy (fun _=>cW rfl rfl)<|ai<|al (ρ' :=[(23,_),(10,_),(14,_),(8,_),(7,_),(6,_),(3,_),(0,_),(1,_),(2,_)]) ⟨rfl,rfl,rfl,rfl,rfl,rfl,rfl,rfl,rfl,rfl,trivial⟩<|ag<| ?_
  refine cG rfl (fun hE0=> ?_) (fun hE0=> ?_)
  ·have hW:x.d.rename a c=x.d:=by rw[RD.rename,if_neg (by rw[hE];exact hE0)]
   rw[hE,hW]
   refine ah<|aj<|hy (fun m=>yV (aU rfl ca bj rfl ((m.aZ 1 rfl).ax)) ((rfl:_=Value.agg x.cs.toArray)))<|hy (fun _=>aa rfl)<| ?_
   refine cH (aJ 0 rfl rfl rfl bj rfl bA rfl ?_)
   refine hy (fun _=>ab rfl)<|ai<|al (ρ' :=[(7,_),(23,_),(10,_),(14,_),(8,_),(6,_),(3,_),(0,_),(1,_),(2,_)]) ⟨rfl,rfl,rfl,rfl,rfl,rfl,rfl,rfl,rfl,rfl,trivial⟩<|ak (X' :=[_,_]) (S' :=[_]) (fun _ m=>m)<|ag<|aX<|ay<| ?_
   exact dX trivial rfl rfl rfl ca bj rfl (fun m=>(m.aZ 0 rfl).ax) [] rfl [0] rfl ⟨x,rfl,rfl,rfl,rfl⟩
  ·have hr0:=Decidable.not_not.1 hE0
   have hW:x.d.rename a c=x.d.gz 1 a c []:=by rw[RD.rename,if_pos (by rw[hE];exact hr0)]
   rw[hE,hW,hr0]
   refine aB<|ag<|ah<|aj<|hy (fun m=>yV (aU rfl ca bj rfl ((m.aZ 1 rfl).ax)) ((rfl:_=Value.agg x.cs.toArray)))<|hy (fun _=>aa rfl)<|hy (fun _=>aa rfl)<|hy (fun _=>yV (cA pM rfl rfl (by kernel_rfl) (.cons (o:=0) (sz:=1) (by kernel_rfl) rfl rfl (Nat.le_of_ble_eq_true rfl) (.cons (o:=1) (sz:=1) (by kernel_rfl) rfl rfl (Nat.le_of_ble_eq_true rfl) (.cons (o:=2) (sz:=1) (by kernel_rfl) rfl rfl (Nat.le_of_ble_eq_true rfl) .nil)))) ((rfl:_=Value.agg (cv 1 a c []).toArray)))<| ?_
   refine hx (aq rfl Tryz.call114 (GF (by omega) (by omega)) [] rfl [0] rfl ?_)
   rintro _ _ _ ⟨y,rfl,rfl,rfl,hp⟩
   refine cH (aJ 0 rfl rfl rfl bj rfl bA rfl ?_)
   refine hy (fun _=>ab rfl)<|ai<|al (ρ' :=[(7,_),(23,_),(10,_),(14,_),(8,_),(6,_),(3,_),(0,_),(1,_),(2,_)]) ⟨rfl,rfl,rfl,rfl,rfl,rfl,rfl,rfl,rfl,rfl,trivial⟩<|ak (X' :=[_,_]) (S' :=[_,_]) (fun _ m=>m)<|ag<|aX<| ?_
   exact dX trivial rfl rfl rfl ca bj rfl (fun m=>(m.aZ 0 rfl).ax) [] rfl [0] rfl ⟨y,rfl,rfl,rfl,hp⟩
theorem pN{x:RX}{kk:Nat}{p:List UInt8}(ok:xP x.d kk)(hkk:kk≤100000):cf Tryz.prog 78 [.agg x.cs.toArray,.string (strOf p)] [] [c6 x] (fun v_ X_ S_=>∃y,v_=(.tuple #[.agg y.cs.toArray,.int .i64 (x.d.cj p)])∧X_=[]∧S_=[c6 y]∧(y.d=x.d.remove p)):=by
 refine aP (N:=22) Tryz.func78 rfl rfl (by simp) fun b=> ?_
 refine ah<|aj<| ?_
 refine hx (cw rfl (fun g2=> ?_))
 refine aQ (fun w m=>m.bN 0 rfl (show _=aL g2 39 x.cs from congrArg (aL _ _) (bu _))) ?_
 refine hx (aM fO (fun g4=> ?_))
 refine hy (fun _=>ab rfl)<|ai<|ak (X' :=[_,_]) (S' :=[_]) (fun _ m=>m)<|ag<|ah<|aj<|hy (fun m=>yV (aU rfl ca bj rfl ((m.aZ 1 rfl).ax)) ((rfl:_=Value.agg x.cs.toArray)))<|hy (fun _=>aa rfl)<| ?_
 refine hx (aq rfl Tryz.call91 (vv (by omega) (by omega)) [] rfl [0] rfl ?_)
 rintro _ _ _ ⟨rfl,rfl,rfl⟩
 refine hy (fun _=>aa rfl)<|hy (fun _=>ar rfl rfl)<|hy (fun _=>ar rfl rfl)<|hy (fun _=>ab rfl)<|hy (fun _=>ab rfl)<|ai<|al (ρ' :=[(7,_),(5,_),(4,_),(2,_),(0,_),(1,_)]) ⟨rfl,rfl,rfl,rfl,rfl,rfl,trivial⟩<|ak (X' :=[_,_]) (S' :=[_]) (fun _ m=>m)<|ag<|ah<|ah<|aj<|hy (fun _=>aa rfl)<|hy (fun _=>cW rfl rfl)<|ai<|al (ρ' :=[(15,_),(7,_),(5,_),(4,_),(2,_),(0,_),(1,_)]) ⟨rfl,rfl,rfl,rfl,rfl,rfl,rfl,trivial⟩<|ag<| ?_
 refine cG rfl (fun hE0=> ?_) (fun hE0=> ?_)
 ·have hW:x.d.remove p=x.d:=by rw[RD.remove,if_neg hE0]
  rw[hW]
  refine ah<|aj<|hy (fun m=>yV (aU rfl ca bj rfl ((m.aZ 1 rfl).ax)) ((rfl:_=Value.agg x.cs.toArray)))<|hy (fun _=>aa rfl)<| ?_
  refine cH (aJ 0 rfl rfl rfl bj rfl bA rfl ?_)
  refine hy (fun _=>ab rfl)<|ai<|al (ρ' :=[(5,_),(15,_),(7,_),(4,_),(2,_),(0,_),(1,_)]) ⟨rfl,rfl,rfl,rfl,rfl,rfl,rfl,trivial⟩<|ak (X' :=[_,_]) (S' :=[_]) (fun _ m=>m)<|ag<|aX<|ay<| ?_
  exact dX trivial rfl rfl rfl ca bj rfl (fun m=>(m.aZ 0 rfl).ax) [] rfl [0] rfl ⟨x,rfl,rfl,rfl,rfl⟩
 ·have hr0:=Decidable.not_not.1 hE0
  have hW:x.d.remove p=x.d.gz 2 p [] []:=by rw[RD.remove,if_pos hr0]
  rw[hW,hr0]
  refine aB<|ag<|ah<|aj<|hy (fun m=>yV (aU rfl ca bj rfl ((m.aZ 1 rfl).ax)) ((rfl:_=Value.agg x.cs.toArray)))<|hy (fun _=>aa rfl)<|hy (fun _=>yV (cA pM rfl rfl (by kernel_rfl) (.cons (o:=0) (sz:=1) (by kernel_rfl) rfl rfl (Nat.le_of_ble_eq_true rfl) (.cons (o:=1) (sz:=1) (by kernel_rfl) rfl rfl (Nat.le_of_ble_eq_true rfl) .nil))) ((rfl:_=Value.agg (cv 2 p [] []).toArray)))<| ?_
  refine hx (aq rfl Tryz.call114 (GF (by omega) (by omega)) [] rfl [0] rfl ?_)
  rintro _ _ _ ⟨y,rfl,rfl,rfl,hp⟩
  refine cH (aJ 0 rfl rfl rfl bj rfl bA rfl ?_)
  refine hy (fun _=>ab rfl)<|ai<|al (ρ' :=[(5,_),(15,_),(7,_),(4,_),(2,_),(0,_),(1,_)]) ⟨rfl,rfl,rfl,rfl,rfl,rfl,rfl,trivial⟩<|ak (X' :=[_,_]) (S' :=[_,_]) (fun _ m=>m)<|ag<|aX<| ?_
  exact dX trivial rfl rfl rfl ca bj rfl (fun m=>(m.aZ 0 rfl).ax) [] rfl [0] rfl ⟨y,rfl,rfl,rfl,hp⟩
def RD.dx(d:RD):Int:=if d.pw=0 then 6 else 0
def RD.sync(d:RD):RD:=if d.pw=0 then d else{d with b4:=d.seen,waits:=[],pw:=dU d.pw}
theorem s5{x:RX}{kk:Nat}(ok:xP x.d kk):cf Tryz.prog 99 [.agg x.cs.toArray] [] [c6 x] (fun v_ X_ S_=>∃y,v_=(.tuple #[.agg y.cs.toArray,.int .i64 x.d.dx])∧X_=[]∧S_=[c6 y]∧(y.d=x.d.sync)):=by
 have hp1:=ok.p1
 have hp2:=ok.p2
 refine aP (N:=20) Tryz.func99 rfl rfl (by simp) fun b=> ?_
 refine ah<|aj<| ?_
 refine hx (cw rfl (fun g1=> ?_))
 refine aQ (fun w m=>m.bN 0 rfl (show _=aL g1 39 x.cs from congrArg (aL _ _) (bu _))) ?_
 refine hx (aM fO (fun g2=> ?_))
 refine hy (fun _=>ab rfl)<|ai<|ak (X' :=[_,_]) (S' :=[_]) (fun _ m=>m)<|ag<|ah<|ah<|aj<|hy (fun _=>aI rfl hO (by decide))<|hy (fun m=>aw rfl fZ (aE (m.aZ 1 rfl) (i:=4) rfl))<|hy (fun _=>cM rfl rfl)<|ai<|al (ρ' :=[(6,_),(3,_),(2,_),(1,_),(0,_)]) ⟨rfl,rfl,rfl,rfl,rfl,trivial⟩<|ag<| ?_
 refine cG rfl (fun h0=> ?_) (fun h0=> ?_)
 ·have hE:x.d.dx=6:=by rw[RD.dx,if_pos h0]
  have hW:x.d.sync=x.d:=by rw[RD.sync,if_pos h0]
  rw[hE,hW]
  refine ah<|aj<|hy (fun m=>yV (aU rfl ca bj rfl ((m.aZ 1 rfl).ax)) ((rfl:_=Value.agg x.cs.toArray)))<| ?_
  refine cH (aJ 0 rfl rfl rfl bj rfl bA rfl ?_)
  refine hy (fun _=>ab rfl)<|ai<|al (ρ' :=[(3,_),(6,_),(2,_),(1,_),(0,_)]) ⟨rfl,rfl,rfl,rfl,rfl,trivial⟩<|ak (X' :=[_,_]) (S' :=[_]) (fun _ m=>m)<|ag<|aX<|ay<| ?_
  exact dX trivial rfl rfl rfl ca bj rfl (fun m=>(m.aZ 0 rfl).ax) [] rfl [0] rfl ⟨x,rfl,rfl,rfl,rfl⟩
 ·have hE:x.d.dx=0:=by rw[RD.dx,if_neg h0]
  have hW:x.d.sync={x.d with b4:=x.d.seen,waits:=[],pw:=dU x.d.pw}:=by rw[RD.sync,if_neg h0]
  rw[hE]
  refine bC (fun w m=>m.jL 0 rfl View.yz) ?_
  refine a6 (fun m=>gX (m.rd 0 rfl)) ?_
  rintro⟨hl_r0,hA_r0⟩
  refine bC (fun w m=>m.ob (r' :=di 4 none 0 []) (.refl _ _) (Rd.nil _ _ _) (fun k hk=>absurd rfl hk.1)) ?_
  have hA_z:0<0→(none:Option Addr)≠none:=fun h=>absurd h (by decide)
  refine aB<|ag<|ah<|aj<|hy (fun _=>aI rfl gD (by decide))<|hy (fun m=>aw rfl oQ (aE (m.aZ 1 rfl) (i:=1) rfl))<|hy (fun _=>aI rfl EP (by decide))<| ?_
  refine cH (ct 1 rfl rfl rfl GO rfl (by first|exact Nat.le_of_ble_eq_true rfl|simp) ?_)
  refine ai<|al (ρ' :=[(6,_),(3,_),(2,_),(1,_),(0,_)]) ⟨rfl,rfl,rfl,rfl,rfl,trivial⟩<|ak (X' :=[_,_]) (S' :=[_,_,_]) (fun _ m=>m)<|ag<|ah<|aj<|hy (fun _=>aI rfl sH (by decide))<| ?_
  refine cH (ct 0 rfl rfl rfl FT rfl (by first|exact Nat.le_of_ble_eq_true rfl|simp) ?_)
  refine ai<|al (ρ' :=[(6,_),(3,_),(2,_),(1,_),(0,_)]) ⟨rfl,rfl,rfl,rfl,rfl,trivial⟩<|ak (X' :=[_,_]) (S' :=[_,_,_]) (fun _ m=>m)<|ag<|ah<|ah<|aj<|hy (fun _=>aI rfl hO (by decide))<|hy (fun m=>aw rfl fZ (aE (m.aZ 0 rfl) (i:=4) rfl))<|hy (fun _=>dh rfl rfl)<|ai<|al (ρ' :=[(14,_),(6,_),(3,_),(2,_),(1,_),(0,_)]) ⟨rfl,rfl,rfl,rfl,rfl,rfl,trivial⟩<|ag<| ?_
  refine bC (S' :=c6 ⟨{x.d with b4:=x.d.seen,waits:=[],pw:=dU x.d.pw},x.A,x.c,x.A,x.c,none,0⟩::_) (fun w m=>m.BQ [1,1,0] rfl) ?_
  refine cG rfl (fun h1=> ?_) (fun h1=> ?_)
  ·refine aj<|hy (fun _=>aI rfl hO (by decide))<|hy (fun m=>aw rfl fZ (aE (m.aZ 0 rfl) (i:=4) rfl))<|hy (fun _=>cp rfl rfl (bF (by omega) (by omega)))<|hy (fun _=>aI rfl hO (by decide))<| ?_
   refine cH (ct 0 rfl rfl rfl s7 rfl (by first|exact Nat.le_of_ble_eq_true rfl|simp) ?_)
   refine ai<|al (ρ' :=[(14,_),(6,_),(3,_),(2,_),(1,_),(0,_)]) ⟨rfl,rfl,rfl,rfl,rfl,rfl,trivial⟩<|ak (X' :=[_,_]) (S' :=[_,_,_,_]) (fun _ m=>m)<|ag<|ah<|aj<| ?_
   refine aQ (fun w m=>m.bN 0 rfl (show _=aL g1 39 (RX.cs ⟨{x.d with b4:=x.d.seen,waits:=[],pw:=dU x.d.pw},x.A,x.c,x.A,x.c,none,0⟩)from by rw[dU,if_pos h1];rfl)) ?_
   refine hy (fun m=>yV (aU rfl ca bj rfl ((m.aZ 0 rfl).ax)) ((rfl:_=Value.agg (RX.cs ⟨{x.d with b4:=x.d.seen,waits:=[],pw:=dU x.d.pw},x.A,x.c,x.A,x.c,none,0⟩).toArray)))<| ?_
   refine cH (aJ 1 rfl rfl rfl bj rfl bA rfl ?_)
   refine hy (fun _=>ab rfl)<|ai<|al (ρ' :=[(3,_),(14,_),(6,_),(2,_),(1,_),(0,_)]) ⟨rfl,rfl,rfl,rfl,rfl,rfl,trivial⟩<|ak (X' :=[_,_]) (S' :=[_,_,_,_]) (fun _ m=>m)<|ag<|aX<| ?_
   exact dX trivial rfl rfl rfl ca bj rfl (fun m=>(m.aZ 0 rfl).ax) [] rfl [0] rfl ⟨_,rfl,rfl,rfl,hW.symm⟩
  ·refine aB<|ag<|ah<|aj<| ?_
   refine aQ (fun w m=>m.bN 0 rfl (show _=aL g1 39 (RX.cs ⟨{x.d with b4:=x.d.seen,waits:=[],pw:=dU x.d.pw},x.A,x.c,x.A,x.c,none,0⟩)from by rw[dU,if_neg h1];rfl)) ?_
   refine hy (fun m=>yV (aU rfl ca bj rfl ((m.aZ 0 rfl).ax)) ((rfl:_=Value.agg (RX.cs ⟨{x.d with b4:=x.d.seen,waits:=[],pw:=dU x.d.pw},x.A,x.c,x.A,x.c,none,0⟩).toArray)))<| ?_
   refine cH (aJ 1 rfl rfl rfl bj rfl bA rfl ?_)
   refine hy (fun _=>ab rfl)<|ai<|al (ρ' :=[(3,_),(14,_),(6,_),(2,_),(1,_),(0,_)]) ⟨rfl,rfl,rfl,rfl,rfl,rfl,trivial⟩<|ak (X' :=[_,_]) (S' :=[_,_,_,_]) (fun _ m=>m)<|ag<|aX<| ?_
   exact dX trivial rfl rfl rfl ca bj rfl (fun m=>(m.aZ 0 rfl).ax) [] rfl [0] rfl ⟨_,rfl,rfl,rfl,hW.symm⟩
def RD.bW(d:RD)(n:Int):RD:={d with pw:=max n (-1)}
theorem B4{x:RX}{n:Int}:cf Tryz.prog 58 [.agg x.cs.toArray,.int .i64 n] [] [c6 x] (fun v_ X_ S_=>∃y,v_=(.agg y.cs.toArray)∧X_=[]∧S_=[c6 y]∧(y.d=x.d.bW n)):=by
 refine aP (N:=9) Tryz.func58 rfl rfl (by simp) fun b=> ?_
 refine ah<|aj<| ?_
 refine hx (cw rfl (fun g2=> ?_))
 refine aQ (fun w m=>m.bN 0 rfl (show _=aL g2 39 x.cs from congrArg (aL _ _) (bu _))) ?_
 refine aQ (fun w m=>m.jL 0 rfl View.yz) ?_
 refine aA (fun m=>gX (m.rd 0 rfl)) ?_
 rintro⟨hl_r0,hA_r0⟩
 refine aQ (fun w m=>m.jL 1 rfl View.Fx) ?_
 refine aA (fun m=>gX (m.rd 0 rfl)) ?_
 rintro⟨hl_r1,hA_r1⟩
 refine aQ (fun w m=>m.jL 2 rfl View.GK) ?_
 refine aA (fun m=>gX (m.rd 0 rfl)) ?_
 rintro⟨hl_r2,hA_r2⟩
 refine hx (aM fO (fun g4=> ?_))
 refine ai<|ak (X' :=[_,_]) (S' :=[_,_,_,_]) (fun _ m=>m)<|ag<|ah<|aj<|hy (fun _=>aa rfl)<|hy (fun _=>DO rfl rfl)<|hy (fun _=>aI rfl hO (by decide))<| ?_
 refine cH (ct 1 rfl rfl rfl s7 rfl (by first|exact Nat.le_of_ble_eq_true rfl|simp) ?_)
 refine ai<|al (ρ' :=[(4,_),(2,_),(0,_),(1,_)]) ⟨rfl,rfl,rfl,rfl,trivial⟩<|ak (X' :=[_,_]) (S' :=[_,_,_,_]) (fun _ m=>m)<|ag<|ah<|aj<| ?_
 refine aQ (S' :=c6 ⟨x.d.bW n,x.A,x.c,x.Al,x.cl,x.A3,x.c3⟩::_) (fun w m=>m.BQ [2,1,0] rfl) ?_
 refine aQ (fun w m=>m.bN 0 rfl (show _=aL g2 39 (RX.cs ⟨x.d.bW n,x.A,x.c,x.Al,x.cl,x.A3,x.c3⟩)from rfl)) ?_
 refine hy (fun m=>yV (aU rfl ca bj rfl ((m.aZ 0 rfl).ax)) ((rfl:_=Value.agg (RX.cs ⟨x.d.bW n,x.A,x.c,x.Al,x.cl,x.A3,x.c3⟩).toArray)))<| ?_
 refine cH (aJ 1 rfl rfl rfl bj rfl bA rfl ?_)
 refine ai<|al (ρ' :=[(4,_),(2,_),(0,_),(1,_)]) ⟨rfl,rfl,rfl,rfl,trivial⟩<|ak (X' :=[_,_]) (S' :=[_,_,_,_,_]) (fun _ m=>m)<|ag<|aX<| ?_
 exact fw trivial rfl rfl ca bj rfl (fun m=>(m.aZ 0 rfl).ax) [] rfl [0] rfl ⟨_,rfl,rfl,rfl,rfl⟩
end Go.Proofs.YtmibdabdlgmafaaGreatDoor
end
section
set_option maxRecDepth 20000
namespace Go.Proofs.YtmibdabdlgmafaaGreatDoor
open Go.Eng Go.Hx
theorem th{α:Type}{f:α→List Value}{k:Nat}(hf:∀x,(f x).length=k):∀(l:List α) (i j:Nat) (x:α),l[i]? =some x→j<k→(l.flatMap f)[i*k+j]? =(f x)[j]?
 | [],i,j,x,h,hj=>by simp at h
 |a::r,0,j,x,h,hj=>by
  simp only[List.getElem?_cons_zero,Option.some.injEq]at h
  subst h
  rw[List.flatMap_cons,Nat.zero_mul,Nat.zero_add,List.getElem?_append_left (by rw[hf];exact hj)]
 |a::r,i+1,j,x,h,hj=>by
  rw[List.flatMap_cons,List.getElem?_append_right (by rw[hf,Nat.succ_mul];omega),hf,show(i+1)*k+j-k=i*k+j by rw[Nat.succ_mul];omega]
  exact th hf r i j x (by simpa using h) hj
theorem qx{α:Type}{f:α→List Value}{k:Nat}{w:World}{A:Option Addr}{n i:Nat}{l:List α}{x:α}(hf:∀x,(f x).length=k)(h:Rd w k A n (l.flatMap f))(hx:l[i]? =some x):∀(j:Nat) (u:Value),(f x)[j]? =some u→w.cell? (((A.getD d0).add (i*k)).add j)=some u:=by
 intro j u hu
 have hj:j<k:=by have:=(List.getElem?_eq_some_iff.1 hu).1;rwa [hf]at this
 exact fm h (by rw[th hf l i j x hx hj];exact hu)
def jm(s:List Bool×List FP)(c:RC):List Bool×List FP:=
 if s.1.headD false then
  if c.1=0 then(s.1.tail.tail,dG s.2 c.1 c.2.1 c.2.2.1 (if s.1.tail.headD false then c.2.2.2 else c.2.2.2.take (c.2.2.2.length/2)))
  else(s.1.tail,dG s.2 c.1 c.2.1 c.2.2.1 c.2.2.2)
 else(s.1.tail,s.2)
def dfold(keep:List Bool)(d:RD)(i:Nat):List Bool×List FP:=(d.waits.take i).foldl jm (keep,d.b4)
def RD.ea(d:RD)(keep:List Bool):RD:={d with seen:=(dfold keep d d.waits.length).2,b4:=(dfold keep d d.waits.length).2,waits:=[],pw:=-1}
end Go.Proofs.YtmibdabdlgmafaaGreatDoor
end
section
namespace Go.Proofs.YtmibdabdlgmafaaGreatDoor
open Go.Eng Go.Hx
theorem fp.del{fs:dm}{l:List FP}(h:fp fs l)(p:List UInt8):fp (ej fs p) (dA l p):=by
 refine⟨ow _ h.ord,mj h.nd,fun q=> ?_,fun x hx=> ?_⟩
 ·rw[xY h.nd]
  have:=iI p l q
  unfold dA
  rw[this]
  by_cases hq:p=q
  ·rw[if_pos hq,if_pos hq.symm];rfl
  ·rw[if_neg hq,if_neg (fun e=>hq e.symm)];exact h.look q
 ·have h1:=iz (List.mem_map.2 ⟨x,hx,rfl⟩)
  obtain⟨y,hy,e⟩:=List.mem_map.1 h1
  rw[←e];exact h.len y hy
theorem fp.at{fs:dm}{l:List FP}(h:fp fs l)(p:List UInt8):(ck fs p=none∧l[cK l p]? =none)∨∃r x,ck fs p=some r∧l[cK l p]? =some x∧r.l=x.2∧r.n=r.l.length:=by
 have h1:=h.look p
 rw[←fT]at h1
 cases ha:ck fs p with
 |none=>
  rw[ha]at h1
  cases hb:l[cK l p]? with
  |none=>exact .inl ⟨rfl,rfl⟩
  |some y=>rw[hb]at h1;cases h1
 |some r=>
  rw[ha]at h1
  cases hb:l[cK l p]? with
  |none=>rw[hb]at h1;cases h1
  |some y=>
   rw[hb]at h1
   exact .inr ⟨r,y,rfl,rfl,Option.some.inj h1,h.len _ (iS ha)⟩
def fA.rc:fA→RC
 | .written p r=>(0,p,[],r.l)
 | .renamed a c=>(1,a,c,[])
 | .removed p=>(2,p,[],[])
def fA.wl(c:fA):Prop:=∀r,c.row=some r→r.n=r.l.length
theorem fp.oT{fs:dm}{l:List FP}(h:fp fs l){c:fA}(hc:c.wl):fp (oT fs c) (dG l c.rc.1 c.rc.2.1 c.rc.2.2.1 c.rc.2.2.2):=by
 cases c with
 |written p r=>
  rw[dG]
  exact h.put (hc r rfl)
 |renamed a b=>
  rw[dG]
  simp only[fA.rc,Go.Proofs.YtmibdabdlgmafaaGreatDoor.oT]
  rcases h.at a with⟨h1,h2⟩|⟨r,x,h1,h2,h3,h4⟩
  ·simp only[h1,h2];exact h
  ·simp only[h1,h2]
   rw[←h3]
   exact(h.del a).put h4
 |removed p=>
  rw[dG]
  simp only[fA.rc,Go.Proofs.YtmibdabdlgmafaaGreatDoor.oT]
  rcases h.at p with⟨h1,h2⟩|⟨r,x,h1,h2,h3,h4⟩
  ·simp only[h2]
   have e:ej fs p=fs:=by
    have hk:¬p∈cn fs:=jY.1 h1
    clear h h2 h1
    induction fs with
    |nil=>rfl
    |cons a q ih=>
     obtain⟨k,u⟩:=a
     simp only[cn,List.map_cons,List.mem_cons,not_or]at hk
     simp only[ej]
     rw[if_neg (fun e=>hk.1 e.symm),ih hk.2]
   rw[if_neg (by decide),e];exact h
  ·simp only[h2]
   rw[if_neg (by decide)]
   exact h.del p
structure DS(st:cF)(d:RD)(k:Nat):Prop where
 mB:vq st d
 ok:nJ st k
 low:-1≤d.pw
 b4:fp st.b4 d.b4
 waits:st.waits.map fA.rc=d.waits
 B0:∀c∈st.waits,c.wl
theorem DS.le{st:cF}{d:RD}{k k' :Nat}(h:DS st d k)(hk:k≤k'):DS st d k' :=⟨h.mB,h.ok.le hk,h.low,h.b4,h.waits,h.B0⟩
theorem DS.qy{st:cF}{d:RD}{k:Nat}(h:DS st d k):xP d k:=by
 refine⟨?_, ?_, ?_,by have:=h.low;omega, ?_⟩
 ·rw[←h.mB.files.Db];exact h.ok.seen
 ·rw[←h.mB.waits];have:=h.ok.rest;omega
 ·rw[←h.mB.files.mi];exact h.ok.mi
 ·rw[←h.mB.bW];exact h.ok.bW
theorem DS.init{n:Int}{gs gl:Nat}(h:n≤1048576):DS (nE n gs gl) (RD.new n) 0:=
 ⟨⟨rfl,rfl,fp.nil,rfl⟩,nJ.init h,Int.le_refl _,fp.nil,rfl,fun c hc=>by cases hc⟩
theorem qY{p:Int}(h:-1≤p):-1≤dU p:=by
 unfold dU
 split <;> omega
theorem DS.gz{st:cF}{d:RD}{k:Nat}(h:DS st d k){c:fA}(hc:c.wl){st1:cF}(hs:st1.room=st.room∧st1.b4=st.b4∧st1.bW=st.eV.bW∧st1.seen=oT st.seen c∧st1.waits=st.waits++[c])(ok:nJ st1 (k+1)):
  DS st1 (d.gz c.rc.1 c.rc.2.1 c.rc.2.2.1 c.rc.2.2.2) (k+1):=by
 obtain⟨h1,h2,h3,h4,h5⟩:=hs
 refine⟨⟨h1.trans h.mB.room, ?_, ?_, ?_⟩,ok,qY h.low, ?_, ?_,fun x hx=> ?_⟩
 ·rw[h3]
  show(if 0<st.bW then st.bW-1 else st.bW)=dU d.pw
  rw[h.mB.bW];rfl
 ·rw[h4];exact h.mB.files.oT hc
 ·rw[h5,List.length_append,h.mB.waits]
  show _=(d.waits++[_]).length
  rw[List.length_append];rfl
 ·rw[h2];exact h.b4
 ·rw[h5,List.map_append,h.waits];rfl
 ·rw[h5]at hx
  rcases List.mem_append.1 hx with hx|hx
  ·exact h.B0 x hx
  ·rw[List.mem_singleton.1 hx];exact hc
theorem DS.write{st st1:cF}{d:RD}{k n:Nat}(h:DS st d k){p l:List UInt8}{B A:Option Addr}{c1 c2:Nat}(hl:l.length=n)(hn:n≤1048576)
  (hw:(bP st p n≠0∧st1=st)∨(bP st p n=0∧st1=st.wrote p ⟨B,n,c1,l⟩ A c2)):DS st1 (d.write p l) (k+1)∧d.bP p l=bP st p n:=by
 subst hl
 have e:=h.mB.bP p l
 refine⟨?_,e.symm⟩
 unfold RD.write
 rw[←e]
 rcases hw with⟨h1,rfl⟩|⟨h1,rfl⟩
 ·rw[if_neg h1];exact h.le (Nat.le_succ _)
 ·rw[if_pos h1]
  exact h.gz (c:=.written p ⟨B,l.length,c1,l⟩) (fun r hr=>by cases hr;rfl) ⟨rfl,rfl,rfl,rfl,rfl⟩ (h.ok.wrote hn A c2)
theorem DS.cj{st:cF}{d:RD}{k:Nat}(h:DS st d k)(p:List UInt8):d.cj p=dQ st p:=(h.mB.cj p).symm
theorem DS.cC{st:cF}{d:RD}{k:Nat}(h:DS st d k)(p:List UInt8):d.cC p=cC st p:=(h.mB.cC p).symm
theorem DS.rename{st st1:cF}{d:RD}{k:Nat}(h:DS st d k){a c:List UInt8}{A:Option Addr}{j:Nat}
  (hw:(b7 st a c≠0∧st1=st)∨(b7 st a c=0∧st1=st.gz (.renamed a c) A j)):DS st1 (d.rename a c) (k+1)∧d.b7 a c=b7 st a c:=by
 have e:d.b7 a c=b7 st a c:=by
  unfold RD.b7 Go.Proofs.YtmibdabdlgmafaaGreatDoor.b7
  rw[h.cj]
 refine⟨?_,e⟩
 unfold RD.rename
 rw[e]
 rcases hw with⟨h1,rfl⟩|⟨h1,rfl⟩
 ·rw[if_neg h1];exact h.le (Nat.le_succ _)
 ·rw[if_pos h1]
  exact h.gz (c:=.renamed a c) (fun r hr=>by cases hr) ⟨rfl,rfl,rfl,rfl,rfl⟩ (h.ok.gz rfl A j)
theorem DS.remove{st st1:cF}{d:RD}{k:Nat}(h:DS st d k){p:List UInt8}{A:Option Addr}{j:Nat}
  (hw:(dQ st p≠0∧st1=st)∨(dQ st p=0∧st1=st.gz (.removed p) A j)):DS st1 (d.remove p) (k+1):=by
 unfold RD.remove
 rw[h.cj]
 rcases hw with⟨h1,rfl⟩|⟨h1,rfl⟩
 ·rw[if_neg h1];exact h.le (Nat.le_succ _)
 ·rw[if_pos h1]
  exact h.gz (c:=.removed p) (fun r hr=>by cases hr) ⟨rfl,rfl,rfl,rfl,rfl⟩ (h.ok.gz rfl A j)
theorem DS.sync{st st1:cF}{d:RD}{k gl:Nat}(h:DS st d k)(hw:(st.bW=0∧st1=st)∨(st.bW≠0∧st1=st.synced gl)):DS st1 d.sync k∧d.dx=dx st:=by
 have e:d.dx=dx st:=by unfold RD.dx Go.Proofs.YtmibdabdlgmafaaGreatDoor.dx;rw[h.mB.bW]
 refine⟨?_,e⟩
 unfold RD.sync
 rw[←h.mB.bW]
 rcases hw with⟨h1,rfl⟩|⟨h1,rfl⟩
 ·rw[if_pos h1];exact h
 ·rw[if_neg h1]
  refine⟨⟨h.mB.room, ?_,h.mB.files,rfl⟩,h.ok.synced gl, ?_,h.mB.files,rfl,fun c hc=>by cases hc⟩
  ·rfl
  ·rw[h.mB.bW];exact qY h.low
theorem DS.bW{st:cF}{d:RD}{k:Nat}(h:DS st d k){n:Int}(hn:n≤1000000000000):DS (st.mU n) (d.bW n) k:=by
 refine⟨⟨h.mB.room,rfl,h.mB.files,h.mB.waits⟩,⟨?_,h.ok.room,h.ok.seen,h.ok.rest,h.ok.small⟩, ?_,h.b4,h.waits,h.B0⟩
 ·show max n (-1)≤_;omega
 ·show-1≤max n (-1);omega
theorem yq{ks:List Bool}{L:dm}{l:List FP}{c:fA}(h:fp L l)(hc:c.wl):(ik (ks,L) c).1=(jm (ks,l) c.rc).1∧fp (ik (ks,L) c).2 (jm (ks,l) c.rc).2:=by
 unfold ik jm
 by_cases hb:ks.headD false=true
 ·rw[if_pos hb,if_pos hb]
  cases c with
  |written p r=>
   rw[if_pos (show(fA.rc (.written p r)).1=0 from rfl)]
   refine⟨rfl, ?_⟩
   have hr:=hc r rfl
   by_cases hb2:ks.tail.headD false=true
   ·simp only[hb2,if_true]
    exact h.oT hc
   ·simp only[hb2,if_false]
    have e:(fA.written p r.half).rc=(0,p,[],r.l.take (r.l.length/2)):=by simp[fA.rc,eC.half,hr]
    have:=h.oT (c:=.written p r.half) (fun x hx=>by cases hx;simp[eC.half];omega)
    rw[e]at this
    exact this
  |renamed a b=>exact⟨rfl,h.oT hc⟩
  |removed p=>exact⟨rfl,h.oT hc⟩
 ·rw[if_neg hb,if_neg hb]
  exact⟨rfl,h⟩
theorem uI:∀(cs:List fA) {ks:List Bool} {L:dm} {l:List FP},fp L l→(∀c∈cs,c.wl)→(cs.foldl ik (ks,L)).1=((cs.map fA.rc).foldl jm (ks,l)).1∧fp (cs.foldl ik (ks,L)).2 ((cs.map fA.rc).foldl jm (ks,l)).2
 | [],ks,L,l,h,hc=>⟨rfl,h⟩
 |c::r,ks,L,l,h,hc=>by
  obtain⟨h1,h2⟩:=yq (ks:=ks) h (hc c (List.mem_cons_self ..))
  have e:jm (ks,l) c.rc=((ik (ks,L) c).1,(jm (ks,l) c.rc).2):=by rw[h1]
  rw[List.map_cons,List.foldl_cons,List.foldl_cons,e]
  exact uI r h2 (fun x hx=>hc x (List.mem_cons_of_mem _ hx))
theorem DS.ea{st:cF}{d:RD}{k:Nat}(h:DS st d k)(keep:List Bool)(gs:Nat):DS (st.started keep gs) (d.ea keep) k:=by
 have hf:=(uI st.waits (ks:=keep) h.b4 h.B0).2
 rw[h.waits]at hf
 have e1:eu keep st st.waits.length=st.waits.foldl ik (keep,st.b4):=by rw[eu,List.take_of_length_le (Nat.le_refl _)]
 have e2:dfold keep d d.waits.length=d.waits.foldl jm (keep,d.b4):=by rw[dfold,List.take_of_length_le (Nat.le_refl _)]
 rw[←e1,←e2]at hf
 exact⟨⟨h.mB.room,rfl,hf,rfl⟩,h.ok.started keep gs,by show-1≤(-1:Int);omega,hf,rfl,fun c hc=>by cases hc⟩
def RD.ok(d:RD)(k:Nat):Prop:=∃st,DS st d k
theorem RD.ok.qy{d:RD}{k:Nat}(h:d.ok k):xP d k:=by obtain⟨st,h⟩:=h;exact h.qy
theorem RD.ok.write{d:RD}{k:Nat}(h:d.ok k){p l:List UInt8}(hl:l.length≤1048576):(d.write p l).ok (k+1):=by
 obtain⟨st,h⟩:=h
 by_cases he:Go.Proofs.YtmibdabdlgmafaaGreatDoor.bP st p l.length=0
 ·exact⟨_,(h.write (st1:=st.wrote p ⟨none,l.length,0,l⟩ none 0) rfl hl (.inr ⟨he,rfl⟩)).1⟩
 ·exact⟨_,(h.write (B:=none) (A:=none) (c1:=0) (c2:=0) (st1:=st) rfl hl (.inl ⟨he,rfl⟩)).1⟩
theorem RD.ok.rename{d:RD}{k:Nat}(h:d.ok k){a c:List UInt8}:(d.rename a c).ok (k+1):=by
 obtain⟨st,h⟩:=h
 by_cases he:Go.Proofs.YtmibdabdlgmafaaGreatDoor.b7 st a c=0
 ·exact⟨_,(h.rename (st1:=st.gz (.renamed a c) none 0) (.inr ⟨he,rfl⟩)).1⟩
 ·exact⟨_,(h.rename (A:=none) (j:=0) (st1:=st) (.inl ⟨he,rfl⟩)).1⟩
theorem RD.ok.remove{d:RD}{k:Nat}(h:d.ok k){p:List UInt8}:(d.remove p).ok (k+1):=by
 obtain⟨st,h⟩:=h
 by_cases he:dQ st p=0
 ·exact⟨_,h.remove (st1:=st.gz (.removed p) none 0) (.inr ⟨he,rfl⟩)⟩
 ·exact⟨_,h.remove (A:=none) (j:=0) (st1:=st) (.inl ⟨he,rfl⟩)⟩
theorem RD.ok.sync{d:RD}{k:Nat}(h:d.ok k):d.sync.ok k:=by
 obtain⟨st,h⟩:=h
 by_cases he:st.bW=0
 ·exact⟨_,(h.sync (gl:=0) (st1:=st) (.inl ⟨he,rfl⟩)).1⟩
 ·exact⟨_,(h.sync (st1:=st.synced 0) (.inr ⟨he,rfl⟩)).1⟩
end Go.Proofs.YtmibdabdlgmafaaGreatDoor
end
section
namespace Go.Hx
open Go.Eng
def chunks(k:Nat)(l:List UInt8):List (List UInt8):=(List.range k).map fun i=>(l.drop (32*i)).take 32
def lf(l:List UInt8):Nat:=(l.getD 0 0).toNat+256*(l.getD 1 0).toNat+65536*(l.getD 2 0).toNat+16777216*(l.getD 3 0).toNat
theorem BM(l:List UInt8):lf l<4294967296:=by
 have h0:=(l.getD 0 0).toNat_lt
 have h1:=(l.getD 1 0).toNat_lt
 have h2:=(l.getD 2 0).toNat_lt
 have h3:=(l.getD 3 0).toNat_lt
 unfold lf
 omega
theorem An{n:Nat}(h:n<4294967296):lf (gP n)=n:=by
 simp only[gP,lf,List.getD_cons_zero,List.getD_cons_succ,UInt8.toNat_ofNat']
 omega
end Go.Hx
end
section
namespace Go.Hx
open Go.Eng
def acc(l:List UInt8):Nat→Nat
 |0=>0
 |j+1=>acc l j*256+(l.getD (3-j) 0).toNat
theorem Bm(l:List UInt8):∀j,acc l j<256 ^ j
 |0=>by simp[acc]
 |j+1=>by
  have h1:=Bm l j
  have h2:=(l.getD (3-j) 0).toNat_lt
  rw[acc,Nat.pow_succ]
  omega
theorem FG(l:List UInt8){j:Nat}(h:j≤4):acc l j<4294967296:=by
 have h1:=Bm l j
 have h2:256 ^ j≤256 ^ 4:=Nat.pow_le_pow_right (by decide) h
 have h3:256 ^ 4=4294967296:=by decide
 omega
theorem Hi(l:List UInt8):acc l 4=lf l:=by
 have e:(3-0=3)∧(3-1=2)∧(3-2=1)∧(3-3=0):=by decide
 simp only[acc,lf,e.1,e.2.1,e.2.2.1,e.2.2.2]
 omega
theorem CD(a b:Nat)(ha:a<4294967296)(hb:b<256):bits .or .i64 (a*256:Int) (b:Int)=((a*256+b:Nat):Int):=by
 have h1:(a*256:Int)=((a*256:Nat):Int):=by simp
 have h2:a*256 ||| b=a*256+b:=by rw[Nat.mul_comm a 256,show 256=2 ^ 8 from rfl,Nat.two_pow_add_eq_or_of_lt (by simpa using hb)]
 have e0:∀n:Nat,n<18446744073709551616→(BitVec.ofInt 64 (n:Int)).toNat=n:=fun n hn=>by
  rw[BitVec.toNat_ofInt]
  simp
  omega
 rw[h1]
 show IntKind.i64.wrap ((BitVec.ofInt 64 ((a*256:Nat):Int) ||| BitVec.ofInt 64 (b:Int)).toNat:Int)=_
 rw[BitVec.toNat_or,e0 _ (by omega),e0 _ (by omega),h2]
 exact bF (by omega) (by omega)
end Go.Hx
end
section
namespace Go.Hx
open Go.Eng
def cS(l:List UInt8):Nat×Nat×Nat×Bool:=
 if(l.getD 0 0).toNat<128 then((l.getD 0 0).toNat+2,(l.getD 0 0).toNat+1,0,decide ((l.getD 0 0).toNat+2≤l.length))
 else if l.length<3 then(0,0,0,false)else(3,(l.getD 0 0).toNat-124,1+(l.getD 1 0).toNat+256*(l.getD 2 0).toNat,true)
def again(d:Nat):Nat→List UInt8→List UInt8
 |0,o=>o
 |k+1,o=>again d k (o++[o.getD (o.length-d) 0])
theorem mF(d:Nat):∀(k:Nat) (o:List UInt8),(again d k o).length=o.length+k
 |0,o=>rfl
 |k+1,o=>by rw[again,mF d k];simp;omega
theorem lu{l:List UInt8}(h:(cS l).2.2.2=true):2≤(cS l).1∧(cS l).1≤l.length:=by
 unfold cS at h ⊢
 split at h
 ·rename_i h1
  rw[if_pos h1]
  have:=of_decide_eq_true h
  exact⟨by show 2≤_+2;omega,this⟩
 ·rename_i h1
  rw[if_neg h1]
  split at h
  ·cases h
  ·rename_i h2
   rw[if_neg h2]
   exact⟨by show 2≤3;decide,by show 3≤_;omega⟩
theorem Ff(l:List UInt8):(cS l).2.1≤131∧(cS l).2.2.1≤65536:=by
 have h0:=(l.getD 0 0).toNat_lt
 have h1:=(l.getD 1 0).toNat_lt
 have h2:=(l.getD 2 0).toNat_lt
 unfold cS
 split
 ·exact⟨by show _+1≤_;omega,by show 0≤_;omega⟩
 ·split
  ·exact⟨by show 0≤_;omega,by show 0≤_;omega⟩
  ·exact⟨by show _-124≤_;omega,by show 1+_+256*_≤_;omega⟩
def made(l o:List UInt8):List UInt8:=if(cS l).2.2.1=0 then o++(l.drop 1).take ((cS l).1-1)else again (cS l).2.2.1 (cS l).2.1 o
def j8(most:Int)(l o:List UInt8):List UInt8×Int:=
 if h0:l=[]then(o,0)
 else if h1:(cS l).2.2.2=true then
  if o.length<(cS l).2.2.1 then([],2)else if most<(o.length:Int)+((cS l).2.1:Nat)then([],3)else j8 most (l.drop (cS l).1) (made l o)
 else([],2)
termination_by l.length
decreasing_by
 obtain⟨h2,h3⟩:=lu h1
 rw[List.length_drop]
 omega
theorem pg(most:Int)(o:List UInt8):j8 most [] o=(o,0):=by
 rw[j8]
 rfl
theorem lE{most:Int}{l o:List UInt8}(h0:l≠ [])(h:¬((cS l).2.2.2=true∧(cS l).2.2.1≤o.length)):j8 most l o=([],2):=by
 rw[j8,dif_neg h0]
 split
 ·rename_i h1
  rw[if_pos (Nat.lt_of_not_le fun h2=>h ⟨h1,h2⟩)]
 ·rfl
theorem pe{most:Int}{l o:List UInt8}(h0:l≠ [])(h1:(cS l).2.2.2=true)(h2:(cS l).2.2.1≤o.length)(h3:most<(o.length:Int)+((cS l).2.1:Nat)):j8 most l o=([],3):=by
 rw[j8,dif_neg h0,dif_pos h1,if_neg (by omega),if_pos h3]
theorem n4{most:Int}{l o:List UInt8}(h0:l≠ [])(h1:(cS l).2.2.2=true)(h2:(cS l).2.2.1≤o.length)(h3:¬most<(o.length:Int)+((cS l).2.1:Nat)):j8 most l o=j8 most (l.drop (cS l).1) (made l o):=by
 rw[j8,dif_neg h0,dif_pos h1,if_neg (by omega),if_neg h3]
theorem oI{l o:List UInt8}(h1:(cS l).2.2.2=true):(made l o).length=o.length+(cS l).2.1:=by
 unfold made
 split
 ·rename_i h0
  obtain⟨h2,h3⟩:=lu h1
  have e:(cS l).1-1=(cS l).2.1:=by
   unfold cS at h0 h1 ⊢
   split
   ·show _+2-1=_+1;omega
   ·split
    ·rename_i a1 a2;rw[if_neg a1,if_pos a2]at h1;cases h1
    ·rename_i a1 a2;rw[if_neg a1,if_neg a2]at h0;simp at h0
  rw[List.length_append,List.length_take,List.length_drop,e]
  omega
 ·exact mF _ _ _
end Go.Hx
end
section
namespace Go.Hx
open Go.Eng
def lU(b:List UInt8)(i k:Nat):Nat→Nat→Nat
 |0,n=>n
 |f+1,n=>if i+n<b.length∧b.getD (i+n) 0=b.getD (k+n) 0 then lU b i k f (n+1)else n
def mA(b:List UInt8)(i k:Nat):Nat:=lU b i k 131 0
theorem gO(b:List UInt8)(i k:Nat):∀f n,n≤lU b i k f n∧lU b i k f n≤n+f∧(i+n≤b.length→i+lU b i k f n≤b.length)∧∀j,n≤j→j<lU b i k f n→b.getD (i+j) 0=b.getD (k+j) 0
 |0,n=>⟨Nat.le_refl _,Nat.le_refl _,fun h=>h,fun j h1 h2=>by simp only[lU]at h2;omega⟩
 |f+1,n=>by
  unfold lU
  split
  ·rename_i h
   obtain⟨h1,h2,h3,h4⟩:=gO b i k f (n+1)
   refine⟨by omega,by omega,fun _=>h3 (by omega),fun j hj hj2=> ?_⟩
   rcases Nat.eq_or_lt_of_le hj with e|e
   ·rw[←e];exact h.2
   ·exact h4 j e hj2
  ·exact⟨Nat.le_refl _,by omega,fun h=>h,fun j h1 h2=>by omega⟩
theorem D6(b:List UInt8)(i k:Nat):mA b i k≤131:=by have:=(gO b i k 131 0).2.1;unfold mA;omega
theorem zA{b:List UInt8}{i:Nat}(k:Nat)(h:i≤b.length):i+mA b i k≤b.length:=(gO b i k 131 0).2.2.1 (by omega)
theorem qq{b:List UInt8}{i k j:Nat}(h:j<mA b i k):b.getD (i+j) 0=b.getD (k+j) 0:=(gO b i k 131 0).2.2.2 j (Nat.zero_le _) h
theorem ly{b:List UInt8}{i k f n:Nat}(h:¬(i+n<b.length∧b.getD (i+n) 0=b.getD (k+n) 0)):lU b i k f n=n:=by
 cases f with
 |zero=>rfl
 |succ f=>rw[lU,if_neg h]
theorem iC{b:List UInt8}{i k f n:Nat}(hf:0<f)(h:i+n<b.length∧b.getD (i+n) 0=b.getD (k+n) 0):lU b i k f n=lU b i k (f-1) (n+1):=by
 cases f with
 |zero=>omega
 |succ f=>rw[lU,if_pos h];rfl
def eM(b:List UInt8)(p:Nat):List UInt8:=(b.drop p).take 4
theorem bO{b:List UInt8}{p:Nat}(h:p+4≤b.length):(eM b p).length=4:=by unfold eM;rw[List.length_take,List.length_drop];omega
theorem Cp{b:List UInt8}{i p:Nat}(hi:i+4≤b.length)(hp:p<i):eM b p=eM b i↔3<mA b i p:=by
 have e:∀q,q+4≤b.length→eM b q=[b.getD (q+0) 0,b.getD (q+1) 0,b.getD (q+2) 0,b.getD (q+3) 0]:=by
  intro q hq
  apply List.ext_getElem?
  intro j
  unfold eM
  rw[List.getElem?_take,List.getElem?_drop]
  rcases j with _|_|_|_|j
  all_goals simp
  all_goals (try (rw[List.getElem?_eq_getElem (by omega)];rfl))
  all_goals (try (intro h;omega))
 rw[e p (by omega),e i hi]
 constructor
 ·intro h
  simp only[List.cons.injEq,and_true]at h
  have e0:mA b i p=lU b i p 127 4:=by
   unfold mA
   rw[iC (by decide) ⟨by omega,h.1.symm⟩,iC (by decide) ⟨by omega,h.2.1.symm⟩,iC (by decide) ⟨by omega,h.2.2.1.symm⟩,iC (by decide) ⟨by omega,h.2.2.2.symm⟩]
  rw[e0]
  exact(gO b i p 127 4).1
 ·intro h
  simp only[List.cons.injEq,and_true]
  exact⟨(qq (by omega)).symm,(qq (by omega)).symm,(qq (by omega)).symm,(qq (by omega)).symm⟩
def gQ(b:List UInt8)(i:Nat)(s:Nat×Nat)(d:Nat):Nat×Nat:=if 3<mA b i (i-d)∧s.1<mA b i (i-d)then(mA b i (i-d),d)else s
def cx(b:List UInt8)(i k:Nat):Nat×Nat:=(List.range' 1 k).foldl (gQ b i) (0,0)
theorem dR(b:List UInt8)(i k:Nat):cx b i (k+1)=gQ b i (cx b i k) (k+1):=by
 unfold cx
 rw[List.range'_concat,List.foldl_append]
 simp[Nat.add_comm]
def a8(b:List UInt8)(i:Nat):Nat×Nat:=cx b i (min i 1024)
def gi(b:List UInt8)(i:Nat)(s:Nat×Nat)(p:Nat):Nat×Nat:=if 1024<i-p then s else if s.1<mA b i p then(mA b i p,i-p)else s
def kT(b:List UInt8)(n:Nat)(k:List UInt8):List Nat:=(List.range n).filter fun p=>decide (eM b p=k)
theorem yC(b:List UInt8)(n:Nat)(k:List UInt8):kT b (n+1) k=kT b n k++if eM b n=k then [n]else []:=by
 unfold kT
 rw[List.range_succ,List.filter_append]
 congr 1
 by_cases h:eM b n=k <;> simp[h]
theorem Ci{b:List UInt8}{n p:Nat}{k:List UInt8}(h:p∈kT b n k):p<n∧eM b p=k:=by
 unfold kT at h
 simpa using h
theorem ox(b:List UInt8)(n:Nat)(k:List UInt8):(kT b n k).length≤n:=by
 unfold kT
 exact Nat.le_trans (List.length_filter_le _ _) (by simp)
theorem ym(i:Nat):(List.range i).reverse=(List.range' 1 i).map fun d=>i-d:=by
 apply List.ext_getElem
 ·simp
 ·intro j h1 h2
  simp
  omega
theorem kq{α β:Type}(f:β→α→β)(s:β):∀(l:List α),(∀x∈l,∀t,f t x=t)→l.foldl f s=s
 | [],_=>rfl
 |x::l,h=>by
  rw[List.foldl_cons,h x (by simp) s]
  exact kq f s l (fun y hy=>h y (List.mem_cons_of_mem _ hy))
theorem uu{b:List UInt8}{i:Nat}(hi:i+4≤b.length):(kT b i (eM b i)).reverse.foldl (gi b i) (0,0)=a8 b i:=by
 unfold kT a8
 rw[←List.filter_reverse,ym,List.filter_map,List.foldl_map,List.foldl_filter]
 have h1:∀(l:List Nat) (s:Nat×Nat),(∀d∈l,1≤d∧d≤i)→l.foldl (fun s d=>if((fun p=>decide (eM b p=eM b i)) ∘ fun d=>i-d) d=true then gi b i s (i-d)else s) s=l.foldl (fun s d=>if 1024<d then s else gQ b i s d) s:=by
  intro l
  induction l with
  |nil=>intro s _;rfl
  |cons d l ih=>
   intro s hd
   simp only[List.foldl_cons]
   rw[ih _ (fun x hx=>hd x (List.mem_cons_of_mem _ hx))]
   congr 1
   obtain⟨hd1,hd2⟩:=hd d (by simp)
   have e:=Cp (p:=i-d) hi (by omega)
   simp only[Function.comp_apply,decide_eq_true_eq]
   unfold gi gQ
   rw[show i-(i-d)=d by omega]
   by_cases hk:eM b (i-d)=eM b i
   ·rw[if_pos hk]
    have:=e.1 hk
    split
    ·rfl
    ·by_cases h:s.1<mA b i (i-d)
     ·rw[if_pos h,if_pos ⟨this,h⟩]
     ·rw[if_neg h,if_neg (fun q=>h q.2)]
   ·rw[if_neg hk]
    split
    ·rfl
    ·rw[if_neg (fun q=>hk (e.2 q.1))]
 rw[h1 _ _ (fun d hd=>by simp at hd;omega)]
 have h2:List.range' 1 i=List.range' 1 (min i 1024)++List.range' (1+min i 1024) (i-min i 1024):=by
  rw[List.range'_append_1]
  congr 1
  omega
 rw[h2,List.foldl_append,kq _ _ (List.range' (1+min i 1024) (i-min i 1024))]
 ·unfold cx
  have h3:∀(l:List Nat) (s:Nat×Nat),(∀d∈l,d≤1024)→l.foldl (fun s d=>if 1024<d then s else gQ b i s d) s=l.foldl (gQ b i) s:=by
   intro l
   induction l with
   |nil=>intro s _;rfl
   |cons d l ih=>
    intro s hd
    simp only[List.foldl_cons]
    rw[if_neg (by have:=hd d (by simp);omega)]
    exact ih _ (fun x hx=>hd x (List.mem_cons_of_mem _ hx))
  exact h3 _ _ (fun d hd=>by simp at hd;omega)
 ·intro d hd t
  simp at hd
  rw[if_pos (by omega)]
theorem uB(b:List UInt8)(n:Nat)(k:List UInt8):(kT b n k).Pairwise (· <·):=(List.pairwise_lt_range).filter _
theorem yy{b:List UInt8}{i n x:Nat}{k:List UInt8}{pre rest:List Nat}{s:Nat×Nat}(h:(kT b n k).reverse=pre++x::rest)(hx:1024<i-x):(kT b n k).reverse.foldl (gi b i) s=pre.foldl (gi b i) s:=by
 have hs:(pre++x::rest).Pairwise (· >·):=by
  rw[←h,List.pairwise_reverse]
  exact uB b n k
 rw[h,List.foldl_append]
 refine kq _ _ _ fun y hy t=> ?_
 have h1:=(List.pairwise_cons.1 (List.pairwise_append.1 hs).2.1).1
 unfold gi
 rw[if_pos]
 rcases List.mem_cons.1 hy with rfl|hy
 ·exact hx
 ·have:=h1 y hy
  omega
theorem ux{b:List UInt8}{i:Nat}(hi:i≤b.length)(h:b.length<i+4):a8 b i=(0,0):=by
 unfold a8 cx
 refine kq _ _ _ fun d hd t=> ?_
 unfold gQ
 rw[if_neg]
 intro q
 have:=zA (i-d) hi
 omega
theorem rB(b:List UInt8)(i:Nat)(hi:i≤b.length):∀k,k≤i→(cx b i k=(0,0))∨(4≤(cx b i k).1∧(cx b i k).1≤131∧1≤(cx b i k).2∧(cx b i k).2≤k∧i+(cx b i k).1≤b.length∧(cx b i k).1=mA b i (i-(cx b i k).2))
 |0,_=>.inl rfl
 |k+1,hk=>by
  rw[dR]
  unfold gQ
  split
  ·rename_i h
   exact .inr ⟨by show 4≤mA _ _ _;omega,D6 _ _ _,by show 1≤k+1;omega,Nat.le_refl _,zA _ hi,rfl⟩
  ·rcases rB b i hi k (by omega)with h|h
   ·exact .inl h
   ·exact .inr ⟨h.1,h.2.1,h.2.2.1,by omega,h.2.2.2.2.1,h.2.2.2.2.2⟩
theorem lM{b:List UInt8}{i:Nat}(hi:i≤b.length):(a8 b i=(0,0))∨(4≤(a8 b i).1∧(a8 b i).1≤131∧1≤(a8 b i).2∧(a8 b i).2≤min i 1024∧i+(a8 b i).1≤b.length∧(a8 b i).1=mA b i (i-(a8 b i).2)):=rB b i hi _ (by omega)
def eK(l:List UInt8):List UInt8:=if h:l=[]then []else UInt8.ofNat (min l.length 128-1)::l.take 128++eK (l.drop 128)
termination_by l.length
decreasing_by
 have:=List.length_pos_iff.2 h
 rw[List.length_drop]
 omega
theorem mN:eK []=[]:=by rw[eK];rfl
theorem lA{l:List UInt8}(h:l≠ []):eK l=UInt8.ofNat (min l.length 128-1)::l.take 128++eK (l.drop 128):=by rw[eK,dif_neg h]
theorem fH(l:List UInt8):(eK l).length≤2*l.length:=by
 by_cases h:l=[]
 ·subst h;rw[mN];simp
 ·have hp:=List.length_pos_iff.2 h
  have hd:(l.drop 128).length=l.length-128:=List.length_drop
  have:=fH (l.drop 128)
  rw[lA h]
  simp only[List.length_append,List.length_cons,List.length_take]
  omega
termination_by l.length
decreasing_by
 rw[List.length_drop]
 have:=List.length_pos_iff.2 h
 omega
def gr(m:Nat×Nat):List UInt8:=[UInt8.ofNat (124+m.1),UInt8.ofNat (m.2-1),UInt8.ofNat ((m.2-1)/256)]
def gW(b:List UInt8)(i:Nat)(own out:List UInt8):List UInt8:=
 if h:i<b.length then
  if h0:(a8 b i).1=0 then gW b (i+1) (own++[b.getD i 0]) out
  else gW b (i+(a8 b i).1) [] (out++eK own++gr (a8 b i))
 else out++eK own
termination_by b.length-i
def eS(b:List UInt8):List UInt8:=gW b 0 [] []
theorem lJ{b own out:List UInt8}{i:Nat}(h:¬i<b.length):gW b i own out=out++eK own:=by rw[gW,dif_neg h]
theorem lQ{b own out:List UInt8}{i:Nat}(h:i<b.length)(h0:(a8 b i).1=0):gW b i own out=gW b (i+1) (own++[b.getD i 0]) out:=by rw[gW,dif_pos h,dif_pos h0]
theorem je{b own out:List UInt8}{i:Nat}(h:i<b.length)(h0:(a8 b i).1≠0):gW b i own out=gW b (i+(a8 b i).1) [] (out++eK own++gr (a8 b i)):=by rw[gW,dif_pos h,dif_neg h0]
theorem kf:∀(b:List UInt8) (i:Nat) (own out:List UInt8),i≤b.length→out.length+2*own.length≤2*i→(gW b i own out).length≤2*b.length
 |b,i,own,out,hi,h=>by
  by_cases hlt:i<b.length
  ·by_cases h0:(a8 b i).1=0
   ·rw[lQ hlt h0]
    exact kf b (i+1) _ _ (by omega) (by simp;omega)
   ·rw[je hlt h0]
    rcases lM hi with hm|hm
    ·rw[hm]at h0;exact absurd rfl h0
    ·have:=fH own
     exact kf b _ _ _ (by omega) (by simp[gr];omega)
  ·rw[lJ hlt,List.length_append]
   have:=fH own
   omega
termination_by b i=>b.length-i
theorem nA(b:List UInt8):(eS b).length≤2*b.length:=kf b 0 [] [] (Nat.zero_le _) (by simp)
theorem BI{k:Nat}{l r:List UInt8}(hk:k<128)(hl:l.length=k+1):cS (UInt8.ofNat k::(l++r))=(k+2,k+1,0,true):=by
 have e:(UInt8.ofNat k).toNat=k:=by rw[UInt8.toNat_ofNat',Nat.mod_eq_of_lt (by omega)]
 unfold cS
 rw[List.getD_cons_zero,e,if_pos hk]
 simp only[List.length_cons,List.length_append,hl]
 congr 3
 exact decide_eq_true (by omega)
theorem qe{most:Int}(l r o:List UInt8)(hm:(o.length:Int)+l.length≤most):j8 most (eK l++r) o=j8 most r (o++l):=by
 by_cases h:l=[]
 ·subst h;rw[mN];simp
 ·have hp:=List.length_pos_iff.2 h
  have hk:min l.length 128-1<128:=by omega
  have htl:(l.take 128).length=(min l.length 128-1)+1:=by rw[List.length_take];omega
  have hsp:l.take 128++l.drop 128=l:=List.take_append_drop 128 l
  have hlen:l.length=(l.take 128).length+(l.drop 128).length:=by rw[←List.length_append,hsp]
  rw[lA h,List.append_assoc,List.cons_append]
  have ht:=BI (r:=eK (l.drop 128)++r) hk htl
  rw[n4 (by simp) (by rw[ht]) (by rw[ht];exact Nat.zero_le _) (by rw[ht];simp only;omega)]
  have hmd:made (UInt8.ofNat (min l.length 128-1)::(l.take 128++(eK (l.drop 128)++r))) o=o++l.take 128:=by
   unfold made
   rw[ht,if_pos rfl]
   simp only[List.drop_succ_cons,List.drop_zero]
   rw[List.take_append_of_le_length (by omega),List.take_of_length_le (by omega)]
  rw[hmd,ht]
  have hdr:(UInt8.ofNat (min l.length 128-1)::(l.take 128++(eK (l.drop 128)++r))).drop (min l.length 128-1+2)=eK (l.drop 128)++r:=by
   rw[show min l.length 128-1+2=(l.take 128).length+1 by omega,List.drop_succ_cons,List.drop_left]
  simp only
  rw[hdr,qe (l.drop 128) r (o++l.take 128) (by rw[List.length_append];omega),List.append_assoc,hsp]
termination_by l.length
decreasing_by
 rw[List.length_drop]
 have:=List.length_pos_iff.2 h
 omega
theorem od{b:List UInt8}{i d:Nat}(hd:1≤d)(hdi:d≤i):∀(n k:Nat),i+k+n≤b.length→(∀j,k≤j→j<k+n→b.getD (i+j) 0=b.getD (i-d+j) 0)→again d n (b.take (i+k))=b.take (i+k+n)
 |0,k,_,_=>rfl
 |n+1,k,hb,h=>by
  have hl:(b.take (i+k)).length=i+k:=by rw[List.length_take];omega
  rw[again,hl]
  have e:(b.take (i+k)).getD (i+k-d) 0=b.getD (i+k) 0:=by
   rw[h k (Nat.le_refl _) (by omega)]
   rw[List.getD_eq_getElem?_getD,List.getElem?_take,if_pos (by omega),←List.getD_eq_getElem?_getD]
   congr 1
   omega
  rw[e]
  have e2:b.take (i+k)++[b.getD (i+k) 0]=b.take (i+(k+1)):=by
   rw[show i+(k+1)=(i+k)+1 by omega,dY (by omega)]
  rw[e2,od hd hdi n (k+1) (by omega) (fun j h1 h2=>h j (by omega) (by omega))]
  congr 1
  omega
theorem yJ{m:Nat×Nat}{r:List UInt8}(h1:4≤m.1)(h2:m.1≤131)(h3:1≤m.2)(h4:m.2≤1024):cS (gr m++r)=(3,m.1,m.2,true):=by
 have e0:(UInt8.ofNat (124+m.1)).toNat=124+m.1:=by rw[UInt8.toNat_ofNat',Nat.mod_eq_of_lt (by omega)]
 have e1:(UInt8.ofNat (m.2-1)).toNat=(m.2-1) % 256:=UInt8.toNat_ofNat'
 have e2:(UInt8.ofNat ((m.2-1)/256)).toNat=(m.2-1)/256:=by rw[UInt8.toNat_ofNat',Nat.mod_eq_of_lt (by omega)]
 unfold cS gr
 simp only[List.cons_append,List.nil_append,List.getD_cons_zero,List.getD_cons_succ,List.length_cons,e0,e1,e2]
 rw[if_neg (by omega),if_neg (by omega)]
 simp only[Prod.mk.injEq,true_and,and_true]
 omega
theorem n7{most:Int}:∀(b:List UInt8) (i:Nat) (own out o:List UInt8),(b.length:Int)≤most→i≤b.length→o++own=b.take i→(∀r,j8 most (out++r) []=j8 most r o)→j8 most (gW b i own out) []=(b,0)
 |b,i,own,out,o,hm,hi,hown,hout=>by
  have hol:o.length+own.length=i:=by
   have:=congrArg List.length hown
   rw[List.length_append,List.length_take]at this
   omega
  by_cases hlt:i<b.length
  ·by_cases h0:(a8 b i).1=0
   ·rw[lQ hlt h0]
    refine n7 b (i+1) _ _ o hm (by omega) ?_ hout
    rw[←List.append_assoc,hown,dY hlt]
   ·rw[je hlt h0]
    rcases lM hi with hk|⟨m1,m2,m3,m4,m5,m6⟩
    ·rw[hk]at h0;exact absurd rfl h0
    ·have hd1:(a8 b i).2≤i:=by omega
     have hd2:(a8 b i).2≤1024:=by omega
     refine n7 b _ _ _ (b.take (i+(a8 b i).1)) hm m5 (by simp) fun r=> ?_
     rw[List.append_assoc,List.append_assoc,hout,qe _ _ _ (by omega),hown]
     have ht:=yJ (r:=r) m1 m2 m3 hd2
     have hl:(b.take i).length=i:=by rw[List.length_take];omega
     rw[n4 (by simp[gr]) (by rw[ht]) (by rw[ht,hl];exact hd1) (by rw[ht,hl];simp only;omega)]
     rw[ht]
     have hdr:(gr (a8 b i)++r).drop 3=r:=rfl
     simp only
     rw[hdr]
     congr 1
     unfold made
     rw[ht,if_neg (by simp only;omega)]
     have:=od (b:=b) (i:=i) m3 hd1 (a8 b i).1 0 (by omega) (fun j _ hj=>qq (by omega))
     exact this
  ·rw[lJ hlt,hout]
   have:=qe (most:=most) own [] o (by omega)
   rw[List.append_nil]at this
   rw[this,pg,hown,List.take_of_length_le (by omega)]
termination_by b i=>b.length-i
theorem yp{b:List UInt8}{most:Int}(h:(b.length:Int)≤most):j8 most (eS b) []=(b,0):=n7 b 0 [] [] [] h (Nat.zero_le _) rfl (fun r=>rfl)
end Go.Hx
end
