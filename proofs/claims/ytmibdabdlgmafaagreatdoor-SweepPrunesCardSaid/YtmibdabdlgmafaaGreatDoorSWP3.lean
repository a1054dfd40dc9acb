/- Part. -/
import Derived.Test.YtmibdabdlgmafaaGreatDoorSWP2
import Derived.Lib.BytesEntry
import Derived.Lib.IndexAny
import Derived.ProofKit
import Derived.OpenShut
import Derived.ShutString
import Derived.ChangeOld
import Derived.SizedLaws
import Derived.ChangeSame
import Derived.Laws.BitsAllLaws
set_option linter.all false
section
set_option maxRecDepth 20000
namespace Go.Proofs.YtmibdabdlgmafaaGreatDoor
open Go.Eng Go.Hx
theorem tg{l:List UInt8}{c:UInt8}:ck Tryz.prog 267 [.string (strOf l),B8 c] [] [] (fun v_ X_ S_=>v_=(.int .i64 (Lib.indexByte l c))∧X_=[]∧S_=[]):=by
 refine aP (N:=8) Tryz.func267 rfl rfl (by simp) fun b=> ?_
 refine ah<|aj<|hy (fun _=>ab rfl)<|ai<|ag<|ah<|aj<|hy (fun _=>aa rfl)<|hy (fun _=>aa rfl)<| ?_
 refine hx (mD (fun m=>wM rfl Tryz.func295 (by kernel_rfl) (by kernel_rfl) (by kernel_rfl) (show _=some Extern.BytealgIndexByte.indexByte by kernel_rfl) (Lib.run_indexByteString _ _ _)) ?_)
 refine hy (fun _=>ab rfl)<|ai<|al (ρ' :=[(4,_),(0,_),(1,_)]) ⟨rfl,rfl,rfl,trivial⟩<|ag<|aX<| ?_
 exact bg trivial rfl rfl [] rfl [] rfl ⟨(by congr 2;simp),rfl,rfl⟩
theorem yc{l:List UInt8}{c:UInt8}:ck Tryz.prog 274 [.string (strOf l),.string (strOf [c])] [] [] (fun v_ X_ S_=>v_=(.int .i64 (Lib.indexByte l c))∧X_=[]∧S_=[]):=by
 refine aP (N:=143) Tryz.func274 rfl rfl (by simp) fun b=> ?_
 refine ah<|aj<|hy (fun _=>ab rfl)<|ai<|ag<|ah<|aj<|hy (fun _=>aa rfl)<|hy (fun _=>yV (cV rfl Tryz.underlying9) ((rfl:_=Value.int .i64 1)))<|hy (fun _=>ab rfl)<|ai<|al (ρ' :=[(5,_),(4,_),(0,_),(1,_)]) ⟨rfl,rfl,rfl,rfl,trivial⟩<|ag<|ah<|aI<|ah<|aj<|hy (fun _=>aa rfl)<|hy (fun _=>cJ rfl rfl)<|hy (fun _=>aa rfl)<| ?_
 refine dU (o:=_) rfl rfl rfl (fun _=>aa rfl)<|dU (o:=_) rfl rfl rfl (fun _=>aa rfl)<|dU (o:=_) rfl rfl rfl (fun _=>rj rfl rfl)<|hy (fun _=>bC rfl rfl)<|hy (fun _=>ab rfl)<|ai<|al (ρ' :=[(16,_),(5,_),(4,_),(0,_),(1,_)]) ⟨rfl,rfl,rfl,rfl,rfl,trivial⟩<|ag<| ?_
 refine cD rfl (fun h=> ?_) (fun h=> ?_)
 ·obtain rfl:=cI.1 h
  refine ah<|aj<|hy (fun _=>ab rfl)<|ai<|ag<|aX<|a8<|aw<| ?_
  exact bg trivial rfl rfl [] rfl [] rfl ⟨(by simp[Lib.indexByte]),rfl,rfl⟩
 ·refine ah<|aj<|hy (fun _=>aa rfl)<|hy (fun _=>cJ rfl rfl)<|hy (fun _=>ab rfl)<|ai<|al (ρ' :=[(24,_),(16,_),(5,_),(4,_),(0,_),(1,_)]) ⟨rfl,rfl,rfl,rfl,rfl,rfl,trivial⟩<|ag<| ?_
  refine ia rfl (rfl) ?_
  refine ah<|aj<|hy (fun _=>aa rfl)<|hy (fun _=>aa rfl)<|hy (fun _=>yV (eT rfl rfl Tryz.underlying9 rfl (iM (by simp))) ((rfl:_=B8 c)))<| ?_
  refine hx (aq rfl Tryz.call267 (tg) [] rfl [] rfl ?_)
  rintro _ _ _ ⟨rfl,rfl,rfl⟩
  refine hy (fun _=>ab rfl)<|ai<|al (ρ' :=[(4,_),(24,_),(16,_),(5,_),(0,_),(1,_)]) ⟨rfl,rfl,rfl,rfl,rfl,rfl,trivial⟩<|ak (X' :=[]) (S' :=[]) (fun _ m=>m)<|ag<|aX<|a8<|aw<| ?_
  exact bg trivial rfl rfl [] rfl [] rfl ⟨rfl,rfl,rfl⟩
theorem qC{l:List UInt8}{c:UInt8}:ck Tryz.prog 233 [.string (strOf l),.string (strOf [c])] [] [] (fun v_ X_ S_=>v_=(.int .i64 (Lib.indexByte l c))∧X_=[]∧S_=[]):=by
 refine aP (N:=8) Tryz.func233 rfl rfl (by simp) fun b=> ?_
 refine ah<|aj<|hy (fun _=>ab rfl)<|ai<|ag<|ah<|aj<|hy (fun _=>aa rfl)<|hy (fun _=>aa rfl)<| ?_
 refine hx (aq rfl Tryz.call274 (yc) [] rfl [] rfl ?_)
 rintro _ _ _ ⟨rfl,rfl,rfl⟩
 refine hy (fun _=>ab rfl)<|ai<|al (ρ' :=[(4,_),(0,_),(1,_)]) ⟨rfl,rfl,rfl,trivial⟩<|ak (X' :=[]) (S' :=[]) (fun _ m=>m)<|ag<|aX<| ?_
 exact bg trivial rfl rfl [] rfl [] rfl ⟨rfl,rfl,rfl⟩
theorem vG{l:List UInt8}{c:UInt8}:ck Tryz.prog 184 [.string (strOf l),.string (strOf [c])] [] [] (fun v_ X_ S_=>v_=(.bool (decide (c∈l)))∧X_=[]∧S_=[]):=by
 refine aP (N:=9) Tryz.func184 rfl rfl (by simp) fun b=> ?_
 refine ah<|aj<|hy (fun _=>ab rfl)<|ai<|ag<|ah<|aj<|hy (fun _=>aa rfl)<|hy (fun _=>aa rfl)<| ?_
 refine hx (aq rfl Tryz.call233 (qC) [] rfl [] rfl ?_)
 rintro _ _ _ ⟨rfl,rfl,rfl⟩
 refine hy (fun _=>iP rfl rfl)<|hy (fun _=>ab rfl)<|ai<|al (ρ' :=[(4,_),(0,_),(1,_)]) ⟨rfl,rfl,rfl,trivial⟩<|ak (X' :=[]) (S' :=[]) (fun _ m=>m)<|ag<|aX<| ?_
 exact bg trivial rfl rfl [] rfl [] rfl ⟨(by congr 1;rw[←Lib.contains_iff_indexByte];simp),rfl,rfl⟩
def fV(p:List UInt8):Prop:=p≠ []∧p.length≤96∧¬(0:UInt8)∈p
instance(p:List UInt8):Decidable (fV p):=by unfold fV;infer_instance
theorem xl(p:List UInt8):strOf p≠⟨#[]⟩↔p≠ []:=by
 rw[show(⟨#[]⟩:ByteArray)=strOf []from rfl]
 simp only[ne_eq,cI]
theorem AJ{p:List UInt8}:ck Tryz.prog 115 [.string (strOf p)] [] [] (fun v_ X_ S_=>v_=(.bool (decide (fV p)))∧X_=[]∧S_=[]):=by
 have hsz:=cY p
 refine aP (N:=15) Tryz.func115 rfl rfl (by simp) fun b=> ?_
 refine ah<|aj<|hy (fun _=>ab rfl)<|ai<|ag<|ah<|aj<|hy (fun _=>aa rfl)<|hy (fun _=>oy rfl rfl)<|hy (fun _=>aa rfl)<| ?_
 refine eK 5 rfl (fun h1=> ?_) (fun h1=> ?_)
 ·have h1' :=(xl p).1 h1
  refine dU (o:=_) rfl rfl rfl (fun _=>aa rfl)<|dU (o:=_) rfl rfl rfl (fun _=>cV rfl Tryz.underlying9)<|dU (o:=_) rfl rfl rfl (fun _=>oD rfl rfl)<|hy (fun _=>bM rfl rfl)<|hy (fun _=>aa rfl)<| ?_
  refine eK 10 rfl (fun h2=> ?_) (fun h2=> ?_)
  ·have h2' :p.length≤96:=by omega
   refine dU (o:=_) rfl rfl rfl (fun _=>aa rfl)<| ?_
   refine F0 (o:=_) rfl rfl rfl (aq rfl Tryz.call184 (vG) [] rfl [] rfl ?_)
   rintro _ _ _ ⟨rfl,rfl,rfl⟩
   refine dU (o:=_) rfl rfl rfl (fun _=>kf rfl)<|hy (fun _=>bM rfl rfl)<|hy (fun _=>ab rfl)<|ai<|al (ρ' :=[(2,_),(0,_)]) ⟨rfl,rfl,trivial⟩<|ak (X' :=[]) (S' :=[]) (fun _ m=>m)<|ag<|aX<| ?_
   exact bg trivial rfl rfl [] rfl [] rfl ⟨(by congr 1;simp only[fV];simp[h1',h2']),rfl,rfl⟩
  ·have h2' :¬p.length≤96:=by omega
   refine bE rfl rfl rfl (by decide)<|bE rfl rfl rfl (by decide)<|bE rfl rfl rfl (by decide)<|hy (fun _=>bC rfl rfl)<|hy (fun _=>ab rfl)<|ai<|al (ρ' :=[(2,_),(0,_)]) ⟨rfl,rfl,trivial⟩<|ag<|aX<| ?_
   exact bg trivial rfl rfl [] rfl [] rfl ⟨(by congr 1;simp only[fV];simp[h2']),rfl,rfl⟩
 ·have h1' :¬p≠ []:=fun h=>h1 ((xl p).2 h)
  refine bE rfl rfl rfl (by decide)<|bE rfl rfl rfl (by decide)<|bE rfl rfl rfl (by decide)<|hy (fun _=>bC rfl rfl)<|hy (fun _=>aa rfl)<| ?_
  refine bE rfl rfl rfl (by decide)<|bE rfl rfl rfl (by decide)<|bE rfl rfl rfl (by decide)<|hy (fun _=>bC rfl rfl)<|hy (fun _=>ab rfl)<|ai<|al (ρ' :=[(2,_),(0,_)]) ⟨rfl,rfl,trivial⟩<|ag<|aX<| ?_
  exact bg trivial rfl rfl [] rfl [] rfl ⟨(by congr 1;simp only[fV];simp[h1']),rfl,rfl⟩
end Go.Proofs.YtmibdabdlgmafaaGreatDoor
end
section
set_option maxRecDepth 20000
namespace Go.Proofs.YtmibdabdlgmafaaGreatDoor
open Go.Eng Go.Hx
abbrev dK:=List (List UInt8×fK)
def dX(l:dK):List (List UInt8×Value):=l.map fun x=>(x.1,x.2.val)
def mg(l:dK):Nat:=(l.map fun x=>x.2.n).sum
theorem nC:∀(l:dK) (p:List UInt8),cm (dX l) p=(cm l p).map fK.val
 | [],p=>rfl
 |(k,r)::q,p=>by
  have:=nC q p
  simp only[dX,List.map_cons,cm]at this ⊢
  split <;> simp_all
theorem pR:∀(l:dK) (p:List UInt8) (r:fK),c9 (dX l) p r.val=dX (c9 l p r)
 | [],p,r=>rfl
 |(k,u)::q,p,r=>by
  have:=pR q p r
  simp only[dX,List.map_cons,c9]at this ⊢
  split <;> simp_all
theorem qA:∀(l:dK) (p:List UInt8),eO (dX l) p=dX (eO l p)
 | [],p=>rfl
 |(k,u)::q,p=>by
  have:=qA q p
  simp only[dX,List.map_cons,eO]at this ⊢
  split <;> simp_all
theorem w8{l:dK}{j:Nat}{p:List UInt8×Value}(h:(dX l)[j]? =some p):∃r,l[j]? =some (p.1,r)∧p.2=r.val:=by
 simp only[dX,List.getElem?_map]at h
 cases hl:l[j]? with
 |none=>rw[hl]at h;cases h
 |some x=>
  rw[hl]at h
  simp only[Option.map_some,Option.some.injEq]at h
  subst h
  exact⟨x.2,rfl,rfl⟩
theorem ml(l:dK)(j:Nat):(dX l).eraseIdx j=dX (l.eraseIdx j):=(map_eraseIdx _ l j).symm
theorem rh:∀{l:dK} {j:Nat} {x:List UInt8×fK},l[j]? =some x→mg (l.eraseIdx j)+x.2.n=mg l
 | [],j,x,h=>by simp at h
 |a::q,0,x,h=>by
  simp only[List.getElem?_cons_zero,Option.some.injEq]at h
  subst h
  simp[mg];omega
 |a::q,j+1,x,h=>by
  simp only[List.getElem?_cons_succ]at h
  have:=rh h
  simp only[mg,List.eraseIdx_cons_succ,List.map_cons,List.sum_cons]at this ⊢
  omega
inductive gj
 |written (p:List UInt8) (r:fK)
 |renamed (a b:List UInt8)
 |removed (p:List UInt8)
def gj.row:gj→Option fK
 | .written _ r=>some r
 |_=>none
def gj.val:gj→Value
 | .written p r=>.iface 189 (.agg [SV p,r.val].toArray)
 | .renamed a b=>.iface 257 (.agg [SV a,SV b].toArray)
 | .removed p=>.iface 237 (.agg [SV p].toArray)
structure cN where
 room:Int
 gs:Nat
 gl:Nat
 seen:dK
 cO:dK
 waits:List gj
 wA:Option Addr
 wc:Nat
 bY:Int
def rowsOf(st:cN):List fK:=st.seen.map (·.2)++st.cO.map (·.2)++st.waits.filterMap gj.row
def iV(st:cN):List Value:=[.int .i64 st.room,.map (some st.gs),.map (some st.gl),.slice st.wA st.waits.length st.wc,.int .i64 st.bY]
abbrev bs(g:Nat)(st:cN):bn:=fJ [aL g 177 (iV st),dC SV st.gs (dX st.seen),dC SV st.gl (dX st.cO),aG 232 1 (.slice st.wA st.waits.length st.wc) st.waits.length (st.waits.map gj.val),jb (rowsOf st)]
def mX(n:Int)(gs gl:Nat):cN:=⟨n,gs,gl,[],[],[],none,0,-1⟩
theorem Hj{n:Int}(h1:1≤n)(h2:n≤1048576):ck Tryz.prog 24 [.int .i64 n] [] [] (fun v_ X_ S_=>∃g gs gl,v_=(.tuple #[.pointer (some ⟨g,0,none⟩),.int .i64 0])∧X_=[bs g (mX n gs gl)]∧S_=[]):=by
 refine aP (N:=15) Tryz.func24 rfl rfl (by simp) fun b=> ?_
 refine ah<|aj<|hy (fun _=>ab rfl)<|hy (fun _=>ab rfl)<|ai<|ag<|ah<|ah<|aj<|hy (fun _=>aa rfl)<|hy (fun _=>bq rfl rfl)<|hy (fun _=>aa rfl)<| ?_
 refine eK 6 rfl (fun h=> ?_) (fun h=> ?_)
 ·exact absurd h (by omega)
 ·refine dU (o:=_) rfl rfl rfl (fun _=>aa rfl)<|dU (o:=_) rfl rfl rfl (fun _=>da rfl rfl)<|hy (fun _=>bC rfl rfl)<|ai<|al (ρ' :=[(9,_),(3,_),(2,_),(0,_)]) ⟨rfl,rfl,rfl,rfl,trivial⟩<|ag<| ?_
  refine dB rfl (decide_eq_false (by omega)) ?_
  refine aD<|ag<|ah<|aj<|hy (fun _=>aa rfl)<| ?_
  refine hx (nz SV (fun g11=> ?_))
  refine hx (nz SV (fun g12=> ?_))
  refine hy (fun _=>yV (cC F1 rfl rfl (by kernel_rfl) (.cons (o:=0) (sz:=1) (by kernel_rfl) rfl rfl (Nat.le_of_ble_eq_true rfl) (.cons (o:=1) (sz:=1) (by kernel_rfl) rfl rfl (Nat.le_of_ble_eq_true rfl) (.cons (o:=2) (sz:=1) (by kernel_rfl) rfl rfl (Nat.le_of_ble_eq_true rfl) (.cons (o:=4) (sz:=1) (by kernel_rfl) rfl rfl (Nat.le_of_ble_eq_true rfl) .nil))))) ((rfl:_=Value.agg (iV (mX n g11 g12)).toArray)))<| ?_
  refine hx (cw rfl (fun g14=> ?_))
  refine hy (fun _=>ab rfl)<|hy (fun _=>ab rfl)<|ai<|al (ρ' :=[(3,_),(2,_),(9,_),(0,_)]) ⟨rfl,rfl,rfl,rfl,trivial⟩<|ak (X' :=[_,_,_]) (S' :=[]) (fun _ m=>m)<|ag<|aX<| ?_
  refine ak (fun w m=>m.dm (r' :=aG 232 1 (.slice none 0 0) 0 []) (.refl _ _) (Own.nil _ _ _ _) (fun k hk=>hk.elim)) ?_
  refine ak (fun w m=>m.DL) ?_
  refine ak (X' :=bs g14 (mX n g11 g12)::_) (fun w m=>(m.perm (au [2,3,2,1,0] _ [_,_,_,_,_] _ rfl)).pack) ?_
  exact dF trivial rfl rfl rfl [0] rfl [] rfl ⟨_,_,_,rfl,rfl,rfl⟩
theorem FM{g:Nat}{st:cN}:ck Tryz.prog 87 [.pointer (some ⟨g,0,none⟩)] [bs g st] [] (fun v_ X_ S_=>v_=(.bool (decide (st.bY≠0)))∧X_=[bs g st]∧S_=[]):=by
 refine aP (N:=8) Tryz.func87 rfl rfl (by simp) fun b=> ?_
 refine bx (fun w m=>(m.perm (au [0] _ [_] _ rfl)).unpack) ?_
 refine ah<|aj<|hy (fun _=>ab rfl)<|ai<|ag<|ah<|aj<|hy (fun _=>aa rfl)<|hy (fun _=>bd rfl)<|hy (fun _=>aK rfl mO (by decide))<|hy (fun m=>ay rfl fS (aE (m.a6 0 rfl) rfl))<|hy (fun _=>db rfl rfl)<|hy (fun _=>ab rfl)<|ai<|al (ρ' :=[(2,_),(0,_)]) ⟨rfl,rfl,trivial⟩<|ag<|aX<| ?_
 refine ak (X' :=bs g st::_) (fun w m=>(m.perm (au [0,0,0,0,0] _ [_,_,_,_,_] _ rfl)).pack) ?_
 exact bg trivial rfl rfl [0] rfl [] rfl ⟨rfl,rfl,rfl⟩
def cN.eP(st:cN):cN:={st with bY:=if 0<st.bY then st.bY-1 else st.bY}
theorem sA{g:Nat}{st:cN}(hp:st.bY≤1000000000000):ck Tryz.prog 181 [.pointer (some ⟨g,0,none⟩)] [bs g st] [] (fun v_ X_ S_=>v_=(.tuple #[])∧X_=[bs g st.eP]∧S_=[]):=by
 refine aP (N:=14) Tryz.func181 rfl rfl (by simp) fun b=> ?_
 refine bx (fun w m=>(m.perm (au [0] _ [_] _ rfl)).unpack) ?_
 refine ah<|aj<|hy (fun _=>aa rfl)<|hy (fun _=>bd rfl)<|hy (fun _=>aK rfl mO (by decide))<|hy (fun m=>ay rfl fS (aE (m.a6 0 rfl) rfl))<|hy (fun _=>da rfl rfl)<|ai<|al (ρ' :=[(6,_),(0,_)]) ⟨rfl,rfl,trivial⟩<|ag<| ?_
 refine cD rfl (fun h=> ?_) (fun h=> ?_)
 ·have e:st.eP={st with bY:=st.bY-1}:=by simp only[cN.eP,if_pos h]
  rw[e]
  refine aj<|hy (fun _=>aa rfl)<|hy (fun _=>bd rfl)<|hy (fun _=>aK rfl mO (by decide))<|hy (fun m=>ay rfl fS (aE (m.a6 0 rfl) rfl))<|hy (fun _=>cn rfl rfl (bG (by omega) (by omega)))<|hy (fun _=>bd rfl)<|hy (fun _=>aK rfl mO (by decide))<| ?_
  refine cL (cG 0 rfl rfl rfl s8 rfl (by first|exact Nat.le_of_ble_eq_true rfl|simp) ?_)
  refine ai<|al (ρ' :=[(6,_),(0,_)]) ⟨rfl,rfl,trivial⟩<|ak (X' :=[_,_,_,_,_]) (S' :=[]) (fun _ m=>m)<| ?_
  refine ak (X' :=bs g {st with bY:=st.bY-1}::_) (fun w m=>(m.perm (au [0,0,0,0,0] _ [_,_,_,_,_] _ rfl)).pack) ?_
  exact fO trivial rfl [0] rfl [] rfl ⟨rfl,rfl,rfl⟩
 ·have e:st.eP=st:=by simp only[cN.eP,if_neg h]
  rw[e]
  refine aD<| ?_
  refine ak (X' :=bs g st::_) (fun w m=>(m.perm (au [0,0,0,0,0] _ [_,_,_,_,_] _ rfl)).pack) ?_
  exact fO trivial rfl [0] rfl [] rfl ⟨rfl,rfl,rfl⟩
theorem FQ{g:Nat}{st:cN}(ht:mg st.seen≤1000000000000):ck Tryz.prog 88 [.pointer (some ⟨g,0,none⟩)] [bs g st] [] (fun v_ X_ S_=>v_=(.int .i64 (mg st.seen:Nat))∧X_=[bs g st]∧S_=[]):=by
 refine aP (N:=20) Tryz.func88 rfl rfl (by simp) fun b=> ?_
 refine bx (fun w m=>(m.perm (au [0] _ [_] _ rfl)).unpack) ?_
 refine ah<|aj<|hy (fun _=>ab rfl)<|ai<|ag<|ah<|aj<|hy (fun _=>ab rfl)<|ai<|ag<|ah<|ah<|aj<|hy (fun _=>aa rfl)<|hy (fun _=>bd rfl)<|hy (fun _=>aK rfl ic (by decide))<|hy (fun m=>ay rfl nk (aE (m.a6 0 rfl) rfl))<| ?_
 refine hx (qi 1 rfl rfl Tryz.underlying174 (fun r10=> ?_))
 refine ai<|al (ρ' :=[(10,_),(3,_),(2,_),(0,_)]) ⟨rfl,rfl,rfl,rfl,trivial⟩<|ak (X' :=[_,_,_,_,_]) (S' :=[]) (fun _ m=>m)<|ag<|aI<| ?_
 refine fH (fun left n cur=>left.length) (fun left n cur=>[(3,.int .i64 (n:Nat))]) (fun left n cur=>[jY SV r10 st.gs (dX st.seen) (dX left) cur]) (fun left n cur=>[]) (fun left n cur=>n+mg left=mg st.seen) st.seen 0 none [(10,_),(2,_),(0,_)] ⟨rfl,rfl,rfl,trivial⟩ [0] rfl [] rfl (Nat.zero_add _) ⟨rfl,trivial⟩ (fun left n cur hI=> ?_)
 refine ah<|aj<| ?_
 refine hx (r6 0 rfl rfl (fun h0=> ?_) (fun j p hp=> ?_))
 ·obtain rfl:left=[]:=List.map_eq_nil_iff.1 h0
  have hn:n=mg st.seen:=by simpa[mg]using hI
  subst hn
  refine hy (fun _=>ar rfl rfl)<|ai<|al (ρ' :=[(12,_),(3,_),(10,_),(2,_),(0,_)]) ⟨rfl,rfl,rfl,rfl,rfl,trivial⟩<|ag<|ah<| ?_
  refine dB rfl (rfl) ?_
  refine bJ<|ao<|ao<|aB<|ag<|ah<|aj<|hy (fun _=>aa rfl)<|hy (fun _=>ab rfl)<|ai<|al (ρ' :=[(2,_),(12,_),(3,_),(10,_),(0,_)]) ⟨rfl,rfl,rfl,rfl,rfl,trivial⟩<|ag<|aX<| ?_
  refine ak (fun w m=>m.vr 0 rfl) ?_
  refine ak (X' :=bs g st::_) (fun w m=>(m.perm (au [1,0,0,0,0] _ [_,_,_,_,_] _ rfl)).pack) ?_
  exact bg trivial rfl rfl [0] rfl [] rfl ⟨rfl,rfl,rfl⟩
 ·obtain⟨k,v⟩:=p
  obtain⟨r,hr,e⟩:=w8 hp
  obtain rfl:v=r.val:=e
  have ht:=rh hr
  have hlt:=(List.getElem?_eq_some_iff.1 hr).1
  simp only at ht
  refine hy (fun _=>ar rfl rfl)<|ai<|al (ρ' :=[(12,_),(3,_),(10,_),(2,_),(0,_)]) ⟨rfl,rfl,rfl,rfl,rfl,trivial⟩<|ag<|ah<| ?_
  refine ia rfl (rfl) ?_
  refine aD<|ag<|aI<|ah<|aj<|hy (fun m=>pK rfl (m.DM 0 rfl))<|hy (fun _=>yV (ar rfl rfl) ((rfl:_=Value.slice r.A r.n r.c)))<|hy (fun _=>ab rfl)<|ai<|al (ρ' :=[(5,_),(12,_),(3,_),(10,_),(2,_),(0,_)]) ⟨rfl,rfl,rfl,rfl,rfl,rfl,trivial⟩<|ag<|aj<|hy (fun _=>aa rfl)<|hy (fun _=>aa rfl)<|hy (fun _=>aS rfl Tryz.underlying27)<|hy (fun _=>aM rfl rfl (bG (by omega) (by omega)))<|hy (fun _=>ab rfl)<|ai<|al (ρ' :=[(3,_),(5,_),(12,_),(10,_),(2,_),(0,_)]) ⟨rfl,rfl,rfl,rfl,rfl,rfl,trivial⟩<|aQ<| ?_
  refine ak (fun w m=>m.bQ 0 rfl (show _=jY SV r10 st.gs (dX st.seen) (dX (left.eraseIdx j)) (some (k,r.val))from congrArg (fun q=>jY SV r10 st.gs (dX st.seen) q (some (k,r.val))) (ml left j))) ?_
  refine fx (left.eraseIdx j) (n+r.n) (some (k,r.val)) ⟨rfl,rfl,rfl,rfl,trivial⟩ [0,0,0,0,0] rfl [] rfl (by omega) (by rw[List.length_eraseIdx,if_pos hlt];omega)
theorem pC{l:dK}(p:List UInt8):(cm l p=none∧cm (dX l) p=none)∨∃r,cm l p=some r∧cm (dX l) p=some r.val:=by
 rw[nC]
 cases cm l p with
 |none=>exact .inl ⟨rfl,rfl⟩
 |some r=>exact .inr ⟨r,rfl,rfl⟩
def dP(st:cN)(p:List UInt8):Int:=if st.bY=0 then 6 else if cm st.seen p=none then 4 else 0
theorem va{g:Nat}{st:cN}{p:List UInt8}:ck Tryz.prog 158 [.pointer (some ⟨g,0,none⟩),.string (strOf p)] [bs g st] [] (fun v_ X_ S_=>v_=(.int .i64 (dP st p))∧X_=[bs g st]∧S_=[]):=by
 have hf:dP st p=dP st p:=rfl
 refine aP (N:=23) Tryz.func158 rfl rfl (by simp) fun b=> ?_
 refine bx (fun w m=>(m.perm (au [0] _ [_] _ rfl)).unpack) ?_
 have hh:(cm (dX st.seen) p).isSome=decide (cm st.seen p≠none):=by
  rcases pC (l:=st.seen) p with⟨h1,h2⟩|⟨r,h1,h2⟩ <;> simp[h1,h2]
 refine ah<|aj<|hy (fun _=>ab rfl)<|ai<|ag<|ah<|aj<|hy (fun _=>aa rfl)<|hy (fun _=>bd rfl)<|hy (fun _=>aK rfl ic (by decide))<|hy (fun m=>ay rfl nk (aE (m.a6 0 rfl) rfl))<|hy (fun _=>aa rfl)<|hy (fun m=>kb (enc:=SV) rfl rfl Tryz.underlying174 tB (ki Tryz.underlying9) (m.qy 1 rfl))<|hy (fun _=>aa rfl)<|hy (fun _=>ar rfl rfl)<|hy (fun _=>yV (ar rfl rfl) ((show Value.bool (cm (dX st.seen) p).isSome= .bool (decide (cm st.seen p≠none)) by rw[hh])))<|hy (fun _=>ab rfl)<|hy (fun _=>ab rfl)<|ai<|al (ρ' :=[(6,_),(4,_),(0,_),(1,_)]) ⟨rfl,rfl,rfl,rfl,trivial⟩<|ag<|ah<|aI<|ah<|aj<| ?_
 refine aO (X' :=bs g st::_) (fun w m=>(m.perm (au [0,0,0,0,0] _ [_,_,_,_,_] _ rfl)).pack) ?_
 refine hy (fun _=>aa rfl)<| ?_
 refine hx (aq rfl Tryz.call87 (FM) [0] rfl [] rfl ?_)
 rintro _ _ _ ⟨rfl,rfl,rfl⟩
 refine hy (fun _=>kf rfl)<|hy (fun _=>ab rfl)<|ai<|al (ρ' :=[(16,_),(6,_),(4,_),(0,_),(1,_)]) ⟨rfl,rfl,rfl,rfl,rfl,trivial⟩<|ak (X' :=[_]) (S' :=[]) (fun _ m=>m)<|ag<| ?_
 refine cD rfl (fun h1=> ?_) (fun h1=> ?_)
 ·refine ah<|aj<|hy (fun _=>ab rfl)<|ai<|ag<|aX<|a8<|aw<| ?_
  exact bg trivial rfl rfl [0] rfl [] rfl ⟨(by rw[dP,if_pos (by omega)]),rfl,rfl⟩
 ·refine ah<|aj<|hy (fun _=>aa rfl)<|hy (fun _=>kf rfl)<|hy (fun _=>ab rfl)<|ai<|al (ρ' :=[(20,_),(16,_),(6,_),(4,_),(0,_),(1,_)]) ⟨rfl,rfl,rfl,rfl,rfl,rfl,trivial⟩<|ag<| ?_
  refine cD rfl (fun h2=> ?_) (fun h2=> ?_)
  ·refine ah<|aj<|hy (fun _=>ab rfl)<|ai<|ag<|aX<|a8<|aw<| ?_
   exact bg trivial rfl rfl [0] rfl [] rfl ⟨(by rw[dP,if_neg (by omega),if_pos (Decidable.not_not.1 h2)]),rfl,rfl⟩
  ·refine aD<|aQ<|ag<|ah<|aj<|hy (fun _=>ab rfl)<|ai<|ag<|aX<| ?_
   exact bg trivial rfl rfl [0] rfl [] rfl ⟨(by rw[dP,if_neg (by omega),if_neg (fun e=>h2 (fun h=>h e))]),rfl,rfl⟩
end Go.Proofs.YtmibdabdlgmafaaGreatDoor
end
section
set_option maxRecDepth 20000
namespace Go.Proofs.YtmibdabdlgmafaaGreatDoor
open Go.Eng Go.Hx
theorem te{st:cN}{p:List UInt8}{r:fK}(h:cm st.seen p=some r):r∈rowsOf st:=by
 unfold rowsOf
 refine List.mem_append_left _ (List.mem_append_left _ ?_)
 exact List.mem_map.2 ⟨_,jX h,rfl⟩
def cF(st:cN)(p:List UInt8):List UInt8:=if dP st p=0 then((cm st.seen p).map (·.l)).getD []else []
theorem ud{st:cN}{p:List UInt8}(h:dP st p≠0):cF st p=[]:=by rw[cF,if_neg h]
theorem uE{st:cN}{p:List UInt8}{r:fK}(h:dP st p=0)(hr:cm st.seen p=some r):cF st p=r.l:=by rw[cF,if_pos h,hr];rfl
theorem ub{st:cN}{p:List UInt8}(h:dP st p=0):∃r,cm st.seen p=some r:=by
 unfold dP at h
 split at h
 ·omega
 ·split at h
  ·omega
  ·rename_i h2
   cases hq:cm st.seen p with
   |none=>exact absurd hq h2
   |some r=>exact⟨r,rfl⟩
def Small(st:cN):Prop:=∀r∈rowsOf st,r.n≤1000000000
theorem Gc{g:Nat}{st:cN}{p:List UInt8}(hs:Small st):ck Tryz.prog 90 [.pointer (some ⟨g,0,none⟩),.string (strOf p)] [bs g st] [] (fun v_ X_ S_=>∃v,v_=(.tuple #[v,.int .i64 (dP st p)])∧X_=[bs g st,aG 5 1 v (cF st p).length (aV (cF st p))]∧S_=[]):=by
 refine aP (N:=20) Tryz.func90 rfl rfl (by simp) fun b=> ?_
 refine ah<|aj<|hy (fun _=>ab rfl)<|hy (fun _=>ab rfl)<|ai<|ag<|ah<|ah<|aj<|hy (fun _=>aa rfl)<|hy (fun _=>aa rfl)<| ?_
 refine hx (aq rfl Tryz.call158 (va) [0] rfl [] rfl ?_)
 rintro _ _ _ ⟨rfl,rfl,rfl⟩
 refine hy (fun _=>ab rfl)<|ai<|al (ρ' :=[(6,_),(5,_),(4,_),(0,_),(1,_)]) ⟨rfl,rfl,rfl,rfl,rfl,trivial⟩<|ak (X' :=[_]) (S' :=[]) (fun _ m=>m)<|ag<|ah<|aj<|hy (fun _=>aa rfl)<|hy (fun _=>db rfl rfl)<|ai<|al (ρ' :=[(11,_),(6,_),(5,_),(4,_),(0,_),(1,_)]) ⟨rfl,rfl,rfl,rfl,rfl,rfl,trivial⟩<|ag<| ?_
 refine cD rfl (fun h=> ?_) (fun h=> ?_)
 ·rw[ud h]
  refine ah<|aj<|hy (fun _=>aa rfl)<|hy (fun _=>ab rfl)<|hy (fun _=>ab rfl)<|ai<|al (ρ' :=[(5,_),(4,_),(11,_),(6,_),(0,_),(1,_)]) ⟨rfl,rfl,rfl,rfl,rfl,rfl,trivial⟩<|ag<|aX<|aw<| ?_
  refine ak (fun w m=>m.dm (r' :=aG 5 1 (.slice none 0 0) 0 []) (.refl _ _) (Own.nil _ _ _ _) (fun k hk=>hk.elim)) ?_
  exact dF trivial rfl rfl rfl [1,0] rfl [] rfl ⟨_,rfl,rfl,rfl⟩
 ·have h0:=Decidable.not_not.1 h
  obtain⟨r,hr⟩:=ub h0
  have hv:cm (dX st.seen) p=some r.val:=by rw[nC,hr];rfl
  rw[uE h0 hr,h0]
  have hmem:=te hr
  obtain⟨i,hi⟩:=List.mem_iff_getElem?.1 hmem
  have hsm:=hs r hmem
  refine bx (fun w m=>(m.perm (au [0] _ [_] _ rfl)).unpack) ?_
  refine aY (fun m=>gY ((View.ok (View.row hi)).1 _ (m.Ht 4 rfl))) fun hrl=> ?_
  have hrl:=hrl.1
  refine aD<|ag<|ah<|aj<|hy (fun _=>aa rfl)<|hy (fun _=>bd rfl)<|hy (fun _=>aK rfl ic (by decide))<|hy (fun m=>ay rfl nk (aE (m.a6 0 rfl) rfl))<|hy (fun _=>aa rfl)<|hy (fun m=>yV (kb (enc:=SV) rfl rfl Tryz.underlying174 tB (ki Tryz.underlying9) (m.qy 1 rfl)) ((show ig false (.slice none 0 0) (cm (dX st.seen) p)= .slice r.A r.n r.c by rw[hv];rfl)))<| ?_
  refine hx (cM rfl Tryz.call117 (su (by omega)) [] rfl (.x 4 rfl (View.row hi) .nil) ?_)
  rintro _ _ _ ⟨v,rfl,rfl,rfl⟩
  refine⟨rfl, ?_⟩
  refine aA (fun m=>(m.own 0 rfl).slice) ?_
  rintro⟨A_x,c_x,rfl,hc_x⟩
  refine aA (fun m=>(m.ord 0 rfl).2.1) fun hA_x=> ?_
  refine hy (fun _=>ab rfl)<|hy (fun _=>ab rfl)<|ai<|al (ρ' :=[(5,_),(4,_),(11,_),(6,_),(0,_),(1,_)]) ⟨rfl,rfl,rfl,rfl,rfl,rfl,trivial⟩<|ak (X' :=[_,_,_,_,_,_]) (S' :=[]) (fun _ m=>m)<|ag<|aX<| ?_
  refine ak (X' :=bs g st::_) (fun w m=>(m.perm (au [1,1,1,1,1] _ [_,_,_,_,_] _ rfl)).pack) ?_
  exact dF trivial rfl rfl rfl [0,0] rfl [] rfl ⟨_,rfl,(by rw[hrl]),rfl⟩
theorem Fc{g:Nat}{l:List (List UInt8×Value)}{p:List UInt8}{r:fK}:ck Tryz.prog 153 [.agg [SV p,r.val].toArray,.map (some g)] [dC SV g l] [] (fun v_ X_ S_=>v_=(.tuple #[])∧X_=[dC SV g (c9 l p r.val)]∧S_=[]):=by
 refine aP (N:=9) Tryz.func153 rfl rfl (by simp) fun b=> ?_
 refine ah<|aj<| ?_
 refine hx (cw rfl (fun g2=> ?_))
 refine ai<|ak (X' :=[_,_]) (S' :=[]) (fun _ m=>m)<|ag<|aj<|hy (fun _=>aa rfl)<|hy (fun _=>aK rfl CM (by decide))<|hy (fun m=>ay rfl lF (aE (m.a6 0 rfl) rfl))<|hy (fun _=>aK rfl BK (by decide))<|hy (fun m=>ay rfl ek (aE (m.a6 0 rfl) rfl))<| ?_
 refine cL (qc (enc:=SV) 1 rfl rfl rfl rfl Tryz.underlying174 (ki Tryz.underlying9) ?_)
 refine ai<|al (ρ' :=[(2,_),(0,_),(1,_)]) ⟨rfl,rfl,rfl,trivial⟩<|ak (X' :=[_,_]) (S' :=[]) (fun _ m=>m)<| ?_
 exact fO trivial rfl [0] rfl [] rfl ⟨rfl,rfl,rfl⟩
theorem nH{l:dK}{p:List UInt8}{r x:fK}(h:x∈(c9 l p r).map (·.2)):x∈l.map (·.2)∨x=r:=by
 induction l with
 |nil=>simp only[c9,List.map_cons,List.map_nil,List.mem_singleton]at h;exact .inr h
 |cons a q ih=>
  obtain⟨k,u⟩:=a
  simp only[c9]at h
  split at h
  ·simp only[List.map_cons,List.mem_cons]at h ⊢
   rcases h with rfl|h
   ·exact .inr rfl
   ·exact .inl (.inr h)
  ·simp only[List.map_cons,List.mem_cons]at h ⊢
   rcases h with rfl|h
   ·exact .inl (.inl rfl)
   ·rcases ih h with h|h
    ·exact .inl (.inr h)
    ·exact .inr h
def cN.wrote(st:cN)(p:List UInt8)(r:fK)(A:Option Addr)(c:Nat):cN:={st.eP with seen:=c9 st.seen p r,waits:=st.waits++[.written p r],wA:=A,wc:=c}
theorem qE{st:cN}{p:List UInt8}{r:fK}{A:Option Addr}{c:Nat}:∀x∈rowsOf (st.wrote p r A c),x∈rowsOf st∨x=r:=by
 intro x hx
 unfold rowsOf cN.wrote at hx
 simp only[cN.eP,List.mem_append,List.filterMap_append]at hx
 unfold rowsOf
 simp only[List.mem_append]
 rcases hx with(h|h)|h|h
 ·rcases nH h with h|h
  ·exact .inl (.inl (.inl h))
  ·exact .inr h
 ·exact .inl (.inl (.inr h))
 ·exact .inl (.inr h)
 ·simp[gj.row]at h
  exact .inr h
theorem G4{g:Nat}{st:cN}{p:List UInt8}{r:fK}{e:TypeId}(hp:st.bY≤1000000000000)(hw:st.waits.length≤1000000):ck Tryz.prog 116 [.pointer (some ⟨g,0,none⟩),(gj.written p r).val] [bs g st,aG e 1 (.slice r.A r.n r.c) r.n (aV r.l)] [] (fun v_ X_ S_=>∃A c,v_=(.tuple #[])∧X_=[bs g (st.wrote p r A c)]∧S_=[]):=by
 have hsw:st.eP.waits.length=st.waits.length:=rfl
 refine aP (N:=25) Tryz.func116 rfl rfl (by simp) fun b=> ?_
 refine ah<|aj<|hy (fun _=>aa rfl)<| ?_
 refine hx (aq rfl Tryz.call181 (sA (by omega)) [0] rfl [] rfl ?_)
 rintro _ _ _ ⟨rfl,rfl,rfl⟩
 refine aO (fun w m=>(m.perm (au [0] _ [_] _ rfl)).unpack) ?_
 refine ai<|al (ρ' :=[(0,_),(1,_)]) ⟨rfl,rfl,trivial⟩<|ak (X' :=[_,_,_,_,_,_]) (S' :=[]) (fun _ m=>m)<|ag<|ah<|c5 [8] [(0,some 0),(1,some 0),(2,some 0),(3,some 0),(4,some 0),(5,some 0),(6,some 0),(7,some 0),(8,none)] (by kernel_rfl) (by kernel_rfl) rfl 0<|an (aa rfl)<|an (aa rfl)<|an (bd rfl)<|an (aK rfl ic (by decide))<|cr (fun m=>ay rfl nk (aE (m.a6 0 rfl) rfl))<|an (kD rfl rfl)<|an (u7 rfl (by kernel_rfl))<|an (aa rfl)<| ?_
 refine ew (vx rfl rfl (fun w=>by kernel_rfl) Tryz.call153 (Fc) [1] rfl [] rfl ?_)
 rintro _ _ _ ⟨rfl,rfl,rfl⟩
 refine⟨(fun h=>absurd h (by decide)), ?_⟩
 refine bD<|al (ρ' :=[(0,_),(1,_)]) ⟨rfl,rfl,trivial⟩<|ak (X' :=[_,_,_,_,_,_]) (S' :=[]) (fun _ m=>m)<|ag<|aj<|hy (fun _=>aa rfl)<|hy (fun _=>aa rfl)<|hy (fun _=>bd rfl)<|hy (fun _=>aK rfl jh (by decide))<|hy (fun m=>ay rfl vL (aE (m.a6 1 rfl) rfl))<|hy (fun _=>aa rfl)<| ?_
 refine hx (b5 Tryz.underlying175 rS rfl rfl rfl (by simp[Value.cells,gj.val]) (by decide) (by decide) (fun g21=> ?_))
 have hA_b21:0<1→(some (⟨g21,0,none⟩:Addr))≠none:=fun _ h=>by cases h
 refine aO (fun w m=>m.bQ 0 rfl (show _=aG 232 1 (.slice (some ⟨g21,0,none⟩) 1 1) 1 [(gj.written p r).val]from rfl)) ?_
 refine hx (bu 4 rfl rfl rfl Tryz.underlying175 Tryz.underlying175 (by exact .inl rfl) rS rfl (fun m=>Src.bP (m.ord 0 rfl)) (by simp[gj.val,Value.oneCell']) (by unfold maxLen;omega) (by omega) (fun u=> ?_))
 refine aA (fun m=>(m.own 0 rfl).slice) ?_
 rintro⟨A_d3,c_d3,rfl,hc_d3⟩
 refine aA (fun m=>(m.ord 0 rfl).2.1) fun hA_d3=> ?_
 refine hy (fun _=>bd rfl)<|hy (fun _=>aK rfl jh (by decide))<| ?_
 refine cL (cG 3 rfl rfl rfl vX rfl (by first|exact Nat.le_of_ble_eq_true rfl|simp) ?_)
 refine ai<|al (ρ' :=[(0,_),(1,_)]) ⟨rfl,rfl,trivial⟩<|ak (X' :=[_,_,_,_,_,_,_]) (S' :=[]) (fun _ m=>m)<| ?_
 refine ak (fun w m=>m.bQ 0 rfl (show _=aL g 177 (iV (st.wrote p r A_d3 c_d3))from by simp[iV,cN.wrote,cN.eP])) ?_
 refine ak (fun w m=>m.bQ 3 rfl (show _=dC SV st.gs (dX (st.wrote p r A_d3 c_d3).seen)from congrArg (dC SV st.gs) (pR _ _ _))) ?_
 refine ak (fun w m=>m.bQ 2 rfl (show _=aG 232 1 (.slice A_d3 (st.wrote p r A_d3 c_d3).waits.length c_d3) (st.wrote p r A_d3 c_d3).waits.length ((st.wrote p r A_d3 c_d3).waits.map gj.val)from by simp[cN.wrote,cN.eP])) ?_
 refine ak (X' :=jb (rowsOf (st.wrote p r A_d3 c_d3))::_) (fun w m=>(m.perm (au [5,5] _ [_,_] _ rfl)).E1 (qE)) ?_
 refine ak (X' :=bs g (st.wrote p r A_d3 c_d3)::_) (fun w m=>(m.perm (au [3,2,3,1,0] _ [_,_,_,_,_] _ rfl)).pack) ?_
 exact fO trivial rfl [0] rfl [] rfl ⟨_,_,rfl,rfl,rfl⟩
def bO(st:cN)(p:List UInt8)(n:Nat):Int:=if¬fV p then 1 else if st.bY=0 then 6 else if st.room<(mg st.seen:Int)-(((cm st.seen p).map (·.n)).getD 0:Nat)+n then 5 else 0
theorem yK:∀{l:dK} {m:Nat},(∀x∈l,x.2.n≤m)→mg l≤l.length*m
 | [],m,h=>by simp[mg]
 |a::q,m,h=>by
  have:=yK (l:=q) (m:=m) (fun x hx=>h x (List.mem_cons_of_mem _ hx))
  have h1:=h a (List.mem_cons_self ..)
  simp only[mg,List.map_cons,List.sum_cons,List.length_cons,Nat.add_mul]at this ⊢
  omega
structure oQ(st:cN)(k:Nat):Prop where
 bY:st.bY≤1000000000000
 room:st.room≤1048576
 seen:st.seen.length≤k
 rest:st.cO.length+st.waits.length≤k
 small:∀r∈rowsOf st,r.n≤1048576
theorem oQ.le{st:cN}{k k' :Nat}(h:oQ st k)(hk:k≤k'):oQ st k' :=⟨h.bY,h.room,Nat.le_trans h.seen hk,Nat.le_trans h.rest hk,h.small⟩
theorem oQ.mg{st:cN}{k:Nat}(h:oQ st k):mg st.seen≤k*1048576:=Nat.le_trans (yK (m:=1048576) (fun x hx=>h.small _ (by unfold rowsOf;exact List.mem_append_left _ (List.mem_append_left _ (List.mem_map.2 ⟨x,hx,rfl⟩))))) (Nat.mul_le_mul_right _ h.seen)
theorem oQ.sm{st:cN}{k:Nat}(h:oQ st k):Small st:=fun r hr=>Nat.le_trans (h.small r hr) (by decide)
theorem oQ.init{n:Int}{gs gl:Nat}(h:n≤1048576):oQ (mX n gs gl) 0:=⟨by simp[mX],h,Nat.le_refl _,Nat.le_refl _,fun r hr=>by simp[rowsOf,mX]at hr⟩
theorem qn(l:dK)(p:List UInt8)(r:fK):(c9 l p r).length≤l.length+1:=by
 induction l with
 |nil=>simp[c9]
 |cons a q ih=>
  obtain⟨k,u⟩:=a
  simp only[c9]
  split <;> simp only[List.length_cons] <;> omega
theorem uv(l:dK)(p:List UInt8):(eO l p).length≤l.length:=by
 induction l with
 |nil=>simp[eO]
 |cons a q ih=>
  obtain⟨k,u⟩:=a
  simp only[eO]
  split <;> simp only[List.length_cons] <;> omega
theorem kK{st:cN}(h:st.bY≤1000000000000):st.eP.bY≤1000000000000:=by
 simp only[cN.eP]
 split <;> omega
theorem oQ.wrote{st:cN}{k:Nat}(h:oQ st k){p:List UInt8}{r:fK}(hr:r.n≤1048576)(A:Option Addr)(c:Nat):oQ (st.wrote p r A c) (k+1):=by
 refine⟨kK h.bY,h.room, ?_, ?_,fun x hx=> ?_⟩
 ·have:=qn st.seen p r
  have:=h.seen
  show(c9 st.seen p r).length≤k+1
  omega
 ·have:=h.rest
  show st.cO.length+(st.waits++[gj.written p r]).length≤k+1
  simp only[List.length_append,List.length_cons,List.length_nil]
  omega
 ·rcases qE x hx with h' |rfl
  ·exact h.small x h'
  ·exact hr
theorem DI{g:Nat}{st:cN}{p:List UInt8}{A:Option Addr}{n c:Nat}{l:List UInt8}{k:Nat}(ok:oQ st k)(hk:k≤100000)(hn:n≤1048576):ck Tryz.prog 33 [.pointer (some ⟨g,0,none⟩),.string (strOf p),.slice A n c] [bs g st] [dr 1 A n (aV l)] (fun v_ X_ S_=>∃st1 B c1 A1 c2,v_=(.int .i64 (bO st p n))∧X_=[bs g st1]∧S_=[]∧((bO st p n≠0∧st1=st)∨(bO st p n=0∧st1=st.wrote p ⟨B,n,c1,l⟩ A1 c2))):=by
 have hp:=ok.bY
 have hw:st.waits.length≤1000000:=by have:=ok.rest;omega
 have ht:mg st.seen≤1000000000000:=by have:=ok.mg;omega
 have hs:=ok.sm
 refine aP (N:=41) Tryz.func33 rfl rfl (by simp) fun b=> ?_
 refine aY (fun m=>gY (m.rd 0 rfl)) ?_
 rintro⟨hl_r,hA_r⟩
 refine ah<|aj<|hy (fun _=>ab rfl)<|ai<|ag<|ah<|aI<|ah<|aj<|hy (fun _=>aa rfl)<| ?_
 refine hx (aq rfl Tryz.call115 (AJ) [] rfl [] rfl ?_)
 rintro _ _ _ ⟨rfl,rfl,rfl⟩
 refine hy (fun _=>kf rfl)<|hy (fun _=>ab rfl)<|ai<|al (ρ' :=[(7,_),(6,_),(0,_),(1,_),(2,_)]) ⟨rfl,rfl,rfl,rfl,rfl,trivial⟩<|ak (X' :=[_]) (S' :=[_]) (fun _ m=>m)<|ag<| ?_
 refine cD rfl (fun h1=> ?_) (fun h1=> ?_)
 ·have e:bO st p n=1:=by rw[bO,if_pos h1]
  rw[e]
  refine ah<|aj<|hy (fun _=>ab rfl)<|ai<|ag<|aX<|a8<|aw<| ?_
  exact bg trivial rfl rfl [0] rfl [] rfl ⟨_,none,0,none,0,rfl,rfl,rfl,.inl ⟨by decide,rfl⟩⟩
 ·refine ah<|aj<|hy (fun _=>aa rfl)<| ?_
  refine hx (aq rfl Tryz.call87 (FM) [0] rfl [] rfl ?_)
  rintro _ _ _ ⟨rfl,rfl,rfl⟩
  refine hy (fun _=>kf rfl)<|hy (fun _=>ab rfl)<|ai<|al (ρ' :=[(11,_),(7,_),(6,_),(0,_),(1,_),(2,_)]) ⟨rfl,rfl,rfl,rfl,rfl,rfl,trivial⟩<|ak (X' :=[_]) (S' :=[_]) (fun _ m=>m)<|ag<| ?_
  refine cD rfl (fun h2=> ?_) (fun h2=> ?_)
  ·have e:bO st p n=6:=by rw[bO,if_neg h1,if_pos (by omega)]
   rw[e]
   refine ah<|aj<|hy (fun _=>ab rfl)<|ai<|ag<|aX<|a8<|aw<| ?_
   exact bg trivial rfl rfl [0] rfl [] rfl ⟨_,none,0,none,0,rfl,rfl,rfl,.inl ⟨by decide,rfl⟩⟩
  ·have hwe:bO st p n=if st.room<(mg st.seen:Int)-(((cm st.seen p).map (·.n)).getD 0:Nat)+n then 5 else 0:=by rw[bO,if_neg h1,if_neg (by omega)]
   have hv:∃B m c0,ig false (.slice none 0 0) (cm (dX st.seen) p)= .slice B m c0∧m=((cm st.seen p).map (·.n)).getD 0∧m≤1000000000:=by
    rw[nC]
    cases hq:cm st.seen p with
    |none=>exact⟨none,0,0,rfl,rfl,by decide⟩
    |some r=>exact⟨r.A,r.n,r.c,rfl,rfl,hs r (te hq)⟩
   obtain⟨B,m,c0,hv1,hv2,hv3⟩:=hv
   rw[←hv2]at hwe
   refine ah<|c5 [1] [(0,some 0),(2,some 1),(3,some 1),(4,some 1),(5,some 1),(6,some 1),(7,some 1),(8,some 1),(10,some 1),(11,some 1),(13,some 1),(14,some 1),(15,some 1),(16,some 1),(1,none),(9,some 1),(12,some 1),(17,some 1),(18,some 1)] (by kernel_rfl) (by kernel_rfl) rfl 99<|an (aa rfl)<|an (aa rfl)<|an (bd rfl)<|an (aK rfl ic (by decide))<|cr (fun m=>ay rfl nk (aE (show e8 _ _ _ _ from m.GX 0 rfl 0 rfl) rfl))<|an (aa rfl)<|cr (fun m=>yV (kb (enc:=SV) rfl rfl Tryz.underlying174 tB (ki Tryz.underlying9) (show gH _ _ _ _ from m.GX 0 rfl 1 rfl)) (hv1))<|an (aS rfl Tryz.underlying27)<|an (aa rfl)<|an (aS rfl Tryz.underlying27)<|an (aa rfl)<|an (bd rfl)<|an (aK rfl BX (by decide))<|cr (fun m=>ay rfl fS (aE (show e8 _ _ _ _ from m.GX 0 rfl 0 rfl) rfl))<| ?_
   refine ew (aq rfl Tryz.call88 (FQ (by omega)) [0] rfl [] rfl ?_)
   rintro _ _ _ ⟨rfl,rfl,rfl⟩
   refine⟨(fun _=>wk [0] [0] rfl rfl), ?_⟩
   refine an (cn rfl rfl (bG (by omega) (by omega)))<|an (aM rfl rfl (bG (by omega) (by omega)))<|an (da rfl rfl)<|an (ab rfl)<|bD<|al (ρ' :=[(15,_),(11,_),(7,_),(6,_),(0,_),(1,_),(2,_)]) ⟨rfl,rfl,rfl,rfl,rfl,rfl,rfl,trivial⟩<|ak (X' :=[_]) (S' :=[_]) (fun _ m=>m)<|ag<| ?_
   refine cD rfl (fun h3=> ?_) (fun h3=> ?_)
   ·rw[if_pos (by omega)]at hwe
    rw[hwe]
    refine ah<|aj<|hy (fun _=>ab rfl)<|ai<|ag<|aX<|a8<|aw<| ?_
    exact bg trivial rfl rfl [0] rfl [] rfl ⟨_,none,0,none,0,rfl,rfl,rfl,.inl ⟨by decide,rfl⟩⟩
   ·rw[if_neg (by omega)]at hwe
    rw[hwe]
    refine aD<|aQ<|ag<|ah<|aj<|hy (fun _=>aa rfl)<|hy (fun _=>aa rfl)<|hy (fun _=>aa rfl)<| ?_
    refine hx (aq rfl Tryz.call117 (su (by omega)) [] rfl [0] rfl ?_)
    rintro _ _ _ ⟨v,rfl,rfl,rfl⟩
    refine aA (fun m=>(m.own 0 rfl).slice) ?_
    rintro⟨A_x,c_x,rfl,hc_x⟩
    refine aA (fun m=>(m.ord 0 rfl).2.1) fun hA_x=> ?_
    refine hy (fun _=>yV (cC Gp rfl rfl (by kernel_rfl) (.cons (o:=0) (sz:=1) (by kernel_rfl) rfl rfl (Nat.le_of_ble_eq_true rfl) (.cons (o:=1) (sz:=1) (by kernel_rfl) rfl rfl (Nat.le_of_ble_eq_true rfl) .nil))) ((rfl:_=Value.agg [SV p,Value.slice A_x n c_x].toArray)))<|hy (fun _=>kU rfl Tryz.underlying189 (fun _ h=>by cases h))<| ?_
    refine hx (aq rfl Tryz.call116 (G4 (by omega) (by omega) (r:=⟨A_x,n,c_x,l⟩)) [1,0] rfl [] rfl ?_)
    rintro _ _ _ ⟨A2,c2,rfl,rfl,rfl⟩
    refine ai<|al (ρ' :=[(15,_),(11,_),(7,_),(6,_),(0,_),(1,_),(2,_)]) ⟨rfl,rfl,rfl,rfl,rfl,rfl,rfl,trivial⟩<|ak (X' :=[_]) (S' :=[_]) (fun _ m=>m)<|ag<|ah<|aj<|hy (fun _=>ab rfl)<|ai<|ag<|aX<| ?_
    exact bg trivial rfl rfl [0] rfl [] rfl ⟨_,_,_,_,_,rfl,rfl,rfl,.inr ⟨rfl,rfl⟩⟩
theorem CY{g:Nat}{l:List (List UInt8×Value)}:ck Tryz.prog 154 [.map (some g)] [dC SV g l] [] (fun v_ X_ S_=>∃g1,v_=(.map (some g1))∧X_=[dC SV g l,dC SV g1 l]∧S_=[]):=by
 refine aP (N:=9) Tryz.func154 rfl rfl (by simp) fun b=> ?_
 refine ah<|aj<|hy (fun _=>ab rfl)<|ai<|ag<|ah<|ah<|aj<|hy (fun _=>aa rfl)<|hy (fun _=>Ey rfl rfl Tryz.underlying174)<|ai<|al (ρ' :=[(4,_),(2,_),(0,_)]) ⟨rfl,rfl,rfl,trivial⟩<|ag<| ?_
 refine dB rfl (rfl) ?_
 refine aD<|ag<|ah<|aj<|hy (fun _=>aa rfl)<|hy (fun _=>kU rfl Tryz.underlying174 (fun _ h=>by cases h))<| ?_
 refine hx (xD 0 rfl rfl Tryz.func209 (by kernel_rfl) (by kernel_rfl) (by kernel_rfl) (by kernel_rfl) (fun g1=> ?_))
 refine hy (fun _=>rT rfl (show _=Result.ok (Value.map (some g1)) _ by kernel_rfl))<|hy (fun _=>ab rfl)<|ai<|al (ρ' :=[(2,_),(4,_),(0,_)]) ⟨rfl,rfl,rfl,trivial⟩<|ak (X' :=[_,_]) (S' :=[]) (fun _ m=>m)<|ag<|aX<| ?_
 exact bg trivial rfl rfl [1,0] rfl [] rfl ⟨_,rfl,rfl,rfl⟩
def cN.synced(st:cN)(gl:Nat):cN:={st.eP with gl:=gl,cO:=st.seen,waits:=[],wA:=none,wc:=0}
def dp(st:cN):Int:=if st.bY=0 then 6 else 0
theorem ou{st:cN}{gl:Nat}:∀x∈rowsOf (st.synced gl),x∈rowsOf st:=by
 intro x hx
 unfold rowsOf cN.synced at hx
 simp only[cN.eP,List.filterMap_nil,List.append_nil,List.mem_append,or_self]at hx
 unfold rowsOf
 exact List.mem_append_left _ (List.mem_append_left _ hx)
theorem oQ.synced{st:cN}{k:Nat}(h:oQ st k)(gl:Nat):oQ (st.synced gl) k:=
 ⟨kK h.bY,h.room,h.seen,by show st.seen.length+0≤k;have:=h.seen;omega,fun x hx=>h.small x (ou x hx)⟩
theorem FI{g:Nat}{st:cN}{k:Nat}(ok:oQ st k):ck Tryz.prog 110 [.pointer (some ⟨g,0,none⟩)] [bs g st] [] (fun v_ X_ S_=>∃st1 gl,v_=(.int .i64 (dp st))∧X_=[bs g st1]∧S_=[]∧((st.bY=0∧st1=st)∨(st.bY≠0∧st1=st.synced gl))):=by
 refine aP (N:=19) Tryz.func110 rfl rfl (by simp) fun b=> ?_
 refine ah<|aj<|hy (fun _=>ab rfl)<|ai<|ag<|ah<|ah<|aj<|hy (fun _=>aa rfl)<| ?_
 refine hx (aq rfl Tryz.call87 (FM) [0] rfl [] rfl ?_)
 rintro _ _ _ ⟨rfl,rfl,rfl⟩
 refine hy (fun _=>kf rfl)<|ai<|al (ρ' :=[(5,_),(2,_),(0,_)]) ⟨rfl,rfl,rfl,trivial⟩<|ak (X' :=[_]) (S' :=[]) (fun _ m=>m)<|ag<| ?_
 refine cD rfl (fun h1=> ?_) (fun h1=> ?_)
 ·have h0:st.bY=0:=Decidable.not_not.1 h1
  have e:dp st=6:=by rw[dp,if_pos h0]
  rw[e]
  refine ah<|aj<|hy (fun _=>ab rfl)<|ai<|ag<|aX<|aw<| ?_
  exact bg trivial rfl rfl [0] rfl [] rfl ⟨_,0,rfl,rfl,rfl,.inl ⟨h0,rfl⟩⟩
 ·have h0:st.bY≠0:=fun e=>h1 (fun h=>h e)
  have e:dp st=0:=by rw[dp,if_neg h0]
  rw[e]
  have hp:=ok.bY
  refine aD<|ag<|ah<|aj<|hy (fun _=>aa rfl)<| ?_
  refine hx (aq rfl Tryz.call181 (sA (by omega)) [0] rfl [] rfl ?_)
  rintro _ _ _ ⟨rfl,rfl,rfl⟩
  refine aO (fun w m=>(m.perm (au [0] _ [_] _ rfl)).unpack) ?_
  refine ai<|al (ρ' :=[(5,_),(2,_),(0,_)]) ⟨rfl,rfl,rfl,trivial⟩<|ak (X' :=[_,_,_,_,_]) (S' :=[]) (fun _ m=>m)<|ag<|ah<|aj<|hy (fun _=>aa rfl)<|hy (fun _=>aa rfl)<|hy (fun _=>aa rfl)<|hy (fun _=>bd rfl)<|hy (fun _=>aK rfl ic (by decide))<|hy (fun m=>ay rfl nk (aE (m.a6 0 rfl) rfl))<| ?_
  refine hx (aq rfl Tryz.call154 (CY) [1] rfl [] rfl ?_)
  rintro _ _ _ ⟨g1,rfl,rfl,rfl⟩
  refine hy (fun _=>bd rfl)<|hy (fun _=>aK rfl Cb (by decide))<| ?_
  refine cL (cG 2 rfl rfl rfl Ge rfl (by first|exact Nat.le_of_ble_eq_true rfl|simp) ?_)
  refine hy (fun _=>bd rfl)<|hy (fun _=>aK rfl jh (by decide))<| ?_
  refine cL (cG 0 rfl rfl rfl vX rfl (by first|exact Nat.le_of_ble_eq_true rfl|simp) ?_)
  refine ai<|al (ρ' :=[(5,_),(2,_),(0,_)]) ⟨rfl,rfl,rfl,trivial⟩<|ak (X' :=[_,_,_,_,_,_]) (S' :=[]) (fun _ m=>m)<|ag<|ah<|aj<|hy (fun _=>ab rfl)<|ai<|ag<|aX<| ?_
  refine ak (fun w m=>m.dm (r' :=aG 232 1 (.slice none 0 0) 0 []) (.refl _ _) (Own.nil _ _ _ _) (fun k hk=>hk.elim)) ?_
  refine ak (fun w m=>Mem.A6 (X:=[_]) (m.perm (au [4] _ [_] _ rfl))) ?_
  refine ak (fun w m=>Mem.A6 (X:=[_]) (m.perm (au [4] _ [_] _ rfl))) ?_
  refine ak (fun w m=>m.bQ 1 rfl (show _=aL g 177 (iV (st.synced g1))from rfl)) ?_
  refine ak (X' :=jb (rowsOf (st.synced g1))::_) (fun w m=>(m.perm (au [4] _ [_] _ rfl)).vE (ou)) ?_
  refine ak (X' :=bs g (st.synced g1)::_) (fun w m=>(m.perm (au [1,2,2,1,0] _ [_,_,_,_,_] _ rfl)).pack) ?_
  exact bg trivial rfl rfl [0] rfl [] rfl ⟨_,_,rfl,rfl,rfl,.inr ⟨h0,rfl⟩⟩
end Go.Proofs.YtmibdabdlgmafaaGreatDoor
end
section
namespace Go.Eng
open Go.RowKit Go.ChangeShapes Go.WideShapes
theorem qR{zs:List Int}(h:∀n∈zs,(Lit.int .u8 n).wf=true):zs.map (Value.int .u8)=aV (zs.map fun n=>UInt8.ofNat n.toNat):=by
 rw[aV,List.map_map]
 apply List.map_congr_left
 intro n hn
 have:=bounds_u8 (h n hn)
 simp only[B8,Function.comp]
 have e:(UInt8.ofNat n.toNat).toNat=n.toNat:=by
  rw[UInt8.toNat_ofNat']
  exact Nat.mod_eq_of_lt (by omega)
 rw[e]
 congr 1
 omega
theorem vB{W:World}{x:Addr}{len cap:Nat}{zs:List Int}(hl:len≤cap)(hz:zs.length=cap)(hcell:∀i,i<zs.length→W.cell? (x.add i)=some (.int .u8 (zs.getD i 0)))(hw:∀n∈zs,(Lit.int .u8 n).wf=true):
  Rd W 1 (some x) len (aV ((zs.take len).map fun n=>UInt8.ofNat n.toNat)):=by
 rw[←qR (fun n hn=>hw n (List.mem_of_mem_take hn))]
 refine⟨by simp;omega,fun _ e=>(by cases e),fun j u hu=> ?_⟩
 have hj:=(List.getElem?_eq_some_iff.1 hu).1
 simp at hj
 have hc:=hcell j (by omega)
 rw[List.getElem?_map,List.getElem?_take,if_pos (by omega)]at hu
 rw[List.getD,List.getElem?_eq_getElem (by omega)]at hc
 rw[List.getElem?_eq_getElem (by omega)]at hu
 simp at hu hc
 rw[Option.getD_some,hc,←hu]
theorem vz{H:Type}{enc:TypeId×Value→H}{P:Program}{W:World}{t e:TypeId}{A:Option Addr}{len cap:Nat}{d:DataW H}{ps:List MemPlace}{spare:Nat→Bool}{held:Bool}
  (hu:P.underlying t=some (.slice e)) (he:P.underlying e=some (.int .u8)) (hc:P.cellsOf e=1) (h:DataW.Trod enc P W 0 spare held t (.slice A len cap) d ps):len≤cap∧∃l,Rd W 1 A len (aV l):=by
 obtain⟨fuel,hf⟩:=h
 rcases open_ints hu he hc hf with⟨hcs,_⟩|⟨x,l,c,zs,hcs,_,hl,hm,hz,_,hcell,hwz⟩
 ·simp[Value.cells]at hcs
  obtain⟨rfl,rfl,rfl⟩:=hcs
  exact⟨Nat.le_refl _,[],Rd.nil _ _ _⟩
 ·simp[Value.cells]at hcs
  obtain⟨rfl,rfl,rfl⟩:=hcs
  refine⟨hl,_,vB (cap:=zs.length) (by rw[hz];split <;> omega) rfl hcell hwz⟩
theorem tS{H:Type}{enc:TypeId×Value→H}{P:Program}{W:World}{base:Nat}{spare:Nat→Bool}{held:Bool}{t e:TypeId}{k:IntKind}{a:Option Addr}{len cap:Nat}{d:DataW H}{ps:List MemPlace}{ts:List TypeId}{ds:List (DataW H)}{j:Nat}
  (hsz:(DataW.weightsEach P ts ds).all (· ≤reachBytes)=true) (ht:ts[j]? =some t) (hd:ds[j]? =some d) (hu:P.underlying t=some (.slice e)) (he:P.underlying e=some (.int k)) (hc:P.cellsOf e=1) (hB:P.bytesOf e=1)
  (h:DataW.Trod enc P W base spare held t (.slice a len cap) d ps):len≤140737488351232:=by
 obtain⟨fuel,hf⟩:=h
 rcases open_ints hu he hc hf with⟨hcs,_⟩|⟨x,l,c,zs,hcs,_,hl,_,hz,hx,_,_⟩
 ·simp[Value.cells]at hcs
  obtain⟨rfl,rfl,rfl⟩:=hcs
  simp
 ·simp[Value.cells]at hcs
  obtain⟨rfl,rfl,rfl⟩:=hcs
  obtain⟨hx,_⟩:=Prod.mk.inj hx
  subst hx
  have z:=sized_slice hsz ht hd hu
  rw[hB,Nat.mul_one]at z
  have hl2:len≤zs.length:=by rw[hz];split <;> omega
  have h1:(lits (H:=H) k (zs.take len)).length+(lits (H:=H) k (zs.drop len)).length=zs.length:=by
   simp[lits]
   omega
  rw[h1]at z
  exact Nat.le_trans hl2 z
theorem y5{H:Type}{enc:TypeId×Value→H}{P:Program}{w:World}{base:Nat}{spare:Nat→Bool}{held:Bool}{r:Reach}{b0:Nat}{t:TypeId}{v:Value}{d:DataW H}{ps:List MemPlace}(ht:P.underlying t=some (.int .i64))(hval:Value.okWide P w r b0 t v)(hd:DataW.Trod enc P w base spare held t v d ps):
  ∃n:Int,v= .int .i64 n∧(-9223372036854775808≤n∧n≤9223372036854775807)∧ps=[]:=by
 obtain⟨n,rfl,_,rfl,hw⟩:=open_int ht hval hd
 refine⟨n,rfl, ?_,rfl⟩
 simp only[Lit.wf,IntKind.min,IntKind.max,IntKind.signed,IntKind.bits]at hw
 simp at hw
 omega
end Go.Eng
end
section
namespace Go.Eng
open Go.RowKit Go.ChangeShapes Go.WideShapes
inductive Cell
 |v (x:Value)
 |s (sz:Nat) (A:Option Addr) (n c:Nat) (xs:List Cell)
def Cell.val:Cell→Value
 | .v x=>x
 | .s _ A n c _=>.slice A n c
mutual
def Cell.dy:Cell→Nat→Prop
 | .v _=>fun _=>False
 | .s _ A _ _ xs=>fun k=>(xs≠ []∧∃a,A=some a∧k=a.block)∨qf xs k
def qf:List Cell→Nat→Prop
 | []=>fun _=>False
 |x::r=>fun k=>x.dy k∨qf r k
end
mutual
def Cell.holds(w:World):Cell→Prop
 | .v _=>True
 | .s sz A n c xs=>Rd w sz A n (xs.map Cell.val)∧n≤c∧jm w xs
def jm(w:World):List Cell→Prop
 | []=>True
 |x::r=>x.holds w∧jm w r
end
theorem rA{k:Nat}:∀{xs:List Cell},qf xs k↔∃x∈xs,x.dy k
 | []=>by simp[qf]
 |x::r=>by simp only[qf,rA (xs:=r),List.mem_cons,exists_eq_or_imp]
theorem fy{w:World}:∀{xs:List Cell},jm w xs↔∀x∈xs,x.holds w
 | []=>by simp[jm]
 |x::r=>by simp only[jm,fy (xs:=r),List.mem_cons,forall_eq_or_imp]
mutual
theorem Cell.iF{S:Nat→Prop}{w w' :World}(f:Fr S w w'):∀(c:Cell),(∀k,c.dy k→¬S k)→c.holds w→c.holds w'
 | .v _,_,_=>trivial
 | .s sz A n c xs,h,hh=>by
  obtain⟨h1,h2,h3⟩:=hh
  refine⟨Rd.iF h1 f (fun k hk=>h k ?_),h2,Ds f xs (fun k hk=>h k (.inr hk)) h3⟩
  obtain⟨hne,a,ha,hk⟩:=hk
  exact .inl ⟨fun e=>hne (by rw[e];rfl),a,ha,hk⟩
theorem Ds{S:Nat→Prop}{w w' :World}(f:Fr S w w'):∀(xs:List Cell),(∀k,qf xs k→¬S k)→jm w xs→jm w' xs
 | [],_,_=>trivial
 |x::r,h,hh=>⟨Cell.iF f x (fun k hk=>h k (.inl hk)) hh.1,Ds f r (fun k hk=>h k (.inr hk)) hh.2⟩
end
mutual
theorem Cell.low{w:World}:∀(c:Cell) {k:Nat},c.holds w→c.dy k→k<w.heap.size
 | .v _,_,_,h=>h.elim
 | .s sz A n c xs,k,hh,hk=>by
  obtain⟨h1,h2,h3⟩:=hh
  rcases hk with⟨hne,a,ha,hk⟩|hk
  ·exact(dr sz A n (xs.map Cell.val)).low h1 ⟨fun e=>hne (List.map_eq_nil_iff.1 e),a,ha,hk⟩
  ·exact GC xs h3 hk
theorem GC{w:World}:∀(xs:List Cell) {k:Nat},jm w xs→qf xs k→k<w.heap.size
 | [],_,_,h=>h.elim
 |x::r,k,hh,hk=>by
  rcases hk with hk|hk
  ·exact Cell.low x hh.1 hk
  ·exact GC r hh.2 hk
end
def kI(c:Cell):bn:=⟨c.dy,fun w=>c.holds w,fun f h x=>c.iF f h x,fun x hk=>c.low x hk⟩
theorem View.Gk{sz n c:Nat}{A:Option Addr}{xs:List Cell}:View (kI (.s sz A n c xs)) (dr sz A n (xs.map Cell.val)):=
 .of (fun w h=>h.1) (fun k hk=>by
  obtain⟨hne,a,ha,hk⟩:=hk
  exact .inl ⟨fun e=>hne (by rw[e];rfl),a,ha,hk⟩)
theorem View.cell{sz n c j:Nat}{A:Option Addr}{xs:List Cell}{y:Cell}(h:xs[j]? =some y):View (kI (.s sz A n c xs)) (kI y):=
 .of (fun w hh=>fy.1 hh.2.2 y (List.mem_of_getElem? h)) (fun k hk=>.inr (rA.2 ⟨y,List.mem_of_getElem? h,hk⟩))
inductive Ty(P:Program):TypeId→List Cell→Prop
 |int {t:TypeId} {k:IntKind} {z:Int} (ht:P.underlying t=some (.int k)) (hw:(Lit.int k z).wf=true):Ty P t [.v (.int k z)]
 |bool {t:TypeId} {b:Bool} (ht:P.underlying t=some .bool):Ty P t [.v (.bool b)]
 |str {t:TypeId} {s:List UInt8} (ht:P.underlying t=some .string) (hs:s.length≤140737488351232):Ty P t [.v (.string (strOf s))]
 |slice {t e:TypeId} {A:Option Addr} {n c:Nat} {xs:List Cell} (ht:P.underlying t=some (.slice e)) (hc:n≤c) (hn:n*P.bytesOf e≤140737488351232) (hl:xs.length=n*P.cellsOf e)
   (h:∀i,i<n→Ty P e ((xs.drop (i*P.cellsOf e)).take (P.cellsOf e))):Ty P t [.s (P.cellsOf e) A n c xs]
 |arr {t e:TypeId} {n:Nat} {xs:List Cell} (ht:P.underlying t=some (.array n e)) (hl:xs.length=P.cellsOf t) (h:∀i,i<n→Ty P e ((xs.drop (i*P.cellsOf e)).take (P.cellsOf e))):Ty P t xs
 |struct {t:TypeId} {fs:Array Field} {xs:List Cell} (ht:P.underlying t=some (.struct fs)) (hl:xs.length=P.cellsOf t) (h:∀(i:Nat) (f:Field),fs[i]? =some f→Ty P f.type ((xs.drop f.offset).take (P.cellsOf f.type))):Ty P t xs
def jt(P:Program):List Field→Nat→Nat→Bool
 | [],o,e=>o == e
 |f::r,o,e=>f.offset == o && jt P r (o+P.cellsOf f.type) e
def parts(P:Program):Nat→TypeId→Bool
 |0,_=>false
 |n+1,t=>match P.underlying t with
  |some (.int _)|some .bool|some .string=>true
  |some (.slice e)=>parts P n e && decide (0<P.cellsOf e)
  |some (.array m e)=>parts P n e && (P.cellsOf t == m*P.cellsOf e)
  |some (.struct fs)=>fs.toList.all (fun f=>parts P n f.type) && jt P fs.toList 0 (P.cellsOf t)
  |_=>false
section
variable{H:Type}{enc:TypeId×Value→H}{P:Program}{w:World}{base:Nat}{spare:Nat→Bool}{held:Bool}
theorem xC{b:Nat}{a:Addr}{n:Nat}{cs:List Value}(h:w.cells? b a n=some cs):cs.length=n∧∀j u,cs[j]? =some u→w.cell? (a.add j)=some u:=by
 obtain⟨hb,hl,hcell⟩:=World.cells?_some h
 refine⟨hl,fun j u hu=> ?_⟩
 have hj:j<n:=by rw[←hl];exact(List.getElem?_eq_some_iff.1 hu).1
 rw[hcell j hj,hu]
theorem iR{e:TypeId}{d:DataW H}{n:Nat}:∀{ds:List (DataW H)},d∈ds→n∈d.weights P e→n∈DataW.weightsAll P e ds
 | [],h,_=>by cases h
 |a::r,h,hn=>by
  simp only[DataW.weightsAll,List.mem_append]
  rcases List.mem_cons.1 h with rfl|h
  ·exact .inl hn
  ·exact .inr (iR h hn)
theorem pieces{sz:Nat}{Q:List Cell→Prop}{R:Nat→List Value→Prop}:∀(m:Nat),(∀i,i<m→∃ys:List Cell,ys.length=sz∧Q ys∧R i (ys.map Cell.val)∧jm w ys)→
  ∃xs:List Cell,xs.length=m*sz∧(∀i,i<m→Q ((xs.drop (i*sz)).take sz)∧R i (((xs.drop (i*sz)).take sz).map Cell.val))∧jm w xs
 |0,_=>⟨[],by simp,fun i hi=>absurd hi (by omega),trivial⟩
 |m+1,h=>by
  obtain⟨xs,h1,h2,h3⟩:=pieces m (fun i hi=>h i (by omega))
  obtain⟨ys,h4,h5,h6,h7⟩:=h m (by omega)
  have hlen:(m+1)*sz=m*sz+sz:=by rw[Nat.add_mul,Nat.one_mul]
  refine⟨xs++ys,by rw[List.length_append,h1,h4,hlen],fun i hi=> ?_,fy.2 fun x hx=> ?_⟩
  ·by_cases hm:i=m
   ·subst hm
    have e:((xs++ys).drop (i*sz)).take sz=ys:=by
     rw[←h1,List.drop_left,List.take_of_length_le (by omega)]
    rw[e]
    exact⟨h5,h6⟩
   ·have hi' :i<m:=by omega
    have hle:i*sz+sz≤m*sz:=by
     have:=Nat.mul_le_mul_right sz (show i+1≤m by omega)
     rwa [Nat.add_mul,Nat.one_mul]at this
    have e:((xs++ys).drop (i*sz)).take sz=(xs.drop (i*sz)).take sz:=by
     rw[List.drop_append_of_le_length (by omega),List.take_append_of_le_length (by rw[List.length_drop];omega)]
    rw[e]
    exact h2 i hi'
  ·rcases List.mem_append.1 hx with hx|hx
   ·exact fy.1 h3 x hx
   ·exact fy.1 h7 x hx
theorem nK{xs:List Value}{sz i j:Nat}(hj:j<sz):((xs.drop (i*sz)).take sz)[j]? =xs[i*sz+j]? :=by
 rw[List.getElem?_take,if_pos hj,List.getElem?_drop]
theorem mJ{cs:List Value}:∀(fs:List Field) (o e:Nat),jt P fs o e=true→(∀f∈fs,∃ys:List Cell,ys.length=P.cellsOf f.type∧Ty P f.type ys∧ys.map Cell.val=(cs.drop f.offset).take (P.cellsOf f.type)∧jm w ys)→
  o≤e∧∃xs:List Cell,xs.length=e-o∧xs.map Cell.val=(cs.drop o).take (e-o)∧jm w xs∧∀f∈fs,o≤f.offset∧Ty P f.type ((xs.drop (f.offset-o)).take (P.cellsOf f.type))
 | [],o,e,hc,_=>by
  have:o=e:=by simpa[jt]using hc
  subst this
  exact⟨Nat.le_refl _,[],by simp,by simp,trivial,by simp⟩
 |f::r,o,e,hc,h=>by
  simp only[jt,Bool.and_eq_true,beq_iff_eq]at hc
  obtain⟨h0,hc⟩:=hc
  obtain⟨hle,xs,h1,h2,h3,h4⟩:=mJ r _ e hc (fun g hg=>h g (List.mem_cons_of_mem _ hg))
  obtain⟨ys,h5,h6,h7,h8⟩:=h f (List.mem_cons_self ..)
  rw[h0]at h7
  refine⟨by omega,ys++xs,by rw[List.length_append,h1,h5];omega, ?_,fy.2 fun x hx=> ?_,fun g hg=> ?_⟩
  ·rw[List.map_append,h7,h2,←List.drop_drop,show e-o=P.cellsOf f.type+(e-(o+P.cellsOf f.type)) by omega,List.take_add]
  ·rcases List.mem_append.1 hx with hx|hx
   ·exact fy.1 h8 x hx
   ·exact fy.1 h3 x hx
  ·rcases List.mem_cons.1 hg with rfl|hg
   ·refine⟨by omega, ?_⟩
    rw[h0,Nat.sub_self,List.drop_zero,←h5,List.take_left]
    exact h6
   ·obtain⟨h9,h10⟩:=h4 g hg
    refine⟨by omega, ?_⟩
    have e1:(ys++xs).drop (g.offset-o)=xs.drop (g.offset-(o+P.cellsOf f.type)):=by
     rw[List.drop_append,List.drop_of_length_le (by omega),List.nil_append]
     congr 1
     omega
    rw[e1]
    exact h10
theorem ko:∀(k fuel:Nat) (t:TypeId) (cs:List Value) (x:DataW H×List MemPlace),parts P k t=true→DataW.trod enc P w 0 spare held fuel t cs=some x→(∀q∈DataW.weights P t x.1,q≤140737488351232)→∃xs:List Cell,xs.map Cell.val=cs∧jm w xs∧Ty P t xs
 |0,fuel,t,cs,x,hp,_,_=>by simp[parts]at hp
 |k+1,fuel,t,cs,x,hp,h,hw=>by
  unfold parts at hp
  split at hp
  ·rename_i q ht
   obtain⟨z,rfl,_,hz⟩:=DataW.trod_int ht h
   exact⟨[.v (.int q z)],rfl,⟨trivial,trivial⟩,.int ht hz⟩
  ·rename_i ht
   obtain⟨b,rfl,_⟩:=DataW.trod_bool ht h
   exact⟨[.v (.bool b)],rfl,⟨trivial,trivial⟩,.bool ht⟩
  ·rename_i ht
   obtain⟨s,rfl,hx,_⟩:=DataW.trod_string ht h
   have h1:=hw s.data.toList.length (by rw[hx];simp[DataW.weights])
   exact⟨[.v (.string s)],rfl,⟨trivial,trivial⟩,.str (s:=bytesOf s) ht h1⟩
  ·rename_i e ht
   simp only[Bool.and_eq_true,decide_eq_true_eq]at hp
   rcases DataW.trod_slice ht h with⟨rfl,rfl⟩|⟨a,len,cap,elems,rest,m,_,rfl,hx,hb,hl,hm,hlen,hel,_,_⟩
   ·exact⟨[.s (P.cellsOf e) none 0 0 []],rfl,⟨⟨Rd.nil _ _ _,Nat.le_refl _,trivial⟩,trivial⟩,.slice ht (Nat.le_refl _) (by simp) (by simp) (fun i hi=>absurd hi (by omega))⟩
   ·have hwe:∀d∈elems.map (·.1),∀q∈DataW.weights P e d,q≤140737488351232:=fun d hd q hq=>hw q (by
     rw[hx]
     simp only[DataW.weights,ht,List.mem_cons,List.mem_append]
     exact .inr (.inl (iR hd hq)))
    obtain⟨xs,h1,h2,h3⟩:=pieces (w:=w) (sz:=P.cellsOf e) (Q:=Ty P e) (R:=fun i vs=>∀j u,vs[j]? =some u→w.cell? (a.add (i*P.cellsOf e+j))=some u) len (fun i hi=>by
     have h1:=hel i hi
     rw[List.getElem?_eq_getElem (by omega)]at h1
     obtain⟨c,hc1,hc2⟩:=Option.bind_eq_some_iff.1 h1
     obtain⟨hcl,hcc⟩:=xC hc1
     obtain⟨ys,h4,h5,h6⟩:=ko k _ e c _ hp.1 hc2 (fun q hq=>hwe _ (List.mem_map.2 ⟨_,List.getElem_mem _,rfl⟩) q hq)
     refine⟨ys,by rw[←hcl,←h4,List.length_map],h6,fun j u hu=> ?_,h5⟩
     rw[h4]at hu
     have:=hcc j u hu
     rwa [add_add]at this)
    have hR:Rd w (P.cellsOf e) (some a) len (xs.map Cell.val):=⟨by rw[List.length_map,h1],fun _ e=>(by cases e),fun q u hu=>by
     have hq:q<len*P.cellsOf e:=by
      have:=(List.getElem?_eq_some_iff.1 hu).1
      rwa [List.length_map,h1]at this
     have hd:q/P.cellsOf e<len:=(Nat.div_lt_iff_lt_mul hp.2).2 hq
     have hmod:=Nat.mod_lt q hp.2
     have hqe:q/P.cellsOf e*P.cellsOf e+q % P.cellsOf e=q:=by
      have:=Nat.div_add_mod q (P.cellsOf e)
      rw[Nat.mul_comm]at this
      exact this
     have:=(h2 _ hd).2 (q % P.cellsOf e) u (by rw[List.map_take,List.map_drop,nK hmod,hqe];exact hu)
     rw[hqe]at this
     simpa using this⟩
    have hn:len*P.bytesOf e≤140737488351232:=by
     have:=hw ((elems.length+rest.length)*P.bytesOf e) (by rw[hx];simp[DataW.weights,ht])
     rw[hlen,Nat.add_mul]at this
     omega
    exact⟨[.s (P.cellsOf e) (some a) len cap xs],rfl,⟨⟨hR,hl,h3⟩,trivial⟩,.slice ht hl hn h1 (fun i hi=>(h2 i hi).1)⟩
  ·rename_i m e ht
   simp only[Bool.and_eq_true,beq_iff_eq]at hp
   obtain⟨ys,n,_,hx,hlen,hyl,hel⟩:=DataW.trod_array ht h
   have hwe:∀d∈ys.map (·.1),∀q∈DataW.weights P e d,q≤140737488351232:=fun d hd q hq=>hw q (by
    rw[hx]
    simp only[DataW.weights,ht]
    exact iR hd hq)
   obtain⟨xs,h1,h2,h3⟩:=pieces (w:=w) (sz:=P.cellsOf e) (Q:=Ty P e) (R:=fun i vs=>vs=(cs.drop (i*P.cellsOf e)).take (P.cellsOf e)) m (fun i hi=>by
    have h1:=hel i hi
    rw[List.getElem?_eq_getElem (by omega)]at h1
    obtain⟨zs,h4,h5,h6⟩:=ko k _ e _ _ hp.1 h1 (fun q hq=>hwe _ (List.mem_map.2 ⟨_,List.getElem_mem _,rfl⟩) q hq)
    refine⟨zs, ?_,h6,h4,h5⟩
    have:=congrArg List.length h4
    rw[List.length_map,List.length_take,List.length_drop,hlen,hp.2]at this
    have hle:i*P.cellsOf e+P.cellsOf e≤m*P.cellsOf e:=by
     have:=Nat.mul_le_mul_right (P.cellsOf e) (show i+1≤m by omega)
     rwa [Nat.add_mul,Nat.one_mul]at this
    omega)
   refine⟨xs, ?_,h3,.arr ht (by rw[h1,hp.2]) (fun i hi=>(h2 i hi).1)⟩
   apply List.ext_getElem?
   intro q
   by_cases hq:q<m*P.cellsOf e
   ·have hpos:0<P.cellsOf e:=by
     rcases Nat.eq_zero_or_pos (P.cellsOf e)with h0|h0
     ·rw[h0,Nat.mul_zero]at hq;omega
     ·exact h0
    have hd:q/P.cellsOf e<m:=(Nat.div_lt_iff_lt_mul hpos).2 hq
    have hmod:=Nat.mod_lt q hpos
    have hqe:q/P.cellsOf e*P.cellsOf e+q % P.cellsOf e=q:=by
     have:=Nat.div_add_mod q (P.cellsOf e)
     rw[Nat.mul_comm]at this
     exact this
    have h4:=congrArg (fun l:List Value=>l[q % P.cellsOf e]?) (h2 _ hd).2
    simp only[List.map_take,List.map_drop]at h4
    rwa [nK hmod,nK hmod,hqe]at h4
   ·rw[List.getElem?_eq_none (by rw[List.length_map,h1];omega),List.getElem?_eq_none (by rw[hlen,hp.2];omega)]
  ·rename_i fs ht
   simp only[Bool.and_eq_true,List.all_eq_true]at hp
   obtain⟨ys,n,_,hx,hlen,hyl,hel⟩:=DataW.trod_struct ht h
   have hw2:∀(i:Nat) (f:Field) (d:DataW H),fs[i]? =some f→(ys.map (·.1))[i]? =some d→∀q∈DataW.weights P f.type d,q≤140737488351232:=fun i f d hf hd q hq=>hw q (by
    rw[hx]
    simp only[DataW.weights,ht]
    exact DataW.weights_mem_each (j:=i) (t:=f.type) (d:=d) (by simp[hf]) hd q hq)
   obtain⟨_,xs,h1,h2,h3,h4⟩:=mJ (P:=P) (w:=w) (cs:=cs) fs.toList 0 (P.cellsOf t) hp.2 (fun f hf=>by
    obtain⟨i,hi⟩:=List.mem_iff_getElem?.1 hf
    have hi' :fs[i]? =some f:=by simpa using hi
    have h1:=hel i f hi'
    have hlt:i<ys.length:=by
     rw[hyl]
     exact(Array.getElem?_eq_some_iff.1 hi').1
    rw[List.getElem?_eq_getElem hlt]at h1
    obtain⟨zs,h5,h6,h7⟩:=ko k _ f.type _ _ (hp.1 f hf) h1 (fun q hq=>hw2 i f _ hi' (by rw[List.getElem?_map,List.getElem?_eq_getElem hlt];rfl) q hq)
    have hz:zs.length=P.cellsOf f.type:=by
     have hz:=congrArg List.length h5
     rw[List.length_map,List.length_take,List.length_drop,hlen]at hz
     have hin:∀(l:List Field) (o e:Nat),jt P l o e=true→f∈l→f.offset+P.cellsOf f.type≤e∧o≤e:=by
      intro l
      induction l with
      |nil=>intro o e _ hm;cases hm
      |cons g r ih=>
       intro o e hc hm
       simp only[jt,Bool.and_eq_true,beq_iff_eq]at hc
       have hge:∀(l:List Field) (o e:Nat),jt P l o e=true→o≤e:=by
        intro l
        induction l with
        |nil=>intro o e hc;simp[jt]at hc;omega
        |cons g r ih=>intro o e hc;simp only[jt,Bool.and_eq_true,beq_iff_eq]at hc;have:=ih _ _ hc.2;omega
       rcases List.mem_cons.1 hm with rfl|hm
       ·have:=hge _ _ _ hc.2
        omega
       ·have:=ih _ _ hc.2 hm
        omega
     have:=hin _ _ _ hp.2 hf
     omega
    exact⟨zs,hz,h7,h5,h6⟩)
   refine⟨xs, ?_,h3,.struct ht (by rw[h1];omega) (fun i f hf=> ?_)⟩
   ·rw[h2,List.drop_zero,Nat.sub_zero,←hlen,List.take_length]
   ·have:=(h4 f (by rw[Array.mem_toList_iff];exact Array.mem_of_getElem? hf)).2
    rwa [Nat.sub_zero]at this
  ·cases hp
end
section
variable{P:Program}{t e:TypeId}{xs:List Cell}
theorem Fg{k:IntKind}(ht:P.underlying t=some (.int k))(h:Ty P t xs):∃z,xs=[.v (.int k z)]∧(Lit.int k z).wf=true:=by
 cases h with
 |int ht' hw=>rw[ht]at ht';cases ht';exact⟨_,rfl,hw⟩
 |bool ht' =>rw[ht]at ht';cases ht'
 |str ht' =>rw[ht]at ht';cases ht'
 |slice ht' =>rw[ht]at ht';cases ht'
 |arr ht' =>rw[ht]at ht';cases ht'
 |struct ht' =>rw[ht]at ht';cases ht'
theorem Eb(ht:P.underlying t=some (.int .i64))(h:Ty P t xs):∃z,xs=[.v (.int .i64 z)]∧-9223372036854775808≤z∧z≤9223372036854775807:=by
 obtain⟨z,rfl,hw⟩:=Fg ht h
 refine⟨z,rfl, ?_⟩
 simp only[Lit.wf,IntKind.min,IntKind.max,IntKind.signed,IntKind.bits]at hw
 simp at hw
 omega
theorem py(ht:P.underlying t=some (.slice e))(h:Ty P t xs):∃A n c ys,xs=[.s (P.cellsOf e) A n c ys]∧n≤c∧n*P.bytesOf e≤140737488351232∧ys.length=n*P.cellsOf e∧∀i,i<n→Ty P e ((ys.drop (i*P.cellsOf e)).take (P.cellsOf e)):=by
 cases h with
 |int ht' =>rw[ht]at ht';cases ht'
 |bool ht' =>rw[ht]at ht';cases ht'
 |str ht' =>rw[ht]at ht';cases ht'
 |slice ht' hc hn hl h=>rw[ht]at ht';cases ht';exact⟨_,_,_,_,rfl,hc,hn,hl,h⟩
 |arr ht' =>rw[ht]at ht';cases ht'
 |struct ht' =>rw[ht]at ht';cases ht'
end
theorem x6{α:Type}{xs ys:List α}{sz i o:Nat}{y:α}(h:(xs.drop (i*sz)).take sz=ys)(ho:ys[o]? =some y):xs[i*sz+o]? =some y:=by
 rw[←h,List.getElem?_take]at ho
 split at ho
 ·rwa [List.getElem?_drop]at ho
 ·cases ho
theorem fb{w:World}{sz n i o:Nat}{A:Option Addr}{xs:List Value}{u:Value}(h:Rd w sz A n xs)(hu:xs[i*sz+o]? =some u):w.cell? (((A.getD d0).add (i*sz)).add o)=some u:=by
 rw[add_add]
 exact h.cell hu
theorem FB{w:World}{sz n c:Nat}{A:Option Addr}{xs:List Cell}(h:(kI (.s sz A n c xs)).holds w):xs.length=n*sz∧(0<n→A≠none)∧n≤c:=⟨by have:=h.1.1;rwa [List.length_map]at this,h.1.2.1,h.2.1⟩
theorem View.rowOf{sz n c:Nat}{A:Option Addr}{xs:List Cell}{vs:List Value}(h:xs.map Cell.val=vs):View (kI (.s sz A n c xs)) (dr sz A n vs):=h▸View.Gk
theorem View.Cm{sz n c j sz' n' c' :Nat}{A A' :Option Addr}{xs ys:List Cell}{vs:List Value}(h:xs[j]? =some (.s sz' A' n' c' ys))(hb:ys.map Cell.val=vs):View (kI (.s sz A n c xs)) (dr sz' A' n' vs):=(View.cell h).trans (View.rowOf hb)
section
variable{H:Type}{enc:TypeId×Value→H}{P:Program}{W:World}{spare:Nat→Bool}{held:Bool}{tss:List TypeId}{dss:List (DataW H)}
theorem u4{t:TypeId}{v:Value}{d:DataW H}{ps:List MemPlace}{j:Nat}(k:Nat)(hp:parts P k t=true)(h:DataW.Trod enc P W 0 spare held t v d ps)(hsz:(DataW.weightsEach P tss dss).all (· ≤reachBytes)=true)(hjt:tss[j]? =some t)(hjd:dss[j]? =some d):
  ∃xs:List Cell,xs.map Cell.val=v.cells.toList∧jm W xs∧Ty P t xs:=by
 obtain⟨fuel,hf⟩:=h
 refine ko k fuel t _ _ hp hf (fun q hq=> ?_)
 have:=List.all_eq_true.1 hsz q (DataW.weights_mem_each hjt hjd q hq)
 have hr:reachBytes=140737488351232:=rfl
 simp at this
 omega
theorem sc{t e:TypeId}{A:Option Addr}{n c:Nat}{d:DataW H}{ps:List MemPlace}{j:Nat}(k:Nat)(hp:parts P k t=true)(ht:P.underlying t=some (.slice e))(h:DataW.Trod enc P W 0 spare held t (.slice A n c) d ps)(hsz:(DataW.weightsEach P tss dss).all (· ≤reachBytes)=true)(hjt:tss[j]? =some t)(hjd:dss[j]? =some d):
  ∃ys:List Cell,(kI (.s (P.cellsOf e) A n c ys)).holds W∧Ty P t [.s (P.cellsOf e) A n c ys]:=by
 obtain⟨xs,h1,h2,h3⟩:=u4 k hp h hsz hjt hjd
 obtain⟨A',n',c',ys,rfl,_⟩:=py ht h3
 have e1:[Cell.val (.s (P.cellsOf e) A' n' c' ys)]=[Value.slice A n c]:=h1
 simp only[Cell.val,List.cons.injEq,Value.slice.injEq,and_true]at e1
 obtain⟨rfl,rfl,rfl⟩:=e1
 exact⟨ys,h2.1,h3⟩
end
end Go.Eng
end
section
set_option maxRecDepth 20000
namespace Go.Proofs.YtmibdabdlgmafaaGreatDoor
open Go.Eng Go.Hx
theorem Dt{P:Program}{N:Nat}{D:List Deferred}{ρ:Env}{w:World}{x y:Operand}{ty t t' :TypeId}{a b:ByteArray}(hx:ev ρ x=some (.string a))(hy:ev ρ y=some (.string b)):Yl P N D ρ w (.binOp .geq t x y t') ty (.bool (!Op.bytesLess a.toList b.toList)):=
 fun _ _ _ _ _ ha=>by simp[execOp,ha.eval hx,ha.eval hy,eqGuard,binOp,Op.stringOp]
abbrev FP:=List UInt8×List UInt8
def fc(l:List FP):List Value:=l.flatMap fun x=>[SV x.1,SV x.2]
theorem iv(a b:List FP):fc (a++b)=fc a++fc b:=by simp[fc]
theorem iK:∀(l:List FP) (i:Nat) (x:FP),l[i]? =some x→(fc l)[i*2]? =some (SV x.1)∧(fc l)[i*2+1]? =some (SV x.2)
 | [],i,x,h=>by simp at h
 |a::r,0,x,h=>by
  simp only[List.getElem?_cons_zero,Option.some.injEq]at h
  subst h
  exact⟨rfl,rfl⟩
 |a::r,i+1,x,h=>by
  have ih:=iK r i x (by simpa using h)
  have e:fc (a::r)=SV a.1::SV a.2::fc r:=by simp[fc]
  rw[e,show(i+1)*2=i*2+2 by omega]
  exact ih
theorem mZ{w:World}{A:Option Addr}{n i:Nat}{l:List FP}{x:FP}(h:Rd w 2 A n (fc l))(hx:l[i]? =some x):∀(j:Nat) (u:Value),[SV x.1,SV x.2][j]? =some u→w.cell? (((A.getD d0).add (i*2)).add j)=some u:=by
 obtain⟨g0,g1⟩:=iK l i x hx
 intro j u hu
 match j,hu with
 |0,hu=>cases hu;exact fb h g0
 |1,hu=>cases hu;exact fb h g1
 |j+2,hu=>simp at hu
theorem nY{l:List FP}:∀u∈fc l,u.oneCell' =true:=by
 intro u hu
 obtain⟨x,_,h⟩:=List.mem_flatMap.1 hu
 simp only[List.mem_cons,List.not_mem_nil,or_false]at h
 rcases h with rfl|rfl <;> rfl
theorem wE{p:List UInt8}(hp:p.length≤1000000000):ck Tryz.prog 112 [.string (strOf p)] [] [] (fun v_ X_ S_=>v_=(.bool (decide (fV p)))∧X_=[]∧S_=[]):=by
 have hsz:=cY p
 refine aP (N:=22) Tryz.func112 rfl rfl (by simp) fun b=> ?_
 refine ah<|aj<|hy (fun _=>ab rfl)<|ai<|ag<|ah<|ah<|aj<|hy (fun _=>ab rfl)<|ai<|ag<|aI<| ?_
 refine dx (fun i=>p.length-i) (fun i=>[(3,.int .i64 (i:Nat))]) (fun i=>[]) (fun i=>[]) (fun i=>i≤p.length∧¬(0:UInt8)∈p.take i) 0 [(0,_)] ⟨rfl,trivial⟩ [] rfl [] rfl (⟨Nat.zero_le _,by simp⟩) ⟨rfl,trivial⟩ (fun i hI=> ?_)
 obtain⟨hip,hno⟩:=hI
 refine ah<|ah<|aj<|hy (fun _=>aa rfl)<|hy (fun _=>aa rfl)<|hy (fun _=>cV rfl Tryz.underlying9)<|hy (fun _=>bq rfl rfl)<|ai<|al (ρ' :=[(7,_),(3,_),(0,_)]) ⟨rfl,rfl,rfl,trivial⟩<|ag<| ?_
 refine cD rfl (fun h=> ?_) (fun h=> ?_)
 ·have hil:i<p.length:=by omega
  refine aD<|ag<|ah<|aI<|ah<|aj<|hy (fun _=>aa rfl)<|hy (fun _=>aa rfl)<|hy (fun _=>eT rfl rfl Tryz.underlying9 rfl (iM hil))<|hy (fun _=>cJ rfl rfl)<|ai<|al (ρ' :=[(13,_),(7,_),(3,_),(0,_)]) ⟨rfl,rfl,rfl,rfl,trivial⟩<|ag<| ?_
  refine cD rfl (fun h0=> ?_) (fun h0=> ?_)
  ·have h00:p.getD i 0=0:=UInt8.toNat_inj.1 (by simpa using h0)
   refine ah<|aj<|hy (fun _=>ab rfl)<|ai<|ag<|aX<|a8<|aw<|aw<|a8<|aw<| ?_
   exact bg trivial rfl rfl [] rfl [] rfl ⟨(congrArg Value.bool (decide_eq_false (fun hN=>hN.2.2 (by rw[←h00];rw[List.getD,List.getElem?_eq_getElem hil];exact List.getElem_mem hil))).symm),rfl,rfl⟩
  ·have hno2:¬(0:UInt8)∈p.take (i+1):=fun hm=>by
    rw[List.take_succ_eq_append_getElem hil]at hm
    rcases List.mem_append.1 hm with h1|h1
    ·exact hno h1
    ·apply h0
     have:=List.mem_singleton.1 h1
     rw[List.getD,List.getElem?_eq_getElem hil]
     simp[←this]
   refine aD<|aQ<|ag<|aj<|hy (fun _=>aa rfl)<|hy (fun _=>aM rfl rfl (bG (by omega) (by omega)))<|hy (fun _=>ab rfl)<|ai<|al (ρ' :=[(3,_),(13,_),(7,_),(0,_)]) ⟨rfl,rfl,rfl,rfl,trivial⟩<| ?_
   refine cR (i+1) ⟨rfl,rfl,trivial⟩ [] rfl [] rfl (⟨by omega,hno2⟩) (by omega)
 ·obtain rfl:i=p.length:=by omega
  rw[List.take_of_length_le (Nat.le_refl _)]at hno
  by_cases h1:0<p.length
  ·refine bJ<|ao<|ao<|aB<|ag<|ah<|aj<|hy (fun _=>aa rfl)<|hy (fun _=>cV rfl Tryz.underlying9)<|hy (fun _=>yT (da rfl rfl) ((decide_eq_true (by omega))))<|hy (fun _=>aa rfl)<|dU (o:=_) rfl rfl rfl (fun _=>aa rfl)<|dU (o:=_) rfl rfl rfl (fun _=>cV rfl Tryz.underlying9)<|dU (o:=_) rfl rfl rfl (fun _=>bq rfl rfl)<|hy (fun _=>bM rfl rfl)<|hy (fun _=>ab rfl)<|ai<|al (ρ' :=[(2,_),(7,_),(3,_),(0,_)]) ⟨rfl,rfl,rfl,rfl,trivial⟩<|ag<|aX<| ?_
   exact bg trivial rfl rfl [] rfl [] rfl ⟨(congrArg Value.bool (decide_eq_decide.2 ⟨fun h=>⟨fun e=>by rw[e]at h1;exact absurd h1 (by decide),by omega,hno⟩,fun h=>by have:=h.2.1;omega⟩)),rfl,rfl⟩
  ·refine bJ<|ao<|ao<|aB<|ag<|ah<|aj<|hy (fun _=>aa rfl)<|hy (fun _=>cV rfl Tryz.underlying9)<|hy (fun _=>yF (da rfl rfl) ((decide_eq_false (by omega))))<|hy (fun _=>aa rfl)<|bE rfl rfl rfl (by decide)<|bE rfl rfl rfl (by decide)<|bE rfl rfl rfl (by decide)<|hy (fun _=>bC rfl rfl)<|hy (fun _=>ab rfl)<|ai<|al (ρ' :=[(2,_),(7,_),(3,_),(0,_)]) ⟨rfl,rfl,rfl,rfl,trivial⟩<|ag<|aX<| ?_
   exact bg trivial rfl rfl [] rfl [] rfl ⟨(congrArg Value.bool (decide_eq_false (fun hN=>hN.1 (List.eq_nil_of_length_eq_zero (by omega)))).symm),rfl,rfl⟩
def cE(l:List FP)(p:List UInt8):Nat:=l.findIdx (fun x=>decide (x.1=p))
def kW(l:List FP)(p:List UInt8):Int:=if cE l p<l.length then(cE l p:Nat)else-1
theorem zA{l:List FP}{p:List UInt8}{i:Nat}{x:FP}(hx:l[i]? =some x)(h:x.1=p)(hno:∀j,j<i→∀y,l[j]? =some y→y.1≠p):cE l p=i:=by
 obtain⟨hi,rfl⟩:=List.getElem?_eq_some_iff.1 hx
 unfold cE
 rw[List.findIdx_eq hi]
 exact⟨by simpa using h,fun j hj=>by simpa using hno j hj _ (List.getElem?_eq_getElem (by omega))⟩
theorem y1{l:List FP}{p:List UInt8}(hno:∀j,j<l.length→∀y,l[j]? =some y→y.1≠p):¬cE l p<l.length:=by
 intro h
 have h1:=List.findIdx_getElem (w:=h)
 exact hno _ h _ (List.getElem?_eq_getElem h) (of_decide_eq_true h1)
theorem vy{A:Option Addr}{n c:Nat}{l:List FP}{p:List UInt8}(hl:l.length=n)(hn:n≤1000000000):ck Tryz.prog 113 [.slice A n c,.string (strOf p)] [] [dr 2 A n (fc l)] (fun v_ X_ S_=>v_=(.int .i64 (kW l p))∧X_=[]∧S_=[]):=by
 refine aP (N:=20) Tryz.func113 rfl rfl (by simp) fun b=> ?_
 refine aY (fun m=>gE (m.rd 0 rfl)) ?_
 rintro⟨hl_r,hA_r⟩
 refine ah<|aj<|hy (fun _=>ab rfl)<|ai<|ag<|ah<|ah<|aj<|hy (fun _=>ab rfl)<|ai<|ag<|aI<| ?_
 refine dx (fun i=>n-i) (fun i=>[(5,.int .i64 (i:Nat))]) (fun i=>[]) (fun i=>[]) (fun i=>i≤n∧∀j,j<i→∀y,l[j]? =some y→y.1≠p) 0 [(0,_),(1,_)] ⟨rfl,rfl,trivial⟩ [] rfl [] rfl (⟨Nat.zero_le _,fun j hj=>absurd hj (Nat.not_lt_zero j)⟩) ⟨rfl,trivial⟩ (fun i hI=> ?_)
 obtain⟨hin,hno⟩:=hI
 refine ah<|ah<|aj<|hy (fun _=>aa rfl)<|hy (fun _=>aa rfl)<|hy (fun _=>aS rfl Tryz.underlying36)<|hy (fun _=>bq rfl rfl)<|ai<|al (ρ' :=[(9,_),(5,_),(0,_),(1,_)]) ⟨rfl,rfl,rfl,rfl,trivial⟩<|ag<| ?_
 refine cD rfl (fun h=> ?_) (fun h=> ?_)
 ·have hil:i<l.length:=by omega
  obtain⟨x,hx⟩:∃x,l[i]? =some x:=⟨_,List.getElem?_eq_getElem hil⟩
  obtain⟨g0,g1⟩:=iK l i x hx
  refine aD<|ag<|ah<|aI<|ah<|aj<|hy (fun _=>aa rfl)<|hy (fun _=>aa rfl)<|hy (fun _=>cq rfl rfl Tryz.underlying36 eQ hA_r rfl (by omega))<|hy (fun _=>aK rfl eM (by decide))<|hy (fun m=>yV (ay rfl lF (fb (m.rd 0 rfl) g0)) ((rfl:_=Value.string (strOf x.1))))<|hy (fun _=>aa rfl)<|hy (fun _=>rj rfl rfl)<|ai<|al (ρ' :=[(18,_),(9,_),(5,_),(0,_),(1,_)]) ⟨rfl,rfl,rfl,rfl,rfl,trivial⟩<|ag<| ?_
  refine cD rfl (fun h0=> ?_) (fun h0=> ?_)
  ·have he:x.1=p:=cI.1 h0
   have hN:=zA hx he hno
   refine ah<|aj<|hy (fun _=>aa rfl)<|hy (fun _=>ab rfl)<|ai<|al (ρ' :=[(4,_),(18,_),(9,_),(5,_),(0,_),(1,_)]) ⟨rfl,rfl,rfl,rfl,rfl,rfl,trivial⟩<|ag<|aX<|a8<|aw<|aw<|a8<|aw<| ?_
   exact bg trivial rfl rfl [] rfl [] rfl ⟨(by rw[kW,hN,if_pos hil]),rfl,rfl⟩
  ·have he:x.1≠p:=fun e=>h0 (cI.2 e)
   have hno2:∀j,j<i+1→∀y,l[j]? =some y→y.1≠p:=fun j hj y hy=>by
    rcases Nat.lt_succ_iff_lt_or_eq.1 hj with h1|h1
    ·exact hno j h1 y hy
    ·rw[h1,hx]at hy;cases hy;exact he
   refine aD<|aQ<|ag<|aj<|hy (fun _=>aa rfl)<|hy (fun _=>aM rfl rfl (bG (by omega) (by omega)))<|hy (fun _=>ab rfl)<|ai<|al (ρ' :=[(5,_),(18,_),(9,_),(0,_),(1,_)]) ⟨rfl,rfl,rfl,rfl,rfl,trivial⟩<| ?_
   refine cR (i+1) ⟨rfl,rfl,rfl,trivial⟩ [] rfl [0] rfl (⟨by omega,hno2⟩) (by omega)
 ·obtain rfl:i=n:=by omega
  refine bJ<|ao<|ao<|aB<|ag<|ah<|aj<|hy (fun _=>ab rfl)<|ai<|ag<|aX<| ?_
  exact bg trivial rfl rfl [] rfl [] rfl ⟨(by rw[kW,if_neg (y1 (fun j hj=>hno j (by omega)))]),rfl,rfl⟩
def dH(l:List FP):Nat:=(l.map fun x=>x.2.length).sum
theorem rO{l:List FP}{i:Nat}{x:FP}(h:l[i]? =some x):dH (l.take (i+1))=dH (l.take i)+x.2.length:=by
 obtain⟨hi,rfl⟩:=List.getElem?_eq_some_iff.1 h
 rw[List.take_succ_eq_append_getElem hi]
 unfold dH
 rw[List.map_append,List.sum_append]
 simp
theorem vM(l:List FP)(i:Nat):dH (l.take i)≤dH l:=by
 have:dH l=dH (l.take i)+dH (l.drop i):=by
  conv=>lhs;rw[←List.take_append_drop i l]
  simp only[dH,List.map_append,List.sum_append]
 omega
def dv(room:Int)(s l w:Value)(pw:Int):List Value:=[.int .i64 room,s,l,w,.int .i64 pw]
theorem ER{room pw:Int}{vl vw:Value}{A:Option Addr}{n c:Nat}{l:List FP}(hl:l.length=n)(hn:n≤1000000000)(ht:dH l≤1000000000000):ck Tryz.prog 89 [.agg (dv room (.slice A n c) vl vw pw).toArray] [] [dr 2 A n (fc l)] (fun v_ X_ S_=>v_=(.int .i64 (dH l:Nat))∧X_=[]∧S_=[]):=by
 refine aP (N:=22) Tryz.func89 rfl rfl (by simp) fun b=> ?_
 refine aY (fun m=>gE (m.rd 0 rfl)) ?_
 rintro⟨hl_r,hA_r⟩
 refine ah<|aj<| ?_
 refine hx (cw rfl (fun g1=> ?_))
 refine aO (fun w m=>m.bQ 0 rfl (show _=aL g1 39 (dv room (.slice A n c) vl vw pw)from congrArg (aL _ _) (bp _))) ?_
 refine hy (fun _=>ab rfl)<|ai<|ak (X' :=[_]) (S' :=[_]) (fun _ m=>m)<|ag<|ah<|aj<|hy (fun _=>ab rfl)<|ai<|ag<|ah<|ah<|aj<|hy (fun _=>ab rfl)<|ai<|ag<|aI<| ?_
 refine dx (fun i=>n-i) (fun i=>[(3,.int .i64 (dH (l.take i):Nat)),(4,.int .i64 (i:Nat))]) (fun i=>[aL g1 39 (dv room (.slice A n c) vl vw pw)]) (fun i=>[]) (fun i=>i≤n) 0 [(2,_),(1,_),(0,_)] ⟨rfl,rfl,rfl,trivial⟩ [0] rfl [] rfl (Nat.zero_le _) ⟨rfl,rfl,trivial⟩ (fun i hI=> ?_)
 refine ah<|ah<|aj<|hy (fun _=>aa rfl)<|hy (fun _=>aK rfl gr (by decide))<|hy (fun m=>ay rfl oO (aE (m.a6 0 rfl) rfl))<|hy (fun _=>aS rfl Tryz.underlying36)<|hy (fun _=>bq rfl rfl)<|ai<|al (ρ' :=[(9,_),(3,_),(4,_),(2,_),(1,_),(0,_)]) ⟨rfl,rfl,rfl,rfl,rfl,rfl,trivial⟩<|ag<| ?_
 refine cD rfl (fun h=> ?_) (fun h=> ?_)
 ·have hil:i<l.length:=by omega
  obtain⟨x,hx⟩:∃x,l[i]? =some x:=⟨_,List.getElem?_eq_getElem hil⟩
  obtain⟨g0,g2⟩:=iK l i x hx
  have h1:=rO hx
  have h2:=vM l (i+1)
  have hsz:=cY x.2
  refine aD<|ag<|ah<|aI<|aj<|hy (fun _=>aa rfl)<|hy (fun _=>aK rfl gr (by decide))<|hy (fun m=>ay rfl oO (aE (m.a6 0 rfl) (i:=1) rfl))<|hy (fun _=>aa rfl)<|hy (fun _=>cq rfl rfl Tryz.underlying36 eQ hA_r rfl (by omega))<|hy (fun _=>aK rfl oW (by decide))<|hy (fun m=>yV (ay rfl lF (fb (m.rd 0 rfl) g2)) ((rfl:_=Value.string (strOf x.2))))<|hy (fun _=>cV rfl Tryz.underlying9)<|hy (fun _=>yV (aM rfl rfl (bG (by omega) (by omega))) ((show Value.int .i64 ((dH (l.take i):Nat)+((strOf x.2).size:Nat))= .int .i64 (dH (l.take (i+1)):Nat) by rw[hsz,h1];rfl)))<|hy (fun _=>ab rfl)<|ai<|al (ρ' :=[(3,_),(9,_),(4,_),(2,_),(1,_),(0,_)]) ⟨rfl,rfl,rfl,rfl,rfl,rfl,trivial⟩<|aQ<|ag<|aj<|hy (fun _=>aa rfl)<|hy (fun _=>aM rfl rfl (bG (by omega) (by omega)))<|hy (fun _=>ab rfl)<|ai<|al (ρ' :=[(4,_),(3,_),(9,_),(2,_),(1,_),(0,_)]) ⟨rfl,rfl,rfl,rfl,rfl,rfl,trivial⟩<| ?_
  refine cR (i+1) ⟨rfl,rfl,rfl,rfl,rfl,trivial⟩ [0] rfl [0] rfl (by omega) (by omega)
 ·obtain rfl:i=n:=by omega
  refine bJ<|ao<|ao<|aB<|ag<|ah<|aj<|hy (fun _=>aa rfl)<|hy (fun _=>ab rfl)<|ai<|al (ρ' :=[(2,_),(9,_),(3,_),(4,_),(1,_),(0,_)]) ⟨rfl,rfl,rfl,rfl,rfl,rfl,trivial⟩<|ag<|aX<| ?_
  exact bg trivial rfl rfl [] rfl [] rfl ⟨(by rw[←hl,List.take_of_length_le (Nat.le_refl _)]),rfl,rfl⟩
theorem rW{A:Option Addr}{n c:Nat}{l:List FP}{p:List UInt8}(hl:l.length=n)(hn:n≤1000000):ck Tryz.prog 221 [.slice A n c,.string (strOf p)] [] [dr 2 A n (fc l)] (fun v_ X_ S_=>∃v k,v_=v∧X_=[aG 156 2 v k (fc (l.filter fun x=>decide (x.1≠p)))]∧S_=[]∧(k=(l.filter fun x=>decide (x.1≠p)).length)):=by
 refine aP (N:=28) Tryz.func221 rfl rfl (by simp) fun b=> ?_
 refine aY (fun m=>gE (m.rd 0 rfl)) ?_
 rintro⟨hl_r,hA_r⟩
 refine ah<|aj<|hy (fun _=>ab rfl)<|ai<|ag<|ah<|aj<|hy (fun _=>ab rfl)<|ai<|ag<|ah<|ah<|aj<|hy (fun _=>ab rfl)<|ai<|ag<|aI<| ?_
 refine bx (fun w m=>m.dm (r' :=aG 156 2 (.slice none 0 0) 0 []) (.refl _ _) (Own.nil _ _ _ _) (fun k hk=>hk.elim)) ?_
 refine iG (fun i A1 k c1=>n-i) (fun i A1 k c1=>[(5,.slice A1 k c1),(6,.int .i64 (i:Nat))]) (fun i A1 k c1=>[aG 156 2 (.slice A1 k c1) k (fc ((l.take i).filter fun x=>decide (x.1≠p)))]) (fun i A1 k c1=>[]) (fun i A1 k c1=>i≤n∧k=((l.take i).filter fun x=>decide (x.1≠p)).length) 0 none 0 0 [(4,_),(0,_),(1,_)] ⟨rfl,rfl,rfl,trivial⟩ [0] rfl [] rfl (⟨Nat.zero_le _,rfl⟩) ⟨rfl,rfl,trivial⟩ (fun i A1 k c1 hI=> ?_)
 obtain⟨hin,hk⟩:=hI
 have hkl:((l.take i).filter fun x=>decide (x.1≠p)).length≤i:=Nat.le_trans (List.length_filter_le ..) (by rw[List.length_take];omega)
 refine ah<|ah<|aj<|hy (fun _=>aa rfl)<|hy (fun _=>aa rfl)<|hy (fun _=>aS rfl Tryz.underlying36)<|hy (fun _=>bq rfl rfl)<|ai<|al (ρ' :=[(10,_),(5,_),(6,_),(4,_),(0,_),(1,_)]) ⟨rfl,rfl,rfl,rfl,rfl,rfl,trivial⟩<|ag<| ?_
 refine cD rfl (fun h=> ?_) (fun h=> ?_)
 ·have hil:i<l.length:=by omega
  obtain⟨x,hgx⟩:∃x,l[i]? =some x:=⟨_,List.getElem?_eq_getElem hil⟩
  obtain⟨g0,g2⟩:=iK l i x hgx
  have EN:(l.take (i+1)).filter (fun x=>decide (x.1≠p))=(l.take i).filter (fun x=>decide (x.1≠p))++[x].filter (fun x=>decide (x.1≠p)):=by
   obtain⟨hi,rfl⟩:=List.getElem?_eq_some_iff.1 hgx
   rw[List.take_succ_eq_append_getElem hi,List.filter_append]
  refine aD<|ag<|ah<|aI<|ah<|aj<|hy (fun _=>aa rfl)<|hy (fun _=>aa rfl)<|hy (fun _=>cq rfl rfl Tryz.underlying36 eQ hA_r rfl (by omega))<|hy (fun _=>aK rfl eM (by decide))<|hy (fun m=>yV (ay rfl lF (fb (m.rd 0 rfl) g0)) ((rfl:_=Value.string (strOf x.1))))<|hy (fun _=>aa rfl)<|hy (fun _=>oy rfl rfl)<|ai<|al (ρ' :=[(19,_),(10,_),(5,_),(6,_),(4,_),(0,_),(1,_)]) ⟨rfl,rfl,rfl,rfl,rfl,rfl,rfl,trivial⟩<|ag<| ?_
  refine cD rfl (fun h0=> ?_) (fun h0=> ?_)
  ·have hF:(l.take i).filter (fun x=>decide (x.1≠p))++[x]=(l.take (i+1)).filter (fun x=>decide (x.1≠p)):=by
    have hne:x.1≠p:=fun e=>h0 (cI.2 e)
    rw[EN];simp[hne]
   refine aj<|hy (fun _=>aa rfl)<|hy (fun _=>aa rfl)<|hy (fun _=>aa rfl)<|hy (fun _=>cq rfl rfl Tryz.underlying36 eQ hA_r rfl (by omega))<|hy (fun m=>yV (aU rfl rR eQ rfl (mZ (m.rd 0 rfl) hgx)) ((rfl:_=Value.agg [SV x.1,SV x.2].toArray)))<| ?_
   refine hx (b5 Tryz.underlying36 jd rfl rfl rfl (by simp[Value.cells,B8]) (by decide) (by decide) (fun g25=> ?_))
   have hA_b25:0<1→(some (⟨g25,0,none⟩:Addr))≠none:=fun _ h=>by cases h
   refine aO (fun w m=>m.bQ 0 rfl (show _=aG 156 2 (.slice (some ⟨g25,0,none⟩) 1 1) 1 (fc [x])from rfl)) ?_
   refine hx (bu 1 rfl rfl rfl Tryz.underlying36 Tryz.underlying36 (by exact .inl rfl) jd rfl (fun m=>Src.bP (m.ord 0 rfl)) nY (by unfold maxLen;omega) (by omega) (fun u=> ?_))
   refine aA (fun m=>(m.own 0 rfl).slice) ?_
   rintro⟨A_o,c_o,rfl,hc_o⟩
   refine aA (fun m=>(m.ord 0 rfl).2.1) fun hA_o=> ?_
   refine aO (fun w m=>m.bQ 0 rfl (show _=aG 156 2 (.slice A_o (k+1) c_o) (k+1) (fc ((l.take (i+1)).filter fun x=>decide (x.1≠p)))from congrArg (aG _ _ _ _) ((iv ..).symm.trans (congrArg fc hF)))) ?_
   refine hy (fun _=>ab rfl)<|ai<|al (ρ' :=[(5,_),(19,_),(10,_),(6,_),(4,_),(0,_),(1,_)]) ⟨rfl,rfl,rfl,rfl,rfl,rfl,rfl,trivial⟩<|ak (X' :=[_,_]) (S' :=[_]) (fun _ m=>m)<|aQ<|ag<|aj<|hy (fun _=>aa rfl)<|hy (fun _=>aM rfl rfl (bG (by omega) (by omega)))<|hy (fun _=>ab rfl)<|ai<|al (ρ' :=[(6,_),(5,_),(19,_),(10,_),(4,_),(0,_),(1,_)]) ⟨rfl,rfl,rfl,rfl,rfl,rfl,rfl,trivial⟩<| ?_
   refine eJ (i+1) A_o (k+1) c_o ⟨rfl,rfl,rfl,rfl,rfl,trivial⟩ [0] rfl [0] rfl (⟨by omega,by rw[←hF,hk,List.length_append];rfl⟩) (by omega)
  ·have hF:(l.take (i+1)).filter (fun x=>decide (x.1≠p))=(l.take i).filter (fun x=>decide (x.1≠p)):=by
    have hne:x.1=p:=cI.1 (Decidable.not_not.1 h0)
    rw[EN];simp[hne]
   refine bx (fun w m=>m.bQ 0 rfl (show _=aG 156 2 (.slice A1 k c1) k (fc ((l.take (i+1)).filter fun x=>decide (x.1≠p)))from by rw[hF])) ?_
   refine aD<|aQ<|ag<|aj<|hy (fun _=>aa rfl)<|hy (fun _=>aM rfl rfl (bG (by omega) (by omega)))<|hy (fun _=>ab rfl)<|ai<|al (ρ' :=[(6,_),(19,_),(10,_),(5,_),(4,_),(0,_),(1,_)]) ⟨rfl,rfl,rfl,rfl,rfl,rfl,rfl,trivial⟩<| ?_
   refine eJ (i+1) A1 k c1 ⟨rfl,rfl,rfl,rfl,rfl,trivial⟩ [0] rfl [0] rfl (⟨by omega,by rw[hF];exact hk⟩) (by omega)
 ·obtain rfl:i=n:=by omega
  rw[←hl,List.take_of_length_le (Nat.le_refl _)]at hk
  refine bx (fun w m=>m.bQ 0 rfl (show _=aG 156 2 (.slice A1 k c1) k (fc (l.filter fun x=>decide (x.1≠p)))from by rw[←hl,List.take_of_length_le (Nat.le_refl _)])) ?_
  refine bJ<|ao<|ao<|aB<|ag<|ah<|aj<|hy (fun _=>aa rfl)<|hy (fun _=>ab rfl)<|ai<|al (ρ' :=[(4,_),(10,_),(5,_),(6,_),(0,_),(1,_)]) ⟨rfl,rfl,rfl,rfl,rfl,rfl,trivial⟩<|ag<|aX<| ?_
  exact bg trivial rfl rfl [0] rfl [] rfl ⟨_,_,rfl,rfl,rfl,hk⟩
end Go.Proofs.YtmibdabdlgmafaaGreatDoor
end
section
set_option maxRecDepth 20000
namespace Go.Proofs.YtmibdabdlgmafaaGreatDoor
open Go.Eng Go.Hx
def nA(a b:List UInt8):Bool:=Op.bytesLess (strOf a).toList (strOf b).toList
def iU(f:FP)(st:List FP×Bool)(x:FP):List FP×Bool:=
 let s1:=if st.2=false∧nA x.1 f.1=false then(st.1++[f],true)else st
 (if x.1≠f.1 then s1.1++[x]else s1.1,s1.2)
def Cw(f:FP)(l:List FP)(i:Nat):List FP×Bool:=(l.take i).foldl (iU f) ([],false)
theorem Aq{f:FP}{l:List FP}{i:Nat}{x:FP}(h:l[i]? =some x):Cw f l (i+1)=iU f (Cw f l i) x:=by
 obtain⟨hi,rfl⟩:=List.getElem?_eq_some_iff.1 h
 unfold Cw
 rw[List.take_succ_eq_append_getElem hi,List.foldl_append]
 rfl
def gQ(l:List FP)(f:FP):List FP:=if(Cw f l l.length).2 then(Cw f l l.length).1 else(Cw f l l.length).1++[f]
theorem AZ{A:Option Addr}{n c:Nat}{l:List FP}{f:FP}(hl:l.length=n)(hn:n≤1000000):ck Tryz.prog 220 [.slice A n c,.agg [SV f.1,SV f.2].toArray] [] [dr 2 A n (fc l)] (fun v_ X_ S_=>∃v k,v_=v∧X_=[aG 156 2 v k (fc (gQ l f))]∧S_=[]∧(k=(gQ l f).length∧k≤n+1)):=by
 refine aP (N:=52) Tryz.func220 rfl rfl (by simp) fun b=> ?_
 refine aY (fun m=>gE (m.rd 0 rfl)) ?_
 rintro⟨hl_r,hA_r⟩
 refine ah<|aj<| ?_
 refine hx (cw rfl (fun g3=> ?_))
 refine aO (fun w m=>m.bQ 0 rfl (show _=aL g3 156 [SV f.1,SV f.2]from congrArg (aL _ _) (bp _))) ?_
 refine hy (fun _=>ab rfl)<|ai<|ak (X' :=[_]) (S' :=[_]) (fun _ m=>m)<|ag<|ah<|aj<|hy (fun _=>ab rfl)<|ai<|ag<|ah<|aj<|hy (fun _=>ab rfl)<|ai<|ag<|ah<|ah<|aj<|hy (fun _=>ab rfl)<|ai<|ag<|aI<| ?_
 refine bx (fun w m=>m.dm (r' :=aG 156 2 (.slice none 0 0) 0 []) (.refl _ _) (Own.nil _ _ _ _) (fun k hk=>hk.elim)) ?_
 refine nP (fun i A1 k c1 out pt=>n-i) (fun i A1 k c1 out pt=>[(5,.slice A1 k c1),(6,.bool pt),(7,.int .i64 (i:Nat))]) (fun i A1 k c1 out pt=>[aG 156 2 (.slice A1 k c1) k (fc out),aL g3 156 [SV f.1,SV f.2]]) (fun i A1 k c1 out pt=>[]) (fun i A1 k c1 out pt=>i≤n∧Cw f l i=(out,pt)∧k=out.length∧k≤i+pt.toNat) 0 none 0 0 [] false [(4,_),(3,_),(0,_),(1,_)] ⟨rfl,rfl,rfl,rfl,trivial⟩ [0,0] rfl [] rfl (⟨Nat.zero_le _,rfl,rfl,Nat.le_refl _⟩) ⟨rfl,rfl,rfl,trivial⟩ (fun i A1 k c1 out pt ⟨hin,hw,hk,hki⟩=> ?_)
 have hpt:pt.toNat≤1:=by cases pt <;> decide
 refine ah<|ah<|aj<|hy (fun _=>aa rfl)<|hy (fun _=>aa rfl)<|hy (fun _=>aS rfl Tryz.underlying36)<|hy (fun _=>bq rfl rfl)<|ai<|al (ρ' :=[(11,_),(5,_),(6,_),(7,_),(4,_),(3,_),(0,_),(1,_)]) ⟨rfl,rfl,rfl,rfl,rfl,rfl,rfl,rfl,trivial⟩<|ag<| ?_
 refine cD rfl (fun h=> ?_) (fun h=> ?_)
 ·have hil:i<l.length:=by omega
  obtain⟨x,hgx⟩:∃x,l[i]? =some x:=⟨_,List.getElem?_eq_getElem hil⟩
  obtain⟨g0,g2⟩:=iK l i x hgx
  have hs:=Aq (f:=f) hgx
  rw[hw]at hs
  unfold iU at hs
  by_cases hp:pt=true
  ·subst hp
   simp only[Bool.true_eq_false,false_and,if_false]at hs
   refine aD<|ag<|ah<|aI<|ah<|ah<|c5 [] [(0,some 0),(1,some 0),(2,some 0),(3,some 0),(4,some 0),(5,some 0),(6,some 0),(7,some 0),(8,some 0),(9,some 0),(10,some 0),(11,some 0)] (by kernel_rfl) (by kernel_rfl) rfl 99<|an (aa rfl)<|an ((kC rfl))<|an (aa rfl)<|aR rfl rfl rfl (by decide)<|aR rfl rfl rfl (by decide)<|aR rfl rfl rfl (by decide)<|aR rfl rfl rfl (by decide)<|aR rfl rfl rfl (by decide)<|aR rfl rfl rfl (by decide)<|aR rfl rfl rfl (by decide)<|aR rfl rfl rfl (by decide)<|an (bC rfl rfl)<|bD<|al (ρ' :=[(25,_),(11,_),(5,_),(6,_),(7,_),(4,_),(3,_),(0,_),(1,_)]) ⟨rfl,rfl,rfl,rfl,rfl,rfl,rfl,rfl,rfl,trivial⟩<|ag<| ?_
   refine dB rfl (rfl) ?_
   refine aD<|ag<|ah<|c5 [] [(0,some 0),(1,some 0),(2,some 0),(3,some 0),(4,some 0),(5,some 0),(6,some 0),(7,some 0)] (by kernel_rfl) (by kernel_rfl) rfl 99<|an (aa rfl)<|an (aa rfl)<|an (cq rfl rfl Tryz.underlying36 eQ hA_r rfl (by omega))<|an (aK rfl eM (by decide))<|cr (fun m=>yV (ay rfl lF (fb (m.rd 0 rfl) g0)) ((rfl:_=Value.string (strOf x.1))))<|an (aK rfl eM (by decide))<|cr (fun m=>yV (ay rfl lF (aE (m.a6 1 rfl) (i:=0) rfl)) ((rfl:_=Value.string (strOf f.1))))<|an (oy rfl rfl)<|bD<|al (ρ' :=[(37,_),(25,_),(11,_),(5,_),(6,_),(7,_),(4,_),(3,_),(0,_),(1,_)]) ⟨rfl,rfl,rfl,rfl,rfl,rfl,rfl,rfl,rfl,rfl,trivial⟩<|ag<| ?_
   refine cD rfl (fun h1=> ?_) (fun h1=> ?_)
   ·have hne:x.1≠f.1:=fun e=>h1 (cI.2 e)
    refine aj<|hy (fun _=>aa rfl)<|hy (fun _=>aa rfl)<|hy (fun _=>aa rfl)<|hy (fun _=>cq rfl rfl Tryz.underlying36 eQ hA_r rfl (by omega))<|hy (fun m=>yV (aU rfl rR eQ rfl (mZ (m.rd 0 rfl) hgx)) ((rfl:_=Value.agg [SV x.1,SV x.2].toArray)))<| ?_
    refine hx (b5 Tryz.underlying36 jd rfl rfl rfl (by simp[Value.cells,B8]) (by decide) (by decide) (fun g43=> ?_))
    have hA_b43:0<1→(some (⟨g43,0,none⟩:Addr))≠none:=fun _ h=>by cases h
    refine aO (fun w m=>m.bQ 0 rfl (show _=aG 156 2 (.slice (some ⟨g43,0,none⟩) 1 1) 1 (fc [x])from rfl)) ?_
    refine hx (bu 1 rfl rfl rfl Tryz.underlying36 Tryz.underlying36 (by exact .inl rfl) jd rfl (fun m=>Src.bP (m.ord 0 rfl)) nY (by unfold maxLen;omega) (by omega) (fun u=> ?_))
    refine aA (fun m=>(m.own 0 rfl).slice) ?_
    rintro⟨A_o,c_o,rfl,hc_o⟩
    refine aA (fun m=>(m.ord 0 rfl).2.1) fun hA_o=> ?_
    refine aO (fun w m=>m.bQ 0 rfl (show _=aG 156 2 (.slice A_o (k+1) c_o) (k+1) (fc (out++[x]))from congrArg (aG _ _ _ _) (iv ..).symm)) ?_
    refine hy (fun _=>ab rfl)<|ai<|al (ρ' :=[(5,_),(37,_),(25,_),(11,_),(6,_),(7,_),(4,_),(3,_),(0,_),(1,_)]) ⟨rfl,rfl,rfl,rfl,rfl,rfl,rfl,rfl,rfl,rfl,trivial⟩<|ak (X' :=[_,_,_]) (S' :=[_]) (fun _ m=>m)<|aQ<|ag<|aj<|hy (fun _=>aa rfl)<|hy (fun _=>aM rfl rfl (bG (by omega) (by omega)))<|hy (fun _=>ab rfl)<|ai<|al (ρ' :=[(7,_),(5,_),(37,_),(25,_),(11,_),(6,_),(4,_),(3,_),(0,_),(1,_)]) ⟨rfl,rfl,rfl,rfl,rfl,rfl,rfl,rfl,rfl,rfl,trivial⟩<| ?_
    refine gg (i+1) A_o (k+1) c_o (out++[x]) true ⟨rfl,rfl,rfl,rfl,rfl,rfl,rfl,trivial⟩ [0,1] rfl [0] rfl (⟨by omega,by rw[hs,if_pos hne],by rw[List.length_append,hk.symm];rfl,by simp at hki ⊢;omega⟩) (by omega)
   ·have hne:¬x.1≠f.1:=fun e=>h1 (fun h=>e (cI.1 h))
    refine aD<|aQ<|ag<|aj<|hy (fun _=>aa rfl)<|hy (fun _=>aM rfl rfl (bG (by omega) (by omega)))<|hy (fun _=>ab rfl)<|ai<|al (ρ' :=[(7,_),(37,_),(25,_),(11,_),(5,_),(6,_),(4,_),(3,_),(0,_),(1,_)]) ⟨rfl,rfl,rfl,rfl,rfl,rfl,rfl,rfl,rfl,rfl,trivial⟩<| ?_
    refine gg (i+1) A1 (k) c1 (out) true ⟨rfl,rfl,rfl,rfl,rfl,rfl,rfl,trivial⟩ [0,0] rfl [0] rfl (⟨by omega,by rw[hs,if_neg hne],hk.symm.symm,by simp at hki ⊢;omega⟩) (by omega)
  ·obtain rfl:pt=false:=by simpa using hp
   by_cases hge:nA x.1 f.1=false
   ·simp only[hge,and_self,if_true]at hs
    refine aD<|ag<|ah<|aI<|ah<|ah<|c5 [] [(0,some 0),(1,some 0),(2,some 0),(3,some 0),(4,some 0),(5,some 0),(6,some 0),(7,some 0),(8,some 0),(9,some 0),(10,some 0),(11,some 0)] (by kernel_rfl) (by kernel_rfl) rfl 99<|an (aa rfl)<|an ((kC rfl))<|an (aa rfl)<|bj (o:=_) rfl rfl rfl (aa rfl)<|bj (o:=_) rfl rfl rfl (aa rfl)<|bj (o:=_) rfl rfl rfl (cq rfl rfl Tryz.underlying36 eQ hA_r rfl (by omega))<|bj (o:=_) rfl rfl rfl (aK rfl eM (by decide))<|iS (o:=_) rfl rfl rfl (fun m=>yV (ay rfl lF (fb (m.rd 0 rfl) g0)) ((rfl:_=Value.string (strOf x.1))))<|bj (o:=_) rfl rfl rfl (aK rfl eM (by decide))<|iS (o:=_) rfl rfl rfl (fun m=>yV (ay rfl lF (aE (m.a6 1 rfl) (i:=0) rfl)) ((rfl:_=Value.string (strOf f.1))))<|bj (o:=_) rfl rfl rfl (yT (Dt rfl rfl) ((by show(!nA x.1 f.1)=true;rw[hge];rfl)))<|an (bM rfl rfl)<|bD<|al (ρ' :=[(25,_),(11,_),(5,_),(6,_),(7,_),(4,_),(3,_),(0,_),(1,_)]) ⟨rfl,rfl,rfl,rfl,rfl,rfl,rfl,rfl,rfl,trivial⟩<|ag<| ?_
    refine ia rfl (rfl) ?_
    refine ah<|aj<|hy (fun _=>aa rfl)<|hy (fun m=>yV (aU rfl rR eQ rfl ((m.a6 1 rfl).ax)) ((rfl:_=Value.agg [SV f.1,SV f.2].toArray)))<| ?_
    refine hx (b5 Tryz.underlying36 jd rfl rfl rfl (by simp[Value.cells,B8]) (by decide) (by decide) (fun g28=> ?_))
    have hA_b28:0<1→(some (⟨g28,0,none⟩:Addr))≠none:=fun _ h=>by cases h
    refine aO (fun w m=>m.bQ 0 rfl (show _=aG 156 2 (.slice (some ⟨g28,0,none⟩) 1 1) 1 (fc [f])from rfl)) ?_
    refine hx (bu 1 rfl rfl rfl Tryz.underlying36 Tryz.underlying36 (by exact .inl rfl) jd rfl (fun m=>Src.bP (m.ord 0 rfl)) nY (by unfold maxLen;omega) (by omega) (fun u=> ?_))
    refine aA (fun m=>(m.own 0 rfl).slice) ?_
    rintro⟨A_o,c_o,rfl,hc_o⟩
    refine aA (fun m=>(m.ord 0 rfl).2.1) fun hA_o=> ?_
    refine aO (fun w m=>m.bQ 0 rfl (show _=aG 156 2 (.slice A_o (k+1) c_o) (k+1) (fc (out++[f]))from congrArg (aG _ _ _ _) (iv ..).symm)) ?_
    have hk1:(out++[f]).length=k+1:=by rw[List.length_append,hk];rfl
    refine hy (fun _=>ab rfl)<|ai<|al (ρ' :=[(5,_),(25,_),(11,_),(6,_),(7,_),(4,_),(3,_),(0,_),(1,_)]) ⟨rfl,rfl,rfl,rfl,rfl,rfl,rfl,rfl,rfl,trivial⟩<|ak (X' :=[_,_,_]) (S' :=[_]) (fun _ m=>m)<|ag<|aj<|hy (fun _=>ab rfl)<|ai<|ag<|ah<|c5 [] [(0,some 0),(1,some 0),(2,some 0),(3,some 0),(4,some 0),(5,some 0),(6,some 0),(7,some 0)] (by kernel_rfl) (by kernel_rfl) rfl 99<|an (aa rfl)<|an (aa rfl)<|an (cq rfl rfl Tryz.underlying36 eQ hA_r rfl (by omega))<|an (aK rfl eM (by decide))<|cr (fun m=>yV (ay rfl lF (fb (m.rd 0 rfl) g0)) ((rfl:_=Value.string (strOf x.1))))<|an (aK rfl eM (by decide))<|cr (fun m=>yV (ay rfl lF (aE (m.a6 2 rfl) (i:=0) rfl)) ((rfl:_=Value.string (strOf f.1))))<|an (oy rfl rfl)<|bD<|al (ρ' :=[(37,_),(6,_),(5,_),(25,_),(11,_),(7,_),(4,_),(3,_),(0,_),(1,_)]) ⟨rfl,rfl,rfl,rfl,rfl,rfl,rfl,rfl,rfl,rfl,trivial⟩<|ag<| ?_
    refine cD rfl (fun h1=> ?_) (fun h1=> ?_)
    ·have hne:x.1≠f.1:=fun e=>h1 (cI.2 e)
     refine aj<|hy (fun _=>aa rfl)<|hy (fun _=>aa rfl)<|hy (fun _=>aa rfl)<|hy (fun _=>cq rfl rfl Tryz.underlying36 eQ hA_r rfl (by omega))<|hy (fun m=>yV (aU rfl rR eQ rfl (mZ (m.rd 0 rfl) hgx)) ((rfl:_=Value.agg [SV x.1,SV x.2].toArray)))<| ?_
     refine hx (b5 Tryz.underlying36 jd rfl rfl rfl (by simp[Value.cells,B8]) (by decide) (by decide) (fun g43=> ?_))
     have hA_b43:0<1→(some (⟨g43,0,none⟩:Addr))≠none:=fun _ h=>by cases h
     refine aO (fun w m=>m.bQ 0 rfl (show _=aG 156 2 (.slice (some ⟨g43,0,none⟩) 1 1) 1 (fc [x])from rfl)) ?_
     refine hx (bu 1 rfl rfl rfl Tryz.underlying36 Tryz.underlying36 (by exact .inl rfl) jd rfl (fun m=>Src.bP (m.ord 0 rfl)) nY (by unfold maxLen;omega) (by omega) (fun u2=> ?_))
     refine aA (fun m=>(m.own 0 rfl).slice) ?_
     rintro⟨A_o2,c_o2,rfl,hc_o⟩
     refine aA (fun m=>(m.ord 0 rfl).2.1) fun hA_o=> ?_
     refine aO (fun w m=>m.bQ 0 rfl (show _=aG 156 2 (.slice A_o2 (k+1+1) c_o2) (k+1+1) (fc ((out++[f])++[x]))from congrArg (aG _ _ _ _) (iv ..).symm)) ?_
     refine hy (fun _=>ab rfl)<|ai<|al (ρ' :=[(5,_),(37,_),(6,_),(25,_),(11,_),(7,_),(4,_),(3,_),(0,_),(1,_)]) ⟨rfl,rfl,rfl,rfl,rfl,rfl,rfl,rfl,rfl,rfl,trivial⟩<|ak (X' :=[_,_,_,_]) (S' :=[_]) (fun _ m=>m)<|aQ<|ag<|aj<|hy (fun _=>aa rfl)<|hy (fun _=>aM rfl rfl (bG (by omega) (by omega)))<|hy (fun _=>ab rfl)<|ai<|al (ρ' :=[(7,_),(5,_),(37,_),(6,_),(25,_),(11,_),(4,_),(3,_),(0,_),(1,_)]) ⟨rfl,rfl,rfl,rfl,rfl,rfl,rfl,rfl,rfl,rfl,trivial⟩<| ?_
     refine gg (i+1) A_o2 (k+1+1) c_o2 ((out++[f])++[x]) true ⟨rfl,rfl,rfl,rfl,rfl,rfl,rfl,trivial⟩ [0,2] rfl [0] rfl (⟨by omega,by rw[hs,if_pos hne],by rw[List.length_append,hk1];rfl,by simp at hki ⊢;omega⟩) (by omega)
    ·have hne:¬x.1≠f.1:=fun e=>h1 (fun h=>e (cI.1 h))
     refine aD<|aQ<|ag<|aj<|hy (fun _=>aa rfl)<|hy (fun _=>aM rfl rfl (bG (by omega) (by omega)))<|hy (fun _=>ab rfl)<|ai<|al (ρ' :=[(7,_),(37,_),(6,_),(5,_),(25,_),(11,_),(4,_),(3,_),(0,_),(1,_)]) ⟨rfl,rfl,rfl,rfl,rfl,rfl,rfl,rfl,rfl,rfl,trivial⟩<| ?_
     refine gg (i+1) A_o (k+1) c_o ((out++[f])) true ⟨rfl,rfl,rfl,rfl,rfl,rfl,rfl,trivial⟩ [0,1] rfl [0] rfl (⟨by omega,by rw[hs,if_neg hne],hk1.symm,by simp at hki ⊢;omega⟩) (by omega)
   ·have hlt:nA x.1 f.1=true:=by simpa using hge
    simp only[hlt,Bool.true_eq_false,and_false,if_false]at hs
    refine aD<|ag<|ah<|aI<|ah<|ah<|c5 [] [(0,some 0),(1,some 0),(2,some 0),(3,some 0),(4,some 0),(5,some 0),(6,some 0),(7,some 0),(8,some 0),(9,some 0),(10,some 0),(11,some 0)] (by kernel_rfl) (by kernel_rfl) rfl 99<|an (aa rfl)<|an ((kC rfl))<|an (aa rfl)<|bj (o:=_) rfl rfl rfl (aa rfl)<|bj (o:=_) rfl rfl rfl (aa rfl)<|bj (o:=_) rfl rfl rfl (cq rfl rfl Tryz.underlying36 eQ hA_r rfl (by omega))<|bj (o:=_) rfl rfl rfl (aK rfl eM (by decide))<|iS (o:=_) rfl rfl rfl (fun m=>yV (ay rfl lF (fb (m.rd 0 rfl) g0)) ((rfl:_=Value.string (strOf x.1))))<|bj (o:=_) rfl rfl rfl (aK rfl eM (by decide))<|iS (o:=_) rfl rfl rfl (fun m=>yV (ay rfl lF (aE (m.a6 1 rfl) (i:=0) rfl)) ((rfl:_=Value.string (strOf f.1))))<|bj (o:=_) rfl rfl rfl (yF (Dt rfl rfl) ((by show(!nA x.1 f.1)=false;rw[hlt];rfl)))<|an (bM rfl rfl)<|bD<|al (ρ' :=[(25,_),(11,_),(5,_),(6,_),(7,_),(4,_),(3,_),(0,_),(1,_)]) ⟨rfl,rfl,rfl,rfl,rfl,rfl,rfl,rfl,rfl,trivial⟩<|ag<| ?_
    refine dB rfl (rfl) ?_
    refine aD<|ag<|ah<|c5 [] [(0,some 0),(1,some 0),(2,some 0),(3,some 0),(4,some 0),(5,some 0),(6,some 0),(7,some 0)] (by kernel_rfl) (by kernel_rfl) rfl 99<|an (aa rfl)<|an (aa rfl)<|an (cq rfl rfl Tryz.underlying36 eQ hA_r rfl (by omega))<|an (aK rfl eM (by decide))<|cr (fun m=>yV (ay rfl lF (fb (m.rd 0 rfl) g0)) ((rfl:_=Value.string (strOf x.1))))<|an (aK rfl eM (by decide))<|cr (fun m=>yV (ay rfl lF (aE (m.a6 1 rfl) (i:=0) rfl)) ((rfl:_=Value.string (strOf f.1))))<|an (oy rfl rfl)<|bD<|al (ρ' :=[(37,_),(25,_),(11,_),(5,_),(6,_),(7,_),(4,_),(3,_),(0,_),(1,_)]) ⟨rfl,rfl,rfl,rfl,rfl,rfl,rfl,rfl,rfl,rfl,trivial⟩<|ag<| ?_
    refine cD rfl (fun h1=> ?_) (fun h1=> ?_)
    ·have hne:x.1≠f.1:=fun e=>h1 (cI.2 e)
     refine aj<|hy (fun _=>aa rfl)<|hy (fun _=>aa rfl)<|hy (fun _=>aa rfl)<|hy (fun _=>cq rfl rfl Tryz.underlying36 eQ hA_r rfl (by omega))<|hy (fun m=>yV (aU rfl rR eQ rfl (mZ (m.rd 0 rfl) hgx)) ((rfl:_=Value.agg [SV x.1,SV x.2].toArray)))<| ?_
     refine hx (b5 Tryz.underlying36 jd rfl rfl rfl (by simp[Value.cells,B8]) (by decide) (by decide) (fun g43=> ?_))
     have hA_b43:0<1→(some (⟨g43,0,none⟩:Addr))≠none:=fun _ h=>by cases h
     refine aO (fun w m=>m.bQ 0 rfl (show _=aG 156 2 (.slice (some ⟨g43,0,none⟩) 1 1) 1 (fc [x])from rfl)) ?_
     refine hx (bu 1 rfl rfl rfl Tryz.underlying36 Tryz.underlying36 (by exact .inl rfl) jd rfl (fun m=>Src.bP (m.ord 0 rfl)) nY (by unfold maxLen;omega) (by omega) (fun u=> ?_))
     refine aA (fun m=>(m.own 0 rfl).slice) ?_
     rintro⟨A_o,c_o,rfl,hc_o⟩
     refine aA (fun m=>(m.ord 0 rfl).2.1) fun hA_o=> ?_
     refine aO (fun w m=>m.bQ 0 rfl (show _=aG 156 2 (.slice A_o (k+1) c_o) (k+1) (fc (out++[x]))from congrArg (aG _ _ _ _) (iv ..).symm)) ?_
     refine hy (fun _=>ab rfl)<|ai<|al (ρ' :=[(5,_),(37,_),(25,_),(11,_),(6,_),(7,_),(4,_),(3,_),(0,_),(1,_)]) ⟨rfl,rfl,rfl,rfl,rfl,rfl,rfl,rfl,rfl,rfl,trivial⟩<|ak (X' :=[_,_,_]) (S' :=[_]) (fun _ m=>m)<|aQ<|ag<|aj<|hy (fun _=>aa rfl)<|hy (fun _=>aM rfl rfl (bG (by omega) (by omega)))<|hy (fun _=>ab rfl)<|ai<|al (ρ' :=[(7,_),(5,_),(37,_),(25,_),(11,_),(6,_),(4,_),(3,_),(0,_),(1,_)]) ⟨rfl,rfl,rfl,rfl,rfl,rfl,rfl,rfl,rfl,rfl,trivial⟩<| ?_
     refine gg (i+1) A_o (k+1) c_o (out++[x]) false ⟨rfl,rfl,rfl,rfl,rfl,rfl,rfl,trivial⟩ [0,1] rfl [0] rfl (⟨by omega,by rw[hs,if_pos hne],by rw[List.length_append,hk.symm];rfl,by simp at hki ⊢;omega⟩) (by omega)
    ·have hne:¬x.1≠f.1:=fun e=>h1 (fun h=>e (cI.1 h))
     refine aD<|aQ<|ag<|aj<|hy (fun _=>aa rfl)<|hy (fun _=>aM rfl rfl (bG (by omega) (by omega)))<|hy (fun _=>ab rfl)<|ai<|al (ρ' :=[(7,_),(37,_),(25,_),(11,_),(5,_),(6,_),(4,_),(3,_),(0,_),(1,_)]) ⟨rfl,rfl,rfl,rfl,rfl,rfl,rfl,rfl,rfl,rfl,trivial⟩<| ?_
     refine gg (i+1) A1 (k) c1 (out) false ⟨rfl,rfl,rfl,rfl,rfl,rfl,rfl,trivial⟩ [0,0] rfl [0] rfl (⟨by omega,by rw[hs,if_neg hne],hk.symm.symm,by simp at hki ⊢;omega⟩) (by omega)
 ·obtain rfl:i=n:=by omega
  have hww:Cw f l l.length=(out,pt):=by rw[hl];exact hw
  by_cases hp:pt=true
  ·subst hp
   have hW:gQ l f=out:=by rw[gQ,hww];rfl
   refine bJ<|ao<|ao<|aB<|ag<|ah<|ah<|aj<|hy (fun _=>aa rfl)<|hy (fun _=>(kC rfl))<|ai<|al (ρ' :=[(46,_),(11,_),(5,_),(6,_),(7,_),(4,_),(3,_),(0,_),(1,_)]) ⟨rfl,rfl,rfl,rfl,rfl,rfl,rfl,rfl,rfl,trivial⟩<|ag<| ?_
   refine dB rfl (rfl) ?_
   refine aD<|ag<|ah<|aj<|hy (fun _=>aa rfl)<|hy (fun _=>ab rfl)<|ai<|al (ρ' :=[(4,_),(46,_),(11,_),(5,_),(6,_),(7,_),(3,_),(0,_),(1,_)]) ⟨rfl,rfl,rfl,rfl,rfl,rfl,rfl,rfl,rfl,trivial⟩<|ag<|aX<| ?_
   refine ak (fun w m=>m.bQ 0 rfl (show _=aG 156 2 (.slice A1 k c1) k (fc (gQ l f))from by rw[hW])) ?_
   exact bg trivial rfl rfl [0] rfl [] rfl ⟨_,_,rfl,rfl,rfl,⟨by rw[hW];exact hk,by simp at hki;omega⟩⟩
  ·obtain rfl:pt=false:=by simpa using hp
   have hW:gQ l f=out++[f]:=by rw[gQ,hww];rfl
   refine bJ<|ao<|ao<|aB<|ag<|ah<|ah<|aj<|hy (fun _=>aa rfl)<|hy (fun _=>(kC rfl))<|ai<|al (ρ' :=[(46,_),(11,_),(5,_),(6,_),(7,_),(4,_),(3,_),(0,_),(1,_)]) ⟨rfl,rfl,rfl,rfl,rfl,rfl,rfl,rfl,rfl,trivial⟩<|ag<| ?_
   refine ia rfl (rfl) ?_
   refine aj<|hy (fun _=>aa rfl)<|hy (fun m=>yV (aU rfl rR eQ rfl ((m.a6 1 rfl).ax)) ((rfl:_=Value.agg [SV f.1,SV f.2].toArray)))<| ?_
   refine hx (b5 Tryz.underlying36 jd rfl rfl rfl (by simp[Value.cells,B8]) (by decide) (by decide) (fun g49=> ?_))
   have hA_b49:0<1→(some (⟨g49,0,none⟩:Addr))≠none:=fun _ h=>by cases h
   refine aO (fun w m=>m.bQ 0 rfl (show _=aG 156 2 (.slice (some ⟨g49,0,none⟩) 1 1) 1 (fc [f])from rfl)) ?_
   refine hx (bu 1 rfl rfl rfl Tryz.underlying36 Tryz.underlying36 (by exact .inl rfl) jd rfl (fun m=>Src.bP (m.ord 0 rfl)) nY (by unfold maxLen;omega) (by omega) (fun u=> ?_))
   refine aA (fun m=>(m.own 0 rfl).slice) ?_
   rintro⟨A_o,c_o,rfl,hc_o⟩
   refine aA (fun m=>(m.ord 0 rfl).2.1) fun hA_o=> ?_
   refine aO (fun w m=>m.bQ 0 rfl (show _=aG 156 2 (.slice A_o (k+1) c_o) (k+1) (fc (gQ l f))from(congrArg (aG _ _ _ _) ((iv ..).symm.trans (congrArg fc hW.symm))))) ?_
   refine hy (fun _=>ab rfl)<|ai<|al (ρ' :=[(5,_),(46,_),(11,_),(6,_),(7,_),(4,_),(3,_),(0,_),(1,_)]) ⟨rfl,rfl,rfl,rfl,rfl,rfl,rfl,rfl,rfl,trivial⟩<|ak (X' :=[_,_,_]) (S' :=[_]) (fun _ m=>m)<|ag<|ah<|aj<|hy (fun _=>aa rfl)<|hy (fun _=>ab rfl)<|ai<|al (ρ' :=[(4,_),(5,_),(46,_),(11,_),(6,_),(7,_),(3,_),(0,_),(1,_)]) ⟨rfl,rfl,rfl,rfl,rfl,rfl,rfl,rfl,rfl,trivial⟩<|ag<|aX<| ?_
   exact bg trivial rfl rfl [0] rfl [] rfl ⟨_,_,rfl,rfl,rfl,⟨by rw[hW,List.length_append,hk];rfl,by simp at hki;omega⟩⟩
end Go.Proofs.YtmibdabdlgmafaaGreatDoor
end
section
set_option maxRecDepth 20000
namespace Go.Proofs.YtmibdabdlgmafaaGreatDoor
open Go.Eng Go.Hx
def dw(l:List FP)(p:List UInt8):List FP:=l.filter fun x=>decide (x.1≠p)
def cv(k:Int)(p t b:List UInt8):List Value:=[.int .i64 k,SV p,SV t,SV b]
def dL(l:List FP)(k:Int)(p t b:List UInt8):List FP:=
 if k=0 then gQ l (p,b)else match l[cE l p]? with
  |none=>l
  |some x=>if k=2 then dw l p else gQ (dw l p) (t,x.2)
theorem iq{l:List FP}{p:List UInt8}:kW l p<0↔l[cE l p]? =none:=by
 unfold kW
 by_cases h:cE l p<l.length
 ·rw[if_pos h,List.getElem?_eq_getElem h];simp
 ·rw[if_neg h,List.getElem?_eq_none (by omega)];simp
theorem EC{A:Option Addr}{n c:Nat}{l:List FP}{k:Int}{p t bb:List UInt8}(hl:l.length=n)(hn:n≤900000):ck Tryz.prog 162 [.slice A n c,.agg (cv k p t bb).toArray] [] [dr 2 A n (fc l)] (fun v_ X_ S_=>∃A1 n1 c1,v_=(.slice A1 n1 c1)∧X_=[]∧S_=[dr 2 A1 n1 (fc (dL l k p t bb))]∧(n1=(dL l k p t bb).length∧n1≤n+1)):=by
 refine aP (N:=43) Tryz.func162 rfl rfl (by simp) fun b=> ?_
 refine aY (fun m=>gE (m.rd 0 rfl)) ?_
 rintro⟨hl_r,hA_r⟩
 refine ah<|aj<| ?_
 refine hx (cw rfl (fun g3=> ?_))
 refine aO (fun w m=>m.bQ 0 rfl (show _=aL g3 186 (cv k p t bb)from congrArg (aL _ _) (bp _))) ?_
 refine hy (fun _=>ab rfl)<|ai<|ak (X' :=[_]) (S' :=[_]) (fun _ m=>m)<|ag<|ah<|ah<|aj<|hy (fun _=>aK rfl xb (by decide))<|hy (fun m=>ay rfl fS (aE (m.a6 0 rfl) (i:=0) rfl))<|hy (fun _=>cJ rfl rfl)<|ai<|al (ρ' :=[(8,_),(4,_),(3,_),(0,_),(1,_)]) ⟨rfl,rfl,rfl,rfl,rfl,trivial⟩<|ag<| ?_
 refine cD rfl (fun h0=> ?_) (fun h0=> ?_)
 ·have hM:dL l k p t bb=gQ l (p,bb):=by rw[dL,if_pos h0]
  refine ah<|aj<|hy (fun _=>aa rfl)<|hy (fun _=>aK rfl pb (by decide))<|hy (fun m=>yV (ay rfl lF (aE (m.a6 0 rfl) (i:=1) rfl)) ((rfl:_=SV p)))<|hy (fun _=>aK rfl BZ (by decide))<|hy (fun m=>yV (ay rfl lF (aE (m.a6 0 rfl) (i:=3) rfl)) ((rfl:_=SV bb)))<|hy (fun _=>yV (cC jd rfl rfl (by kernel_rfl) (.cons (o:=0) (sz:=1) (by kernel_rfl) rfl rfl (Nat.le_of_ble_eq_true rfl) (.cons (o:=1) (sz:=1) (by kernel_rfl) rfl rfl (Nat.le_of_ble_eq_true rfl) .nil))) ((rfl:_=Value.agg [SV p,SV bb].toArray)))<| ?_
  refine hx (aq rfl Tryz.call220 (AZ (by omega) (by omega) (f:=(p,bb))) [] rfl [0] rfl ?_)
  rintro _ _ _ ⟨v,k2,rfl,rfl,rfl,hp⟩
  refine aA (fun m=>(m.own 0 rfl).slice) ?_
  rintro⟨A_x,c_x,rfl,hc_x⟩
  refine aA (fun m=>(m.ord 0 rfl).2.1) fun hA_x=> ?_
  refine hy (fun _=>ab rfl)<|ai<|al (ρ' :=[(4,_),(8,_),(3,_),(0,_),(1,_)]) ⟨rfl,rfl,rfl,rfl,rfl,trivial⟩<|ak (X' :=[_,_]) (S' :=[_]) (fun _ m=>m)<|ag<|aX<|aw<| ?_
  rw[←hM]at hp
  refine ak (fun w m=>m.bQ 0 rfl (show _=aG 156 2 (.slice A_x k2 c_x) k2 (fc (dL l k p t bb))from by rw[hM])) ?_
  refine ak (fun w m=>(m.perm (au [0] _ [_] _ rfl)).freeze) ?_
  refine ak (fun w m=>m.iW 0 rfl .own) ?_
  refine qk (fun m=>gE (m.rd 0 rfl)) ?_
  rintro⟨hl_xr,hA_xr⟩
  exact bg trivial rfl rfl [] rfl [0] rfl ⟨_,_,_,rfl,rfl,rfl,hp⟩
 ·refine aD<|ag<|ah<|aj<|hy (fun _=>aa rfl)<|hy (fun _=>aK rfl pb (by decide))<|hy (fun m=>yV (ay rfl lF (aE (m.a6 0 rfl) (i:=1) rfl)) ((rfl:_=SV p)))<| ?_
  refine hx (aq rfl Tryz.call113 (vy (by omega) (by omega)) [] rfl [0] rfl ?_)
  rintro _ _ _ ⟨rfl,rfl,rfl⟩
  refine hy (fun _=>ab rfl)<|ai<|al (ρ' :=[(5,_),(8,_),(4,_),(3,_),(0,_),(1,_)]) ⟨rfl,rfl,rfl,rfl,rfl,rfl,trivial⟩<|ak (X' :=[_]) (S' :=[_]) (fun _ m=>m)<|ag<|ah<|ah<|aj<|hy (fun _=>aa rfl)<|hy (fun _=>bq rfl rfl)<|ai<|al (ρ' :=[(21,_),(5,_),(8,_),(4,_),(3,_),(0,_),(1,_)]) ⟨rfl,rfl,rfl,rfl,rfl,rfl,rfl,trivial⟩<|ag<| ?_
  refine cD rfl (fun h1=> ?_) (fun h1=> ?_)
  ·have hM:dL l k p t bb=l:=by rw[dL,if_neg h0,iq.1 h1]
   refine ah<|aj<|hy (fun _=>aa rfl)<|hy (fun _=>ab rfl)<|ai<|al (ρ' :=[(4,_),(21,_),(5,_),(8,_),(3,_),(0,_),(1,_)]) ⟨rfl,rfl,rfl,rfl,rfl,rfl,rfl,trivial⟩<|ag<|aX<|aw<| ?_
   rw[hM]
   exact bg trivial rfl rfl [] rfl [0] rfl ⟨_,_,_,rfl,rfl,rfl,⟨hl.symm,by omega⟩⟩
  ·obtain⟨x0,cL⟩:∃x0,l[cE l p]? =some x0:=by
    cases hq:l[cE l p]? with
    |none=>exact absurd (iq.2 hq) h1
    |some x0=>exact⟨x0,rfl⟩
   have hfl:cE l p<l.length:=(List.getElem?_eq_some_iff.1 cL).1
   obtain⟨f0,f1⟩:=iK l _ x0 cL
   have hfi:kW l p=(cE l p:Nat):=by rw[kW,if_pos hfl]
   have hwl:(dw l p).length≤l.length:=List.length_filter_le ..
   refine aD<|ag<|ah<|ah<|aj<|hy (fun _=>aK rfl xb (by decide))<|hy (fun m=>ay rfl fS (aE (m.a6 0 rfl) (i:=0) rfl))<|hy (fun _=>cJ rfl rfl)<|ai<|al (ρ' :=[(25,_),(21,_),(5,_),(8,_),(4,_),(3,_),(0,_),(1,_)]) ⟨rfl,rfl,rfl,rfl,rfl,rfl,rfl,rfl,trivial⟩<|ag<| ?_
   refine cD rfl (fun h2=> ?_) (fun h2=> ?_)
   ·have hM:dL l k p t bb=dw l p:=by rw[dL,if_neg h0,cL];simp only[if_pos h2]
    refine ah<|aj<|hy (fun _=>aa rfl)<|hy (fun _=>aK rfl pb (by decide))<|hy (fun m=>yV (ay rfl lF (aE (m.a6 0 rfl) (i:=1) rfl)) ((rfl:_=SV p)))<| ?_
    refine hx (aq rfl Tryz.call221 (rW (by omega) (by omega)) [] rfl [0] rfl ?_)
    rintro _ _ _ ⟨v,k2,rfl,rfl,rfl,hp⟩
    refine aA (fun m=>(m.own 0 rfl).slice) ?_
    rintro⟨A_x,c_x,rfl,hc_x⟩
    refine aA (fun m=>(m.ord 0 rfl).2.1) fun hA_x=> ?_
    refine hy (fun _=>ab rfl)<|ai<|al (ρ' :=[(4,_),(25,_),(21,_),(5,_),(8,_),(3,_),(0,_),(1,_)]) ⟨rfl,rfl,rfl,rfl,rfl,rfl,rfl,rfl,trivial⟩<|ak (X' :=[_,_]) (S' :=[_]) (fun _ m=>m)<|ag<|aX<|aw<| ?_
    refine ak (fun w m=>m.bQ 0 rfl (show _=aG 156 2 (.slice A_x k2 c_x) k2 (fc (dL l k p t bb))from by rw[hM];rfl)) ?_
    refine ak (fun w m=>(m.perm (au [0] _ [_] _ rfl)).freeze) ?_
    refine ak (fun w m=>m.iW 0 rfl .own) ?_
    refine qk (fun m=>gE (m.rd 0 rfl)) ?_
    rintro⟨hl_xr,hA_xr⟩
    exact bg trivial rfl rfl [] rfl [0] rfl ⟨_,_,_,rfl,rfl,rfl,⟨hp.trans (congrArg List.length hM.symm),by rw[hp];show(dw l p).length≤_;omega⟩⟩
   ·have hM:dL l k p t bb=gQ (dw l p) (t,x0.2):=by rw[dL,if_neg h0,cL];simp only[if_neg h2]
    refine aD<|ag<|ah<|c5 [3,12] [(0,some 0),(1,some 0),(2,some 0),(4,some 1),(5,some 1),(6,some 2),(7,some 2),(8,some 1),(9,some 1),(10,some 1),(11,some 1),(3,none),(12,none),(13,some 2)] (by kernel_rfl) (by kernel_rfl) rfl 99<|an (aa rfl)<|an (aK rfl pb (by decide))<|cr (fun m=>yV (ay rfl lF (aE (m.a6 0 rfl) (i:=1) rfl)) ((rfl:_=SV p)))<|an (aK rfl CR (by decide))<|cr (fun m=>yV (ay rfl lF (aE (m.a6 0 rfl) (i:=2) rfl)) ((rfl:_=SV t)))<|an (aa rfl)<|an (aa rfl)<|an (cq rfl rfl Tryz.underlying36 eQ hA_r hfi.symm (by omega))<|an (aK rfl oW (by decide))<|cr (fun m=>yV (ay rfl lF (fb (m.rd 0 rfl) f1)) ((rfl:_=SV x0.2)))<|an (yV (cC jd rfl rfl (by kernel_rfl) (.cons (o:=0) (sz:=1) (by kernel_rfl) rfl rfl (Nat.le_of_ble_eq_true rfl) (.cons (o:=1) (sz:=1) (by kernel_rfl) rfl rfl (Nat.le_of_ble_eq_true rfl) .nil))) ((rfl:_=Value.agg [SV t,SV x0.2].toArray)))<| ?_
    refine ew (aq rfl Tryz.call221 (rW (by omega) (by omega)) [] rfl [0] rfl ?_)
    rintro _ _ _ ⟨v,k2,rfl,rfl,rfl,hp⟩
    refine⟨(fun _=>wk [1] [0] rfl rfl), ?_⟩
    refine cA (fun m=>(m.own 0 rfl).slice) ?_
    rintro⟨A_x,c_x,rfl,hc_x⟩
    refine cA (fun m=>(m.ord 0 rfl).2.1) fun hA_x=> ?_
    have hk2:k2=(dw l p).length:=hp
    clear hp
    refine ew (cM rfl Tryz.call220 (AZ (by omega) (by omega) (l:=(dw l p)) (f:=(t,x0.2))) [] rfl (.x 0 rfl .own .nil) ?_)
    rintro _ _ _ ⟨v2,k3,rfl,rfl,rfl,hp2⟩
    refine⟨rfl, ?_⟩
    refine⟨(fun _=>wk [2] [0] rfl rfl), ?_⟩
    refine cA (fun m=>(m.own 0 rfl).slice) ?_
    rintro⟨A_x2,c_x2,rfl,hc_x2⟩
    refine cA (fun m=>(m.ord 0 rfl).2.1) fun hA_x2=> ?_
    refine an (ab rfl)<|bD<|al (ρ' :=[(4,_),(25,_),(21,_),(5,_),(8,_),(3,_),(0,_),(1,_)]) ⟨rfl,rfl,rfl,rfl,rfl,rfl,rfl,rfl,trivial⟩<|ak (X' :=[_,_,_]) (S' :=[_]) (fun _ m=>m)<|ag<|aX<| ?_
    rw[hM]
    refine ak (fun w m=>(m.perm (au [0] _ [_] _ rfl)).freeze) ?_
    refine ak (fun w m=>m.iW 0 rfl .own) ?_
    refine qk (fun m=>gE (m.rd 0 rfl)) ?_
    rintro⟨hl_x2r,hA_x2r⟩
    exact bg trivial rfl rfl [] rfl [0] rfl ⟨_,_,_,rfl,rfl,rfl,⟨hp2.1,by omega⟩⟩
abbrev RC:=Int×List UInt8×List UInt8×List UInt8
def uN(l:List RC):List Value:=l.flatMap fun x=>cv x.1 x.2.1 x.2.2.1 x.2.2.2
theorem vt(a b:List RC):uN (a++b)=uN a++uN b:=by simp[uN]
theorem wB{l:List RC}:∀u∈uN l,u.oneCell' =true:=by
 intro u hu
 obtain⟨x,_,h⟩:=List.mem_flatMap.1 hu
 simp only[cv,List.mem_cons,List.not_mem_nil,or_false]at h
 rcases h with rfl|rfl|rfl|rfl <;> rfl
theorem ju{room pw:Int}{A A2 A3:Option Addr}{n c n2 c2 n3 c3:Nat}:∀u∈dv room (.slice A n c) (.slice A2 n2 c2) (.slice A3 n3 c3) pw,u.oneCell' =true:=by
 intro u hu
 simp only[dv,List.mem_cons,List.not_mem_nil,or_false]at hu
 rcases hu with rfl|rfl|rfl|rfl|rfl <;> rfl
def en(pw:Int):Int:=if 0<pw then pw-1 else pw
theorem E2{room pw:Int}{A Al A3:Option Addr}{n c nl cl n3 c3:Nat}{l:List FP}{wl:List RC}{k:Int}{p t bb:List UInt8}(hl:l.length=n)(hn:n≤900000)(hw:wl.length=n3)(hn3:n3≤900000)(hp1:-10≤pw)(hp2:pw≤1000000000000):ck Tryz.prog 114 [.agg (dv room (.slice A n c) (.slice Al nl cl) (.slice A3 n3 c3) pw).toArray,.agg (cv k p t bb).toArray] [] [dr 2 A n (fc l),dr 4 A3 n3 (uN wl)] (fun v_ X_ S_=>∃A1 n1 c1 A2 n2 c2,v_=(.agg (dv room (.slice A1 n1 c1) (.slice Al nl cl) (.slice A2 n2 c2) (en pw)).toArray)∧X_=[]∧S_=[dr 2 A1 n1 (fc (dL l k p t bb)),dr 4 A2 n2 (uN (wl++[(k,p,t,bb)]))]∧(n1=(dL l k p t bb).length∧n1≤n+1∧n2=n3+1)):=by
 refine aP (N:=28) Tryz.func114 rfl rfl (by simp) fun b=> ?_
 refine aY (fun m=>gE (m.rd 0 rfl)) ?_
 rintro⟨hl_r,hA_r⟩
 refine aY (fun m=>gE (m.rd 1 rfl)) ?_
 rintro⟨hl_w,hA_w⟩
 refine ah<|aj<| ?_
 refine hx (cw rfl (fun g2=> ?_))
 refine aO (fun w m=>m.bQ 0 rfl (show _=aL g2 39 (dv room (.slice A n c) (.slice Al nl cl) (.slice A3 n3 c3) pw)from congrArg (aL _ _) (bp _))) ?_
 refine hx (cw rfl (fun g3=> ?_))
 refine aO (fun w m=>m.bQ 0 rfl (show _=aL g3 186 (cv k p t bb)from congrArg (aL _ _) (bp _))) ?_
 refine hx (aN fG (fun g4=> ?_))
 refine ai<|ak (X' :=[_,_,_]) (S' :=[_,_]) (fun _ m=>m)<|ag<|ah<|aj<|hy (fun _=>aK rfl gr (by decide))<|hy (fun m=>ay rfl oO (aE (m.a6 2 rfl) (i:=1) rfl))<|hy (fun m=>yV (aU rfl Dv Dc rfl ((m.a6 1 rfl).ax)) ((rfl:_=Value.agg (cv k p t bb).toArray)))<| ?_
 refine hx (aq rfl Tryz.call162 (EC (by omega) (by omega)) [] rfl [0] rfl ?_)
 rintro _ _ _ ⟨A1,n1,c1,rfl,rfl,rfl,hp⟩
 refine aA (fun m=>gE (m.rd 0 rfl)) ?_
 rintro⟨hl_q,hA_q⟩
 refine hy (fun _=>aK rfl gr (by decide))<| ?_
 refine cL (cG 2 rfl rfl rfl FC rfl (by first|exact Nat.le_of_ble_eq_true rfl|simp) ?_)
 refine ai<|al (ρ' :=[(4,_),(3,_),(2,_),(0,_),(1,_)]) ⟨rfl,rfl,rfl,rfl,rfl,trivial⟩<|ak (X' :=[_,_,_]) (S' :=[_,_,_]) (fun _ m=>m)<|ag<|ah<|aj<|hy (fun _=>ab rfl)<|ai<|ag<|ah<|aj<|hy (fun _=>aa rfl)<|hy (fun _=>aK rfl sv (by decide))<|hy (fun m=>ay rfl GR (aE (m.a6 0 rfl) rfl))<| ?_
 refine aO (fun w m=>m.dm (r' :=aG 186 4 (.slice none 0 0) 0 []) (.refl _ _) (Own.nil _ _ _ _) (fun k hk=>hk.elim)) ?_
 refine hx (bu 0 rfl rfl rfl Tryz.underlying37 Tryz.underlying37 (by exact .inl rfl) pB rfl (fun m=>Src.bP (m.rd 2 rfl)) wB (by unfold maxLen;omega) (by omega) (fun u=> ?_))
 refine aA (fun m=>(m.own 0 rfl).slice) ?_
 rintro⟨A_o,c_o,rfl,hc_o⟩
 refine aA (fun m=>(m.ord 0 rfl).2.1) fun hA_o=> ?_
 rw[Nat.zero_add]
 refine aO (fun w m=>m.bQ 0 rfl (show _=aG 186 4 (.slice A_o n3 c_o) n3 (uN wl)from rfl)) ?_
 refine hy (fun _=>ab rfl)<|ai<|al (ρ' :=[(5,_),(4,_),(3,_),(2,_),(0,_),(1,_)]) ⟨rfl,rfl,rfl,rfl,rfl,rfl,trivial⟩<|ak (X' :=[_,_,_,_]) (S' :=[_,_,_]) (fun _ m=>m)<|ag<|ah<|aj<|hy (fun _=>aa rfl)<|hy (fun m=>yV (aU rfl Dv Dc rfl ((m.a6 3 rfl).ax)) ((rfl:_=Value.agg (cv k p t bb).toArray)))<| ?_
 refine hx (b5 Tryz.underlying37 pB rfl rfl rfl (by simp[Value.cells,cv]) (by decide) (by decide) (fun g17=> ?_))
 have hA_b17:0<1→(some (⟨g17,0,none⟩:Addr))≠none:=fun _ h=>by cases h
 refine aO (fun w m=>m.bQ 0 rfl (show _=aG 186 4 (.slice (some ⟨g17,0,none⟩) 1 1) 1 (uN [(k,p,t,bb)])from rfl)) ?_
 refine hx (bu 1 rfl rfl rfl Tryz.underlying37 Tryz.underlying37 (by exact .inl rfl) pB rfl (fun m=>Src.bP (m.ord 0 rfl)) wB (by unfold maxLen;omega) (by omega) (fun u2=> ?_))
 refine aA (fun m=>(m.own 0 rfl).slice) ?_
 rintro⟨A_o2,c_o2,rfl,hc_o⟩
 refine aA (fun m=>(m.ord 0 rfl).2.1) fun hA_o=> ?_
 refine aO (fun w m=>m.bQ 0 rfl (show _=aG 186 4 (.slice A_o2 (n3+1) c_o2) (n3+1) (uN (wl++[(k,p,t,bb)]))from congrArg (aG _ _ _ _) (vt ..).symm)) ?_
 refine hy (fun _=>aK rfl sv (by decide))<| ?_
 refine cL (cG 2 rfl rfl rfl FW rfl (by first|exact Nat.le_of_ble_eq_true rfl|simp) ?_)
 refine aO (fun w m=>m.bQ 0 rfl (show _=aL g2 39 (dv room (.slice A1 n1 c1) (.slice Al nl cl) (.slice A_o2 (n3+1) c_o2) pw)from rfl)) ?_
 refine ai<|al (ρ' :=[(5,_),(4,_),(3,_),(2,_),(0,_),(1,_)]) ⟨rfl,rfl,rfl,rfl,rfl,rfl,trivial⟩<|ak (X' :=[_,_,_,_,_]) (S' :=[_,_,_]) (fun _ m=>m)<|ag<|ah<|ah<|aj<|hy (fun _=>aK rfl gW (by decide))<|hy (fun m=>ay rfl fS (aE (m.a6 0 rfl) (i:=4) rfl))<|hy (fun _=>da rfl rfl)<|ai<|al (ρ' :=[(22,_),(5,_),(4,_),(3,_),(2,_),(0,_),(1,_)]) ⟨rfl,rfl,rfl,rfl,rfl,rfl,rfl,trivial⟩<|ag<| ?_
 refine bx (fun w m=>(m.perm (au [1] _ [_] _ rfl)).freeze) ?_
 refine bx (fun w m=>m.iW 0 rfl .own) ?_
 refine cD rfl (fun h=> ?_) (fun h=> ?_)
 ·refine aj<|hy (fun _=>aK rfl gW (by decide))<|hy (fun m=>ay rfl fS (aE (m.a6 0 rfl) (i:=4) rfl))<|hy (fun _=>cn rfl rfl (bG (by omega) (by omega)))<|hy (fun _=>aK rfl gW (by decide))<| ?_
  refine cL (cG 0 rfl rfl rfl s8 rfl (by first|exact Nat.le_of_ble_eq_true rfl|simp) ?_)
  refine aO (fun w m=>m.bQ 0 rfl (show _=aL g2 39 (dv room (.slice A1 n1 c1) (.slice Al nl cl) (.slice A_o2 (n3+1) c_o2) (en pw))from by rw[en,if_pos h];rfl)) ?_
  refine ai<|al (ρ' :=[(22,_),(5,_),(4,_),(3,_),(2,_),(0,_),(1,_)]) ⟨rfl,rfl,rfl,rfl,rfl,rfl,rfl,trivial⟩<|ak (X' :=[_,_,_,_]) (S' :=[_,_,_,_,_]) (fun _ m=>m)<|ag<|ah<|aj<|hy (fun m=>aU rfl cd bh rfl ((m.a6 0 rfl).ax))<| ?_
  refine cL (aJ 2 rfl rfl rfl bh rfl ju rfl ?_)
  refine ai<|al (ρ' :=[(22,_),(5,_),(4,_),(3,_),(2,_),(0,_),(1,_)]) ⟨rfl,rfl,rfl,rfl,rfl,rfl,rfl,trivial⟩<|ak (X' :=[_,_,_,_]) (S' :=[_,_,_,_,_]) (fun _ m=>m)<|ag<|aX<| ?_
  exact fl trivial rfl rfl cd bh rfl (fun m=>(m.a6 0 rfl).ax) [] rfl [2,0] rfl ⟨_,_,_,_,_,_,rfl,rfl,rfl,⟨hp.1,hp.2,rfl⟩⟩
 ·refine bx (fun w m=>m.bQ 0 rfl (show _=aL g2 39 (dv room (.slice A1 n1 c1) (.slice Al nl cl) (.slice A_o2 (n3+1) c_o2) (en pw))from by rw[en,if_neg h])) ?_
  refine aD<|ag<|ah<|aj<|hy (fun m=>aU rfl cd bh rfl ((m.a6 0 rfl).ax))<| ?_
  refine cL (aJ 2 rfl rfl rfl bh rfl ju rfl ?_)
  refine ai<|al (ρ' :=[(22,_),(5,_),(4,_),(3,_),(2,_),(0,_),(1,_)]) ⟨rfl,rfl,rfl,rfl,rfl,rfl,rfl,trivial⟩<|ak (X' :=[_,_,_,_]) (S' :=[_,_,_,_,_]) (fun _ m=>m)<|ag<|aX<| ?_
  exact fl trivial rfl rfl cd bh rfl (fun m=>(m.a6 0 rfl).ax) [] rfl [2,0] rfl ⟨_,_,_,_,_,_,rfl,rfl,rfl,⟨hp.1,hp.2,rfl⟩⟩
end Go.Proofs.YtmibdabdlgmafaaGreatDoor
end
section
set_option maxRecDepth 20000
namespace Go.Proofs.YtmibdabdlgmafaaGreatDoor
open Go.Eng Go.Hx
structure RD where
 room:Int
 seen:List FP
 cO:List FP
 waits:List RC
 pw:Int
def RD.sz(d:RD)(p:List UInt8):Nat:=((d.seen[cE d.seen p]?).map (·.2.length)).getD 0
def RD.bO(d:RD)(p bb:List UInt8):Int:=if¬fV p then 1 else if d.pw=0 then 6 else if d.room<(dH d.seen:Int)+(bb.length:Nat)-(d.sz p:Nat)then 5 else 0
def RD.gA(d:RD)(k:Int)(p t bb:List UInt8):RD:={d with seen:=dL d.seen k p t bb,waits:=d.waits++[(k,p,t,bb)],pw:=en d.pw}
def RD.write(d:RD)(p bb:List UInt8):RD:=if d.bO p bb=0 then d.gA 0 p [] bb else d
structure yi(d:RD)(k:Nat):Prop where
 seen:d.seen.length≤k
 waits:d.waits.length≤k
 mg:dH d.seen≤k*1048576
 p1:-10≤d.pw
 p2:d.pw≤1000000000000
theorem GQ(d:RD)(p:List UInt8):d.sz p≤dH d.seen:=by
 unfold RD.sz
 cases h:d.seen[cE d.seen p]? with
 |none=>simp
 |some x=>
  have h1:=rO h
  have h2:=vM d.seen (cE d.seen p+1)
  simp only[Option.map_some,Option.getD_some]
  omega
def rv(d:RD)(A:Option Addr)(n c:Nat)(Al:Option Addr)(nl cl:Nat)(A3:Option Addr)(n3 c3:Nat):List Value:=dv d.room (.slice A n c) (.slice Al nl cl) (.slice A3 n3 c3) d.pw
theorem Gj{room:Int}:ck Tryz.prog 25 [.int .i64 room] [] [] (fun v_ X_ S_=>v_=(.agg (dv room (.slice none 0 0) (.slice none 0 0) (.slice none 0 0) (-1)).toArray)∧X_=[]∧S_=[]):=by
 refine aP (N:=5) Tryz.func25 rfl rfl (by simp) fun b=> ?_
 refine ah<|aj<| ?_
 refine hx (aN fG (fun g2=> ?_))
 refine ai<|ak (X' :=[_]) (S' :=[]) (fun _ m=>m)<|ag<|ah<|aj<|hy (fun _=>aa rfl)<|hy (fun _=>yV (cC fG rfl rfl (by kernel_rfl) (.cons (o:=0) (sz:=1) (by kernel_rfl) rfl rfl (Nat.le_of_ble_eq_true rfl) (.cons (o:=4) (sz:=1) (by kernel_rfl) rfl rfl (Nat.le_of_ble_eq_true rfl) .nil))) ((rfl:_=Value.agg (dv room (.slice none 0 0) (.slice none 0 0) (.slice none 0 0) (-1)).toArray)))<| ?_
 refine cL (aJ 0 rfl rfl rfl bh rfl ju rfl ?_)
 refine ai<|al (ρ' :=[(2,_),(0,_)]) ⟨rfl,rfl,trivial⟩<|ak (X' :=[_]) (S' :=[]) (fun _ m=>m)<|ag<|aX<| ?_
 exact fl trivial rfl rfl cd bh rfl (fun m=>(m.a6 0 rfl).ax) [] rfl [] rfl ⟨rfl,rfl,rfl⟩
theorem BE{d:RD}{kk:Nat}{A Al A3:Option Addr}{n c nl cl n3 c3:Nat}{p bb:List UInt8}(hl:d.seen.length=n)(hw:d.waits.length=n3)(ok:yi d kk)(hkk:kk≤100000)(hpl:p.length≤1000000)(hbb:bb.length≤1000000):ck Tryz.prog 31 [.agg (rv d A n c Al nl cl A3 n3 c3).toArray,.string (strOf p),.string (strOf bb)] [] [dr 2 A n (fc d.seen),dr 4 A3 n3 (uN d.waits)] (fun v_ X_ S_=>∃A1 n1 c1 A2 n2 c2,v_=(.tuple #[.agg (rv (d.write p bb) A1 n1 c1 Al nl cl A2 n2 c2).toArray,.int .i64 (d.bO p bb)])∧X_=[]∧S_=[dr 2 A1 n1 (fc (d.write p bb).seen),dr 4 A2 n2 (uN (d.write p bb).waits)]∧((d.write p bb).seen.length=n1∧(d.write p bb).waits.length=n2)):=by
 have hk1:=ok.seen
 have hk2:=ok.waits
 have hk3:=ok.mg
 have hk4:=ok.p1
 have hk5:=ok.p2
 have hsz:=GQ d p
 refine aP (N:=50) Tryz.func31 rfl rfl (by simp) fun b=> ?_
 refine aY (fun m=>gE (m.rd 0 rfl)) ?_
 rintro⟨hl_r,hA_r⟩
 refine aY (fun m=>gE (m.rd 1 rfl)) ?_
 rintro⟨hl_w,hA_w⟩
 refine ah<|aj<| ?_
 refine hx (cw rfl (fun g3=> ?_))
 refine aO (fun w m=>m.bQ 0 rfl (show _=aL g3 39 (rv d A n c Al nl cl A3 n3 c3)from congrArg (aL _ _) (bp _))) ?_
 refine hx (aN fG (fun g6=> ?_))
 refine hy (fun _=>ab rfl)<|ai<|ak (X' :=[_,_]) (S' :=[_,_]) (fun _ m=>m)<|ag<|ah<|aj<|hy (fun _=>aa rfl)<| ?_
 refine hx (aq rfl Tryz.call112 (wE (by omega)) [] rfl [] rfl ?_)
 rintro _ _ _ ⟨rfl,rfl,rfl⟩
 refine hy (fun _=>ab rfl)<|ai<|al (ρ' :=[(8,_),(7,_),(6,_),(3,_),(0,_),(1,_),(2,_)]) ⟨rfl,rfl,rfl,rfl,rfl,rfl,rfl,trivial⟩<|ak (X' :=[_,_]) (S' :=[_,_]) (fun _ m=>m)<|ag<|ah<|ah<|aj<|hy (fun _=>aa rfl)<|hy (fun _=>kf rfl)<|ai<|al (ρ' :=[(14,_),(8,_),(7,_),(6,_),(3,_),(0,_),(1,_),(2,_)]) ⟨rfl,rfl,rfl,rfl,rfl,rfl,rfl,rfl,trivial⟩<|ag<| ?_
 refine cD rfl (fun hN=> ?_) (fun hN=> ?_)
 ·have hE:d.bO p bb=1:=by rw[RD.bO,if_pos hN]
  have hW:d.write p bb=d:=by rw[RD.write,if_neg (by rw[hE];decide)]
  rw[hE,hW]
  refine ah<|aj<|hy (fun m=>yV (aU rfl cd bh rfl ((m.a6 1 rfl).ax)) ((rfl:_=Value.agg (rv d A n c Al nl cl A3 n3 c3).toArray)))<| ?_
  refine cL (aJ 0 rfl rfl rfl bh rfl ju rfl ?_)
  refine hy (fun _=>ab rfl)<|ai<|al (ρ' :=[(7,_),(14,_),(8,_),(6,_),(3,_),(0,_),(1,_),(2,_)]) ⟨rfl,rfl,rfl,rfl,rfl,rfl,rfl,rfl,trivial⟩<|ak (X' :=[_,_]) (S' :=[_,_]) (fun _ m=>m)<|ag<|aX<|aw<| ?_
  exact dW trivial rfl rfl rfl cd bh rfl (fun m=>(m.a6 0 rfl).ax) [] rfl [0,1] rfl ⟨_,_,_,_,_,_,rfl,rfl,rfl,⟨hl,hw⟩⟩
 ·refine aD<|ag<|ah<|ah<|aj<|hy (fun _=>aK rfl gW (by decide))<|hy (fun m=>ay rfl fS (aE (m.a6 1 rfl) (i:=4) rfl))<|hy (fun _=>cJ rfl rfl)<|ai<|al (ρ' :=[(18,_),(14,_),(8,_),(7,_),(6,_),(3,_),(0,_),(1,_),(2,_)]) ⟨rfl,rfl,rfl,rfl,rfl,rfl,rfl,rfl,rfl,trivial⟩<|ag<| ?_
  refine cD rfl (fun h0=> ?_) (fun h0=> ?_)
  ·have hE:d.bO p bb=6:=by rw[RD.bO,if_neg hN,if_pos h0]
   have hW:d.write p bb=d:=by rw[RD.write,if_neg (by rw[hE];decide)]
   rw[hE,hW]
   refine ah<|aj<|hy (fun m=>yV (aU rfl cd bh rfl ((m.a6 1 rfl).ax)) ((rfl:_=Value.agg (rv d A n c Al nl cl A3 n3 c3).toArray)))<| ?_
   refine cL (aJ 0 rfl rfl rfl bh rfl ju rfl ?_)
   refine hy (fun _=>ab rfl)<|ai<|al (ρ' :=[(7,_),(18,_),(14,_),(8,_),(6,_),(3,_),(0,_),(1,_),(2,_)]) ⟨rfl,rfl,rfl,rfl,rfl,rfl,rfl,rfl,rfl,trivial⟩<|ak (X' :=[_,_]) (S' :=[_,_]) (fun _ m=>m)<|ag<|aX<|aw<| ?_
   exact dW trivial rfl rfl rfl cd bh rfl (fun m=>(m.a6 0 rfl).ax) [] rfl [0,1] rfl ⟨_,_,_,_,_,_,rfl,rfl,rfl,⟨hl,hw⟩⟩
  ·have hsb:=cY bb
   refine aD<|ag<|ah<|aj<|hy (fun m=>yV (aU rfl cd bh rfl ((m.a6 1 rfl).ax)) ((rfl:_=Value.agg (rv d A n c Al nl cl A3 n3 c3).toArray)))<| ?_
   refine hx (aq rfl Tryz.call89 (ER (by omega) (by omega) (by omega)) [] rfl [0] rfl ?_)
   rintro _ _ _ ⟨rfl,rfl,rfl⟩
   refine hy (fun _=>aa rfl)<|hy (fun _=>cV rfl Tryz.underlying9)<|hy (fun _=>aM rfl rfl (bG (by omega) (by omega)))<|hy (fun _=>ab rfl)<|ai<|al (ρ' :=[(9,_),(18,_),(14,_),(8,_),(7,_),(6,_),(3,_),(0,_),(1,_),(2,_)]) ⟨rfl,rfl,rfl,rfl,rfl,rfl,rfl,rfl,rfl,rfl,trivial⟩<|ak (X' :=[_,_]) (S' :=[_,_]) (fun _ m=>m)<|ag<|ah<|aj<|hy (fun _=>aK rfl gr (by decide))<|hy (fun m=>ay rfl oO (aE (m.a6 1 rfl) (i:=1) rfl))<|hy (fun _=>aa rfl)<| ?_
   refine hx (aq rfl Tryz.call113 (vy (by omega) (by omega)) [] rfl [0] rfl ?_)
   rintro _ _ _ ⟨rfl,rfl,rfl⟩
   refine hy (fun _=>ab rfl)<|ai<|al (ρ' :=[(10,_),(9,_),(18,_),(14,_),(8,_),(7,_),(6,_),(3,_),(0,_),(1,_),(2,_)]) ⟨rfl,rfl,rfl,rfl,rfl,rfl,rfl,rfl,rfl,rfl,rfl,trivial⟩<|ak (X' :=[_,_]) (S' :=[_,_]) (fun _ m=>m)<|ag<|ah<|ah<|aj<|hy (fun _=>aa rfl)<|hy (fun _=>iP rfl rfl)<|ai<|al (ρ' :=[(30,_),(10,_),(9,_),(18,_),(14,_),(8,_),(7,_),(6,_),(3,_),(0,_),(1,_),(2,_)]) ⟨rfl,rfl,rfl,rfl,rfl,rfl,rfl,rfl,rfl,rfl,rfl,rfl,trivial⟩<|ag<| ?_
   refine cD rfl (fun hf=> ?_) (fun hf=> ?_)
   ·obtain⟨x0,hfx⟩:∃x0,d.seen[cE d.seen p]? =some x0:=by
     cases hq:d.seen[cE d.seen p]? with
     |none=>exact absurd (iq.2 hq) (by omega)
     |some x0=>exact⟨x0,rfl⟩
    have hfl:cE d.seen p<d.seen.length:=(List.getElem?_eq_some_iff.1 hfx).1
    obtain⟨f0,f1⟩:=iK d.seen _ x0 hfx
    have hfi:kW d.seen p=(cE d.seen p:Nat):=by rw[kW,if_pos hfl]
    have hsx:=cY x0.2
    have hs0:d.sz p=x0.2.length:=by unfold RD.sz;rw[hfx];rfl
    refine aj<|hy (fun _=>aa rfl)<|hy (fun _=>aK rfl gr (by decide))<|hy (fun m=>ay rfl oO (aE (m.a6 1 rfl) (i:=1) rfl))<|hy (fun _=>aa rfl)<|hy (fun _=>cq rfl rfl Tryz.underlying36 eQ hA_r hfi.symm (by omega))<|hy (fun _=>aK rfl oW (by decide))<|hy (fun m=>yV (ay rfl lF (fb (m.rd 0 rfl) f1)) ((rfl:_=Value.string (strOf x0.2))))<|hy (fun _=>cV rfl Tryz.underlying9)<|hy (fun _=>cn rfl rfl (bG (by omega) (by omega)))<|hy (fun _=>ab rfl)<|ai<|al (ρ' :=[(9,_),(30,_),(10,_),(18,_),(14,_),(8,_),(7,_),(6,_),(3,_),(0,_),(1,_),(2,_)]) ⟨rfl,rfl,rfl,rfl,rfl,rfl,rfl,rfl,rfl,rfl,rfl,rfl,trivial⟩<|ag<|ah<|ah<|aj<|hy (fun _=>aa rfl)<|hy (fun _=>aK rfl zd (by decide))<|hy (fun m=>ay rfl fS (aE (m.a6 1 rfl) (i:=0) rfl))<|hy (fun _=>da rfl rfl)<|ai<|al (ρ' :=[(43,_),(9,_),(30,_),(10,_),(18,_),(14,_),(8,_),(7,_),(6,_),(3,_),(0,_),(1,_),(2,_)]) ⟨rfl,rfl,rfl,rfl,rfl,rfl,rfl,rfl,rfl,rfl,rfl,rfl,rfl,trivial⟩<|ag<| ?_
    refine cD rfl (fun hR=> ?_) (fun hR=> ?_)
    ·have hE:d.bO p bb=5:=by rw[RD.bO,if_neg hN,if_neg h0,if_pos (by omega)]
     have hW:d.write p bb=d:=by rw[RD.write,if_neg (by rw[hE];decide)]
     rw[hE,hW]
     refine ah<|aj<|hy (fun m=>yV (aU rfl cd bh rfl ((m.a6 1 rfl).ax)) ((rfl:_=Value.agg (rv d A n c Al nl cl A3 n3 c3).toArray)))<| ?_
     refine cL (aJ 0 rfl rfl rfl bh rfl ju rfl ?_)
     refine hy (fun _=>ab rfl)<|ai<|al (ρ' :=[(7,_),(43,_),(9,_),(30,_),(10,_),(18,_),(14,_),(8,_),(6,_),(3,_),(0,_),(1,_),(2,_)]) ⟨rfl,rfl,rfl,rfl,rfl,rfl,rfl,rfl,rfl,rfl,rfl,rfl,rfl,trivial⟩<|ak (X' :=[_,_]) (S' :=[_,_]) (fun _ m=>m)<|ag<|aX<|aw<| ?_
     exact dW trivial rfl rfl rfl cd bh rfl (fun m=>(m.a6 0 rfl).ax) [] rfl [0,1] rfl ⟨_,_,_,_,_,_,rfl,rfl,rfl,⟨hl,hw⟩⟩
    ·have hE:d.bO p bb=0:=by rw[RD.bO,if_neg hN,if_neg h0,if_neg (by omega)]
     have hW:d.write p bb=d.gA 0 p [] bb:=by rw[RD.write,if_pos hE]
     rw[hE,hW]
     refine aD<|ag<|ah<|aj<|hy (fun m=>yV (aU rfl cd bh rfl ((m.a6 1 rfl).ax)) ((rfl:_=Value.agg (dv d.room (.slice A n c) (.slice Al nl cl) (.slice A3 n3 c3) d.pw).toArray)))<|hy (fun _=>aa rfl)<|hy (fun _=>aa rfl)<|hy (fun _=>yV (cC pB rfl rfl (by kernel_rfl) (.cons (o:=1) (sz:=1) (by kernel_rfl) rfl rfl (Nat.le_of_ble_eq_true rfl) (.cons (o:=3) (sz:=1) (by kernel_rfl) rfl rfl (Nat.le_of_ble_eq_true rfl) .nil))) ((rfl:_=Value.agg (cv 0 p [] bb).toArray)))<| ?_
     refine hx (aq rfl Tryz.call114 (E2 (by omega) (by omega) (by omega) (by omega) (by omega) (by omega)) [] rfl [0,1] rfl ?_)
     rintro _ _ _ ⟨A1,n1,c1,A2,n2,c2,rfl,rfl,rfl,hp⟩
     refine aA (fun m=>gE (m.rd 0 rfl)) ?_
     rintro⟨hl_q,hA_q⟩
     refine aA (fun m=>gE (m.rd 1 rfl)) ?_
     rintro⟨hl_u,hA_u⟩
     refine cL (aJ 0 rfl rfl rfl bh rfl ju rfl ?_)
     refine hy (fun _=>ab rfl)<|ai<|al (ρ' :=[(7,_),(43,_),(9,_),(30,_),(10,_),(18,_),(14,_),(8,_),(6,_),(3,_),(0,_),(1,_),(2,_)]) ⟨rfl,rfl,rfl,rfl,rfl,rfl,rfl,rfl,rfl,rfl,rfl,rfl,rfl,trivial⟩<|ak (X' :=[_,_]) (S' :=[_,_,_,_]) (fun _ m=>m)<|ag<|aX<| ?_
     exact dW trivial rfl rfl rfl cd bh rfl (fun m=>(m.a6 0 rfl).ax) [] rfl [0,1] rfl ⟨_,_,_,_,_,_,rfl,rfl,rfl,⟨hp.1.symm,by rw[hp.2.2,←hw];exact List.length_append⟩⟩
   ·have hs0:d.sz p=0:=by
     unfold RD.sz
     rw[iq.1 (by omega)];rfl
    refine aD<|ag<|ah<|ah<|aj<|hy (fun _=>aa rfl)<|hy (fun _=>aK rfl zd (by decide))<|hy (fun m=>ay rfl fS (aE (m.a6 1 rfl) (i:=0) rfl))<|hy (fun _=>da rfl rfl)<|ai<|al (ρ' :=[(43,_),(30,_),(10,_),(9,_),(18,_),(14,_),(8,_),(7,_),(6,_),(3,_),(0,_),(1,_),(2,_)]) ⟨rfl,rfl,rfl,rfl,rfl,rfl,rfl,rfl,rfl,rfl,rfl,rfl,rfl,trivial⟩<|ag<| ?_
    refine cD rfl (fun hR=> ?_) (fun hR=> ?_)
    ·have hE:d.bO p bb=5:=by rw[RD.bO,if_neg hN,if_neg h0,if_pos (by omega)]
     have hW:d.write p bb=d:=by rw[RD.write,if_neg (by rw[hE];decide)]
     rw[hE,hW]
     refine ah<|aj<|hy (fun m=>yV (aU rfl cd bh rfl ((m.a6 1 rfl).ax)) ((rfl:_=Value.agg (rv d A n c Al nl cl A3 n3 c3).toArray)))<| ?_
     refine cL (aJ 0 rfl rfl rfl bh rfl ju rfl ?_)
     refine hy (fun _=>ab rfl)<|ai<|al (ρ' :=[(7,_),(43,_),(30,_),(10,_),(9,_),(18,_),(14,_),(8,_),(6,_),(3,_),(0,_),(1,_),(2,_)]) ⟨rfl,rfl,rfl,rfl,rfl,rfl,rfl,rfl,rfl,rfl,rfl,rfl,rfl,trivial⟩<|ak (X' :=[_,_]) (S' :=[_,_]) (fun _ m=>m)<|ag<|aX<|aw<| ?_
     exact dW trivial rfl rfl rfl cd bh rfl (fun m=>(m.a6 0 rfl).ax) [] rfl [0,1] rfl ⟨_,_,_,_,_,_,rfl,rfl,rfl,⟨hl,hw⟩⟩
    ·have hE:d.bO p bb=0:=by rw[RD.bO,if_neg hN,if_neg h0,if_neg (by omega)]
     have hW:d.write p bb=d.gA 0 p [] bb:=by rw[RD.write,if_pos hE]
     rw[hE,hW]
     refine aD<|ag<|ah<|aj<|hy (fun m=>yV (aU rfl cd bh rfl ((m.a6 1 rfl).ax)) ((rfl:_=Value.agg (dv d.room (.slice A n c) (.slice Al nl cl) (.slice A3 n3 c3) d.pw).toArray)))<|hy (fun _=>aa rfl)<|hy (fun _=>aa rfl)<|hy (fun _=>yV (cC pB rfl rfl (by kernel_rfl) (.cons (o:=1) (sz:=1) (by kernel_rfl) rfl rfl (Nat.le_of_ble_eq_true rfl) (.cons (o:=3) (sz:=1) (by kernel_rfl) rfl rfl (Nat.le_of_ble_eq_true rfl) .nil))) ((rfl:_=Value.agg (cv 0 p [] bb).toArray)))<| ?_
     refine hx (aq rfl Tryz.call114 (E2 (by omega) (by omega) (by omega) (by omega) (by omega) (by omega)) [] rfl [0,1] rfl ?_)
     rintro _ _ _ ⟨A1,n1,c1,A2,n2,c2,rfl,rfl,rfl,hp⟩
     refine aA (fun m=>gE (m.rd 0 rfl)) ?_
     rintro⟨hl_q,hA_q⟩
     refine aA (fun m=>gE (m.rd 1 rfl)) ?_
     rintro⟨hl_u,hA_u⟩
     refine cL (aJ 0 rfl rfl rfl bh rfl ju rfl ?_)
     refine hy (fun _=>ab rfl)<|ai<|al (ρ' :=[(7,_),(43,_),(30,_),(10,_),(9,_),(18,_),(14,_),(8,_),(6,_),(3,_),(0,_),(1,_),(2,_)]) ⟨rfl,rfl,rfl,rfl,rfl,rfl,rfl,rfl,rfl,rfl,rfl,rfl,rfl,trivial⟩<|ak (X' :=[_,_]) (S' :=[_,_,_,_]) (fun _ m=>m)<|ag<|aX<| ?_
     exact dW trivial rfl rfl rfl cd bh rfl (fun m=>(m.a6 0 rfl).ax) [] rfl [0,1] rfl ⟨_,_,_,_,_,_,rfl,rfl,rfl,⟨hp.1.symm,by rw[hp.2.2,←hw];exact List.length_append⟩⟩
def RD.cj(d:RD)(p:List UInt8):Int:=if d.pw=0 then 6 else if d.seen[cE d.seen p]? =none then 4 else 0
def RD.cF(d:RD)(p:List UInt8):List UInt8:=if d.pw=0 then []else((d.seen[cE d.seen p]?).map (·.2)).getD []
theorem Fl{d:RD}{kk:Nat}{A Al A3:Option Addr}{n c nl cl n3 c3:Nat}{p:List UInt8}(hl:d.seen.length=n)(ok:yi d kk)(hkk:kk≤100000):ck Tryz.prog 91 [.agg (rv d A n c Al nl cl A3 n3 c3).toArray,.string (strOf p)] [] [dr 2 A n (fc d.seen)] (fun v_ X_ S_=>v_=(.tuple #[.string (strOf (d.cF p)),.int .i64 (d.cj p)])∧X_=[]∧S_=[]):=by
 have hk1:=ok.seen
 refine aP (N:=22) Tryz.func91 rfl rfl (by simp) fun b=> ?_
 refine aY (fun m=>gE (m.rd 0 rfl)) ?_
 rintro⟨hl_r,hA_r⟩
 refine ah<|aj<| ?_
 refine hx (cw rfl (fun g2=> ?_))
 refine aO (fun w m=>m.bQ 0 rfl (show _=aL g2 39 (rv d A n c Al nl cl A3 n3 c3)from congrArg (aL _ _) (bp _))) ?_
 refine hy (fun _=>ab rfl)<|hy (fun _=>ab rfl)<|ai<|ak (X' :=[_]) (S' :=[_]) (fun _ m=>m)<|ag<|ah<|aj<|hy (fun _=>aK rfl gr (by decide))<|hy (fun m=>ay rfl oO (aE (m.a6 0 rfl) (i:=1) rfl))<|hy (fun _=>aa rfl)<| ?_
 refine hx (aq rfl Tryz.call113 (vy (by omega) (by omega)) [] rfl [0] rfl ?_)
 rintro _ _ _ ⟨rfl,rfl,rfl⟩
 refine hy (fun _=>ab rfl)<|ai<|al (ρ' :=[(6,_),(5,_),(4,_),(2,_),(0,_),(1,_)]) ⟨rfl,rfl,rfl,rfl,rfl,rfl,trivial⟩<|ak (X' :=[_]) (S' :=[_]) (fun _ m=>m)<|ag<|ah<|ah<|aj<|hy (fun _=>aK rfl gW (by decide))<|hy (fun m=>ay rfl fS (aE (m.a6 0 rfl) (i:=4) rfl))<|hy (fun _=>cJ rfl rfl)<|ai<|al (ρ' :=[(13,_),(6,_),(5,_),(4,_),(2,_),(0,_),(1,_)]) ⟨rfl,rfl,rfl,rfl,rfl,rfl,rfl,trivial⟩<|ag<| ?_
 refine cD rfl (fun h0=> ?_) (fun h0=> ?_)
 ·have hE:d.cj p=6:=by rw[RD.cj,if_pos h0]
  have hB:d.cF p=[]:=by rw[RD.cF,if_pos h0]
  rw[hE,hB]
  refine ah<|aj<|hy (fun _=>ab rfl)<|hy (fun _=>ab rfl)<|ai<|ag<|aX<|aw<| ?_
  exact dF trivial rfl rfl rfl [] rfl [] rfl ⟨rfl,rfl,rfl⟩
 ·refine aD<|ag<|ah<|ah<|aj<|hy (fun _=>aa rfl)<|hy (fun _=>bq rfl rfl)<|ai<|al (ρ' :=[(15,_),(13,_),(6,_),(5,_),(4,_),(2,_),(0,_),(1,_)]) ⟨rfl,rfl,rfl,rfl,rfl,rfl,rfl,rfl,trivial⟩<|ag<| ?_
  refine cD rfl (fun h1=> ?_) (fun h1=> ?_)
  ·have hq:=iq.1 h1
   have hE:d.cj p=4:=by rw[RD.cj,if_neg h0,if_pos hq]
   have hB:d.cF p=[]:=by rw[RD.cF,if_neg h0,hq];rfl
   rw[hE,hB]
   refine ah<|aj<|hy (fun _=>ab rfl)<|hy (fun _=>ab rfl)<|ai<|ag<|aX<|aw<| ?_
   exact dF trivial rfl rfl rfl [] rfl [] rfl ⟨rfl,rfl,rfl⟩
  ·obtain⟨x0,hfx⟩:∃x0,d.seen[cE d.seen p]? =some x0:=by
    cases hq:d.seen[cE d.seen p]? with
    |none=>exact absurd (iq.2 hq) h1
    |some x0=>exact⟨x0,rfl⟩
   have hfl:cE d.seen p<d.seen.length:=(List.getElem?_eq_some_iff.1 hfx).1
   obtain⟨f0,f1⟩:=iK d.seen _ x0 hfx
   have hfi:kW d.seen p=(cE d.seen p:Nat):=by rw[kW,if_pos hfl]
   have hE:d.cj p=0:=by rw[RD.cj,if_neg h0,if_neg (by rw[hfx];exact fun e=>by cases e)]
   have hB:d.cF p=x0.2:=by rw[RD.cF,if_neg h0,hfx];rfl
   rw[hE,hB]
   refine aD<|ag<|ah<|aj<|hy (fun _=>aK rfl gr (by decide))<|hy (fun m=>ay rfl oO (aE (m.a6 0 rfl) (i:=1) rfl))<|hy (fun _=>aa rfl)<|hy (fun _=>cq rfl rfl Tryz.underlying36 eQ hA_r hfi.symm (by omega))<|hy (fun _=>aK rfl oW (by decide))<|hy (fun m=>yV (ay rfl lF (fb (m.rd 0 rfl) f1)) ((rfl:_=Value.string (strOf x0.2))))<|hy (fun _=>ab rfl)<|hy (fun _=>ab rfl)<|ai<|al (ρ' :=[(5,_),(4,_),(15,_),(13,_),(6,_),(2,_),(0,_),(1,_)]) ⟨rfl,rfl,rfl,rfl,rfl,rfl,rfl,rfl,trivial⟩<|ag<|aX<| ?_
   exact dF trivial rfl rfl rfl [] rfl [] rfl ⟨rfl,rfl,rfl⟩
end Go.Proofs.YtmibdabdlgmafaaGreatDoor
end
section
set_option maxRecDepth 20000
namespace Go.Proofs.YtmibdabdlgmafaaGreatDoor
open Go.Eng Go.Hx
def cN.nh(st:cN)(n:Int):cN:={st with bY:=max n (-1)}
theorem Et{g:Nat}{st:cN}{n:Int}:ck Tryz.prog 57 [.pointer (some ⟨g,0,none⟩),.int .i64 n] [bs g st] [] (fun v_ X_ S_=>v_=(.tuple #[])∧X_=[bs g (st.nh n)]∧S_=[]):=by
 refine aP (N:=9) Tryz.func57 rfl rfl (by simp) fun b=> ?_
 refine bx (fun w m=>(m.perm (au [0] _ [_] _ rfl)).unpack) ?_
 refine aj<|hy (fun _=>aa rfl)<|hy (fun _=>aa rfl)<|hy (fun _=>Dz rfl rfl)<|hy (fun _=>bd rfl)<|hy (fun _=>aK rfl mO (by decide))<| ?_
 refine cL (cG 0 rfl rfl rfl s8 rfl (by first|exact Nat.le_of_ble_eq_true rfl|simp) ?_)
 refine ai<|al (ρ' :=[(0,_),(1,_)]) ⟨rfl,rfl,trivial⟩<|ak (X' :=[_,_,_,_,_]) (S' :=[]) (fun _ m=>m)<| ?_
 refine ak (fun w m=>m.bQ 0 rfl (show _=aL g 177 (iV (st.nh n))from by simp[iV,cN.nh])) ?_
 refine ak (X' :=bs g (st.nh n)::_) (fun w m=>(m.perm (au [0,0,0,0,0] _ [_,_,_,_,_] _ rfl)).pack) ?_
 exact fO trivial rfl [0] rfl [] rfl ⟨rfl,rfl,rfl⟩
theorem ED{g:Nat}{st:cN}:ck Tryz.prog 60 [.pointer (some ⟨g,0,none⟩)] [bs g st] [] (fun v_ X_ S_=>v_=(.int .i64 (st.waits.length:Nat))∧X_=[bs g st]∧S_=[]):=by
 refine aP (N:=8) Tryz.func60 rfl rfl (by simp) fun b=> ?_
 refine bx (fun w m=>(m.perm (au [0] _ [_] _ rfl)).unpack) ?_
 refine ah<|aj<|hy (fun _=>ab rfl)<|ai<|ag<|ah<|aj<|hy (fun _=>aa rfl)<|hy (fun _=>bd rfl)<|hy (fun _=>aK rfl jh (by decide))<|hy (fun m=>ay rfl vL (aE (m.a6 0 rfl) rfl))<|hy (fun _=>aS rfl Tryz.underlying175)<|hy (fun _=>ab rfl)<|ai<|al (ρ' :=[(2,_),(0,_)]) ⟨rfl,rfl,trivial⟩<|ag<|aX<| ?_
 refine ak (X' :=bs g st::_) (fun w m=>(m.perm (au [0,0,0,0,0] _ [_,_,_,_,_] _ rfl)).pack) ?_
 exact bg trivial rfl rfl [0] rfl [] rfl ⟨rfl,rfl,rfl⟩
theorem Ea:ck Tryz.prog 258 [.slice none 0 0,.int .i64 0,.int .i64 0] [] [] (fun v_ X_ S_=>v_=(.tuple #[])∧X_=[]∧S_=[]):=by
 refine aP (N:=49) Tryz.func258 rfl rfl (by simp) fun b=> ?_
 refine ah<|aj<|hy (fun _=>aa rfl)<|hy (fun _=>aM rfl rfl (bG (by omega) (by omega)))<|hy (fun _=>ab rfl)<|ai<|al (ρ' :=[(6,_),(0,_),(1,_),(2,_)]) ⟨rfl,rfl,rfl,rfl,trivial⟩<|ag<|aI<| ?_
 refine dx (fun u=>0) (fun u=>[(6,.int .i64 1)]) (fun u=>[]) (fun u=>[]) (fun u=>u=0) 0 [(0,_),(1,_),(2,_)] ⟨rfl,rfl,rfl,trivial⟩ [] rfl [] rfl (rfl) ⟨rfl,trivial⟩ (fun u hI=> ?_)
 refine ah<|ah<|aj<|hy (fun _=>aa rfl)<|hy (fun _=>aa rfl)<|hy (fun _=>bq rfl rfl)<|ai<|al (ρ' :=[(12,_),(6,_),(0,_),(1,_),(2,_)]) ⟨rfl,rfl,rfl,rfl,rfl,trivial⟩<|ag<| ?_
 refine dB rfl (rfl) ?_
 refine bJ<|ao<|ao<|aB<| ?_
 exact fO trivial rfl [] rfl [] rfl ⟨rfl,rfl,rfl⟩
theorem zj:ck Tryz.prog 255 [.int .u64 0] [] [] (fun v_ X_ S_=>v_=(.int .i64 0)∧X_=[]∧S_=[]):=by
 refine aP (N:=25) Tryz.func255 rfl rfl (by simp) fun b=> ?_
 refine ah<|aj<|hy (fun _=>ab rfl)<|ai<|ag<|ah<|ah<|aj<|hy (fun _=>aa rfl)<|hy (fun _=>iP rfl rfl)<|ai<|al (ρ' :=[(4,_),(2,_),(0,_)]) ⟨rfl,rfl,rfl,trivial⟩<|ag<| ?_
 refine dB rfl (rfl) ?_
 refine aD<|ag<|ah<|ah<|aj<|hy (fun _=>aa rfl)<|hy (fun _=>iP rfl rfl)<|ai<|al (ρ' :=[(8,_),(4,_),(2,_),(0,_)]) ⟨rfl,rfl,rfl,rfl,trivial⟩<|ag<| ?_
 refine dB rfl (rfl) ?_
 refine aD<|ag<|ah<|ah<|aj<|hy (fun _=>aa rfl)<|hy (fun _=>iP rfl rfl)<|ai<|al (ρ' :=[(14,_),(8,_),(4,_),(2,_),(0,_)]) ⟨rfl,rfl,rfl,rfl,rfl,trivial⟩<|ag<| ?_
 refine dB rfl (rfl) ?_
 refine aD<|ag<|ah<|aj<|hy (fun _=>aa rfl)<|hy (fun _=>aa rfl)<|hy (fun _=>bX rfl Tryz.underlying310 Tryz.underlying5 (show IntKind.u8.wrap 0=0 from rfl))<|hy (fun _=>eT rfl rfl Tryz.underlying9 (show((0:Nat):Int)=0 from rfl) (show _=some (0:UInt8)from rfl))<|hy (fun _=>bX rfl Tryz.underlying5 Tryz.underlying3 (show IntKind.i64.wrap ((0:UInt8).toNat:Int)=0 from rfl))<|hy (fun _=>aM rfl rfl (bG (by omega) (by omega)))<|hy (fun _=>ab rfl)<|ai<|al (ρ' :=[(2,_),(14,_),(8,_),(4,_),(0,_)]) ⟨rfl,rfl,rfl,rfl,rfl,trivial⟩<|ag<|aX<| ?_
 exact bg trivial rfl rfl [] rfl [] rfl ⟨rfl,rfl,rfl⟩
theorem DJ:ck Tryz.prog 207 [.int .u64 0] [] [] (fun v_ X_ S_=>v_=(.int .i64 0)∧X_=[]∧S_=[]):=by
 refine aP (N:=8) Tryz.func207 rfl rfl (by simp) fun b=> ?_
 refine ah<|aj<|hy (fun _=>ab rfl)<|ai<|ag<|ah<| ?_
 refine dB rfl (rfl) ?_
 refine aD<|ag<|ah<|aj<|hy (fun _=>aa rfl)<| ?_
 refine hx (aq rfl Tryz.call255 (zj) [] rfl [] rfl ?_)
 rintro _ _ _ ⟨rfl,rfl,rfl⟩
 refine hy (fun _=>ab rfl)<|ai<|al (ρ' :=[(2,_),(0,_)]) ⟨rfl,rfl,trivial⟩<|ak (X' :=[]) (S' :=[]) (fun _ m=>m)<|ag<|aX<| ?_
 exact bg trivial rfl rfl [] rfl [] rfl ⟨rfl,rfl,rfl⟩
theorem D6:ck Tryz.prog 223 [.slice none 0 0,.int .i64 0,.int .i64 0,.int .i64 0] [] [] (fun v_ X_ S_=>v_=(.tuple #[])∧X_=[]∧S_=[]):=by
 refine aP (N:=134) Tryz.func223 rfl rfl (by simp) fun b=> ?_
 refine ah<|aj<|hy (fun _=>ab rfl)<|ai<|ag<|ah<|aj<|hy (fun _=>ab rfl)<|ai<|ag<|aI<| ?_
 refine dx (fun u=>0) (fun u=>[(1,.int .i64 0),(2,.int .i64 0)]) (fun u=>[]) (fun u=>[]) (fun u=>u=0) 0 [(0,_)] ⟨rfl,trivial⟩ [] rfl [] rfl (rfl) ⟨rfl,rfl,trivial⟩ (fun u hI=> ?_)
 refine aI<|ah<|aj<|hy (fun _=>aa rfl)<|hy (fun _=>aa rfl)<|hy (fun _=>cn rfl rfl (bG (by omega) (by omega)))<|hy (fun _=>ab rfl)<|ai<|al (ρ' :=[(10,_),(1,_),(2,_),(0,_)]) ⟨rfl,rfl,rfl,rfl,trivial⟩<|ag<|ah<|ah<|aj<|hy (fun _=>aa rfl)<|hy (fun _=>oD rfl rfl)<|ai<|al (ρ' :=[(23,_),(10,_),(1,_),(2,_),(0,_)]) ⟨rfl,rfl,rfl,rfl,rfl,trivial⟩<|ag<| ?_
 refine ia rfl (rfl) ?_
 refine ah<|aj<|hy (fun _=>aa rfl)<|hy (fun _=>aa rfl)<|hy (fun _=>aa rfl)<| ?_
 refine hx (aq rfl Tryz.call258 (Ea) [] rfl [] rfl ?_)
 rintro _ _ _ ⟨rfl,rfl,rfl⟩
 refine ai<|al (ρ' :=[(23,_),(10,_),(1,_),(2,_),(0,_)]) ⟨rfl,rfl,rfl,rfl,rfl,trivial⟩<|ak (X' :=[]) (S' :=[]) (fun _ m=>m)<|ag<|aX<|aw<|a8<|aw<|a8<| ?_
 exact fO trivial rfl [] rfl [] rfl ⟨rfl,rfl,rfl⟩
theorem CT:ck Tryz.prog 165 [.slice none 0 0] [] [] (fun v_ X_ S_=>v_=(.tuple #[])∧X_=[]∧S_=[]):=by
 refine aP (N:=11) Tryz.func165 rfl rfl (by simp) fun b=> ?_
 refine ah<|aj<|hy (fun _=>aa rfl)<|hy (fun _=>aS rfl Tryz.underlying152)<|hy (fun _=>ab rfl)<|ai<|al (ρ' :=[(2,_),(0,_)]) ⟨rfl,rfl,trivial⟩<|ag<|aj<|hy (fun _=>aa rfl)<|hy (fun _=>aa rfl)<|hy (fun _=>aa rfl)<|hy (fun _=>bX rfl Tryz.underlying3 Tryz.underlying263 rfl)<| ?_
 refine hx (aq rfl Tryz.call207 (DJ) [] rfl [] rfl ?_)
 rintro _ _ _ ⟨rfl,rfl,rfl⟩
 refine hx (aq rfl Tryz.call223 (D6) [] rfl [] rfl ?_)
 rintro _ _ _ ⟨rfl,rfl,rfl⟩
 refine ai<|al (ρ' :=[(2,_),(0,_)]) ⟨rfl,rfl,trivial⟩<|ak (X' :=[]) (S' :=[]) (fun _ m=>m)<| ?_
 exact fO trivial rfl [] rfl [] rfl ⟨rfl,rfl,rfl⟩
end Go.Proofs.YtmibdabdlgmafaaGreatDoor
end
section
set_option maxRecDepth 20000
namespace Go.Proofs.YtmibdabdlgmafaaGreatDoor
open Go.Eng Go.Hx
def sY(l:dK):gj→dK
 | .written p r=>c9 l p r
 | .renamed a c=>match cm l a with
  |none=>l
  |some r=>c9 (eO l a) c r
 | .removed p=>eO l p
theorem D5{g:Nat}{l:dK}{a c:List UInt8}:ck Tryz.prog 337 [.agg [SV a,SV c].toArray,.map (some g)] [dC SV g (dX l)] [] (fun v_ X_ S_=>v_=(.tuple #[])∧X_=[dC SV g (dX (sY l (.renamed a c)))]∧S_=[]):=by
 refine aP (N:=21) Tryz.func337 rfl rfl (by simp) fun b=> ?_
 refine ah<|aj<| ?_
 refine hx (cw rfl (fun g2=> ?_))
 refine aO (fun w m=>m.bQ 0 rfl (show _=aL g2 257 [SV a,SV c]from congrArg (aL _ _) (bp _))) ?_
 rcases pC (l:=l) a with⟨h1,h2⟩|⟨r,h1,h2⟩
 ·refine ai<|ak (X' :=[_,_]) (S' :=[]) (fun _ m=>m)<|ag<|ah<|aj<|hy (fun _=>aa rfl)<|hy (fun _=>aK rfl sE (by decide))<|hy (fun m=>ay rfl lF (aE (m.a6 0 rfl) (i:=0) rfl))<|hy (fun m=>yV (kb (enc:=SV) rfl rfl Tryz.underlying174 tB (ki Tryz.underlying9) (m.qy 1 rfl)) ((show ig true (.slice none 0 0) (cm (dX l) a)= .tuple #[.slice none 0 0,.bool false] by rw[h2];rfl)))<|hy (fun _=>aa rfl)<|hy (fun _=>ar rfl rfl)<|hy (fun _=>ar rfl rfl)<|hy (fun _=>ab rfl)<|hy (fun _=>ab rfl)<|ai<|al (ρ' :=[(5,_),(4,_),(2,_),(0,_),(1,_)]) ⟨rfl,rfl,rfl,rfl,rfl,trivial⟩<|ag<|ah<|aj<|hy (fun _=>aa rfl)<|ai<|ag<| ?_
  refine dB rfl (rfl) ?_
  refine aD<| ?_
  have e:sY l (.renamed a c)=l:=by rw[sY,h1]
  rw[e]
  exact fO trivial rfl [1] rfl [] rfl ⟨rfl,rfl,rfl⟩
 ·refine ai<|ag<|ah<|aj<|hy (fun _=>aa rfl)<|hy (fun _=>aK rfl sE (by decide))<|hy (fun m=>ay rfl lF (aE (m.a6 0 rfl) rfl))<|hy (fun m=>yV (kb (enc:=SV) rfl rfl Tryz.underlying174 tB (ki Tryz.underlying9) (m.qy 1 rfl)) ((show ig true (.slice none 0 0) (cm (dX l) a)= .tuple #[r.val,.bool true] by rw[h2];rfl)))<|hy (fun _=>aa rfl)<|hy (fun _=>ar rfl rfl)<|hy (fun _=>ar rfl rfl)<|hy (fun _=>ab rfl)<|hy (fun _=>ab rfl)<|ai<|al (ρ' :=[(5,_),(4,_),(2,_),(0,_),(1,_)]) ⟨rfl,rfl,rfl,rfl,rfl,trivial⟩<|ag<|ah<|aj<|hy (fun _=>aa rfl)<|ai<|ag<| ?_
  refine ia rfl (rfl) ?_
  refine ah<|aj<|hy (fun _=>aa rfl)<|hy (fun _=>aK rfl sE (by decide))<|hy (fun m=>ay rfl lF (aE (m.a6 0 rfl) (i:=0) rfl))<| ?_
  refine cL (nO (enc:=SV) 1 rfl rfl rfl Tryz.underlying174 (ki Tryz.underlying9) ?_)
  refine ai<|al (ρ' :=[(13,_),(5,_),(4,_),(2,_),(0,_),(1,_)]) ⟨rfl,rfl,rfl,rfl,rfl,rfl,trivial⟩<|ak (X' :=[_,_]) (S' :=[]) (fun _ m=>m)<|ag<|aj<|hy (fun _=>aa rfl)<|hy (fun _=>aK rfl CW (by decide))<|hy (fun m=>ay rfl lF (aE (m.a6 1 rfl) (i:=1) rfl))<|hy (fun _=>aa rfl)<| ?_
  refine cL (qc (enc:=SV) 0 rfl rfl rfl rfl Tryz.underlying174 (ki Tryz.underlying9) ?_)
  refine ai<|al (ρ' :=[(13,_),(5,_),(4,_),(2,_),(0,_),(1,_)]) ⟨rfl,rfl,rfl,rfl,rfl,rfl,trivial⟩<|ak (X' :=[_,_]) (S' :=[]) (fun _ m=>m)<| ?_
  have e:c9 (eO (dX l) a) c r.val=dX (sY l (.renamed a c)):=by rw[sY,h1,qA,pR]
  refine ak (fun w m=>m.bQ 0 rfl (show _=dC SV g (dX (sY l (.renamed a c)))from congrArg (dC SV g) e)) ?_
  exact fO trivial rfl [0] rfl [] rfl ⟨rfl,rfl,rfl⟩
theorem EZ{g:Nat}{l:dK}{p:List UInt8}:ck Tryz.prog 335 [.agg [SV p].toArray,.map (some g)] [dC SV g (dX l)] [] (fun v_ X_ S_=>v_=(.tuple #[])∧X_=[dC SV g (dX (sY l (.removed p)))]∧S_=[]):=by
 refine aP (N:=7) Tryz.func335 rfl rfl (by simp) fun b=> ?_
 refine ah<|aj<| ?_
 refine hx (cw rfl (fun g2=> ?_))
 refine aO (fun w m=>m.bQ 0 rfl (show _=aL g2 237 [SV p]from congrArg (aL _ _) (bp _))) ?_
 refine ai<|ak (X' :=[_,_]) (S' :=[]) (fun _ m=>m)<|ag<|aj<|hy (fun _=>aa rfl)<|hy (fun _=>aK rfl Cc (by decide))<|hy (fun m=>ay rfl lF (aE (m.a6 0 rfl) (i:=0) rfl))<| ?_
 refine cL (nO (enc:=SV) 1 rfl rfl rfl Tryz.underlying174 (ki Tryz.underlying9) ?_)
 refine ai<|al (ρ' :=[(2,_),(0,_),(1,_)]) ⟨rfl,rfl,rfl,trivial⟩<|ak (X' :=[_,_]) (S' :=[]) (fun _ m=>m)<| ?_
 rw[qA]
 exact fO trivial rfl [0] rfl [] rfl ⟨rfl,rfl,rfl⟩
def cN.gA(st:cN)(c:gj)(A:Option Addr)(k:Nat):cN:={st.eP with seen:=sY st.seen c,waits:=st.waits++[c],wA:=A,wc:=k}
theorem nQ{l:dK}{p:List UInt8}{x:fK}(h:x∈(eO l p).map (·.2)):x∈l.map (·.2):=by
 induction l with
 |nil=>exact h
 |cons a q ih=>
  obtain⟨k,u⟩:=a
  simp only[eO]at h
  split at h
  ·exact List.mem_cons_of_mem _ h
  ·simp only[List.map_cons,List.mem_cons]at h ⊢
   rcases h with rfl|h
   ·exact .inl rfl
   ·exact .inr (ih h)
theorem yY{l:dK}{c:gj}(hc:c.row=none){x:fK}(h:x∈(sY l c).map (·.2)):x∈l.map (·.2):=by
 cases c with
 |written p r=>cases hc
 |renamed a b=>
  simp only[sY]at h
  split at h
  ·exact h
  ·rename_i r hr
   rcases nH h with h|h
   ·exact nQ h
   ·exact h▸List.mem_map.2 ⟨_,jX hr,rfl⟩
 |removed p=>exact nQ h
theorem Da(l:dK)(c:gj):(sY l c).length≤l.length+1:=by
 cases c with
 |written p r=>exact qn l p r
 |renamed a b=>
  simp only[sY]
  split
  ·omega
  ·rename_i r hr
   have h1:=qn (eO l a) b r
   have h2:=uv l a
   omega
 |removed p=>have h2:=uv l p;show(eO l p).length≤_;omega
theorem pg{st:cN}{c:gj}{A:Option Addr}{k:Nat}(hc:c.row=none):∀x∈rowsOf (st.gA c A k),x∈rowsOf st:=by
 intro x hx
 unfold rowsOf cN.gA at hx
 simp only[cN.eP,List.mem_append,List.filterMap_append]at hx
 unfold rowsOf
 simp only[List.mem_append]
 rcases hx with(h|h)|h|h
 ·exact .inl (.inl (yY hc h))
 ·exact .inl (.inr h)
 ·exact .inr h
 ·simp[hc]at h
theorem oQ.gA{st:cN}{k:Nat}(h:oQ st k){c:gj}(hc:c.row=none)(A:Option Addr)(j:Nat):oQ (st.gA c A j) (k+1):=by
 refine⟨kK h.bY,h.room, ?_, ?_,fun x hx=>h.small x (pg hc x hx)⟩
 ·have:=Da st.seen c
  have:=h.seen
  show(sY st.seen c).length≤k+1
  omega
 ·have:=h.rest
  show st.cO.length+(st.waits++[c]).length≤k+1
  simp only[List.length_append,List.length_cons,List.length_nil]
  omega
theorem Hs{g:Nat}{st:cN}{a c:List UInt8}(hp:st.bY≤1000000000000)(hw:st.waits.length≤1000000):ck Tryz.prog 116 [.pointer (some ⟨g,0,none⟩),(gj.renamed a c).val] [bs g st] [] (fun v_ X_ S_=>∃A k,v_=(.tuple #[])∧X_=[bs g (st.gA (.renamed a c) A k)]∧S_=[]):=by
 have hsw:st.eP.waits.length=st.waits.length:=rfl
 refine aP (N:=25) Tryz.func116 rfl rfl (by simp) fun b=> ?_
 refine ah<|aj<|hy (fun _=>aa rfl)<| ?_
 refine hx (aq rfl Tryz.call181 (sA (by omega)) [0] rfl [] rfl ?_)
 rintro _ _ _ ⟨rfl,rfl,rfl⟩
 refine aO (fun w m=>(m.perm (au [0] _ [_] _ rfl)).unpack) ?_
 refine ai<|al (ρ' :=[(0,_),(1,_)]) ⟨rfl,rfl,trivial⟩<|ak (X' :=[_,_,_,_,_]) (S' :=[]) (fun _ m=>m)<|ag<|ah<|c5 [8] [(0,some 0),(1,some 0),(2,some 0),(3,some 0),(4,some 0),(5,some 0),(6,some 0),(7,some 0),(8,none)] (by kernel_rfl) (by kernel_rfl) rfl 0<|an (aa rfl)<|an (aa rfl)<|an (bd rfl)<|an (aK rfl ic (by decide))<|cr (fun m=>ay rfl nk (aE (m.a6 0 rfl) rfl))<|an (kD rfl rfl)<|an (u7 rfl (by kernel_rfl))<|an (aa rfl)<| ?_
 refine ew (vx rfl rfl (fun w=>by kernel_rfl) Tryz.call337 (D5) [1] rfl [] rfl ?_)
 rintro _ _ _ ⟨rfl,rfl,rfl⟩
 refine⟨(fun h=>absurd h (by decide)), ?_⟩
 refine bD<|al (ρ' :=[(0,_),(1,_)]) ⟨rfl,rfl,trivial⟩<|ak (X' :=[_,_,_,_,_]) (S' :=[]) (fun _ m=>m)<|ag<|aj<|hy (fun _=>aa rfl)<|hy (fun _=>aa rfl)<|hy (fun _=>bd rfl)<|hy (fun _=>aK rfl jh (by decide))<|hy (fun m=>ay rfl vL (aE (m.a6 1 rfl) rfl))<|hy (fun _=>aa rfl)<| ?_
 refine hx (b5 Tryz.underlying175 rS rfl rfl rfl (by simp[Value.cells,gj.val]) (by decide) (by decide) (fun g21=> ?_))
 have hA_b21:0<1→(some (⟨g21,0,none⟩:Addr))≠none:=fun _ h=>by cases h
 refine aO (fun w m=>m.bQ 0 rfl (show _=aG 232 1 (.slice (some ⟨g21,0,none⟩) 1 1) 1 [((gj.renamed a c)).val]from rfl)) ?_
 refine hx (bu 4 rfl rfl rfl Tryz.underlying175 Tryz.underlying175 (by exact .inl rfl) rS rfl (fun m=>Src.bP (m.ord 0 rfl)) (by simp[gj.val,Value.oneCell']) (by unfold maxLen;omega) (by omega) (fun u=> ?_))
 refine aA (fun m=>(m.own 0 rfl).slice) ?_
 rintro⟨A_d3,c_d3,rfl,hc_d3⟩
 refine aA (fun m=>(m.ord 0 rfl).2.1) fun hA_d3=> ?_
 refine hy (fun _=>bd rfl)<|hy (fun _=>aK rfl jh (by decide))<| ?_
 refine cL (cG 3 rfl rfl rfl vX rfl (by first|exact Nat.le_of_ble_eq_true rfl|simp) ?_)
 refine ai<|al (ρ' :=[(0,_),(1,_)]) ⟨rfl,rfl,trivial⟩<|ak (X' :=[_,_,_,_,_,_]) (S' :=[]) (fun _ m=>m)<| ?_
 refine ak (fun w m=>m.bQ 0 rfl (show _=aL g 177 (iV (st.gA ((gj.renamed a c)) A_d3 c_d3))from by simp[iV,cN.gA,cN.eP])) ?_
 refine ak (fun w m=>m.bQ 3 rfl (show _=dC SV st.gs (dX (st.gA ((gj.renamed a c)) A_d3 c_d3).seen)from rfl)) ?_
 refine ak (fun w m=>m.bQ 2 rfl (show _=aG 232 1 (.slice A_d3 (st.gA ((gj.renamed a c)) A_d3 c_d3).waits.length c_d3) (st.gA ((gj.renamed a c)) A_d3 c_d3).waits.length ((st.gA ((gj.renamed a c)) A_d3 c_d3).waits.map gj.val)from by simp[cN.gA,cN.eP])) ?_
 refine ak (X' :=jb (rowsOf (st.gA ((gj.renamed a c)) A_d3 c_d3))::_) (fun w m=>(m.perm (au [5] _ [_] _ rfl)).vE ((pg rfl))) ?_
 refine ak (X' :=bs g (st.gA ((gj.renamed a c)) A_d3 c_d3)::_) (fun w m=>(m.perm (au [3,2,3,1,0] _ [_,_,_,_,_] _ rfl)).pack) ?_
 exact fO trivial rfl [0] rfl [] rfl ⟨_,_,rfl,rfl,rfl⟩
theorem G9{g:Nat}{st:cN}{p:List UInt8}(hp:st.bY≤1000000000000)(hw:st.waits.length≤1000000):ck Tryz.prog 116 [.pointer (some ⟨g,0,none⟩),(gj.removed p).val] [bs g st] [] (fun v_ X_ S_=>∃A k,v_=(.tuple #[])∧X_=[bs g (st.gA (.removed p) A k)]∧S_=[]):=by
 have hsw:st.eP.waits.length=st.waits.length:=rfl
 refine aP (N:=25) Tryz.func116 rfl rfl (by simp) fun b=> ?_
 refine ah<|aj<|hy (fun _=>aa rfl)<| ?_
 refine hx (aq rfl Tryz.call181 (sA (by omega)) [0] rfl [] rfl ?_)
 rintro _ _ _ ⟨rfl,rfl,rfl⟩
 refine aO (fun w m=>(m.perm (au [0] _ [_] _ rfl)).unpack) ?_
 refine ai<|al (ρ' :=[(0,_),(1,_)]) ⟨rfl,rfl,trivial⟩<|ak (X' :=[_,_,_,_,_]) (S' :=[]) (fun _ m=>m)<|ag<|ah<|c5 [8] [(0,some 0),(1,some 0),(2,some 0),(3,some 0),(4,some 0),(5,some 0),(6,some 0),(7,some 0),(8,none)] (by kernel_rfl) (by kernel_rfl) rfl 0<|an (aa rfl)<|an (aa rfl)<|an (bd rfl)<|an (aK rfl ic (by decide))<|cr (fun m=>ay rfl nk (aE (m.a6 0 rfl) rfl))<|an (kD rfl rfl)<|an (u7 rfl (by kernel_rfl))<|an (aa rfl)<| ?_
 refine ew (vx rfl rfl (fun w=>by kernel_rfl) Tryz.call335 (EZ) [1] rfl [] rfl ?_)
 rintro _ _ _ ⟨rfl,rfl,rfl⟩
 refine⟨(fun h=>absurd h (by decide)), ?_⟩
 refine bD<|al (ρ' :=[(0,_),(1,_)]) ⟨rfl,rfl,trivial⟩<|ak (X' :=[_,_,_,_,_]) (S' :=[]) (fun _ m=>m)<|ag<|aj<|hy (fun _=>aa rfl)<|hy (fun _=>aa rfl)<|hy (fun _=>bd rfl)<|hy (fun _=>aK rfl jh (by decide))<|hy (fun m=>ay rfl vL (aE (m.a6 1 rfl) rfl))<|hy (fun _=>aa rfl)<| ?_
 refine hx (b5 Tryz.underlying175 rS rfl rfl rfl (by simp[Value.cells,gj.val]) (by decide) (by decide) (fun g21=> ?_))
 have hA_b21:0<1→(some (⟨g21,0,none⟩:Addr))≠none:=fun _ h=>by cases h
 refine aO (fun w m=>m.bQ 0 rfl (show _=aG 232 1 (.slice (some ⟨g21,0,none⟩) 1 1) 1 [((gj.removed p)).val]from rfl)) ?_
 refine hx (bu 4 rfl rfl rfl Tryz.underlying175 Tryz.underlying175 (by exact .inl rfl) rS rfl (fun m=>Src.bP (m.ord 0 rfl)) (by simp[gj.val,Value.oneCell']) (by unfold maxLen;omega) (by omega) (fun u=> ?_))
 refine aA (fun m=>(m.own 0 rfl).slice) ?_
 rintro⟨A_d3,c_d3,rfl,hc_d3⟩
 refine aA (fun m=>(m.ord 0 rfl).2.1) fun hA_d3=> ?_
 refine hy (fun _=>bd rfl)<|hy (fun _=>aK rfl jh (by decide))<| ?_
 refine cL (cG 3 rfl rfl rfl vX rfl (by first|exact Nat.le_of_ble_eq_true rfl|simp) ?_)
 refine ai<|al (ρ' :=[(0,_),(1,_)]) ⟨rfl,rfl,trivial⟩<|ak (X' :=[_,_,_,_,_,_]) (S' :=[]) (fun _ m=>m)<| ?_
 refine ak (fun w m=>m.bQ 0 rfl (show _=aL g 177 (iV (st.gA ((gj.removed p)) A_d3 c_d3))from by simp[iV,cN.gA,cN.eP])) ?_
 refine ak (fun w m=>m.bQ 3 rfl (show _=dC SV st.gs (dX (st.gA ((gj.removed p)) A_d3 c_d3).seen)from rfl)) ?_
 refine ak (fun w m=>m.bQ 2 rfl (show _=aG 232 1 (.slice A_d3 (st.gA ((gj.removed p)) A_d3 c_d3).waits.length c_d3) (st.gA ((gj.removed p)) A_d3 c_d3).waits.length ((st.gA ((gj.removed p)) A_d3 c_d3).waits.map gj.val)from by simp[cN.gA,cN.eP])) ?_
 refine ak (X' :=jb (rowsOf (st.gA ((gj.removed p)) A_d3 c_d3))::_) (fun w m=>(m.perm (au [5] _ [_] _ rfl)).vE ((pg rfl))) ?_
 refine ak (X' :=bs g (st.gA ((gj.removed p)) A_d3 c_d3)::_) (fun w m=>(m.perm (au [3,2,3,1,0] _ [_,_,_,_,_] _ rfl)).pack) ?_
 exact fO trivial rfl [0] rfl [] rfl ⟨_,_,rfl,rfl,rfl⟩
def b7(st:cN)(a c:List UInt8):Int:=if¬fV c then 1 else dP st a
theorem Cx{g:Nat}{st:cN}{a c:List UInt8}{k:Nat}(ok:oQ st k)(hk:k≤100000):ck Tryz.prog 108 [.pointer (some ⟨g,0,none⟩),.string (strOf a),.string (strOf c)] [bs g st] [] (fun v_ X_ S_=>∃st1 A j,v_=(.int .i64 (b7 st a c))∧X_=[bs g st1]∧S_=[]∧((b7 st a c≠0∧st1=st)∨(b7 st a c=0∧st1=st.gA (.renamed a c) A j))):=by
 have hp:=ok.bY
 have hw:st.waits.length≤1000000:=by have:=ok.rest;omega
 refine aP (N:=23) Tryz.func108 rfl rfl (by simp) fun b=> ?_
 refine ah<|aj<|hy (fun _=>ab rfl)<|ai<|ag<|ah<|ah<|aj<|hy (fun _=>aa rfl)<| ?_
 refine hx (aq rfl Tryz.call115 (AJ) [] rfl [] rfl ?_)
 rintro _ _ _ ⟨rfl,rfl,rfl⟩
 refine hy (fun _=>kf rfl)<|ai<|al (ρ' :=[(10,_),(6,_),(0,_),(1,_),(2,_)]) ⟨rfl,rfl,rfl,rfl,rfl,trivial⟩<|ak (X' :=[_]) (S' :=[]) (fun _ m=>m)<|ag<| ?_
 refine cD rfl (fun h1=> ?_) (fun h1=> ?_)
 ·have e:b7 st a c=1:=by rw[b7,if_pos h1]
  rw[e]
  refine ah<|aj<|hy (fun _=>ab rfl)<|ai<|ag<|aX<|aw<| ?_
  exact bg trivial rfl rfl [0] rfl [] rfl ⟨_,none,0,rfl,rfl,rfl,.inl ⟨by decide,rfl⟩⟩
 ·have e:b7 st a c=dP st a:=by rw[b7,if_neg h1]
  rw[e]
  refine aD<|ag<|ah<|ah<|aj<|hy (fun _=>aa rfl)<|hy (fun _=>aa rfl)<| ?_
  refine hx (aq rfl Tryz.call158 (va) [0] rfl [] rfl ?_)
  rintro _ _ _ ⟨rfl,rfl,rfl⟩
  refine hy (fun _=>ab rfl)<|ai<|al (ρ' :=[(7,_),(10,_),(6,_),(0,_),(1,_),(2,_)]) ⟨rfl,rfl,rfl,rfl,rfl,rfl,trivial⟩<|ak (X' :=[_]) (S' :=[]) (fun _ m=>m)<|ag<|ah<|aj<|hy (fun _=>aa rfl)<|hy (fun _=>db rfl rfl)<|ai<|al (ρ' :=[(15,_),(7,_),(10,_),(6,_),(0,_),(1,_),(2,_)]) ⟨rfl,rfl,rfl,rfl,rfl,rfl,rfl,trivial⟩<|ag<| ?_
  refine cD rfl (fun h2=> ?_) (fun h2=> ?_)
  ·refine ah<|aj<|hy (fun _=>aa rfl)<|hy (fun _=>ab rfl)<|ai<|al (ρ' :=[(6,_),(15,_),(7,_),(10,_),(0,_),(1,_),(2,_)]) ⟨rfl,rfl,rfl,rfl,rfl,rfl,rfl,trivial⟩<|ag<|aX<|aw<| ?_
   exact bg trivial rfl rfl [0] rfl [] rfl ⟨_,none,0,rfl,rfl,rfl,.inl ⟨h2,rfl⟩⟩
  ·have h0:=Decidable.not_not.1 h2
   rw[h0]
   refine aD<|ag<|ah<|aj<|hy (fun _=>aa rfl)<|hy (fun _=>aa rfl)<|hy (fun _=>aa rfl)<|hy (fun _=>yV (cC Gn rfl rfl (by kernel_rfl) (.cons (o:=0) (sz:=1) (by kernel_rfl) rfl rfl (Nat.le_of_ble_eq_true rfl) (.cons (o:=1) (sz:=1) (by kernel_rfl) rfl rfl (Nat.le_of_ble_eq_true rfl) .nil))) ((rfl:_=Value.agg [SV a,SV c].toArray)))<|hy (fun _=>yV (kU rfl Tryz.underlying257 (fun _ h=>by cases h)) ((rfl:_=(gj.renamed a c).val)))<| ?_
   refine hx (aq rfl Tryz.call116 (Hs (by omega) (by omega)) [0] rfl [] rfl ?_)
   rintro _ _ _ ⟨A,k2,rfl,rfl,rfl⟩
   refine ai<|al (ρ' :=[(15,_),(7,_),(10,_),(6,_),(0,_),(1,_),(2,_)]) ⟨rfl,rfl,rfl,rfl,rfl,rfl,rfl,trivial⟩<|ak (X' :=[_]) (S' :=[]) (fun _ m=>m)<|ag<|ah<|aj<|hy (fun _=>ab rfl)<|ai<|ag<|aX<| ?_
   exact bg trivial rfl rfl [0] rfl [] rfl ⟨_,_,_,rfl,rfl,rfl,.inr ⟨rfl,rfl⟩⟩
theorem Bx{g:Nat}{st:cN}{p:List UInt8}{k:Nat}(ok:oQ st k)(hk:k≤100000):ck Tryz.prog 79 [.pointer (some ⟨g,0,none⟩),.string (strOf p)] [bs g st] [] (fun v_ X_ S_=>∃st1 A j,v_=(.int .i64 (dP st p))∧X_=[bs g st1]∧S_=[]∧((dP st p≠0∧st1=st)∨(dP st p=0∧st1=st.gA (.removed p) A j))):=by
 have hp:=ok.bY
 have hw:st.waits.length≤1000000:=by have:=ok.rest;omega
 refine aP (N:=17) Tryz.func79 rfl rfl (by simp) fun b=> ?_
 refine ah<|aj<|hy (fun _=>ab rfl)<|ai<|ag<|ah<|ah<|aj<|hy (fun _=>aa rfl)<|hy (fun _=>aa rfl)<| ?_
 refine hx (aq rfl Tryz.call158 (va) [0] rfl [] rfl ?_)
 rintro _ _ _ ⟨rfl,rfl,rfl⟩
 refine hy (fun _=>ab rfl)<|ai<|al (ρ' :=[(5,_),(4,_),(0,_),(1,_)]) ⟨rfl,rfl,rfl,rfl,trivial⟩<|ak (X' :=[_]) (S' :=[]) (fun _ m=>m)<|ag<|ah<|aj<|hy (fun _=>aa rfl)<|hy (fun _=>db rfl rfl)<|ai<|al (ρ' :=[(10,_),(5,_),(4,_),(0,_),(1,_)]) ⟨rfl,rfl,rfl,rfl,rfl,trivial⟩<|ag<| ?_
 refine cD rfl (fun h2=> ?_) (fun h2=> ?_)
 ·refine ah<|aj<|hy (fun _=>aa rfl)<|hy (fun _=>ab rfl)<|ai<|al (ρ' :=[(4,_),(10,_),(5,_),(0,_),(1,_)]) ⟨rfl,rfl,rfl,rfl,rfl,trivial⟩<|ag<|aX<|aw<| ?_
  exact bg trivial rfl rfl [0] rfl [] rfl ⟨_,none,0,rfl,rfl,rfl,.inl ⟨h2,rfl⟩⟩
 ·have h0:=Decidable.not_not.1 h2
  rw[h0]
  refine aD<|ag<|ah<|aj<|hy (fun _=>aa rfl)<|hy (fun _=>aa rfl)<|hy (fun _=>yV (cC FE rfl rfl (by kernel_rfl) (.cons (o:=0) (sz:=1) (by kernel_rfl) rfl rfl (Nat.le_of_ble_eq_true rfl) .nil)) ((rfl:_=Value.agg [SV p].toArray)))<|hy (fun _=>yV (kU rfl Tryz.underlying237 (fun _ h=>by cases h)) ((rfl:_=(gj.removed p).val)))<| ?_
  refine hx (aq rfl Tryz.call116 (G9 (by omega) (by omega)) [0] rfl [] rfl ?_)
  rintro _ _ _ ⟨A,k2,rfl,rfl,rfl⟩
  refine ai<|al (ρ' :=[(10,_),(5,_),(4,_),(0,_),(1,_)]) ⟨rfl,rfl,rfl,rfl,rfl,trivial⟩<|ak (X' :=[_]) (S' :=[]) (fun _ m=>m)<|ag<|ah<|aj<|hy (fun _=>ab rfl)<|ai<|ag<|aX<| ?_
  exact bg trivial rfl rfl [0] rfl [] rfl ⟨_,_,_,rfl,rfl,rfl,.inr ⟨rfl,rfl⟩⟩
end Go.Proofs.YtmibdabdlgmafaaGreatDoor
end
section
namespace Go.Proofs.YtmibdabdlgmafaaGreatDoor
open Go.Eng Go.Hx
theorem DB:∀(x y:List UInt8),Op.bytesLess x y=decide (x<y)
 | [],[]=>by simp[Op.bytesLess]
 |_::_,[]=>by simp[Op.bytesLess]
 | [],_::_=>by simp[Op.bytesLess]
 |a::x,b::y=>by
  rw[Op.bytesLess,DB x y]
  simp only[List.cons_lt_cons_iff]
  by_cases h1:a<b <;> by_cases h2:a=b <;> by_cases h3:x<y <;> simp[h1,h2,h3]
theorem rK{a b:List UInt8}:nA a b=decide (a<b):=by
 unfold nA
 rw[DB,Lib.toList_data,Lib.toList_data]
 rfl
def ib:List FP→FP→List FP
 | [],f=>[f]
 |x::r,f=>if x.1<f.1 then x::ib r f else f::(x::r).filter fun y=>decide (y.1≠f.1)
theorem lK(f:FP):∀(l acc:List FP),l.foldl (iU f) (acc,true)=(acc++l.filter (fun y=>decide (y.1≠f.1)),true)
 | [],acc=>by simp
 |x::r,acc=>by
  rw[List.foldl_cons]
  by_cases h:x.1=f.1
  ·have:iU f (acc,true) x=(acc,true):=by simp[iU,h]
   rw[this,lK f r acc];simp[h]
  ·have:iU f (acc,true) x=(acc++[x],true):=by simp[iU,h]
   rw[this,lK f r (acc++[x])];simp[h]
def yR(f:FP)(st:List FP×Bool):List FP:=if st.2 then st.1 else st.1++[f]
theorem pj(f:FP):∀(l acc:List FP),yR f (l.foldl (iU f) (acc,false))=acc++ib l f
 | [],acc=>by simp[ib,yR]
 |x::r,acc=>by
  rw[List.foldl_cons]
  by_cases h:x.1<f.1
  ·have hne:x.1≠f.1:=fun e=>by rw[e]at h;exact List.lt_irrefl _ h
   have:iU f (acc,false) x=(acc++[x],false):=by simp[iU,rK,h,hne]
   rw[this,pj f r (acc++[x]),ib,if_pos h];simp
  ·have hs:nA x.1 f.1=false:=by rw[rK];simpa using h
   rw[ib,if_neg h]
   by_cases he:x.1=f.1
   ·have hs' :nA f.1 f.1=false:=he▸hs
    have:iU f (acc,false) x=(acc++[f],true):=by simp[iU,hs',he]
    rw[this,lK];simp[he,yR]
   ·have:iU f (acc,false) x=(acc++[f]++[x],true):=by simp[iU,hs,he]
    rw[this,lK];simp[he,yR]
theorem jM(l:List FP)(f:FP):gQ l f=ib l f:=by
 have:=pj f l []
 rw[List.nil_append]at this
 rw[←this]
 unfold gQ Cw yR
 rw[List.take_of_length_le (Nat.le_refl _)]
def lk:List FP→List UInt8→Option (List UInt8)
 | [],_=>none
 |x::r,p=>if x.1=p then some x.2 else lk r p
theorem fI:∀(l:List FP) (p:List UInt8),(l[cE l p]?).map (·.2)=lk l p
 | [],p=>rfl
 |x::r,p=>by
  have:=fI r p
  unfold cE at this ⊢
  rw[List.findIdx_cons]
  by_cases h:x.1=p
  ·simp[h,lk]
  ·simp[h,lk,this]
theorem ix(q:List UInt8):∀(l:List FP) (p:List UInt8),lk (l.filter fun y=>decide (y.1≠q)) p=if p=q then none else lk l p
 | [],p=>by simp[lk]
 |x::r,p=>by
  have ih:=ix q r p
  by_cases h:x.1=q
  ·rw[List.filter_cons,if_neg (by simp[h]),ih]
   by_cases hp:p=q
   ·simp[hp]
   ·rw[if_neg hp,if_neg hp,lk,if_neg (fun e=>hp (e.symm.trans h))]
  ·rw[List.filter_cons,if_pos (by simp[h]),lk,ih]
   by_cases hp:p=q
   ·rw[if_pos hp,if_pos hp,if_neg (fun e=>h (e.trans hp))]
   ·rw[if_neg hp,if_neg hp,lk]
theorem sD:∀(l:List FP) (f:FP) (p:List UInt8),lk (ib l f) p=if p=f.1 then some f.2 else lk l p
 | [],f,p=>by simp only[ib,lk,eq_comm]
 |x::r,f,p=>by
  unfold ib
  by_cases h:x.1<f.1
  ·rw[if_pos h,lk,sD r f p,lk]
   have hne:x.1≠f.1:=fun e=>by rw[e]at h;exact List.lt_irrefl _ h
   by_cases hp:p=f.1
   ·rw[if_pos hp,if_pos hp,if_neg (fun e=>hne (e.trans hp))]
   ·rw[if_neg hp,if_neg hp]
  ·rw[if_neg h,lk,ix]
   by_cases hp:p=f.1
   ·rw[if_pos hp.symm,if_pos hp]
   ·rw[if_neg (fun e=>hp e.symm),if_neg hp,if_neg hp]
def lQ(l:List FP):Prop:=(l.map (·.1)).Pairwise (· <·)
theorem ov{l:List FP}(q:FP→Bool)(h:lQ l):lQ (l.filter q):=List.Pairwise.sublist (List.Sublist.map _ List.filter_sublist) h
theorem xf{l:List FP}{f y:FP}(h:y∈ib l f):y=f∨y∈l:=by
 induction l with
 |nil=>exact .inl (by simpa[ib]using h)
 |cons x r ih=>
  unfold ib at h
  split at h
  ·rcases List.mem_cons.1 h with h|h
   ·exact .inr (by rw[h];exact List.mem_cons_self ..)
   ·rcases ih h with h|h
    ·exact .inl h
    ·exact .inr (List.mem_cons_of_mem _ h)
  ·rcases List.mem_cons.1 h with h|h
   ·exact .inl h
   ·exact .inr ((List.mem_filter.1 h).1)
theorem yS{l:List FP}{f:FP}(h:lQ l):lQ (ib l f):=by
 induction l with
 |nil=>simp[lQ,ib]
 |cons x r ih=>
  have hx:∀y∈r,x.1<y.1:=by
   intro y hy
   exact(List.pairwise_cons.1 h).1 _ (List.mem_map.2 ⟨y,hy,rfl⟩)
  have hr:lQ r:=(List.pairwise_cons.1 h).2
  unfold ib
  by_cases hlt:x.1<f.1
  ·rw[if_pos hlt]
   refine List.pairwise_cons.2 ⟨?_,ih hr⟩
   intro a ha
   obtain⟨y,hy,rfl⟩:=List.mem_map.1 ha
   rcases xf hy with rfl|hy
   ·exact hlt
   ·exact hx y hy
  ·rw[if_neg hlt]
   refine List.pairwise_cons.2 ⟨?_,ov _ h⟩
   intro a ha
   obtain⟨y,hy,rfl⟩:=List.mem_map.1 ha
   have hy1:=(List.mem_filter.1 hy).1
   have hy2:y.1≠f.1:=by simpa using(List.mem_filter.1 hy).2
   have hge:¬y.1<f.1:=by
    rcases List.mem_cons.1 hy1 with rfl|h1
    ·exact hlt
    ·exact fun e=>hlt (List.lt_trans (hx y h1) e)
   exact Decidable.byContradiction fun hn=>hy2 (List.le_antisymm (List.not_lt.1 hn) (List.not_lt.1 hge))
structure fL(fs:dK)(l:List FP):Prop where
 ord:lQ l
 nd:(cp fs).Nodup
 look:∀p,(cm fs p).map (·.l)=lk l p
 len:∀x∈fs,x.2.n=x.2.l.length
theorem fL.nil:fL [] []:=⟨by simp[lQ],by simp[cp],fun p=>rfl,fun x h=>by cases h⟩
theorem vf{l:List FP}{p:List UInt8}:lk l p≠none↔p∈l.map (·.1):=by
 induction l with
 |nil=>simp[lk]
 |cons x r ih=>
  unfold lk
  by_cases h:x.1=p
  ·simp[h]
  ·rw[if_neg h,ih];simp[Ne.symm h]
theorem fL.keys{fs:dK}{l:List FP}(h:fL fs l):(cp fs).Perm (l.map (·.1)):=by
 have hn:(l.map (·.1)).Nodup:=List.Pairwise.imp (fun hlt e=>by rw[e]at hlt;exact List.lt_irrefl _ hlt) h.ord
 refine(List.perm_ext_iff_of_nodup h.nd hn).2 fun p=> ?_
 rw[←vf,←h.look p]
 have:= @jW (List UInt8) fK _ fs p
 cases hq:cm fs p with
 |none=>simp[this.1 hq]
 |some r=>simp;exact Decidable.byContradiction fun hm=>by rw[this.2 hm]at hq;cases hq
theorem fL.put{fs:dK}{l:List FP}(h:fL fs l){p:List UInt8}{r:fK}(hr:r.n=r.l.length):fL (c9 fs p r) (gQ l (p,r.l)):=by
 rw[jM]
 refine⟨yS h.ord,gx h.nd,fun q=> ?_,fun x hx=> ?_⟩
 ·rw[rJ,sD]
  by_cases hq:p=q
  ·rw[if_pos hq,if_pos hq.symm];rfl
  ·rw[if_neg hq,if_neg (fun e=>hq e.symm)];exact h.look q
 ·rcases nH (List.mem_map.2 ⟨x,hx,rfl⟩)with h1|h1
  ·obtain⟨y,hy,e⟩:=List.mem_map.1 h1
   rw[←e];exact h.len y hy
  ·rw[h1];exact hr
theorem zh{a b:List Nat}(h:a.Perm b):a.sum=b.sum:=by
 induction h with
 |nil=>rfl
 |cons x _ ih=>simp[ih]
 |swap x y l=>simp;omega
 |trans _ _ h1 h2=>rw[h1,h2]
theorem C6{l:List FP}(h:lQ l){x:FP}(hx:x∈l):lk l x.1=some x.2:=by
 induction l with
 |nil=>cases hx
 |cons y r ih=>
  unfold lk
  rcases List.mem_cons.1 hx with rfl|h1
  ·rw[if_pos rfl]
  ·have hlt:y.1<x.1:=(List.pairwise_cons.1 h).1 _ (List.mem_map.2 ⟨x,h1,rfl⟩)
   rw[if_neg (fun e=>by rw[e]at hlt;exact List.lt_irrefl _ hlt)]
   exact ih (List.pairwise_cons.1 h).2 h1
theorem fL.mg{fs:dK}{l:List FP}(h:fL fs l):mg fs=dH l:=by
 let g:List UInt8→Nat:=fun p=>((lk l p).getD []).length
 have h1:fs.map (fun x=>x.2.n)=(cp fs).map g:=by
  rw[cp,List.map_map]
  refine List.map_congr_left fun x hx=> ?_
  have:=h.look x.1
  rw[oK h.nd (show(x.1,x.2)∈fs from hx)]at this
  show x.2.n=((lk l x.1).getD []).length
  rw[←this,h.len x hx];rfl
 have h2:l.map (fun x=>x.2.length)=(l.map (·.1)).map g:=by
  rw[List.map_map]
  refine List.map_congr_left fun x hx=> ?_
  show x.2.length=((lk l x.1).getD []).length
  rw[C6 h.ord hx];rfl
 show(fs.map fun x=>x.2.n).sum=(l.map fun x=>x.2.length).sum
 rw[h1,h2]
 exact zh (h.keys.map g)
theorem fL.B7{fs:dK}{l:List FP}(h:fL fs l):fs.length=l.length:=by
 have:=h.keys.length_eq
 simpa[cp]using this
theorem fL.sz{fs:dK}{l:List FP}(h:fL fs l)(p:List UInt8):((cm fs p).map (·.n)).getD 0=((l[cE l p]?).map (·.2.length)).getD 0:=by
 have h1:=h.look p
 rw[←fI]at h1
 cases hq:cm fs p with
 |none=>
  rw[hq]at h1
  cases hl:l[cE l p]? with
  |none=>rfl
  |some x=>rw[hl]at h1;cases h1
 |some r=>
  rw[hq]at h1
  cases hl:l[cE l p]? with
  |none=>rw[hl]at h1;cases h1
  |some x=>
   rw[hl]at h1
   have e:r.l=x.2:=Option.some.inj h1
   have:=h.len _ (jX hq)
   simp only[Option.map_some,Option.getD_some]
   rw[←e];exact this
structure ve(st:cN)(d:RD):Prop where
 room:st.room=d.room
 bY:st.bY=d.pw
 files:fL st.seen d.seen
 waits:st.waits.length=d.waits.length
theorem ve.bO{st:cN}{d:RD}(h:ve st d)(p bb:List UInt8):bO st p bb.length=d.bO p bb:=by
 have h1:=h.files.sz p
 have h2:=h.files.mg
 unfold Go.Proofs.YtmibdabdlgmafaaGreatDoor.bO RD.bO RD.sz
 rw[h.bY,h.room,h1,h2]
 by_cases hn:¬fV p
 ·rw[if_pos hn,if_pos hn]
 ·rw[if_neg hn,if_neg hn]
  by_cases h0:d.pw=0
  ·rw[if_pos h0,if_pos h0]
  ·rw[if_neg h0,if_neg h0]
   by_cases hr:d.room<(dH d.seen:Int)+(bb.length:Nat)-(((d.seen[cE d.seen p]?).map (·.2.length)).getD 0:Nat)
   ·rw[if_pos hr,if_pos (by omega)]
   ·rw[if_neg hr,if_neg (by omega)]
theorem ve.cj{st:cN}{d:RD}(h:ve st d)(p:List UInt8):dP st p=d.cj p:=by
 have h1:=h.files.look p
 rw[←fI]at h1
 unfold dP RD.cj
 rw[h.bY]
 by_cases h0:d.pw=0
 ·rw[if_pos h0,if_pos h0]
 ·rw[if_neg h0,if_neg h0]
  cases ha:cm st.seen p with
  |none=>
   rw[ha]at h1
   cases hb:d.seen[cE d.seen p]? with
   |none=>simp
   |some y=>rw[hb]at h1;cases h1
  |some r=>
   rw[ha]at h1
   cases hb:d.seen[cE d.seen p]? with
   |none=>rw[hb]at h1;cases h1
   |some y=>simp
theorem ve.cF{st:cN}{d:RD}(h:ve st d)(p:List UInt8):cF st p=d.cF p:=by
 have h1:=h.files.look p
 rw[←fI]at h1
 have h2:=h.cj p
 unfold Go.Proofs.YtmibdabdlgmafaaGreatDoor.cF RD.cF
 rw[h2,←h1]
 unfold RD.cj
 by_cases h0:d.pw=0
 ·rw[if_pos h0,if_pos h0,if_neg (by decide)]
 ·rw[if_neg h0,if_neg h0]
  cases hb:d.seen[cE d.seen p]? with
  |none=>
   rw[hb]at h1
   cases ha:cm st.seen p with
   |none=>simp
   |some r=>rw[ha]at h1;cases h1
  |some y=>simp
end Go.Proofs.YtmibdabdlgmafaaGreatDoor
end
section
set_option maxRecDepth 20000
namespace Go.Proofs.YtmibdabdlgmafaaGreatDoor
open Go.Eng Go.Hx
structure RX where
 d:RD
 A:Option Addr
 c:Nat
 Al:Option Addr
 cl:Nat
 A3:Option Addr
 c3:Nat
def RX.cs(x:RX):List Value:=rv x.d x.A x.d.seen.length x.c x.Al x.d.cO.length x.cl x.A3 x.d.waits.length x.c3
abbrev RX.parts(x:RX):List bn:=[dr 2 x.A x.d.seen.length (fc x.d.seen),dr 2 x.Al x.d.cO.length (fc x.d.cO),dr 4 x.A3 x.d.waits.length (uN x.d.waits)]
def cX(x:RX):bn:=gn x.parts
theorem bz{x:RX}:∀u∈x.cs,u.oneCell' =true:=ju
theorem View.xv{x:RX}:View (cX x) (dr 2 x.A x.d.seen.length (fc x.d.seen)):=View.oN 0 rfl
theorem View.Ex{x:RX}:View (cX x) (dr 2 x.Al x.d.cO.length (fc x.d.cO)):=View.oN 1 rfl
theorem View.Fw{x:RX}:View (cX x) (dr 4 x.A3 x.d.waits.length (uN x.d.waits)):=View.oN 2 rfl
def RD.new(room:Int):RD:=⟨room,[],[],[],-1⟩
def RX.new(room:Int):RX:=⟨RD.new room,none,0,none,0,none,0⟩
theorem vQ{y:RX}{S:List bn}(h0:∃t∈S,View t (dr 2 y.A y.d.seen.length (fc y.d.seen)))(h1:∃t∈S,View t (dr 2 y.Al y.d.cO.length (fc y.d.cO)))(h2:∃t∈S,View t (dr 4 y.A3 y.d.waits.length (uN y.d.waits))):sV S [cX y]:=by
 refine sV.cons (fun s hs=> ?_) sV.nil
 simp only[List.mem_cons,List.not_mem_nil,or_false]at hs
 rcases hs with rfl|rfl|rfl
 ·exact h0
 ·exact h1
 ·exact h2
theorem CK{room:Int}:sV [] [cX (RX.new room)]:=by
 intro s hs
 obtain rfl:=List.mem_singleton.1 hs
 refine⟨fun w _ x hx=> ?_,fun k hk=> ?_⟩
 ·simp only[List.mem_cons,List.not_mem_nil,or_false]at hx
  rcases hx with rfl|rfl|rfl <;> exact Rd.nil _ _ _
 ·obtain⟨x,hx,hk⟩:=hk
  simp only[List.mem_cons,List.not_mem_nil,or_false]at hx
  rcases hx with rfl|rfl|rfl <;> exact absurd rfl hk.1
theorem Hf{r:bn}{S:List bn}:∃t∈r::S,View t r:=⟨r,List.mem_cons_self ..,.same⟩
theorem inr{r a:bn}{S:List bn}(h:∃t∈S,View t r):∃t∈a::S,View t r:=by
 obtain⟨t,ht,hv⟩:=h
 exact⟨t,List.mem_cons_of_mem _ ht,hv⟩
theorem inv1{r a:bn}{S:List bn}(h:View a r):∃t∈a::S,View t r:=⟨a,List.mem_cons_self ..,h⟩
theorem F3{room:Int}:ck Tryz.prog 25 [.int .i64 room] [] [] (fun v_ X_ S_=>∃y,v_=(.agg y.cs.toArray)∧X_=[]∧S_=[cX y]∧(y.d=RD.new room)):=by
 exact ck.vc Gj (fun s hs=>by cases hs) (fun v X S h=>by
  obtain⟨rfl,rfl,rfl⟩:=h
  exact⟨_,⟨RX.new room,rfl,rfl,rfl,rfl⟩,CK⟩)
theorem uS{x:RX}{kk:Nat}{p:List UInt8}(ok:yi x.d kk)(hkk:kk≤100000):ck Tryz.prog 91 [.agg x.cs.toArray,.string (strOf p)] [] [cX x] (fun v_ X_ S_=>v_=(.tuple #[.string (strOf (x.d.cF p)),.int .i64 (x.d.cj p)])∧X_=[]∧S_=[]):=by
 exact ck.vc (Fl rfl ok hkk) (fun s hs=>⟨_,List.mem_singleton_self _,by rw[List.mem_singleton.1 hs];exact View.xv⟩) (fun v X S h=>⟨[],⟨h.1,h.2.1,rfl⟩,sV.nil⟩)
theorem oo(d:RD)(p bb:List UInt8):(d.write p bb).cO=d.cO:=by
 unfold RD.write
 split <;> rfl
theorem we{x:RX}:∀s∈ [dr 2 x.A x.d.seen.length (fc x.d.seen),dr 4 x.A3 x.d.waits.length (uN x.d.waits)],∃t∈ [cX x],View t s:=by
 intro s hs
 refine⟨_,List.mem_singleton_self _, ?_⟩
 simp only[List.mem_cons,List.not_mem_nil,or_false]at hs
 rcases hs with rfl|rfl
 ·exact View.xv
 ·exact View.Fw
theorem mS{x:RX}{kk:Nat}{p bb:List UInt8}(ok:yi x.d kk)(hkk:kk≤100000)(hpl:p.length≤1000000)(hbb:bb.length≤1000000):ck Tryz.prog 31 [.agg x.cs.toArray,.string (strOf p),.string (strOf bb)] [] [cX x] (fun v_ X_ S_=>∃y,v_=(.tuple #[.agg y.cs.toArray,.int .i64 (x.d.bO p bb)])∧X_=[]∧S_=[cX y]∧(y.d=x.d.write p bb)):=by
 refine ck.vc (BE rfl rfl ok hkk hpl hbb) we (fun v X S h=> ?_)
 obtain⟨A1,n1,c1,A2,n2,c2,rfl,rfl,rfl,rfl,rfl⟩:=h
 refine⟨_,⟨⟨x.d.write p bb,A1,c1,x.Al,x.cl,A2,c2⟩,by unfold RX.cs;simp only[oo],rfl,rfl,rfl⟩,vQ Hf (inr (inr (inv1 ?_))) (inr Hf)⟩
 simp only[oo]
 exact View.Ex
theorem Gz{x:RX}{kk:Nat}{k:Int}{p t bb:List UInt8}(ok:yi x.d kk)(hkk:kk≤100000):ck Tryz.prog 114 [.agg x.cs.toArray,.agg (cv k p t bb).toArray] [] [cX x] (fun v_ X_ S_=>∃y,v_=(.agg y.cs.toArray)∧X_=[]∧S_=[cX y]∧(y.d=x.d.gA k p t bb)):=by
 have h1:=ok.seen
 have h2:=ok.waits
 refine ck.vc (E2 rfl (by omega) rfl (by omega) ok.p1 ok.p2) we (fun v X S h=> ?_)
 obtain⟨A1,n1,c1,A2,n2,c2,rfl,rfl,rfl,rfl,_,rfl⟩:=h
 have e:(x.d.waits++[(k,p,t,bb)]).length=x.d.waits.length+1:=by simp
 refine⟨_,⟨⟨x.d.gA k p t bb,A1,c1,x.Al,x.cl,A2,c2⟩,by unfold RX.cs;simp only[RD.gA,e];rfl,rfl,rfl,rfl⟩,vQ Hf (inr (inr (inv1 View.Ex))) (inr (inv1 ?_))⟩
 simp only[RD.gA,e]
 exact .same
def RD.b7(d:RD)(a c:List UInt8):Int:=if¬fV c then 1 else d.cj a
def RD.rename(d:RD)(a c:List UInt8):RD:=if d.b7 a c=0 then d.gA 1 a c []else d
def RD.remove(d:RD)(p:List UInt8):RD:=if d.cj p=0 then d.gA 2 p [] []else d
theorem zO{x:RX}{kk:Nat}{a c:List UInt8}(ok:yi x.d kk)(hkk:kk≤100000)(hcl:c.length≤1000000):ck Tryz.prog 100 [.agg x.cs.toArray,.string (strOf a),.string (strOf c)] [] [cX x] (fun v_ X_ S_=>∃y,v_=(.tuple #[.agg y.cs.toArray,.int .i64 (x.d.b7 a c)])∧X_=[]∧S_=[cX y]∧(y.d=x.d.rename a c)):=by
 refine aP (N:=31) Tryz.func100 rfl rfl (by simp) fun b=> ?_
 refine ah<|aj<| ?_
 refine hx (cw rfl (fun g3=> ?_))
 refine aO (fun w m=>m.bQ 0 rfl (show _=aL g3 39 x.cs from congrArg (aL _ _) (bp _))) ?_
 refine hx (aN fG (fun g6=> ?_))
 refine hy (fun _=>ab rfl)<|ai<|ak (X' :=[_,_]) (S' :=[_]) (fun _ m=>m)<|ag<|ah<|aj<|hy (fun _=>aa rfl)<| ?_
 refine hx (aq rfl Tryz.call112 (wE (by omega)) [] rfl [] rfl ?_)
 rintro _ _ _ ⟨rfl,rfl,rfl⟩
 refine hy (fun _=>ab rfl)<|ai<|al (ρ' :=[(8,_),(7,_),(6,_),(3,_),(0,_),(1,_),(2,_)]) ⟨rfl,rfl,rfl,rfl,rfl,rfl,rfl,trivial⟩<|ak (X' :=[_,_]) (S' :=[_]) (fun _ m=>m)<|ag<|ah<|ah<|aj<|hy (fun _=>aa rfl)<|hy (fun _=>kf rfl)<|ai<|al (ρ' :=[(14,_),(8,_),(7,_),(6,_),(3,_),(0,_),(1,_),(2,_)]) ⟨rfl,rfl,rfl,rfl,rfl,rfl,rfl,rfl,trivial⟩<|ag<| ?_
 refine cD rfl (fun hN=> ?_) (fun hN=> ?_)
 ·have hE:x.d.b7 a c=1:=by rw[RD.b7,if_pos hN]
  have hE0:¬(1:Int)=0:=by decide
  have hW:x.d.rename a c=x.d:=by rw[RD.rename,if_neg (by rw[hE];exact hE0)]
  rw[hE,hW]
  refine ah<|aj<|hy (fun m=>yV (aU rfl cd bh rfl ((m.a6 1 rfl).ax)) ((rfl:_=Value.agg x.cs.toArray)))<| ?_
  refine cL (aJ 0 rfl rfl rfl bh rfl bz rfl ?_)
  refine hy (fun _=>ab rfl)<|ai<|al (ρ' :=[(7,_),(14,_),(8,_),(6,_),(3,_),(0,_),(1,_),(2,_)]) ⟨rfl,rfl,rfl,rfl,rfl,rfl,rfl,rfl,trivial⟩<|ak (X' :=[_,_]) (S' :=[_]) (fun _ m=>m)<|ag<|aX<|aw<| ?_
  exact dW trivial rfl rfl rfl cd bh rfl (fun m=>(m.a6 0 rfl).ax) [] rfl [0] rfl ⟨x,rfl,rfl,rfl,rfl⟩
 ·have hE:x.d.b7 a c=x.d.cj a:=by rw[RD.b7,if_neg hN]
  refine aD<|ag<|ah<|aj<|hy (fun m=>yV (aU rfl cd bh rfl ((m.a6 1 rfl).ax)) ((rfl:_=Value.agg x.cs.toArray)))<|hy (fun _=>aa rfl)<| ?_
  refine hx (aq rfl Tryz.call91 (uS (by omega) (by omega)) [] rfl [0] rfl ?_)
  rintro _ _ _ ⟨rfl,rfl,rfl⟩
  refine hy (fun _=>aa rfl)<|hy (fun _=>ar rfl rfl)<|hy (fun _=>ar rfl rfl)<|hy (fun _=>ab rfl)<|hy (fun _=>ab rfl)<|ai<|al (ρ' :=[(10,_),(14,_),(8,_),(7,_),(6,_),(3,_),(0,_),(1,_),(2,_)]) ⟨rfl,rfl,rfl,rfl,rfl,rfl,rfl,rfl,rfl,trivial⟩<|ak (X' :=[_,_]) (S' :=[_]) (fun _ m=>m)<|ag<|ah<|ah<|aj<|hy (fun _=>aa rfl)<|hy (fun _=>db rfl rfl)<|ai<|al (ρ' :=[(23,_),(10,_),(14,_),(8,_),(7,_),(6,_),(3,_),(0,_),(1,_),(2,_)]) ⟨rfl,rfl,rfl,rfl,rfl,rfl,rfl,rfl,rfl,rfl,trivial⟩<|ag<| ?_
  refine cD rfl (fun hE0=> ?_) (fun hE0=> ?_)
  ·have hW:x.d.rename a c=x.d:=by rw[RD.rename,if_neg (by rw[hE];exact hE0)]
   rw[hE,hW]
   refine ah<|aj<|hy (fun m=>yV (aU rfl cd bh rfl ((m.a6 1 rfl).ax)) ((rfl:_=Value.agg x.cs.toArray)))<|hy (fun _=>aa rfl)<| ?_
   refine cL (aJ 0 rfl rfl rfl bh rfl bz rfl ?_)
   refine hy (fun _=>ab rfl)<|ai<|al (ρ' :=[(7,_),(23,_),(10,_),(14,_),(8,_),(6,_),(3,_),(0,_),(1,_),(2,_)]) ⟨rfl,rfl,rfl,rfl,rfl,rfl,rfl,rfl,rfl,rfl,trivial⟩<|ak (X' :=[_,_]) (S' :=[_]) (fun _ m=>m)<|ag<|aX<|aw<| ?_
   exact dW trivial rfl rfl rfl cd bh rfl (fun m=>(m.a6 0 rfl).ax) [] rfl [0] rfl ⟨x,rfl,rfl,rfl,rfl⟩
  ·have hr0:=Decidable.not_not.1 hE0
   have hW:x.d.rename a c=x.d.gA 1 a c []:=by rw[RD.rename,if_pos (by rw[hE];exact hr0)]
   rw[hE,hW,hr0]
   refine aD<|ag<|ah<|aj<|hy (fun m=>yV (aU rfl cd bh rfl ((m.a6 1 rfl).ax)) ((rfl:_=Value.agg x.cs.toArray)))<|hy (fun _=>aa rfl)<|hy (fun _=>aa rfl)<|hy (fun _=>yV (cC pB rfl rfl (by kernel_rfl) (.cons (o:=0) (sz:=1) (by kernel_rfl) rfl rfl (Nat.le_of_ble_eq_true rfl) (.cons (o:=1) (sz:=1) (by kernel_rfl) rfl rfl (Nat.le_of_ble_eq_true rfl) (.cons (o:=2) (sz:=1) (by kernel_rfl) rfl rfl (Nat.le_of_ble_eq_true rfl) .nil)))) ((rfl:_=Value.agg (cv 1 a c []).toArray)))<| ?_
   refine hx (aq rfl Tryz.call114 (Gz (by omega) (by omega)) [] rfl [0] rfl ?_)
   rintro _ _ _ ⟨y,rfl,rfl,rfl,hp⟩
   refine cL (aJ 0 rfl rfl rfl bh rfl bz rfl ?_)
   refine hy (fun _=>ab rfl)<|ai<|al (ρ' :=[(7,_),(23,_),(10,_),(14,_),(8,_),(6,_),(3,_),(0,_),(1,_),(2,_)]) ⟨rfl,rfl,rfl,rfl,rfl,rfl,rfl,rfl,rfl,rfl,trivial⟩<|ak (X' :=[_,_]) (S' :=[_,_]) (fun _ m=>m)<|ag<|aX<| ?_
   exact dW trivial rfl rfl rfl cd bh rfl (fun m=>(m.a6 0 rfl).ax) [] rfl [0] rfl ⟨y,rfl,rfl,rfl,hp⟩
theorem qK{x:RX}{kk:Nat}{p:List UInt8}(ok:yi x.d kk)(hkk:kk≤100000):ck Tryz.prog 78 [.agg x.cs.toArray,.string (strOf p)] [] [cX x] (fun v_ X_ S_=>∃y,v_=(.tuple #[.agg y.cs.toArray,.int .i64 (x.d.cj p)])∧X_=[]∧S_=[cX y]∧(y.d=x.d.remove p)):=by
 refine aP (N:=22) Tryz.func78 rfl rfl (by simp) fun b=> ?_
 refine ah<|aj<| ?_
 refine hx (cw rfl (fun g2=> ?_))
 refine aO (fun w m=>m.bQ 0 rfl (show _=aL g2 39 x.cs from congrArg (aL _ _) (bp _))) ?_
 refine hx (aN fG (fun g4=> ?_))
 refine hy (fun _=>ab rfl)<|ai<|ak (X' :=[_,_]) (S' :=[_]) (fun _ m=>m)<|ag<|ah<|aj<|hy (fun m=>yV (aU rfl cd bh rfl ((m.a6 1 rfl).ax)) ((rfl:_=Value.agg x.cs.toArray)))<|hy (fun _=>aa rfl)<| ?_
 refine hx (aq rfl Tryz.call91 (uS (by omega) (by omega)) [] rfl [0] rfl ?_)
 rintro _ _ _ ⟨rfl,rfl,rfl⟩
 refine hy (fun _=>aa rfl)<|hy (fun _=>ar rfl rfl)<|hy (fun _=>ar rfl rfl)<|hy (fun _=>ab rfl)<|hy (fun _=>ab rfl)<|ai<|al (ρ' :=[(7,_),(5,_),(4,_),(2,_),(0,_),(1,_)]) ⟨rfl,rfl,rfl,rfl,rfl,rfl,trivial⟩<|ak (X' :=[_,_]) (S' :=[_]) (fun _ m=>m)<|ag<|ah<|ah<|aj<|hy (fun _=>aa rfl)<|hy (fun _=>db rfl rfl)<|ai<|al (ρ' :=[(15,_),(7,_),(5,_),(4,_),(2,_),(0,_),(1,_)]) ⟨rfl,rfl,rfl,rfl,rfl,rfl,rfl,trivial⟩<|ag<| ?_
 refine cD rfl (fun hE0=> ?_) (fun hE0=> ?_)
 ·have hW:x.d.remove p=x.d:=by rw[RD.remove,if_neg hE0]
  rw[hW]
  refine ah<|aj<|hy (fun m=>yV (aU rfl cd bh rfl ((m.a6 1 rfl).ax)) ((rfl:_=Value.agg x.cs.toArray)))<|hy (fun _=>aa rfl)<| ?_
  refine cL (aJ 0 rfl rfl rfl bh rfl bz rfl ?_)
  refine hy (fun _=>ab rfl)<|ai<|al (ρ' :=[(5,_),(15,_),(7,_),(4,_),(2,_),(0,_),(1,_)]) ⟨rfl,rfl,rfl,rfl,rfl,rfl,rfl,trivial⟩<|ak (X' :=[_,_]) (S' :=[_]) (fun _ m=>m)<|ag<|aX<|aw<| ?_
  exact dW trivial rfl rfl rfl cd bh rfl (fun m=>(m.a6 0 rfl).ax) [] rfl [0] rfl ⟨x,rfl,rfl,rfl,rfl⟩
 ·have hr0:=Decidable.not_not.1 hE0
  have hW:x.d.remove p=x.d.gA 2 p [] []:=by rw[RD.remove,if_pos hr0]
  rw[hW,hr0]
  refine aD<|ag<|ah<|aj<|hy (fun m=>yV (aU rfl cd bh rfl ((m.a6 1 rfl).ax)) ((rfl:_=Value.agg x.cs.toArray)))<|hy (fun _=>aa rfl)<|hy (fun _=>yV (cC pB rfl rfl (by kernel_rfl) (.cons (o:=0) (sz:=1) (by kernel_rfl) rfl rfl (Nat.le_of_ble_eq_true rfl) (.cons (o:=1) (sz:=1) (by kernel_rfl) rfl rfl (Nat.le_of_ble_eq_true rfl) .nil))) ((rfl:_=Value.agg (cv 2 p [] []).toArray)))<| ?_
  refine hx (aq rfl Tryz.call114 (Gz (by omega) (by omega)) [] rfl [0] rfl ?_)
  rintro _ _ _ ⟨y,rfl,rfl,rfl,hp⟩
  refine cL (aJ 0 rfl rfl rfl bh rfl bz rfl ?_)
  refine hy (fun _=>ab rfl)<|ai<|al (ρ' :=[(5,_),(15,_),(7,_),(4,_),(2,_),(0,_),(1,_)]) ⟨rfl,rfl,rfl,rfl,rfl,rfl,rfl,trivial⟩<|ak (X' :=[_,_]) (S' :=[_,_]) (fun _ m=>m)<|ag<|aX<| ?_
  exact dW trivial rfl rfl rfl cd bh rfl (fun m=>(m.a6 0 rfl).ax) [] rfl [0] rfl ⟨y,rfl,rfl,rfl,hp⟩
def RD.dp(d:RD):Int:=if d.pw=0 then 6 else 0
def RD.sync(d:RD):RD:=if d.pw=0 then d else{d with cO:=d.seen,waits:=[],pw:=en d.pw}
theorem sF{x:RX}{kk:Nat}(ok:yi x.d kk):ck Tryz.prog 99 [.agg x.cs.toArray] [] [cX x] (fun v_ X_ S_=>∃y,v_=(.tuple #[.agg y.cs.toArray,.int .i64 x.d.dp])∧X_=[]∧S_=[cX y]∧(y.d=x.d.sync)):=by
 have hp1:=ok.p1
 have hp2:=ok.p2
 refine aP (N:=20) Tryz.func99 rfl rfl (by simp) fun b=> ?_
 refine ah<|aj<| ?_
 refine hx (cw rfl (fun g1=> ?_))
 refine aO (fun w m=>m.bQ 0 rfl (show _=aL g1 39 x.cs from congrArg (aL _ _) (bp _))) ?_
 refine hx (aN fG (fun g2=> ?_))
 refine hy (fun _=>ab rfl)<|ai<|ak (X' :=[_,_]) (S' :=[_]) (fun _ m=>m)<|ag<|ah<|ah<|aj<|hy (fun _=>aK rfl gW (by decide))<|hy (fun m=>ay rfl fS (aE (m.a6 1 rfl) (i:=4) rfl))<|hy (fun _=>cJ rfl rfl)<|ai<|al (ρ' :=[(6,_),(3,_),(2,_),(1,_),(0,_)]) ⟨rfl,rfl,rfl,rfl,rfl,trivial⟩<|ag<| ?_
 refine cD rfl (fun h0=> ?_) (fun h0=> ?_)
 ·have hE:x.d.dp=6:=by rw[RD.dp,if_pos h0]
  have hW:x.d.sync=x.d:=by rw[RD.sync,if_pos h0]
  rw[hE,hW]
  refine ah<|aj<|hy (fun m=>yV (aU rfl cd bh rfl ((m.a6 1 rfl).ax)) ((rfl:_=Value.agg x.cs.toArray)))<| ?_
  refine cL (aJ 0 rfl rfl rfl bh rfl bz rfl ?_)
  refine hy (fun _=>ab rfl)<|ai<|al (ρ' :=[(3,_),(6,_),(2,_),(1,_),(0,_)]) ⟨rfl,rfl,rfl,rfl,rfl,trivial⟩<|ak (X' :=[_,_]) (S' :=[_]) (fun _ m=>m)<|ag<|aX<|aw<| ?_
  exact dW trivial rfl rfl rfl cd bh rfl (fun m=>(m.a6 0 rfl).ax) [] rfl [0] rfl ⟨x,rfl,rfl,rfl,rfl⟩
 ·have hE:x.d.dp=0:=by rw[RD.dp,if_neg h0]
  have hW:x.d.sync={x.d with cO:=x.d.seen,waits:=[],pw:=en x.d.pw}:=by rw[RD.sync,if_neg h0]
  rw[hE]
  refine bx (fun w m=>m.iW 0 rfl View.xv) ?_
  refine aY (fun m=>gE (m.rd 0 rfl)) ?_
  rintro⟨hl_r0,hA_r0⟩
  refine bx (fun w m=>m.qv (r' :=dr 4 none 0 []) (.refl _ _) (Rd.nil _ _ _) (fun k hk=>absurd rfl hk.1)) ?_
  have hA_z:0<0→(none:Option Addr)≠none:=fun h=>absurd h (by decide)
  refine aD<|ag<|ah<|aj<|hy (fun _=>aK rfl gr (by decide))<|hy (fun m=>ay rfl oO (aE (m.a6 1 rfl) (i:=1) rfl))<|hy (fun _=>aK rfl EI (by decide))<| ?_
  refine cL (cG 1 rfl rfl rfl FC rfl (by first|exact Nat.le_of_ble_eq_true rfl|simp) ?_)
  refine ai<|al (ρ' :=[(6,_),(3,_),(2,_),(1,_),(0,_)]) ⟨rfl,rfl,rfl,rfl,rfl,trivial⟩<|ak (X' :=[_,_]) (S' :=[_,_,_]) (fun _ m=>m)<|ag<|ah<|aj<|hy (fun _=>aK rfl sv (by decide))<| ?_
  refine cL (cG 0 rfl rfl rfl FW rfl (by first|exact Nat.le_of_ble_eq_true rfl|simp) ?_)
  refine ai<|al (ρ' :=[(6,_),(3,_),(2,_),(1,_),(0,_)]) ⟨rfl,rfl,rfl,rfl,rfl,trivial⟩<|ak (X' :=[_,_]) (S' :=[_,_,_]) (fun _ m=>m)<|ag<|ah<|ah<|aj<|hy (fun _=>aK rfl gW (by decide))<|hy (fun m=>ay rfl fS (aE (m.a6 0 rfl) (i:=4) rfl))<|hy (fun _=>da rfl rfl)<|ai<|al (ρ' :=[(14,_),(6,_),(3,_),(2,_),(1,_),(0,_)]) ⟨rfl,rfl,rfl,rfl,rfl,rfl,trivial⟩<|ag<| ?_
  refine bx (S' :=cX ⟨{x.d with cO:=x.d.seen,waits:=[],pw:=en x.d.pw},x.A,x.c,x.A,x.c,none,0⟩::_) (fun w m=>m.xr [1,1,0] rfl) ?_
  refine cD rfl (fun h1=> ?_) (fun h1=> ?_)
  ·refine aj<|hy (fun _=>aK rfl gW (by decide))<|hy (fun m=>ay rfl fS (aE (m.a6 0 rfl) (i:=4) rfl))<|hy (fun _=>cn rfl rfl (bG (by omega) (by omega)))<|hy (fun _=>aK rfl gW (by decide))<| ?_
   refine cL (cG 0 rfl rfl rfl s8 rfl (by first|exact Nat.le_of_ble_eq_true rfl|simp) ?_)
   refine ai<|al (ρ' :=[(14,_),(6,_),(3,_),(2,_),(1,_),(0,_)]) ⟨rfl,rfl,rfl,rfl,rfl,rfl,trivial⟩<|ak (X' :=[_,_]) (S' :=[_,_,_,_]) (fun _ m=>m)<|ag<|ah<|aj<| ?_
   refine aO (fun w m=>m.bQ 0 rfl (show _=aL g1 39 (RX.cs ⟨{x.d with cO:=x.d.seen,waits:=[],pw:=en x.d.pw},x.A,x.c,x.A,x.c,none,0⟩)from by rw[en,if_pos h1];rfl)) ?_
   refine hy (fun m=>yV (aU rfl cd bh rfl ((m.a6 0 rfl).ax)) ((rfl:_=Value.agg (RX.cs ⟨{x.d with cO:=x.d.seen,waits:=[],pw:=en x.d.pw},x.A,x.c,x.A,x.c,none,0⟩).toArray)))<| ?_
   refine cL (aJ 1 rfl rfl rfl bh rfl bz rfl ?_)
   refine hy (fun _=>ab rfl)<|ai<|al (ρ' :=[(3,_),(14,_),(6,_),(2,_),(1,_),(0,_)]) ⟨rfl,rfl,rfl,rfl,rfl,rfl,trivial⟩<|ak (X' :=[_,_]) (S' :=[_,_,_,_]) (fun _ m=>m)<|ag<|aX<| ?_
   exact dW trivial rfl rfl rfl cd bh rfl (fun m=>(m.a6 0 rfl).ax) [] rfl [0] rfl ⟨_,rfl,rfl,rfl,hW.symm⟩
  ·refine aD<|ag<|ah<|aj<| ?_
   refine aO (fun w m=>m.bQ 0 rfl (show _=aL g1 39 (RX.cs ⟨{x.d with cO:=x.d.seen,waits:=[],pw:=en x.d.pw},x.A,x.c,x.A,x.c,none,0⟩)from by rw[en,if_neg h1];rfl)) ?_
   refine hy (fun m=>yV (aU rfl cd bh rfl ((m.a6 0 rfl).ax)) ((rfl:_=Value.agg (RX.cs ⟨{x.d with cO:=x.d.seen,waits:=[],pw:=en x.d.pw},x.A,x.c,x.A,x.c,none,0⟩).toArray)))<| ?_
   refine cL (aJ 1 rfl rfl rfl bh rfl bz rfl ?_)
   refine hy (fun _=>ab rfl)<|ai<|al (ρ' :=[(3,_),(14,_),(6,_),(2,_),(1,_),(0,_)]) ⟨rfl,rfl,rfl,rfl,rfl,rfl,trivial⟩<|ak (X' :=[_,_]) (S' :=[_,_,_,_]) (fun _ m=>m)<|ag<|aX<| ?_
   exact dW trivial rfl rfl rfl cd bh rfl (fun m=>(m.a6 0 rfl).ax) [] rfl [0] rfl ⟨_,rfl,rfl,rfl,hW.symm⟩
def RD.bY(d:RD)(n:Int):RD:={d with pw:=max n (-1)}
theorem Cj{x:RX}{n:Int}:ck Tryz.prog 58 [.agg x.cs.toArray,.int .i64 n] [] [cX x] (fun v_ X_ S_=>∃y,v_=(.agg y.cs.toArray)∧X_=[]∧S_=[cX y]∧(y.d=x.d.bY n)):=by
 refine aP (N:=9) Tryz.func58 rfl rfl (by simp) fun b=> ?_
 refine ah<|aj<| ?_
 refine hx (cw rfl (fun g2=> ?_))
 refine aO (fun w m=>m.bQ 0 rfl (show _=aL g2 39 x.cs from congrArg (aL _ _) (bp _))) ?_
 refine aO (fun w m=>m.iW 0 rfl View.xv) ?_
 refine aA (fun m=>gE (m.rd 0 rfl)) ?_
 rintro⟨hl_r0,hA_r0⟩
 refine aO (fun w m=>m.iW 1 rfl View.Ex) ?_
 refine aA (fun m=>gE (m.rd 0 rfl)) ?_
 rintro⟨hl_r1,hA_r1⟩
 refine aO (fun w m=>m.iW 2 rfl View.Fw) ?_
 refine aA (fun m=>gE (m.rd 0 rfl)) ?_
 rintro⟨hl_r2,hA_r2⟩
 refine hx (aN fG (fun g4=> ?_))
 refine ai<|ak (X' :=[_,_]) (S' :=[_,_,_,_]) (fun _ m=>m)<|ag<|ah<|aj<|hy (fun _=>aa rfl)<|hy (fun _=>Dz rfl rfl)<|hy (fun _=>aK rfl gW (by decide))<| ?_
 refine cL (cG 1 rfl rfl rfl s8 rfl (by first|exact Nat.le_of_ble_eq_true rfl|simp) ?_)
 refine ai<|al (ρ' :=[(4,_),(2,_),(0,_),(1,_)]) ⟨rfl,rfl,rfl,rfl,trivial⟩<|ak (X' :=[_,_]) (S' :=[_,_,_,_]) (fun _ m=>m)<|ag<|ah<|aj<| ?_
 refine aO (S' :=cX ⟨x.d.bY n,x.A,x.c,x.Al,x.cl,x.A3,x.c3⟩::_) (fun w m=>m.xr [2,1,0] rfl) ?_
 refine aO (fun w m=>m.bQ 0 rfl (show _=aL g2 39 (RX.cs ⟨x.d.bY n,x.A,x.c,x.Al,x.cl,x.A3,x.c3⟩)from rfl)) ?_
 refine hy (fun m=>yV (aU rfl cd bh rfl ((m.a6 0 rfl).ax)) ((rfl:_=Value.agg (RX.cs ⟨x.d.bY n,x.A,x.c,x.Al,x.cl,x.A3,x.c3⟩).toArray)))<| ?_
 refine cL (aJ 1 rfl rfl rfl bh rfl bz rfl ?_)
 refine ai<|al (ρ' :=[(4,_),(2,_),(0,_),(1,_)]) ⟨rfl,rfl,rfl,rfl,trivial⟩<|ak (X' :=[_,_]) (S' :=[_,_,_,_,_]) (fun _ m=>m)<|ag<|aX<| ?_
 exact fl trivial rfl rfl cd bh rfl (fun m=>(m.a6 0 rfl).ax) [] rfl [0] rfl ⟨_,rfl,rfl,rfl,rfl⟩
end Go.Proofs.YtmibdabdlgmafaaGreatDoor
end
section
set_option maxRecDepth 20000
namespace Go.Proofs.YtmibdabdlgmafaaGreatDoor
open Go.Eng Go.Hx
theorem tR{α:Type}{f:α→List Value}{k:Nat}(hf:∀x,(f x).length=k):∀(l:List α) (i j:Nat) (x:α),l[i]? =some x→j<k→(l.flatMap f)[i*k+j]? =(f x)[j]?
 | [],i,j,x,h,hj=>by simp at h
 |a::r,0,j,x,h,hj=>by
  simp only[List.getElem?_cons_zero,Option.some.injEq]at h
  subst h
  rw[List.flatMap_cons,Nat.zero_mul,Nat.zero_add,List.getElem?_append_left (by rw[hf];exact hj)]
 |a::r,i+1,j,x,h,hj=>by
  rw[List.flatMap_cons,List.getElem?_append_right (by rw[hf,Nat.succ_mul];omega),hf,show(i+1)*k+j-k=i*k+j by rw[Nat.succ_mul];omega]
  exact tR hf r i j x (by simpa using h) hj
theorem iO{α:Type}{f:α→List Value}{k:Nat}{w:World}{A:Option Addr}{n i:Nat}{l:List α}{x:α}(hf:∀x,(f x).length=k)(h:Rd w k A n (l.flatMap f))(hx:l[i]? =some x):∀(j:Nat) (u:Value),(f x)[j]? =some u→w.cell? (((A.getD d0).add (i*k)).add j)=some u:=by
 intro j u hu
 have hj:j<k:=by have:=(List.getElem?_eq_some_iff.1 hu).1;rwa [hf]at this
 exact fb h (by rw[tR hf l i j x hx hj];exact hu)
end Go.Proofs.YtmibdabdlgmafaaGreatDoor
end
section
namespace Go.Proofs.YtmibdabdlgmafaaGreatDoor
open Go.Eng Go.Hx
theorem fL.del{fs:dK}{l:List FP}(h:fL fs l)(p:List UInt8):fL (eO fs p) (dw l p):=by
 refine⟨ov _ h.ord,l7 h.nd,fun q=> ?_,fun x hx=> ?_⟩
 ·rw[yv h.nd]
  have:=ix p l q
  unfold dw
  rw[this]
  by_cases hq:p=q
  ·rw[if_pos hq,if_pos hq.symm];rfl
  ·rw[if_neg hq,if_neg (fun e=>hq e.symm)];exact h.look q
 ·have h1:=nQ (List.mem_map.2 ⟨x,hx,rfl⟩)
  obtain⟨y,hy,e⟩:=List.mem_map.1 h1
  rw[←e];exact h.len y hy
theorem fL.at{fs:dK}{l:List FP}(h:fL fs l)(p:List UInt8):(cm fs p=none∧l[cE l p]? =none)∨∃r x,cm fs p=some r∧l[cE l p]? =some x∧r.l=x.2∧r.n=r.l.length:=by
 have h1:=h.look p
 rw[←fI]at h1
 cases ha:cm fs p with
 |none=>
  rw[ha]at h1
  cases hb:l[cE l p]? with
  |none=>exact .inl ⟨rfl,rfl⟩
  |some y=>rw[hb]at h1;cases h1
 |some r=>
  rw[ha]at h1
  cases hb:l[cE l p]? with
  |none=>rw[hb]at h1;cases h1
  |some y=>
   rw[hb]at h1
   exact .inr ⟨r,y,rfl,rfl,Option.some.inj h1,h.len _ (jX ha)⟩
def gj.rc:gj→RC
 | .written p r=>(0,p,[],r.l)
 | .renamed a c=>(1,a,c,[])
 | .removed p=>(2,p,[],[])
def gj.wl(c:gj):Prop:=∀r,c.row=some r→r.n=r.l.length
theorem fL.sY{fs:dK}{l:List FP}(h:fL fs l){c:gj}(hc:c.wl):fL (sY fs c) (dL l c.rc.1 c.rc.2.1 c.rc.2.2.1 c.rc.2.2.2):=by
 cases c with
 |written p r=>
  rw[dL]
  exact h.put (hc r rfl)
 |renamed a b=>
  rw[dL]
  simp only[gj.rc,Go.Proofs.YtmibdabdlgmafaaGreatDoor.sY]
  rcases h.at a with⟨h1,h2⟩|⟨r,x,h1,h2,h3,h4⟩
  ·simp only[h1,h2];exact h
  ·simp only[h1,h2]
   rw[←h3]
   exact(h.del a).put h4
 |removed p=>
  rw[dL]
  simp only[gj.rc,Go.Proofs.YtmibdabdlgmafaaGreatDoor.sY]
  rcases h.at p with⟨h1,h2⟩|⟨r,x,h1,h2,h3,h4⟩
  ·simp only[h2]
   have e:eO fs p=fs:=by
    have hk:¬p∈cp fs:=jW.1 h1
    clear h h2 h1
    induction fs with
    |nil=>rfl
    |cons a q ih=>
     obtain⟨k,u⟩:=a
     simp only[cp,List.map_cons,List.mem_cons,not_or]at hk
     simp only[eO]
     rw[if_neg (fun e=>hk.1 e.symm),ih hk.2]
   rw[if_neg (by decide),e];exact h
  ·simp only[h2]
   rw[if_neg (by decide)]
   exact h.del p
structure DS(st:cN)(d:RD)(k:Nat):Prop where
 mE:ve st d
 ok:oQ st k
 low:-1≤d.pw
 cO:fL st.cO d.cO
 waits:st.waits.map gj.rc=d.waits
 DN:∀c∈st.waits,c.wl
theorem DS.le{st:cN}{d:RD}{k k' :Nat}(h:DS st d k)(hk:k≤k'):DS st d k' :=⟨h.mE,h.ok.le hk,h.low,h.cO,h.waits,h.DN⟩
theorem DS.qM{st:cN}{d:RD}{k:Nat}(h:DS st d k):yi d k:=by
 refine⟨?_, ?_, ?_,by have:=h.low;omega, ?_⟩
 ·rw[←h.mE.files.B7];exact h.ok.seen
 ·rw[←h.mE.waits];have:=h.ok.rest;omega
 ·rw[←h.mE.files.mg];exact h.ok.mg
 ·rw[←h.mE.bY];exact h.ok.bY
theorem DS.init{n:Int}{gs gl:Nat}(h:n≤1048576):DS (mX n gs gl) (RD.new n) 0:=
 ⟨⟨rfl,rfl,fL.nil,rfl⟩,oQ.init h,Int.le_refl _,fL.nil,rfl,fun c hc=>by cases hc⟩
theorem rU{p:Int}(h:-1≤p):-1≤en p:=by
 unfold en
 split <;> omega
theorem DS.gA{st:cN}{d:RD}{k:Nat}(h:DS st d k){c:gj}(hc:c.wl){st1:cN}(hs:st1.room=st.room∧st1.cO=st.cO∧st1.bY=st.eP.bY∧st1.seen=sY st.seen c∧st1.waits=st.waits++[c])(ok:oQ st1 (k+1)):
  DS st1 (d.gA c.rc.1 c.rc.2.1 c.rc.2.2.1 c.rc.2.2.2) (k+1):=by
 obtain⟨h1,h2,h3,h4,h5⟩:=hs
 refine⟨⟨h1.trans h.mE.room, ?_, ?_, ?_⟩,ok,rU h.low, ?_, ?_,fun x hx=> ?_⟩
 ·rw[h3]
  show(if 0<st.bY then st.bY-1 else st.bY)=en d.pw
  rw[h.mE.bY];rfl
 ·rw[h4];exact h.mE.files.sY hc
 ·rw[h5,List.length_append,h.mE.waits]
  show _=(d.waits++[_]).length
  rw[List.length_append];rfl
 ·rw[h2];exact h.cO
 ·rw[h5,List.map_append,h.waits];rfl
 ·rw[h5]at hx
  rcases List.mem_append.1 hx with hx|hx
  ·exact h.DN x hx
  ·rw[List.mem_singleton.1 hx];exact hc
theorem DS.write{st st1:cN}{d:RD}{k n:Nat}(h:DS st d k){p l:List UInt8}{B A:Option Addr}{c1 c2:Nat}(hl:l.length=n)(hn:n≤1048576)
  (hw:(bO st p n≠0∧st1=st)∨(bO st p n=0∧st1=st.wrote p ⟨B,n,c1,l⟩ A c2)):DS st1 (d.write p l) (k+1)∧d.bO p l=bO st p n:=by
 subst hl
 have e:=h.mE.bO p l
 refine⟨?_,e.symm⟩
 unfold RD.write
 rw[←e]
 rcases hw with⟨h1,rfl⟩|⟨h1,rfl⟩
 ·rw[if_neg h1];exact h.le (Nat.le_succ _)
 ·rw[if_pos h1]
  exact h.gA (c:=.written p ⟨B,l.length,c1,l⟩) (fun r hr=>by cases hr;rfl) ⟨rfl,rfl,rfl,rfl,rfl⟩ (h.ok.wrote hn A c2)
theorem DS.cj{st:cN}{d:RD}{k:Nat}(h:DS st d k)(p:List UInt8):d.cj p=dP st p:=(h.mE.cj p).symm
theorem DS.cF{st:cN}{d:RD}{k:Nat}(h:DS st d k)(p:List UInt8):d.cF p=cF st p:=(h.mE.cF p).symm
theorem DS.rename{st st1:cN}{d:RD}{k:Nat}(h:DS st d k){a c:List UInt8}{A:Option Addr}{j:Nat}
  (hw:(b7 st a c≠0∧st1=st)∨(b7 st a c=0∧st1=st.gA (.renamed a c) A j)):DS st1 (d.rename a c) (k+1)∧d.b7 a c=b7 st a c:=by
 have e:d.b7 a c=b7 st a c:=by
  unfold RD.b7 Go.Proofs.YtmibdabdlgmafaaGreatDoor.b7
  rw[h.cj]
 refine⟨?_,e⟩
 unfold RD.rename
 rw[e]
 rcases hw with⟨h1,rfl⟩|⟨h1,rfl⟩
 ·rw[if_neg h1];exact h.le (Nat.le_succ _)
 ·rw[if_pos h1]
  exact h.gA (c:=.renamed a c) (fun r hr=>by cases hr) ⟨rfl,rfl,rfl,rfl,rfl⟩ (h.ok.gA rfl A j)
theorem DS.remove{st st1:cN}{d:RD}{k:Nat}(h:DS st d k){p:List UInt8}{A:Option Addr}{j:Nat}
  (hw:(dP st p≠0∧st1=st)∨(dP st p=0∧st1=st.gA (.removed p) A j)):DS st1 (d.remove p) (k+1):=by
 unfold RD.remove
 rw[h.cj]
 rcases hw with⟨h1,rfl⟩|⟨h1,rfl⟩
 ·rw[if_neg h1];exact h.le (Nat.le_succ _)
 ·rw[if_pos h1]
  exact h.gA (c:=.removed p) (fun r hr=>by cases hr) ⟨rfl,rfl,rfl,rfl,rfl⟩ (h.ok.gA rfl A j)
theorem DS.sync{st st1:cN}{d:RD}{k gl:Nat}(h:DS st d k)(hw:(st.bY=0∧st1=st)∨(st.bY≠0∧st1=st.synced gl)):DS st1 d.sync k∧d.dp=dp st:=by
 have e:d.dp=dp st:=by unfold RD.dp Go.Proofs.YtmibdabdlgmafaaGreatDoor.dp;rw[h.mE.bY]
 refine⟨?_,e⟩
 unfold RD.sync
 rw[←h.mE.bY]
 rcases hw with⟨h1,rfl⟩|⟨h1,rfl⟩
 ·rw[if_pos h1];exact h
 ·rw[if_neg h1]
  refine⟨⟨h.mE.room, ?_,h.mE.files,rfl⟩,h.ok.synced gl, ?_,h.mE.files,rfl,fun c hc=>by cases hc⟩
  ·rfl
  ·rw[h.mE.bY];exact rU h.low
theorem DS.bY{st:cN}{d:RD}{k:Nat}(h:DS st d k){n:Int}(hn:n≤1000000000000):DS (st.nh n) (d.bY n) k:=by
 refine⟨⟨h.mE.room,rfl,h.mE.files,h.mE.waits⟩,⟨?_,h.ok.room,h.ok.seen,h.ok.rest,h.ok.small⟩, ?_,h.cO,h.waits,h.DN⟩
 ·show max n (-1)≤_;omega
 ·show-1≤max n (-1);omega
def RD.ok(d:RD)(k:Nat):Prop:=∃st,DS st d k
theorem RD.ok.qM{d:RD}{k:Nat}(h:d.ok k):yi d k:=by obtain⟨st,h⟩:=h;exact h.qM
theorem RD.ok.write{d:RD}{k:Nat}(h:d.ok k){p l:List UInt8}(hl:l.length≤1048576):(d.write p l).ok (k+1):=by
 obtain⟨st,h⟩:=h
 by_cases he:Go.Proofs.YtmibdabdlgmafaaGreatDoor.bO st p l.length=0
 ·exact⟨_,(h.write (st1:=st.wrote p ⟨none,l.length,0,l⟩ none 0) rfl hl (.inr ⟨he,rfl⟩)).1⟩
 ·exact⟨_,(h.write (B:=none) (A:=none) (c1:=0) (c2:=0) (st1:=st) rfl hl (.inl ⟨he,rfl⟩)).1⟩
theorem RD.ok.rename{d:RD}{k:Nat}(h:d.ok k){a c:List UInt8}:(d.rename a c).ok (k+1):=by
 obtain⟨st,h⟩:=h
 by_cases he:Go.Proofs.YtmibdabdlgmafaaGreatDoor.b7 st a c=0
 ·exact⟨_,(h.rename (st1:=st.gA (.renamed a c) none 0) (.inr ⟨he,rfl⟩)).1⟩
 ·exact⟨_,(h.rename (A:=none) (j:=0) (st1:=st) (.inl ⟨he,rfl⟩)).1⟩
theorem RD.ok.remove{d:RD}{k:Nat}(h:d.ok k){p:List UInt8}:(d.remove p).ok (k+1):=by
 obtain⟨st,h⟩:=h
 by_cases he:dP st p=0
 ·exact⟨_,h.remove (st1:=st.gA (.removed p) none 0) (.inr ⟨he,rfl⟩)⟩
 ·exact⟨_,h.remove (A:=none) (j:=0) (st1:=st) (.inl ⟨he,rfl⟩)⟩
theorem RD.ok.sync{d:RD}{k:Nat}(h:d.ok k):d.sync.ok k:=by
 obtain⟨st,h⟩:=h
 by_cases he:st.bY=0
 ·exact⟨_,(h.sync (gl:=0) (st1:=st) (.inl ⟨he,rfl⟩)).1⟩
 ·exact⟨_,(h.sync (st1:=st.synced 0) (.inr ⟨he,rfl⟩)).1⟩
end Go.Proofs.YtmibdabdlgmafaaGreatDoor
end
section
namespace Go.Hx
open Go.Eng
def chunks(k:Nat)(l:List UInt8):List (List UInt8):=(List.range k).map fun i=>(l.drop (32*i)).take 32
def kO(l:List UInt8):Nat:=(l.getD 0 0).toNat+256*(l.getD 1 0).toNat+65536*(l.getD 2 0).toNat+16777216*(l.getD 3 0).toNat
theorem Cf(l:List UInt8):kO l<4294967296:=by
 have h0:=(l.getD 0 0).toNat_lt
 have h1:=(l.getD 1 0).toNat_lt
 have h2:=(l.getD 2 0).toNat_lt
 have h3:=(l.getD 3 0).toNat_lt
 unfold kO
 omega
theorem Bm{n:Nat}(h:n<4294967296):kO (gI n)=n:=by
 simp only[gI,kO,List.getD_cons_zero,List.getD_cons_succ,UInt8.toNat_ofNat']
 omega
end Go.Hx
end
section
namespace Go.Hx
open Go.Eng
def acc(l:List UInt8):Nat→Nat
 |0=>0
 |j+1=>acc l j*256+(l.getD (3-j) 0).toNat
theorem Af(l:List UInt8):∀j,acc l j<256 ^ j
 |0=>by simp[acc]
 |j+1=>by
  have h1:=Af l j
  have h2:=(l.getD (3-j) 0).toNat_lt
  rw[acc,Nat.pow_succ]
  omega
theorem Ec(l:List UInt8){j:Nat}(h:j≤4):acc l j<4294967296:=by
 have h1:=Af l j
 have h2:256 ^ j≤256 ^ 4:=Nat.pow_le_pow_right (by decide) h
 have h3:256 ^ 4=4294967296:=by decide
 omega
theorem Hh(l:List UInt8):acc l 4=kO l:=by
 have e:(3-0=3)∧(3-1=2)∧(3-2=1)∧(3-3=0):=by decide
 simp only[acc,kO,e.1,e.2.1,e.2.2.1,e.2.2.2]
 omega
theorem Cd(a b:Nat)(ha:a<4294967296)(hb:b<256):bits .or .i64 (a*256:Int) (b:Int)=((a*256+b:Nat):Int):=by
 have h1:(a*256:Int)=((a*256:Nat):Int):=by simp
 have h2:a*256 ||| b=a*256+b:=by rw[Nat.mul_comm a 256,show 256=2 ^ 8 from rfl,Nat.two_pow_add_eq_or_of_lt (by simpa using hb)]
 have e0:∀n:Nat,n<18446744073709551616→(BitVec.ofInt 64 (n:Int)).toNat=n:=fun n hn=>by
  rw[BitVec.toNat_ofInt]
  simp
  omega
 rw[h1]
 show IntKind.i64.wrap ((BitVec.ofInt 64 ((a*256:Nat):Int) ||| BitVec.ofInt 64 (b:Int)).toNat:Int)=_
 rw[BitVec.toNat_or,e0 _ (by omega),e0 _ (by omega),h2]
 exact bG (by omega) (by omega)
end Go.Hx
end
section
namespace Go.Hx
open Go.Eng
def cQ(l:List UInt8):Nat×Nat×Nat×Bool:=
 if(l.getD 0 0).toNat<128 then((l.getD 0 0).toNat+2,(l.getD 0 0).toNat+1,0,decide ((l.getD 0 0).toNat+2≤l.length))
 else if l.length<3 then(0,0,0,false)else(3,(l.getD 0 0).toNat-124,1+(l.getD 1 0).toNat+256*(l.getD 2 0).toNat,true)
def again(d:Nat):Nat→List UInt8→List UInt8
 |0,o=>o
 |k+1,o=>again d k (o++[o.getD (o.length-d) 0])
theorem nE(d:Nat):∀(k:Nat) (o:List UInt8),(again d k o).length=o.length+k
 |0,o=>rfl
 |k+1,o=>by rw[again,nE d k];simp;omega
theorem lB{l:List UInt8}(h:(cQ l).2.2.2=true):2≤(cQ l).1∧(cQ l).1≤l.length:=by
 unfold cQ at h ⊢
 split at h
 ·rename_i h1
  rw[if_pos h1]
  have:=of_decide_eq_true h
  exact⟨by show 2≤_+2;omega,this⟩
 ·rename_i h1
  rw[if_neg h1]
  split at h
  ·cases h
  ·rename_i h2
   rw[if_neg h2]
   exact⟨by show 2≤3;decide,by show 3≤_;omega⟩
theorem EF(l:List UInt8):(cQ l).2.1≤131∧(cQ l).2.2.1≤65536:=by
 have h0:=(l.getD 0 0).toNat_lt
 have h1:=(l.getD 1 0).toNat_lt
 have h2:=(l.getD 2 0).toNat_lt
 unfold cQ
 split
 ·exact⟨by show _+1≤_;omega,by show 0≤_;omega⟩
 ·split
  ·exact⟨by show 0≤_;omega,by show 0≤_;omega⟩
  ·exact⟨by show _-124≤_;omega,by show 1+_+256*_≤_;omega⟩
def made(l o:List UInt8):List UInt8:=if(cQ l).2.2.1=0 then o++(l.drop 1).take ((cQ l).1-1)else again (cQ l).2.2.1 (cQ l).2.1 o
def j0(most:Int)(l o:List UInt8):List UInt8×Int:=
 if h0:l=[]then(o,0)
 else if h1:(cQ l).2.2.2=true then
  if o.length<(cQ l).2.2.1 then([],2)else if most<(o.length:Int)+((cQ l).2.1:Nat)then([],3)else j0 most (l.drop (cQ l).1) (made l o)
 else([],2)
termination_by l.length
decreasing_by
 obtain⟨h2,h3⟩:=lB h1
 rw[List.length_drop]
 omega
theorem o9(most:Int)(o:List UInt8):j0 most [] o=(o,0):=by
 rw[j0]
 rfl
theorem lE{most:Int}{l o:List UInt8}(h0:l≠ [])(h:¬((cQ l).2.2.2=true∧(cQ l).2.2.1≤o.length)):j0 most l o=([],2):=by
 rw[j0,dif_neg h0]
 split
 ·rename_i h1
  rw[if_pos (Nat.lt_of_not_le fun h2=>h ⟨h1,h2⟩)]
 ·rfl
theorem pa{most:Int}{l o:List UInt8}(h0:l≠ [])(h1:(cQ l).2.2.2=true)(h2:(cQ l).2.2.1≤o.length)(h3:most<(o.length:Int)+((cQ l).2.1:Nat)):j0 most l o=([],3):=by
 rw[j0,dif_neg h0,dif_pos h1,if_neg (by omega),if_pos h3]
theorem nU{most:Int}{l o:List UInt8}(h0:l≠ [])(h1:(cQ l).2.2.2=true)(h2:(cQ l).2.2.1≤o.length)(h3:¬most<(o.length:Int)+((cQ l).2.1:Nat)):j0 most l o=j0 most (l.drop (cQ l).1) (made l o):=by
 rw[j0,dif_neg h0,dif_pos h1,if_neg (by omega),if_neg h3]
theorem oF{l o:List UInt8}(h1:(cQ l).2.2.2=true):(made l o).length=o.length+(cQ l).2.1:=by
 unfold made
 split
 ·rename_i h0
  obtain⟨h2,h3⟩:=lB h1
  have e:(cQ l).1-1=(cQ l).2.1:=by
   unfold cQ at h0 h1 ⊢
   split
   ·show _+2-1=_+1;omega
   ·split
    ·rename_i a1 a2;rw[if_neg a1,if_pos a2]at h1;cases h1
    ·rename_i a1 a2;rw[if_neg a1,if_neg a2]at h0;simp at h0
  rw[List.length_append,List.length_take,List.length_drop,e]
  omega
 ·exact nE _ _ _
end Go.Hx
end
section
namespace Go.Hx
open Go.Eng
def lR(b:List UInt8)(i k:Nat):Nat→Nat→Nat
 |0,n=>n
 |f+1,n=>if i+n<b.length∧b.getD (i+n) 0=b.getD (k+n) 0 then lR b i k f (n+1)else n
def l9(b:List UInt8)(i k:Nat):Nat:=lR b i k 131 0
theorem gG(b:List UInt8)(i k:Nat):∀f n,n≤lR b i k f n∧lR b i k f n≤n+f∧(i+n≤b.length→i+lR b i k f n≤b.length)∧∀j,n≤j→j<lR b i k f n→b.getD (i+j) 0=b.getD (k+j) 0
 |0,n=>⟨Nat.le_refl _,Nat.le_refl _,fun h=>h,fun j h1 h2=>by simp only[lR]at h2;omega⟩
 |f+1,n=>by
  unfold lR
  split
  ·rename_i h
   obtain⟨h1,h2,h3,h4⟩:=gG b i k f (n+1)
   refine⟨by omega,by omega,fun _=>h3 (by omega),fun j hj hj2=> ?_⟩
   rcases Nat.eq_or_lt_of_le hj with e|e
   ·rw[←e];exact h.2
   ·exact h4 j e hj2
  ·exact⟨Nat.le_refl _,by omega,fun h=>h,fun j h1 h2=>by omega⟩
theorem Ei(b:List UInt8)(i k:Nat):l9 b i k≤131:=by have:=(gG b i k 131 0).2.1;unfold l9;omega
theorem zm{b:List UInt8}{i:Nat}(k:Nat)(h:i≤b.length):i+l9 b i k≤b.length:=(gG b i k 131 0).2.2.1 (by omega)
theorem pr{b:List UInt8}{i k j:Nat}(h:j<l9 b i k):b.getD (i+j) 0=b.getD (k+j) 0:=(gG b i k 131 0).2.2.2 j (Nat.zero_le _) h
theorem lJ{b:List UInt8}{i k f n:Nat}(h:¬(i+n<b.length∧b.getD (i+n) 0=b.getD (k+n) 0)):lR b i k f n=n:=by
 cases f with
 |zero=>rfl
 |succ f=>rw[lR,if_neg h]
theorem iu{b:List UInt8}{i k f n:Nat}(hf:0<f)(h:i+n<b.length∧b.getD (i+n) 0=b.getD (k+n) 0):lR b i k f n=lR b i k (f-1) (n+1):=by
 cases f with
 |zero=>omega
 |succ f=>rw[lR,if_pos h];rfl
def eE(b:List UInt8)(p:Nat):List UInt8:=(b.drop p).take 4
theorem bN{b:List UInt8}{p:Nat}(h:p+4≤b.length):(eE b p).length=4:=by unfold eE;rw[List.length_take,List.length_drop];omega
theorem Ca{b:List UInt8}{i p:Nat}(hi:i+4≤b.length)(hp:p<i):eE b p=eE b i↔3<l9 b i p:=by
 have e:∀q,q+4≤b.length→eE b q=[b.getD (q+0) 0,b.getD (q+1) 0,b.getD (q+2) 0,b.getD (q+3) 0]:=by
  intro q hq
  apply List.ext_getElem?
  intro j
  unfold eE
  rw[List.getElem?_take,List.getElem?_drop]
  rcases j with _|_|_|_|j
  all_goals simp
  all_goals (try (rw[List.getElem?_eq_getElem (by omega)];rfl))
  all_goals (try (intro h;omega))
 rw[e p (by omega),e i hi]
 constructor
 ·intro h
  simp only[List.cons.injEq,and_true]at h
  have e0:l9 b i p=lR b i p 127 4:=by
   unfold l9
   rw[iu (by decide) ⟨by omega,h.1.symm⟩,iu (by decide) ⟨by omega,h.2.1.symm⟩,iu (by decide) ⟨by omega,h.2.2.1.symm⟩,iu (by decide) ⟨by omega,h.2.2.2.symm⟩]
  rw[e0]
  exact(gG b i p 127 4).1
 ·intro h
  simp only[List.cons.injEq,and_true]
  exact⟨(pr (by omega)).symm,(pr (by omega)).symm,(pr (by omega)).symm,(pr (by omega)).symm⟩
def gF(b:List UInt8)(i:Nat)(s:Nat×Nat)(d:Nat):Nat×Nat:=if 3<l9 b i (i-d)∧s.1<l9 b i (i-d)then(l9 b i (i-d),d)else s
def ct(b:List UInt8)(i k:Nat):Nat×Nat:=(List.range' 1 k).foldl (gF b i) (0,0)
theorem dS(b:List UInt8)(i k:Nat):ct b i (k+1)=gF b i (ct b i k) (k+1):=by
 unfold ct
 rw[List.range'_concat,List.foldl_append]
 simp[Nat.add_comm]
def a7(b:List UInt8)(i:Nat):Nat×Nat:=ct b i (min i 1024)
def fU(b:List UInt8)(i:Nat)(s:Nat×Nat)(p:Nat):Nat×Nat:=if 1024<i-p then s else if s.1<l9 b i p then(l9 b i p,i-p)else s
def kR(b:List UInt8)(n:Nat)(k:List UInt8):List Nat:=(List.range n).filter fun p=>decide (eE b p=k)
theorem xF(b:List UInt8)(n:Nat)(k:List UInt8):kR b (n+1) k=kR b n k++if eE b n=k then [n]else []:=by
 unfold kR
 rw[List.range_succ,List.filter_append]
 congr 1
 by_cases h:eE b n=k <;> simp[h]
theorem Ct{b:List UInt8}{n p:Nat}{k:List UInt8}(h:p∈kR b n k):p<n∧eE b p=k:=by
 unfold kR at h
 simpa using h
theorem om(b:List UInt8)(n:Nat)(k:List UInt8):(kR b n k).length≤n:=by
 unfold kR
 exact Nat.le_trans (List.length_filter_le _ _) (by simp)
theorem ym(i:Nat):(List.range i).reverse=(List.range' 1 i).map fun d=>i-d:=by
 apply List.ext_getElem
 ·simp
 ·intro j h1 h2
  simp
  omega
theorem ke{α β:Type}(f:β→α→β)(s:β):∀(l:List α),(∀x∈l,∀t,f t x=t)→l.foldl f s=s
 | [],_=>rfl
 |x::l,h=>by
  rw[List.foldl_cons,h x (by simp) s]
  exact ke f s l (fun y hy=>h y (List.mem_cons_of_mem _ hy))
theorem uc{b:List UInt8}{i:Nat}(hi:i+4≤b.length):(kR b i (eE b i)).reverse.foldl (fU b i) (0,0)=a7 b i:=by
 unfold kR a7
 rw[←List.filter_reverse,ym,List.filter_map,List.foldl_map,List.foldl_filter]
 have h1:∀(l:List Nat) (s:Nat×Nat),(∀d∈l,1≤d∧d≤i)→l.foldl (fun s d=>if((fun p=>decide (eE b p=eE b i)) ∘ fun d=>i-d) d=true then fU b i s (i-d)else s) s=l.foldl (fun s d=>if 1024<d then s else gF b i s d) s:=by
  intro l
  induction l with
  |nil=>intro s _;rfl
  |cons d l ih=>
   intro s hd
   simp only[List.foldl_cons]
   rw[ih _ (fun x hx=>hd x (List.mem_cons_of_mem _ hx))]
   congr 1
   obtain⟨hd1,hd2⟩:=hd d (by simp)
   have e:=Ca (p:=i-d) hi (by omega)
   simp only[Function.comp_apply,decide_eq_true_eq]
   unfold fU gF
   rw[show i-(i-d)=d by omega]
   by_cases hk:eE b (i-d)=eE b i
   ·rw[if_pos hk]
    have:=e.1 hk
    split
    ·rfl
    ·by_cases h:s.1<l9 b i (i-d)
     ·rw[if_pos h,if_pos ⟨this,h⟩]
     ·rw[if_neg h,if_neg (fun q=>h q.2)]
   ·rw[if_neg hk]
    split
    ·rfl
    ·rw[if_neg (fun q=>hk (e.2 q.1))]
 rw[h1 _ _ (fun d hd=>by simp at hd;omega)]
 have h2:List.range' 1 i=List.range' 1 (min i 1024)++List.range' (1+min i 1024) (i-min i 1024):=by
  rw[List.range'_append_1]
  congr 1
  omega
 rw[h2,List.foldl_append,ke _ _ (List.range' (1+min i 1024) (i-min i 1024))]
 ·unfold ct
  have h3:∀(l:List Nat) (s:Nat×Nat),(∀d∈l,d≤1024)→l.foldl (fun s d=>if 1024<d then s else gF b i s d) s=l.foldl (gF b i) s:=by
   intro l
   induction l with
   |nil=>intro s _;rfl
   |cons d l ih=>
    intro s hd
    simp only[List.foldl_cons]
    rw[if_neg (by have:=hd d (by simp);omega)]
    exact ih _ (fun x hx=>hd x (List.mem_cons_of_mem _ hx))
  exact h3 _ _ (fun d hd=>by simp at hd;omega)
 ·intro d hd t
  simp at hd
  rw[if_pos (by omega)]
theorem uI(b:List UInt8)(n:Nat)(k:List UInt8):(kR b n k).Pairwise (· <·):=(List.pairwise_lt_range).filter _
theorem xR{b:List UInt8}{i n x:Nat}{k:List UInt8}{pre rest:List Nat}{s:Nat×Nat}(h:(kR b n k).reverse=pre++x::rest)(hx:1024<i-x):(kR b n k).reverse.foldl (fU b i) s=pre.foldl (fU b i) s:=by
 have hs:(pre++x::rest).Pairwise (· >·):=by
  rw[←h,List.pairwise_reverse]
  exact uI b n k
 rw[h,List.foldl_append]
 refine ke _ _ _ fun y hy t=> ?_
 have h1:=(List.pairwise_cons.1 (List.pairwise_append.1 hs).2.1).1
 unfold fU
 rw[if_pos]
 rcases List.mem_cons.1 hy with rfl|hy
 ·exact hx
 ·have:=h1 y hy
  omega
theorem tT{b:List UInt8}{i:Nat}(hi:i≤b.length)(h:b.length<i+4):a7 b i=(0,0):=by
 unfold a7 ct
 refine ke _ _ _ fun d hd t=> ?_
 unfold gF
 rw[if_neg]
 intro q
 have:=zm (i-d) hi
 omega
theorem rG(b:List UInt8)(i:Nat)(hi:i≤b.length):∀k,k≤i→(ct b i k=(0,0))∨(4≤(ct b i k).1∧(ct b i k).1≤131∧1≤(ct b i k).2∧(ct b i k).2≤k∧i+(ct b i k).1≤b.length∧(ct b i k).1=l9 b i (i-(ct b i k).2))
 |0,_=>.inl rfl
 |k+1,hk=>by
  rw[dS]
  unfold gF
  split
  ·rename_i h
   exact .inr ⟨by show 4≤l9 _ _ _;omega,Ei _ _ _,by show 1≤k+1;omega,Nat.le_refl _,zm _ hi,rfl⟩
  ·rcases rG b i hi k (by omega)with h|h
   ·exact .inl h
   ·exact .inr ⟨h.1,h.2.1,h.2.2.1,by omega,h.2.2.2.2.1,h.2.2.2.2.2⟩
theorem lI{b:List UInt8}{i:Nat}(hi:i≤b.length):(a7 b i=(0,0))∨(4≤(a7 b i).1∧(a7 b i).1≤131∧1≤(a7 b i).2∧(a7 b i).2≤min i 1024∧i+(a7 b i).1≤b.length∧(a7 b i).1=l9 b i (i-(a7 b i).2)):=rG b i hi _ (by omega)
def eG(l:List UInt8):List UInt8:=if h:l=[]then []else UInt8.ofNat (min l.length 128-1)::l.take 128++eG (l.drop 128)
termination_by l.length
decreasing_by
 have:=List.length_pos_iff.2 h
 rw[List.length_drop]
 omega
theorem nv:eG []=[]:=by rw[eG];rfl
theorem ln{l:List UInt8}(h:l≠ []):eG l=UInt8.ofNat (min l.length 128-1)::l.take 128++eG (l.drop 128):=by rw[eG,dif_neg h]
theorem fF(l:List UInt8):(eG l).length≤2*l.length:=by
 by_cases h:l=[]
 ·subst h;rw[nv];simp
 ·have hp:=List.length_pos_iff.2 h
  have hd:(l.drop 128).length=l.length-128:=List.length_drop
  have:=fF (l.drop 128)
  rw[ln h]
  simp only[List.length_append,List.length_cons,List.length_take]
  omega
termination_by l.length
decreasing_by
 rw[List.length_drop]
 have:=List.length_pos_iff.2 h
 omega
def gh(m:Nat×Nat):List UInt8:=[UInt8.ofNat (124+m.1),UInt8.ofNat (m.2-1),UInt8.ofNat ((m.2-1)/256)]
def gJ(b:List UInt8)(i:Nat)(own out:List UInt8):List UInt8:=
 if h:i<b.length then
  if h0:(a7 b i).1=0 then gJ b (i+1) (own++[b.getD i 0]) out
  else gJ b (i+(a7 b i).1) [] (out++eG own++gh (a7 b i))
 else out++eG own
termination_by b.length-i
def eN(b:List UInt8):List UInt8:=gJ b 0 [] []
theorem lv{b own out:List UInt8}{i:Nat}(h:¬i<b.length):gJ b i own out=out++eG own:=by rw[gJ,dif_neg h]
theorem lH{b own out:List UInt8}{i:Nat}(h:i<b.length)(h0:(a7 b i).1=0):gJ b i own out=gJ b (i+1) (own++[b.getD i 0]) out:=by rw[gJ,dif_pos h,dif_pos h0]
theorem je{b own out:List UInt8}{i:Nat}(h:i<b.length)(h0:(a7 b i).1≠0):gJ b i own out=gJ b (i+(a7 b i).1) [] (out++eG own++gh (a7 b i)):=by rw[gJ,dif_pos h,dif_neg h0]
theorem kq:∀(b:List UInt8) (i:Nat) (own out:List UInt8),i≤b.length→out.length+2*own.length≤2*i→(gJ b i own out).length≤2*b.length
 |b,i,own,out,hi,h=>by
  by_cases hlt:i<b.length
  ·by_cases h0:(a7 b i).1=0
   ·rw[lH hlt h0]
    exact kq b (i+1) _ _ (by omega) (by simp;omega)
   ·rw[je hlt h0]
    rcases lI hi with hm|hm
    ·rw[hm]at h0;exact absurd rfl h0
    ·have:=fF own
     exact kq b _ _ _ (by omega) (by simp[gh];omega)
  ·rw[lv hlt,List.length_append]
   have:=fF own
   omega
termination_by b i=>b.length-i
theorem nw(b:List UInt8):(eN b).length≤2*b.length:=kq b 0 [] [] (Nat.zero_le _) (by simp)
theorem BS{k:Nat}{l r:List UInt8}(hk:k<128)(hl:l.length=k+1):cQ (UInt8.ofNat k::(l++r))=(k+2,k+1,0,true):=by
 have e:(UInt8.ofNat k).toNat=k:=by rw[UInt8.toNat_ofNat',Nat.mod_eq_of_lt (by omega)]
 unfold cQ
 rw[List.getD_cons_zero,e,if_pos hk]
 simp only[List.length_cons,List.length_append,hl]
 congr 3
 exact decide_eq_true (by omega)
theorem qj{most:Int}(l r o:List UInt8)(hm:(o.length:Int)+l.length≤most):j0 most (eG l++r) o=j0 most r (o++l):=by
 by_cases h:l=[]
 ·subst h;rw[nv];simp
 ·have hp:=List.length_pos_iff.2 h
  have hk:min l.length 128-1<128:=by omega
  have htl:(l.take 128).length=(min l.length 128-1)+1:=by rw[List.length_take];omega
  have hsp:l.take 128++l.drop 128=l:=List.take_append_drop 128 l
  have hlen:l.length=(l.take 128).length+(l.drop 128).length:=by rw[←List.length_append,hsp]
  rw[ln h,List.append_assoc,List.cons_append]
  have ht:=BS (r:=eG (l.drop 128)++r) hk htl
  rw[nU (by simp) (by rw[ht]) (by rw[ht];exact Nat.zero_le _) (by rw[ht];simp only;omega)]
  have hmd:made (UInt8.ofNat (min l.length 128-1)::(l.take 128++(eG (l.drop 128)++r))) o=o++l.take 128:=by
   unfold made
   rw[ht,if_pos rfl]
   simp only[List.drop_succ_cons,List.drop_zero]
   rw[List.take_append_of_le_length (by omega),List.take_of_length_le (by omega)]
  rw[hmd,ht]
  have hdr:(UInt8.ofNat (min l.length 128-1)::(l.take 128++(eG (l.drop 128)++r))).drop (min l.length 128-1+2)=eG (l.drop 128)++r:=by
   rw[show min l.length 128-1+2=(l.take 128).length+1 by omega,List.drop_succ_cons,List.drop_left]
  simp only
  rw[hdr,qj (l.drop 128) r (o++l.take 128) (by rw[List.length_append];omega),List.append_assoc,hsp]
termination_by l.length
decreasing_by
 rw[List.length_drop]
 have:=List.length_pos_iff.2 h
 omega
theorem oz{b:List UInt8}{i d:Nat}(hd:1≤d)(hdi:d≤i):∀(n k:Nat),i+k+n≤b.length→(∀j,k≤j→j<k+n→b.getD (i+j) 0=b.getD (i-d+j) 0)→again d n (b.take (i+k))=b.take (i+k+n)
 |0,k,_,_=>rfl
 |n+1,k,hb,h=>by
  have hl:(b.take (i+k)).length=i+k:=by rw[List.length_take];omega
  rw[again,hl]
  have e:(b.take (i+k)).getD (i+k-d) 0=b.getD (i+k) 0:=by
   rw[h k (Nat.le_refl _) (by omega)]
   rw[List.getD_eq_getElem?_getD,List.getElem?_take,if_pos (by omega),←List.getD_eq_getElem?_getD]
   congr 1
   omega
  rw[e]
  have e2:b.take (i+k)++[b.getD (i+k) 0]=b.take (i+(k+1)):=by
   rw[show i+(k+1)=(i+k)+1 by omega,dY (by omega)]
  rw[e2,oz hd hdi n (k+1) (by omega) (fun j h1 h2=>h j (by omega) (by omega))]
  congr 1
  omega
theorem xH{m:Nat×Nat}{r:List UInt8}(h1:4≤m.1)(h2:m.1≤131)(h3:1≤m.2)(h4:m.2≤1024):cQ (gh m++r)=(3,m.1,m.2,true):=by
 have e0:(UInt8.ofNat (124+m.1)).toNat=124+m.1:=by rw[UInt8.toNat_ofNat',Nat.mod_eq_of_lt (by omega)]
 have e1:(UInt8.ofNat (m.2-1)).toNat=(m.2-1) % 256:=UInt8.toNat_ofNat'
 have e2:(UInt8.ofNat ((m.2-1)/256)).toNat=(m.2-1)/256:=by rw[UInt8.toNat_ofNat',Nat.mod_eq_of_lt (by omega)]
 unfold cQ gh
 simp only[List.cons_append,List.nil_append,List.getD_cons_zero,List.getD_cons_succ,List.length_cons,e0,e1,e2]
 rw[if_neg (by omega),if_neg (by omega)]
 simp only[Prod.mk.injEq,true_and,and_true]
 omega
theorem nN{most:Int}:∀(b:List UInt8) (i:Nat) (own out o:List UInt8),(b.length:Int)≤most→i≤b.length→o++own=b.take i→(∀r,j0 most (out++r) []=j0 most r o)→j0 most (gJ b i own out) []=(b,0)
 |b,i,own,out,o,hm,hi,hown,hout=>by
  have hol:o.length+own.length=i:=by
   have:=congrArg List.length hown
   rw[List.length_append,List.length_take]at this
   omega
  by_cases hlt:i<b.length
  ·by_cases h0:(a7 b i).1=0
   ·rw[lH hlt h0]
    refine nN b (i+1) _ _ o hm (by omega) ?_ hout
    rw[←List.append_assoc,hown,dY hlt]
   ·rw[je hlt h0]
    rcases lI hi with hk|⟨m1,m2,m3,m4,m5,m6⟩
    ·rw[hk]at h0;exact absurd rfl h0
    ·have hd1:(a7 b i).2≤i:=by omega
     have hd2:(a7 b i).2≤1024:=by omega
     refine nN b _ _ _ (b.take (i+(a7 b i).1)) hm m5 (by simp) fun r=> ?_
     rw[List.append_assoc,List.append_assoc,hout,qj _ _ _ (by omega),hown]
     have ht:=xH (r:=r) m1 m2 m3 hd2
     have hl:(b.take i).length=i:=by rw[List.length_take];omega
     rw[nU (by simp[gh]) (by rw[ht]) (by rw[ht,hl];exact hd1) (by rw[ht,hl];simp only;omega)]
     rw[ht]
     have hdr:(gh (a7 b i)++r).drop 3=r:=rfl
     simp only
     rw[hdr]
     congr 1
     unfold made
     rw[ht,if_neg (by simp only;omega)]
     have:=oz (b:=b) (i:=i) m3 hd1 (a7 b i).1 0 (by omega) (fun j _ hj=>pr (by omega))
     exact this
  ·rw[lv hlt,hout]
   have:=qj (most:=most) own [] o (by omega)
   rw[List.append_nil]at this
   rw[this,o9,hown,List.take_of_length_le (by omega)]
termination_by b i=>b.length-i
theorem xY{b:List UInt8}{most:Int}(h:(b.length:Int)≤most):j0 most (eN b) []=(b,0):=nN b 0 [] [] [] h (Nat.zero_le _) rfl (fun r=>rfl)
end Go.Hx
end
section
namespace Go.Hx
open Go.Eng
def vg(b:List UInt8):Bool:=decide ((eN b).length<b.length)
def iH(b:List UInt8):List UInt8:=if vg b then eN b else b
def bK(b:List UInt8):List UInt8:=[76,if vg b then 1 else 0]++gI b.length++iH b++gI (cZ b)
theorem sU(b:List UInt8):(iH b).length≤b.length:=by
 unfold iH vg
 split
 ·rename_i h;have:=of_decide_eq_true h;omega
 ·exact Nat.le_refl _
theorem kd(b:List UInt8):(bK b).length=(iH b).length+10:=by simp[bK,fq];omega
theorem lg(b:List UInt8):10≤(bK b).length∧(bK b).length≤b.length+10:=by
 have:=sU b
 rw[kd]
 omega
def gS(f:List UInt8):Option Nat:=if f.length<10∨f.getD 0 0≠76∨1<(f.getD 1 0).toNat then none else some (kO (f.drop 2))
def dG(f:List UInt8):List UInt8:=(f.drop 6).take (f.length-10)
def vF(f:List UInt8)(n:Nat):List UInt8×Int:=if f.getD 1 0=1 then j0 n (dG f) []else(dG f,0)
def fX(f:List UInt8)(n:Nat):List UInt8×Int:=
 if(vF f n).2≠0 then([],2)else if(vF f n).1.length≠n then([],2)else if gI (cZ (vF f n).1)≠f.drop (f.length-4)then([],7)else((vF f n).1,0)
def dh(f:List UInt8)(most:Int):List UInt8×Int:=
 match gS f with
 |none=>([],2)
 |some n=>if most<n then([],3)else fX f n
theorem pU{most:Int}:∀(l o:List UInt8),(o.length:Int)≤most→(((j0 most l o).1.length:Int)≤most∨(j0 most l o).1=[])∧((j0 most l o).2=0∨(j0 most l o).2=2∨(j0 most l o).2=3)∧((j0 most l o).2≠0→(j0 most l o).1=[])
 |l,o,hm=>by
  by_cases h0:l=[]
  ·subst h0;rw[o9];exact⟨.inl hm,.inl rfl,fun h=>absurd rfl h⟩
  ·by_cases h1:(cQ l).2.2.2=true∧(cQ l).2.2.1≤o.length
   ·by_cases h2:most<(o.length:Int)+((cQ l).2.1:Nat)
    ·rw[pa h0 h1.1 h1.2 h2];exact⟨.inr rfl,.inr (.inr rfl),fun _=>rfl⟩
    ·rw[nU h0 h1.1 h1.2 h2]
     exact pU _ _ (by rw[oF h1.1];omega)
   ·rw[lE h0 h1];exact⟨.inr rfl,.inr (.inl rfl),fun _=>rfl⟩
termination_by l=>l.length
decreasing_by
 obtain⟨h2,h3⟩:=lB h1.1
 rw[List.length_drop]
 omega
theorem AQ{f:List UInt8}{n:Nat}(h:(fX f n).2=0):(fX f n).1.length=n:=by
 unfold fX at h ⊢
 split at h
 ·cases h
 ·rename_i h1
  rw[if_neg h1]
  split at h
  ·cases h
  ·rename_i h2
   rw[if_neg h2]
   split at h
   ·cases h
   ·rename_i h3
    rw[if_neg h3]
    exact Decidable.not_not.1 h2
theorem yu{f:List UInt8}{n:Nat}(h:(fX f n).2≠0):(fX f n).1=[]:=by
 unfold fX at h ⊢
 split at h
 ·rename_i h1;rw[if_pos h1]
 ·rename_i h1
  rw[if_neg h1]
  split at h
  ·rename_i h2;rw[if_pos h2]
  ·rename_i h2
   rw[if_neg h2]
   split at h
   ·rename_i h3;rw[if_pos h3]
   ·exact absurd rfl h
theorem yb{f:List UInt8}{most:Int}(h:(dh f most).2≠0):(dh f most).1=[]:=by
 unfold dh at h ⊢
 split at h
 ·rfl
 ·rename_i n hn
  split at h
  ·rename_i h1;rw[if_pos h1]
  ·rename_i h1;rw[if_neg h1];exact yu h
theorem yH{f:List UInt8}{most:Int}(h:(dh f most).2=0):((dh f most).1.length:Int)≤most:=by
 unfold dh at h ⊢
 split at h
 ·cases h
 ·rename_i n hn
  split at h
  ·cases h
  ·rename_i h1;rw[if_neg h1,AQ h];omega
theorem rP{f:List UInt8}{most:Int}(hm:0≤most):((dh f most).1.length:Int)≤most:=by
 by_cases h:(dh f most).2=0
 ·exact yH h
 ·rw[yb h];simpa using hm
theorem mj(b:List UInt8):(bK b).getD 0 0=76∧(bK b).getD 1 0=(if vg b then 1 else 0)∧(bK b).drop 2=gI b.length++(iH b++gI (cZ b))∧dG (bK b)=iH b∧(bK b).drop ((bK b).length-4)=gI (cZ b):=by
 refine⟨by simp[bK],by simp[bK],by simp[bK], ?_, ?_⟩
 ·unfold dG
  have h6:(bK b).drop 6=iH b++gI (cZ b):=by simp[bK,gI]
  rw[h6,kd,Nat.add_sub_cancel]
  exact List.take_left
 ·rw[kd]
  have:bK b=([76,if vg b then 1 else 0]++gI b.length++iH b)++gI (cZ b):=rfl
  rw[this,List.drop_append_of_le_length (by simp[fq];omega),List.drop_of_length_le (by simp[fq];omega)]
  rfl
theorem xB{b:List UInt8}(h:b.length<4294967296):gS (bK b)=some b.length:=by
 obtain⟨h0,h1,h2,_,_⟩:=mj b
 have hl:=lg b
 unfold gS
 rw[if_neg,h2]
 ·congr 1
  have:kO (gI b.length++(iH b++gI (cZ b)))=kO (gI b.length):=by simp[kO,gI]
  rw[this,Bm h]
 ·rw[h0,h1]
  rintro(q|q|q)
  ·omega
  ·exact q rfl
  ·cases hp:vg b <;> rw[hp]at q <;> exact absurd q (by decide)
theorem zL(b:List UInt8):vF (bK b) b.length=(b,0):=by
 obtain⟨_,h1,_,h3,_⟩:=mj b
 unfold vF
 rw[h1,h3]
 cases hp:vg b with
 |true=>
  rw[if_pos rfl]
  unfold iH
  rw[hp,if_pos rfl]
  exact xY (Int.le_refl _)
 |false=>
  rw[if_neg (by decide)]
  unfold iH
  rw[hp]
  rfl
theorem yn{b:List UInt8}{most:Int}(h:b.length<4294967296)(hm:(b.length:Int)≤most):dh (bK b) most=(b,0):=by
 unfold dh
 rw[xB h]
 simp only
 rw[if_neg (by omega)]
 unfold fX
 rw[zL,(mj b).2.2.2.2,if_neg (by simp),if_neg (by simp),if_neg (by simp)]
end Go.Hx
end
section
namespace Go.Proofs.YtmibdabdlgmafaaGreatDoor
open Go.Eng Go.Hx
def aH(nm:List UInt8):List UInt8:=[99,47]++(cf nm).take 2++[47]++cf nm
def bT(nm:List UInt8):List UInt8:=[116,47]++cf nm
theorem ee{nm:List UInt8}(h:nm.length=32):(aH nm).length=69:=by simp[aH,dQ,h]
theorem jq{nm:List UInt8}(h:nm.length=32):(bT nm).length=66:=by simp[bT,dQ,h]
theorem ji{nm:List UInt8}(h:nm.length=32):(aH nm).drop 5=cf nm:=by
 have h2:((cf nm).take 2).length=2:=by rw[List.length_take,dQ,h];rfl
 unfold aH
 rw[List.drop_append_of_le_length (by simp[h2]),List.drop_of_length_le (by simp[h2])]
 rfl
theorem ka{a b:List UInt8}(ha:a.length=32)(hb:b.length=32)(h:aH a=aH b):a=b:=by
 have:=congrArg (List.drop 5) h
 rw[ji ha,ji hb]at this
 exact AP this
def RD.xM(d:RD)(nm:List UInt8):List UInt8×Int:=dh (d.cF (aH nm)) 4096
def RD.fg(d:RD)(nm:List UInt8):Int:=if d.cj (aH nm)≠0 then d.cj (aH nm)else if(d.xM nm).2≠0∨bk (d.xM nm).1≠nm then 7 else 0
def RD.pM(d:RD)(nm:List UInt8):List UInt8:=if d.fg nm=0 then(d.xM nm).1 else []
theorem jV{d:RD}{nm:List UInt8}(h:d.cj (aH nm)≠0):d.fg nm=d.cj (aH nm):=by unfold RD.fg;rw[if_pos h]
theorem nf{d:RD}{nm:List UInt8}(h:d.cj (aH nm)=0)(h2:(d.xM nm).2≠0∨bk (d.xM nm).1≠nm):d.fg nm=7:=by unfold RD.fg;rw[if_neg (fun q=>q h),if_pos h2]
theorem sk{d:RD}{nm:List UInt8}(h:d.cj (aH nm)=0)(h2:¬((d.xM nm).2≠0∨bk (d.xM nm).1≠nm)):d.fg nm=0:=by unfold RD.fg;rw[if_neg (fun q=>q h),if_neg h2]
theorem lq{d:RD}{nm:List UInt8}(h:d.fg nm≠0):d.pM nm=[]:=by unfold RD.pM;rw[if_neg h]
theorem r7{d:RD}{nm:List UInt8}(h:d.fg nm=0):d.pM nm=(d.xM nm).1:=by unfold RD.pM;rw[if_pos h]
def cB:List (RD→RD×Int)→RD→RD×Int
 | [],d=>(d,0)
 |f::r,d=>if(f d).2≠0 then f d else cB r (f d).1
def sS(p b:List UInt8)(d:RD):RD×Int:=(d.write p b,d.bO p b)
def cH(d:RD):RD×Int:=(d.sync,d.dp)
def sG(a c:List UInt8)(d:RD):RD×Int:=(d.rename a c,d.b7 a c)
def n4(p:List UInt8)(d:RD):RD×Int:=(d.remove p,d.cj p)
def ec:List UInt8:=List.replicate 32 0
def RD.iY(d:RD)(b:List UInt8):RD×Int:=cB [sS (bT (bk b)) (bK b),cH,sG (bT (bk b)) (aH (bk b)),cH] d
def RD.put(d:RD)(b:List UInt8):RD×List UInt8×Int:=
 if 4096<b.length then(d,ec,3)
 else if d.fg (bk b)=6 then(d,ec,6)
 else if d.fg (bk b)=0 then(d,bk b,0)
 else((d.iY b).1,if(d.iY b).2=0 then bk b else ec,(d.iY b).2)
end Go.Proofs.YtmibdabdlgmafaaGreatDoor
end
section
set_option maxRecDepth 20000
set_option maxHeartbeats 2000000
namespace Go.Proofs.YtmibdabdlgmafaaGreatDoor
open Go.Eng Go.Hx
theorem ja{a b:List UInt8}(h:a.length+b.length≤1000000):(strOf a).size+(strOf b).size≤9223372036854775807:=by rw[cY,cY];omega
theorem se{nm:List UInt8}(hm:nm.length=32):ck Tryz.prog 94 [.agg (aV nm).toArray] [] [] (fun v_ X_ S_=>v_=(.string (strOf (aH nm)))∧X_=[]∧S_=[]):=by
 have hhl:(cf nm).length=64:=by rw[dQ,hm]
 have h2:((cf nm).take 2).length=2:=by rw[List.length_take,hhl];rfl
 refine aP (N:=12) Tryz.func94 rfl rfl (by simp) fun b=> ?_
 refine ah<|aj<| ?_
 refine hx (cw rfl (fun g1=> ?_))
 refine aO (fun w m=>m.bQ 0 rfl (show _=aL g1 53 (aV nm)from congrArg (aL _ _) (bp _))) ?_
 refine hy (fun _=>ab rfl)<|ai<|ak (X' :=[_]) (S' :=[]) (fun _ m=>m)<|ag<|ah<|aj<|hy (fun m=>aU rfl b9 bf (by rw[az];exact hm) ((m.a6 0 rfl).ax))<| ?_
 refine hx (aq rfl Tryz.call104 (A9 hm) [] rfl [] rfl ?_)
 rintro _ _ _ ⟨rfl,rfl,rfl⟩
 refine hy (fun _=>ab rfl)<|ai<|al (ρ' :=[(3,_),(2,_),(1,_),(0,_)]) ⟨rfl,rfl,rfl,rfl,trivial⟩<|ak (X' :=[_]) (S' :=[]) (fun _ m=>m)<|ag<|ah<|aj<|hy (fun _=>aa rfl)<|hy (fun _=>yV (sT rfl rfl Tryz.underlying9 (show((2:Nat):Int)=2 from rfl) (show 2≤(cf nm).length by omega)) ((rfl:_=Value.string (strOf ((cf nm).take 2)))))<|hy (fun _=>yV (jA rfl rfl (ja (a:=[99,47]) (b:=(cf nm).take 2) (by simp[h2]))) ((show Value.string (strOf [99,47]++strOf ((cf nm).take 2))= .string (strOf ([99,47]++(cf nm).take 2))from congrArg Value.string (dA _ _))))<|hy (fun _=>yV (jA rfl rfl (ja (a:=[99,47]++(cf nm).take 2) (b:=[47]) (by simp[h2]))) ((show Value.string (strOf ([99,47]++(cf nm).take 2)++strOf [47])= .string (strOf ([99,47]++(cf nm).take 2++[47]))from congrArg Value.string (dA _ _))))<|hy (fun _=>aa rfl)<|hy (fun _=>yV (jA rfl rfl (ja (a:=[99,47]++(cf nm).take 2++[47]) (b:=cf nm) (by simp[h2,hhl]))) ((show Value.string (strOf ([99,47]++(cf nm).take 2++[47])++strOf (cf nm))= .string (strOf (aH nm))from congrArg Value.string (dA _ _))))<|hy (fun _=>ab rfl)<|ai<|al (ρ' :=[(2,_),(3,_),(1,_),(0,_)]) ⟨rfl,rfl,rfl,rfl,trivial⟩<|ag<|aX<| ?_
 exact bg trivial rfl rfl [] rfl [] rfl ⟨rfl,rfl,rfl⟩
theorem lj{nm:List UInt8}(hm:nm.length=32):ck Tryz.prog 29 [.agg (aV nm).toArray] [] [] (fun v_ X_ S_=>v_=(.string (strOf (aH nm)))∧X_=[]∧S_=[]):=by
 have hhl:(cf nm).length=64:=by rw[dQ,hm]
 have h2:((cf nm).take 2).length=2:=by rw[List.length_take,hhl];rfl
 refine aP (N:=12) Tryz.func29 rfl rfl (by simp) fun b=> ?_
 refine ah<|aj<| ?_
 refine hx (cw rfl (fun g1=> ?_))
 refine aO (fun w m=>m.bQ 0 rfl (show _=aL g1 53 (aV nm)from congrArg (aL _ _) (bp _))) ?_
 refine hy (fun _=>ab rfl)<|ai<|ak (X' :=[_]) (S' :=[]) (fun _ m=>m)<|ag<|ah<|aj<|hy (fun m=>aU rfl b9 bf (by rw[az];exact hm) ((m.a6 0 rfl).ax))<| ?_
 refine hx (aq rfl Tryz.call111 (wQ hm) [] rfl [] rfl ?_)
 rintro _ _ _ ⟨rfl,rfl,rfl⟩
 refine hy (fun _=>ab rfl)<|ai<|al (ρ' :=[(3,_),(2,_),(1,_),(0,_)]) ⟨rfl,rfl,rfl,rfl,trivial⟩<|ak (X' :=[_]) (S' :=[]) (fun _ m=>m)<|ag<|ah<|aj<|hy (fun _=>aa rfl)<|hy (fun _=>yV (sT rfl rfl Tryz.underlying9 (show((2:Nat):Int)=2 from rfl) (show 2≤(cf nm).length by omega)) ((rfl:_=Value.string (strOf ((cf nm).take 2)))))<|hy (fun _=>yV (jA rfl rfl (ja (a:=[99,47]) (b:=(cf nm).take 2) (by simp[h2]))) ((show Value.string (strOf [99,47]++strOf ((cf nm).take 2))= .string (strOf ([99,47]++(cf nm).take 2))from congrArg Value.string (dA _ _))))<|hy (fun _=>yV (jA rfl rfl (ja (a:=[99,47]++(cf nm).take 2) (b:=[47]) (by simp[h2]))) ((show Value.string (strOf ([99,47]++(cf nm).take 2)++strOf [47])= .string (strOf ([99,47]++(cf nm).take 2++[47]))from congrArg Value.string (dA _ _))))<|hy (fun _=>aa rfl)<|hy (fun _=>yV (jA rfl rfl (ja (a:=[99,47]++(cf nm).take 2++[47]) (b:=cf nm) (by simp[h2,hhl]))) ((show Value.string (strOf ([99,47]++(cf nm).take 2++[47])++strOf (cf nm))= .string (strOf (aH nm))from congrArg Value.string (dA _ _))))<|hy (fun _=>ab rfl)<|ai<|al (ρ' :=[(2,_),(3,_),(1,_),(0,_)]) ⟨rfl,rfl,rfl,rfl,trivial⟩<|ag<|aX<| ?_
 exact bg trivial rfl rfl [] rfl [] rfl ⟨rfl,rfl,rfl⟩
end Go.Proofs.YtmibdabdlgmafaaGreatDoor
end
section
set_option maxRecDepth 20000
namespace Go.Proofs.YtmibdabdlgmafaaGreatDoor
open Go.Eng Go.Hx
theorem Eo{g:Nat}{st:cN}{d:RD}{kk:Nat}{p:List UInt8}(hD:DS st d kk):ck Tryz.prog 90 [.pointer (some ⟨g,0,none⟩),.string (strOf p)] [bs g st] [] (fun v_ X_ S_=>∃v,v_=(.tuple #[v,.int .i64 (d.cj p)])∧X_=[bs g st,aG 5 1 v (d.cF p).length (aV (d.cF p))]∧S_=[]):=by
 rw[hD.cj,hD.cF]
 exact Gc hD.ok.sm
theorem wL{g:Nat}{st:cN}{d:RD}{kk:Nat}{p:List UInt8}{A:Option Addr}{n c:Nat}{l:List UInt8}(hD:DS st d kk)(hkk:kk≤99000)(hl:l.length=n)(hn:n≤1048576):ck Tryz.prog 33 [.pointer (some ⟨g,0,none⟩),.string (strOf p),.slice A n c] [bs g st] [dr 1 A n (aV l)] (fun v_ X_ S_=>∃st1,v_=(.int .i64 (d.bO p l))∧X_=[bs g st1]∧S_=[]∧(DS st1 (d.write p l) (kk+1))):=by
 exact ck.mono (DI hD.ok (by omega) hn) (fun v X S h=>by
  obtain⟨st1,B,c1,A1,c2,h1,h2,h3,hw⟩:=h
  have hW:=hD.write hl hn hw
  exact⟨st1,by rw[hW.2];exact h1,h2,h3,hW.1⟩)
theorem u5{g:Nat}{st:cN}{d:RD}{kk:Nat}(hD:DS st d kk):ck Tryz.prog 110 [.pointer (some ⟨g,0,none⟩)] [bs g st] [] (fun v_ X_ S_=>∃st1,v_=(.int .i64 d.dp)∧X_=[bs g st1]∧S_=[]∧(DS st1 d.sync kk)):=by
 exact ck.mono (FI hD.ok) (fun v X S h=>by
  obtain⟨st1,gl,h1,h2,h3,hw⟩:=h
  have hW:=hD.sync hw
  exact⟨st1,by rw[hW.2];exact h1,h2,h3,hW.1⟩)
theorem yP{g:Nat}{st:cN}{d:RD}{kk:Nat}{a c:List UInt8}(hD:DS st d kk)(hkk:kk≤99000):ck Tryz.prog 108 [.pointer (some ⟨g,0,none⟩),.string (strOf a),.string (strOf c)] [bs g st] [] (fun v_ X_ S_=>∃st1,v_=(.int .i64 (d.b7 a c))∧X_=[bs g st1]∧S_=[]∧(DS st1 (d.rename a c) (kk+1))):=by
 exact ck.mono (Cx hD.ok (by omega)) (fun v X S h=>by
  obtain⟨st1,A,j,h1,h2,h3,hw⟩:=h
  have hW:=hD.rename hw
  exact⟨st1,by rw[hW.2];exact h1,h2,h3,hW.1⟩)
theorem DS.AS{st:cN}{d:RD}{kk:Nat}(h:DS st d kk)(p:List UInt8):(d.cF p).length≤1048576:=by
 rw[h.cF]
 by_cases he:dP st p=0
 ·obtain⟨r,hr⟩:=ub he
  rw[uE he hr]
  have h1:=h.ok.small r (List.mem_append_left _ (List.mem_append_left _ (List.mem_map.2 ⟨_,jX hr,rfl⟩)))
  have h2:r.n=r.l.length:=h.mE.files.len _ (jX hr)
  omega
 ·rw[ud he];exact Nat.zero_le _
end Go.Proofs.YtmibdabdlgmafaaGreatDoor
end
section
set_option maxRecDepth 20000
namespace Go.Proofs.YtmibdabdlgmafaaGreatDoor
open Go.Eng Go.Hx
theorem Rd.part{w:World}{a:Addr}{n k m:Nat}{B:List UInt8}(h:Rd w 1 (some a) n (aV B)):∀(j:Nat) (u:Value),(aV ((B.drop k).take m))[j]? =some u→w.cell? ((a.add k).add j)=some u:=by
 intro j u hu
 rw[add_add]
 refine h.cell ?_
 unfold aV at hu ⊢
 rw[List.getElem?_map,List.getElem?_take]at hu
 rw[List.getElem?_map]
 split at hu
 ·rw[List.getElem?_drop]at hu;exact hu
 ·simp at hu
end Go.Proofs.YtmibdabdlgmafaaGreatDoor
end
