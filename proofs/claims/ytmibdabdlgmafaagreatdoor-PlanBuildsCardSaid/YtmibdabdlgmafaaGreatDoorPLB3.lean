/- Part. -/
import Derived.Test.YtmibdabdlgmafaaGreatDoorPLB2
import Derived.Laws.BitsAllLaws
import Derived.Recover
import Derived.WideKeyEntry
import Derived.OrdersIn
import Derived.RangeFuncNested
import Derived.RangeFuncLeaves
import Derived.RangeFuncCalls
import Derived.RangeFuncBox
import Derived.Shelf.Abstract
import Derived.WalkKit
import Derived.OwnWalkIn
import Derived.TacticsInMore
import Derived.LoopNIn
import Derived.LoopIn
set_option linter.all false
section
set_option maxRecDepth 20000
namespace Go.Proofs.YtmibdabdlgmafaaGreatDoor
open Go.Eng Go.Hx
theorem CQ{P:Program}{N:Nat}{D:List Deferred}{ρ:Env}{w:World}{x y:Operand}{ty t t' :TypeId}{a b:ByteArray}(hx:ev ρ x=some (.string a))(hy:ev ρ y=some (.string b)):Yl P N D ρ w (.binOp .geq t x y t') ty (.bool (!Op.bytesLess a.toList b.toList)):=
 fun _ _ _ _ _ ha=>by simp[execOp,ha.eval hx,ha.eval hy,eqGuard,binOp,Op.stringOp]
abbrev FP:=List UInt8×List UInt8
def fc(l:List FP):List Value:=l.flatMap fun x=>[SV x.1,SV x.2]
theorem gX(a b:List FP):fc (a++b)=fc a++fc b:=by simp[fc]
theorem jD:∀(l:List FP) (i:Nat) (x:FP),l[i]? =some x→(fc l)[i*2]? =some (SV x.1)∧(fc l)[i*2+1]? =some (SV x.2)
 | [],i,x,h=>by simp at h
 |a::r,0,x,h=>by
  simp only[List.getElem?_cons_zero,Option.some.injEq]at h
  subst h
  exact⟨rfl,rfl⟩
 |a::r,i+1,x,h=>by
  have ih:=jD r i x (by simpa using h)
  have e:fc (a::r)=SV a.1::SV a.2::fc r:=by simp[fc]
  rw[e,show(i+1)*2=i*2+2 by omega]
  exact ih
theorem mO{w:World}{A:Option Addr}{n i:Nat}{l:List FP}{x:FP}(h:Rd w 2 A n (fc l))(hx:l[i]? =some x):∀(j:Nat) (u:Value),[SV x.1,SV x.2][j]? =some u→w.cell? (((A.getD d0).add (i*2)).add j)=some u:=by
 obtain⟨g0,g1⟩:=jD l i x hx
 intro j u hu
 match j,hu with
 |0,hu=>cases hu;exact fF h g0
 |1,hu=>cases hu;exact fF h g1
 |j+2,hu=>simp at hu
theorem nw{l:List FP}:∀u∈fc l,u.oneCell' =true:=by
 intro u hu
 obtain⟨x,_,h⟩:=List.mem_flatMap.1 hu
 simp only[List.mem_cons,List.not_mem_nil,or_false]at h
 rcases h with rfl|rfl <;> rfl
theorem vU{p:List UInt8}(hp:p.length≤1000000000):cf Tryz.prog 112 [.string (strOf p)] [] [] (fun v_ X_ S_=>v_=(.bool (decide (fQ p)))∧X_=[]∧S_=[]):=by
 have hsz:=da p
 refine aK (N:=22) Tryz.func112 rfl rfl (by simp) fun b=> ?_
 refine ae<|ah<|aG rfl<|ag<|aa<|ae<|ae<|ah<|aG rfl<|ag<|aa<|aM<| ?_
 refine dD (fun i=>p.length-i) (fun i=>[(3,.int .i64 (i:Nat))]) (fun i=>[]) (fun i=>[]) (fun i=>i≤p.length∧¬(0:UInt8)∈p.take i) 0 [(0,_)] ⟨rfl,trivial⟩ [] rfl [] rfl (⟨Nat.zero_le _,by simp⟩) ⟨rfl,trivial⟩ (fun i hI=> ?_)
 obtain⟨hip,hno⟩:=hI
 refine ae<|ae<|ah<|au rfl<|au rfl<|hy (fun _=>fa rfl Tryz.underlying9)<|hy (fun _=>bx rfl rfl)<|ag<|az [7,3,0] rfl<|aa<| ?_
 refine cu rfl (fun h=> ?_) (fun h=> ?_)
 ·have hil:i<p.length:=by omega
  refine aB<|aa<|ae<|aM<|ae<|ah<|au rfl<|au rfl<|hy (fun _=>jl rfl rfl Tryz.underlying9 rfl (uh hil))<|hy (fun _=>cD rfl rfl)<|ag<|az [13,7,3,0] rfl<|aa<| ?_
  refine cu rfl (fun h0=> ?_) (fun h0=> ?_)
  ·have h00:p.getD i 0=0:=UInt8.toNat_inj.1 (by simpa using h0)
   refine ae<|ah<|aG rfl<|ag<|aa<|aR<|aU<|aq<|aq<|aU<|aq<| ?_
   exact bc trivial rfl rfl [] rfl [] rfl ⟨(congrArg Value.bool (decide_eq_false (fun hN=>hN.2.2 (by rw[←h00];rw[List.getD,List.getElem?_eq_getElem hil];exact List.getElem_mem hil))).symm),rfl,rfl⟩
  ·have hno2:¬(0:UInt8)∈p.take (i+1):=fun hm=>by
    rw[List.take_succ_eq_append_getElem hil]at hm
    rcases List.mem_append.1 hm with h1|h1
    ·exact hno h1
    ·apply h0
     have:=List.mem_singleton.1 h1
     rw[List.getD,List.getElem?_eq_getElem hil]
     simp[←this]
   refine aB<|aW<|aa<|ah<|au rfl<|hy (fun _=>aO rfl rfl (bE (by omega) (by omega)))<|aG rfl<|ag<|az [3,13,7,0] rfl<| ?_
   refine cH (i+1) ⟨rfl,rfl,trivial⟩ [] rfl [] rfl (⟨by omega,hno2⟩) (by omega)
 ·obtain rfl:i=p.length:=by omega
  rw[List.take_of_length_le (Nat.le_refl _)]at hno
  by_cases h1:0<p.length
  ·refine bH<|al<|al<|aD<|aa<|ae<|ah<|au rfl<|hy (fun _=>fa rfl Tryz.underlying9)<|hy (fun _=>yT (cw rfl rfl) ((decide_eq_true (by omega))))<|au rfl<|bQ (o:=_) rfl rfl rfl (fun _=>ai rfl)<|bQ (o:=_) rfl rfl rfl (fun _=>fa rfl Tryz.underlying9)<|bQ (o:=_) rfl rfl rfl (fun _=>bx rfl rfl)<|hy (fun _=>bz rfl rfl)<|aG rfl<|ag<|az [2,7,3,0] rfl<|aa<|aR<| ?_
   exact bc trivial rfl rfl [] rfl [] rfl ⟨(congrArg Value.bool (decide_eq_decide.2 ⟨fun h=>⟨fun e=>by rw[e]at h1;exact absurd h1 (by decide),by omega,hno⟩,fun h=>by have:=h.2.1;omega⟩)),rfl,rfl⟩
  ·refine bH<|al<|al<|aD<|aa<|ae<|ah<|au rfl<|hy (fun _=>fa rfl Tryz.underlying9)<|hy (fun _=>yF (cw rfl rfl) ((decide_eq_false (by omega))))<|au rfl<|aJ rfl rfl rfl (by decide)<|aJ rfl rfl rfl (by decide)<|aJ rfl rfl rfl (by decide)<|hy (fun _=>bn rfl rfl)<|aG rfl<|ag<|az [2,7,3,0] rfl<|aa<|aR<| ?_
   exact bc trivial rfl rfl [] rfl [] rfl ⟨(congrArg Value.bool (decide_eq_false (fun hN=>hN.1 (List.eq_nil_of_length_eq_zero (by omega)))).symm),rfl,rfl⟩
def cP(l:List FP)(p:List UInt8):Nat:=l.findIdx (fun x=>decide (x.1=p))
def kc(l:List FP)(p:List UInt8):Int:=if cP l p<l.length then(cP l p:Nat)else-1
theorem zq{l:List FP}{p:List UInt8}{i:Nat}{x:FP}(hx:l[i]? =some x)(h:x.1=p)(hno:∀j,j<i→∀y,l[j]? =some y→y.1≠p):cP l p=i:=by
 obtain⟨hi,rfl⟩:=List.getElem?_eq_some_iff.1 hx
 unfold cP
 rw[List.findIdx_eq hi]
 exact⟨by simpa using h,fun j hj=>by simpa using hno j hj _ (List.getElem?_eq_getElem (by omega))⟩
theorem zL{l:List FP}{p:List UInt8}(hno:∀j,j<l.length→∀y,l[j]? =some y→y.1≠p):¬cP l p<l.length:=by
 intro h
 have h1:=List.findIdx_getElem (w:=h)
 exact hno _ h _ (List.getElem?_eq_getElem h) (of_decide_eq_true h1)
theorem uT{A:Option Addr}{n c:Nat}{l:List FP}{p:List UInt8}(hl:l.length=n)(hn:n≤1000000000):cf Tryz.prog 113 [.slice A n c,.string (strOf p)] [] [cz 2 A n (fc l)] (fun v_ X_ S_=>v_=(.int .i64 (kc l p))∧X_=[]∧S_=[]):=by
 refine aK (N:=20) Tryz.func113 rfl rfl (by simp) fun b=> ?_
 refine aQ (fun m=>eU (m.rd 0 rfl)) ?_
 rintro⟨hl_r,hA_r⟩
 refine ae<|ah<|aG rfl<|ag<|aa<|ae<|ae<|ah<|aG rfl<|ag<|aa<|aM<| ?_
 refine dD (fun i=>n-i) (fun i=>[(5,.int .i64 (i:Nat))]) (fun i=>[]) (fun i=>[]) (fun i=>i≤n∧∀j,j<i→∀y,l[j]? =some y→y.1≠p) 0 [(0,_),(1,_)] ⟨rfl,rfl,trivial⟩ [] rfl [] rfl (⟨Nat.zero_le _,fun j hj=>absurd hj (Nat.not_lt_zero j)⟩) ⟨rfl,trivial⟩ (fun i hI=> ?_)
 obtain⟨hin,hno⟩:=hI
 refine ae<|ae<|ah<|au rfl<|au rfl<|hy (fun _=>a6 rfl Tryz.underlying36)<|hy (fun _=>bx rfl rfl)<|ag<|az [9,5,0,1] rfl<|aa<| ?_
 refine cu rfl (fun h=> ?_) (fun h=> ?_)
 ·have hil:i<l.length:=by omega
  obtain⟨x,hx⟩:∃x,l[i]? =some x:=⟨_,List.getElem?_eq_getElem hil⟩
  obtain⟨g0,g1⟩:=jD l i x hx
  refine aB<|aa<|ae<|aM<|ae<|ah<|au rfl<|au rfl<|hy (fun _=>ck rfl rfl Tryz.underlying36 fb hA_r rfl (by omega))<|hy (fun _=>ax rfl fi (by decide))<|hy (fun m=>yV (ak rfl lO (fF (m.rd 0 rfl) g0)) ((rfl:_=Value.string (strOf x.1))))<|au rfl<|hy (fun _=>Az rfl rfl)<|ag<|az [18,9,5,0,1] rfl<|aa<| ?_
  refine cu rfl (fun h0=> ?_) (fun h0=> ?_)
  ·have he:x.1=p:=cR.1 h0
   have hN:=zq hx he hno
   refine ae<|ah<|au rfl<|aG rfl<|ag<|az [4,18,9,5,0,1] rfl<|aa<|aR<|aU<|aq<|aq<|aU<|aq<| ?_
   exact bc trivial rfl rfl [] rfl [] rfl ⟨(by rw[kc,hN,if_pos hil]),rfl,rfl⟩
  ·have he:x.1≠p:=fun e=>h0 (cR.2 e)
   have hno2:∀j,j<i+1→∀y,l[j]? =some y→y.1≠p:=fun j hj y hy=>by
    rcases Nat.lt_succ_iff_lt_or_eq.1 hj with h1|h1
    ·exact hno j h1 y hy
    ·rw[h1,hx]at hy;cases hy;exact he
   refine aB<|aW<|aa<|ah<|au rfl<|hy (fun _=>aO rfl rfl (bE (by omega) (by omega)))<|aG rfl<|ag<|az [5,18,9,0,1] rfl<| ?_
   refine cH (i+1) ⟨rfl,rfl,rfl,trivial⟩ [] rfl [0] rfl (⟨by omega,hno2⟩) (by omega)
 ·obtain rfl:i=n:=by omega
  refine bH<|al<|al<|aD<|aa<|ae<|ah<|aG rfl<|ag<|aa<|aR<| ?_
  exact bc trivial rfl rfl [] rfl [] rfl ⟨(by rw[kc,if_neg (zL (fun j hj=>hno j (by omega)))]),rfl,rfl⟩
def dz(l:List FP):Nat:=(l.map fun x=>x.2.length).sum
theorem qo{l:List FP}{i:Nat}{x:FP}(h:l[i]? =some x):dz (l.take (i+1))=dz (l.take i)+x.2.length:=by
 obtain⟨hi,rfl⟩:=List.getElem?_eq_some_iff.1 h
 rw[List.take_succ_eq_append_getElem hi]
 unfold dz
 rw[List.map_append,List.sum_append]
 simp
theorem wC(l:List FP)(i:Nat):dz (l.take i)≤dz l:=by
 have:dz l=dz (l.take i)+dz (l.drop i):=by
  conv=>lhs;rw[←List.take_append_drop i l]
  simp only[dz,List.map_append,List.sum_append]
 omega
def dv(room:Int)(s l w:Value)(pw:Int):List Value:=[.int .i64 room,s,l,w,.int .i64 pw]
theorem D9{room pw:Int}{vl vw:Value}{A:Option Addr}{n c:Nat}{l:List FP}(hl:l.length=n)(hn:n≤1000000000)(ht:dz l≤1000000000000):cf Tryz.prog 89 [.agg (dv room (.slice A n c) vl vw pw).toArray] [] [cz 2 A n (fc l)] (fun v_ X_ S_=>v_=(.int .i64 (dz l:Nat))∧X_=[]∧S_=[]):=by
 refine aK (N:=22) Tryz.func89 rfl rfl (by simp) fun b=> ?_
 refine aQ (fun m=>eU (m.rd 0 rfl)) ?_
 rintro⟨hl_r,hA_r⟩
 refine ae<|ah<| ?_
 refine hx (br rfl (fun g1=> ?_))
 refine aH (fun w m=>m.bw 0 rfl (show _=aE g1 39 (dv room (.slice A n c) vl vw pw)from congrArg (aE _ _) (aV _))) ?_
 refine aG rfl<|ag<|aY rfl rfl<|aa<|ae<|ah<|aG rfl<|ag<|aa<|ae<|ae<|ah<|aG rfl<|ag<|aa<|aM<| ?_
 refine dD (fun i=>n-i) (fun i=>[(3,.int .i64 (dz (l.take i):Nat)),(4,.int .i64 (i:Nat))]) (fun i=>[aE g1 39 (dv room (.slice A n c) vl vw pw)]) (fun i=>[]) (fun i=>i≤n) 0 [(2,_),(1,_),(0,_)] ⟨rfl,rfl,rfl,trivial⟩ [0] rfl [] rfl (Nat.zero_le _) ⟨rfl,rfl,trivial⟩ (fun i hI=> ?_)
 refine ae<|ae<|ah<|au rfl<|hy (fun _=>ax rfl jY (by decide))<|hy (fun m=>ak rfl sX (ar (m.aN 0 rfl) rfl))<|hy (fun _=>a6 rfl Tryz.underlying36)<|hy (fun _=>bx rfl rfl)<|ag<|az [9,3,4,2,1,0] rfl<|aa<| ?_
 refine cu rfl (fun h=> ?_) (fun h=> ?_)
 ·have hil:i<l.length:=by omega
  obtain⟨x,hx⟩:∃x,l[i]? =some x:=⟨_,List.getElem?_eq_getElem hil⟩
  obtain⟨g0,g2⟩:=jD l i x hx
  have h1:=qo hx
  have h2:=wC l (i+1)
  have hsz:=da x.2
  refine aB<|aa<|ae<|aM<|ah<|au rfl<|hy (fun _=>ax rfl jY (by decide))<|hy (fun m=>ak rfl sX (ar (m.aN 0 rfl) (i:=1) rfl))<|au rfl<|hy (fun _=>ck rfl rfl Tryz.underlying36 fb hA_r rfl (by omega))<|hy (fun _=>ax rfl oK (by decide))<|hy (fun m=>yV (ak rfl lO (fF (m.rd 0 rfl) g2)) ((rfl:_=Value.string (strOf x.2))))<|hy (fun _=>fa rfl Tryz.underlying9)<|hy (fun _=>yV (aO rfl rfl (bE (by omega) (by omega))) ((show Value.int .i64 ((dz (l.take i):Nat)+((strOf x.2).size:Nat))= .int .i64 (dz (l.take (i+1)):Nat) by rw[hsz,h1];rfl)))<|aG rfl<|ag<|az [3,9,4,2,1,0] rfl<|aW<|aa<|ah<|au rfl<|hy (fun _=>aO rfl rfl (bE (by omega) (by omega)))<|aG rfl<|ag<|az [4,3,9,2,1,0] rfl<| ?_
  refine cH (i+1) ⟨rfl,rfl,rfl,rfl,rfl,trivial⟩ [0] rfl [0] rfl (by omega) (by omega)
 ·obtain rfl:i=n:=by omega
  refine bH<|al<|al<|aD<|aa<|ae<|ah<|au rfl<|aG rfl<|ag<|az [2,9,3,4,1,0] rfl<|aa<|aR<| ?_
  exact bc trivial rfl rfl [] rfl [] rfl ⟨(by rw[←hl,List.take_of_length_le (Nat.le_refl _)]),rfl,rfl⟩
theorem q8{A:Option Addr}{n c:Nat}{l:List FP}{p:List UInt8}(hl:l.length=n)(hn:n≤1000000):cf Tryz.prog 221 [.slice A n c,.string (strOf p)] [] [cz 2 A n (fc l)] (fun v_ X_ S_=>∃v k,v_=v∧X_=[aI 156 2 v k (fc (l.filter fun x=>decide (x.1≠p)))]∧S_=[]∧(k=(l.filter fun x=>decide (x.1≠p)).length)):=by
 refine aK (N:=28) Tryz.func221 rfl rfl (by simp) fun b=> ?_
 refine aQ (fun m=>eU (m.rd 0 rfl)) ?_
 rintro⟨hl_r,hA_r⟩
 refine ae<|ah<|aG rfl<|ag<|aa<|ae<|ah<|aG rfl<|ag<|aa<|ae<|ae<|ah<|aG rfl<|ag<|aa<|aM<| ?_
 refine a8 (fun w m=>m.cL (r' :=aI 156 2 (.slice none 0 0) 0 []) (.refl _ _) (Own.nil _ _ _ _) (fun k hk=>hk.elim)) ?_
 refine nD (fun i A1 k c1=>n-i) (fun i A1 k c1=>[(5,.slice A1 k c1),(6,.int .i64 (i:Nat))]) (fun i A1 k c1=>[aI 156 2 (.slice A1 k c1) k (fc ((l.take i).filter fun x=>decide (x.1≠p)))]) (fun i A1 k c1=>[]) (fun i A1 k c1=>i≤n∧k=((l.take i).filter fun x=>decide (x.1≠p)).length) 0 none 0 0 [(4,_),(0,_),(1,_)] ⟨rfl,rfl,rfl,trivial⟩ [0] rfl [] rfl (⟨Nat.zero_le _,rfl⟩) ⟨rfl,rfl,trivial⟩ (fun i A1 k c1 hI=> ?_)
 obtain⟨hin,hk⟩:=hI
 have hkl:((l.take i).filter fun x=>decide (x.1≠p)).length≤i:=Nat.le_trans (List.length_filter_le ..) (by rw[List.length_take];omega)
 refine ae<|ae<|ah<|au rfl<|au rfl<|hy (fun _=>a6 rfl Tryz.underlying36)<|hy (fun _=>bx rfl rfl)<|ag<|az [10,5,6,4,0,1] rfl<|aa<| ?_
 refine cu rfl (fun h=> ?_) (fun h=> ?_)
 ·have hil:i<l.length:=by omega
  obtain⟨x,hgx⟩:∃x,l[i]? =some x:=⟨_,List.getElem?_eq_getElem hil⟩
  obtain⟨g0,g2⟩:=jD l i x hgx
  have B5:(l.take (i+1)).filter (fun x=>decide (x.1≠p))=(l.take i).filter (fun x=>decide (x.1≠p))++[x].filter (fun x=>decide (x.1≠p)):=by
   obtain⟨hi,rfl⟩:=List.getElem?_eq_some_iff.1 hgx
   rw[List.take_succ_eq_append_getElem hi,List.filter_append]
  refine aB<|aa<|ae<|aM<|ae<|ah<|au rfl<|au rfl<|hy (fun _=>ck rfl rfl Tryz.underlying36 fb hA_r rfl (by omega))<|hy (fun _=>ax rfl fi (by decide))<|hy (fun m=>yV (ak rfl lO (fF (m.rd 0 rfl) g0)) ((rfl:_=Value.string (strOf x.1))))<|au rfl<|hy (fun _=>ma rfl rfl)<|ag<|az [19,10,5,6,4,0,1] rfl<|aa<| ?_
  refine cu rfl (fun h0=> ?_) (fun h0=> ?_)
  ·have hF:(l.take i).filter (fun x=>decide (x.1≠p))++[x]=(l.take (i+1)).filter (fun x=>decide (x.1≠p)):=by
    have hne:x.1≠p:=fun e=>h0 (cR.2 e)
    rw[B5];simp[hne]
   refine ah<|au rfl<|au rfl<|au rfl<|hy (fun _=>ck rfl rfl Tryz.underlying36 fb hA_r rfl (by omega))<|hy (fun m=>yV (aP rfl rb fb rfl (mO (m.rd 0 rfl) hgx)) ((rfl:_=Value.agg [SV x.1,SV x.2].toArray)))<| ?_
   refine hx (b5 Tryz.underlying36 iG rfl rfl rfl (by simp[Value.cells,B8]) (by decide) (by decide) (fun g25=> ?_))
   have hA_b25:0<1→(some (⟨g25,0,none⟩:Addr))≠none:=fun _ h=>by cases h
   refine aH (fun w m=>m.bw 0 rfl (show _=aI 156 2 (.slice (some ⟨g25,0,none⟩) 1 1) 1 (fc [x])from rfl)) ?_
   refine hx (bC 1 rfl rfl rfl Tryz.underlying36 Tryz.underlying36 (by exact .inl rfl) iG rfl (fun m=>Src.b9 (m.ord 0 rfl)) nw (by unfold maxLen;omega) (by omega) (fun u=> ?_))
   refine aC (fun m=>(m.own 0 rfl).slice) ?_
   rintro⟨A_o,c_o,rfl,hc_o⟩
   refine aC (fun m=>(m.ord 0 rfl).2.1) fun hA_o=> ?_
   refine aH (fun w m=>m.bw 0 rfl (show _=aI 156 2 (.slice A_o (k+1) c_o) (k+1) (fc ((l.take (i+1)).filter fun x=>decide (x.1≠p)))from congrArg (aI _ _ _ _) ((gX ..).symm.trans (congrArg fc hF)))) ?_
   refine aG rfl<|ag<|az [5,19,10,6,4,0,1] rfl<|aY rfl rfl<|aW<|aa<|ah<|au rfl<|hy (fun _=>aO rfl rfl (bE (by omega) (by omega)))<|aG rfl<|ag<|az [6,5,19,10,4,0,1] rfl<| ?_
   refine kx (i+1) A_o (k+1) c_o ⟨rfl,rfl,rfl,rfl,rfl,trivial⟩ [0] rfl [0] rfl (⟨by omega,by rw[←hF,hk,List.length_append];rfl⟩) (by omega)
  ·have hF:(l.take (i+1)).filter (fun x=>decide (x.1≠p))=(l.take i).filter (fun x=>decide (x.1≠p)):=by
    have hne:x.1=p:=cR.1 (Decidable.not_not.1 h0)
    rw[B5];simp[hne]
   refine a8 (fun w m=>m.bw 0 rfl (show _=aI 156 2 (.slice A1 k c1) k (fc ((l.take (i+1)).filter fun x=>decide (x.1≠p)))from by rw[hF])) ?_
   refine aB<|aW<|aa<|ah<|au rfl<|hy (fun _=>aO rfl rfl (bE (by omega) (by omega)))<|aG rfl<|ag<|az [6,19,10,5,4,0,1] rfl<| ?_
   refine kx (i+1) A1 k c1 ⟨rfl,rfl,rfl,rfl,rfl,trivial⟩ [0] rfl [0] rfl (⟨by omega,by rw[hF];exact hk⟩) (by omega)
 ·obtain rfl:i=n:=by omega
  rw[←hl,List.take_of_length_le (Nat.le_refl _)]at hk
  refine a8 (fun w m=>m.bw 0 rfl (show _=aI 156 2 (.slice A1 k c1) k (fc (l.filter fun x=>decide (x.1≠p)))from by rw[←hl,List.take_of_length_le (Nat.le_refl _)])) ?_
  refine bH<|al<|al<|aD<|aa<|ae<|ah<|au rfl<|aG rfl<|ag<|az [4,10,5,6,0,1] rfl<|aa<|aR<| ?_
  exact bc trivial rfl rfl [0] rfl [] rfl ⟨_,_,rfl,rfl,rfl,hk⟩
end Go.Proofs.YtmibdabdlgmafaaGreatDoor
end
section
set_option maxRecDepth 20000
namespace Go.Proofs.YtmibdabdlgmafaaGreatDoor
open Go.Eng Go.Hx
def mL(a b:List UInt8):Bool:=Op.bytesLess (strOf a).toList (strOf b).toList
def iy(f:FP)(st:List FP×Bool)(x:FP):List FP×Bool:=
 let s1:=if st.2=false∧mL x.1 f.1=false then(st.1++[f],true)else st
 (if x.1≠f.1 then s1.1++[x]else s1.1,s1.2)
def Cw(f:FP)(l:List FP)(i:Nat):List FP×Bool:=(l.take i).foldl (iy f) ([],false)
theorem zZ{f:FP}{l:List FP}{i:Nat}{x:FP}(h:l[i]? =some x):Cw f l (i+1)=iy f (Cw f l i) x:=by
 obtain⟨hi,rfl⟩:=List.getElem?_eq_some_iff.1 h
 unfold Cw
 rw[List.take_succ_eq_append_getElem hi,List.foldl_append]
 rfl
def iD(l:List FP)(f:FP):List FP:=if(Cw f l l.length).2 then(Cw f l l.length).1 else(Cw f l l.length).1++[f]
theorem yl{A:Option Addr}{n c:Nat}{l:List FP}{f:FP}(hl:l.length=n)(hn:n≤1000000):cf Tryz.prog 220 [.slice A n c,.agg [SV f.1,SV f.2].toArray] [] [cz 2 A n (fc l)] (fun v_ X_ S_=>∃v k,v_=v∧X_=[aI 156 2 v k (fc (iD l f))]∧S_=[]∧(k=(iD l f).length∧k≤n+1)):=by
 refine aK (N:=52) Tryz.func220 rfl rfl (by simp) fun b=> ?_
 refine aQ (fun m=>eU (m.rd 0 rfl)) ?_
 rintro⟨hl_r,hA_r⟩
 refine ae<|ah<| ?_
 refine hx (br rfl (fun g3=> ?_))
 refine aH (fun w m=>m.bw 0 rfl (show _=aE g3 156 [SV f.1,SV f.2]from congrArg (aE _ _) (aV _))) ?_
 refine aG rfl<|ag<|aY rfl rfl<|aa<|ae<|ah<|aG rfl<|ag<|aa<|ae<|ah<|aG rfl<|ag<|aa<|ae<|ae<|ah<|aG rfl<|ag<|aa<|aM<| ?_
 refine a8 (fun w m=>m.cL (r' :=aI 156 2 (.slice none 0 0) 0 []) (.refl _ _) (Own.nil _ _ _ _) (fun k hk=>hk.elim)) ?_
 refine u6 (fun i A1 k c1 out pt=>n-i) (fun i A1 k c1 out pt=>[(5,.slice A1 k c1),(6,.bool pt),(7,.int .i64 (i:Nat))]) (fun i A1 k c1 out pt=>[aI 156 2 (.slice A1 k c1) k (fc out),aE g3 156 [SV f.1,SV f.2]]) (fun i A1 k c1 out pt=>[]) (fun i A1 k c1 out pt=>i≤n∧Cw f l i=(out,pt)∧k=out.length∧k≤i+pt.toNat) 0 none 0 0 [] false [(4,_),(3,_),(0,_),(1,_)] ⟨rfl,rfl,rfl,rfl,trivial⟩ [0,0] rfl [] rfl (⟨Nat.zero_le _,rfl,rfl,Nat.le_refl _⟩) ⟨rfl,rfl,rfl,trivial⟩ (fun i A1 k c1 out pt ⟨hin,hw,hk,hki⟩=> ?_)
 have hpt:pt.toNat≤1:=by cases pt <;> decide
 refine ae<|ae<|ah<|au rfl<|au rfl<|hy (fun _=>a6 rfl Tryz.underlying36)<|hy (fun _=>bx rfl rfl)<|ag<|az [11,5,6,7,4,3,0,1] rfl<|aa<| ?_
 refine cu rfl (fun h=> ?_) (fun h=> ?_)
 ·have hil:i<l.length:=by omega
  obtain⟨x,hgx⟩:∃x,l[i]? =some x:=⟨_,List.getElem?_eq_getElem hil⟩
  obtain⟨g0,g2⟩:=jD l i x hgx
  have hs:=zZ (f:=f) hgx
  rw[hw]at hs
  unfold iy at hs
  by_cases hp:pt=true
  ·subst hp
   simp only[Bool.true_eq_false,false_and,if_false]at hs
   refine aB<|aa<|ae<|aM<|ae<|ae<|cA [] [(0,some 0),(1,some 0),(2,some 0),(3,some 0),(4,some 0),(5,some 0),(6,some 0),(7,some 0),(8,some 0),(9,some 0),(10,some 0),(11,some 0)] (by kernel_rfl) (by kernel_rfl) rfl 99<|aj (ai rfl)<|aj ((j5 rfl))<|aj (ai rfl)<|bj rfl rfl rfl (by decide)<|bj rfl rfl rfl (by decide)<|bj rfl rfl rfl (by decide)<|bj rfl rfl rfl (by decide)<|bj rfl rfl rfl (by decide)<|bj rfl rfl rfl (by decide)<|bj rfl rfl rfl (by decide)<|bj rfl rfl rfl (by decide)<|aj (bn rfl rfl)<|bp<|az [25,11,5,6,7,4,3,0,1] rfl<|aa<| ?_
   refine dm rfl (rfl) ?_
   refine aB<|aa<|ae<|cA [] [(0,some 0),(1,some 0),(2,some 0),(3,some 0),(4,some 0),(5,some 0),(6,some 0),(7,some 0)] (by kernel_rfl) (by kernel_rfl) rfl 99<|aj (ai rfl)<|aj (ai rfl)<|aj (ck rfl rfl Tryz.underlying36 fb hA_r rfl (by omega))<|aj (ax rfl fi (by decide))<|bV (fun m=>yV (ak rfl lO (fF (m.rd 0 rfl) g0)) ((rfl:_=Value.string (strOf x.1))))<|aj (ax rfl fi (by decide))<|bV (fun m=>yV (ak rfl lO (ar (m.aN 1 rfl) (i:=0) rfl)) ((rfl:_=Value.string (strOf f.1))))<|aj (ma rfl rfl)<|bp<|az [37,25,11,5,6,7,4,3,0,1] rfl<|aa<| ?_
   refine cu rfl (fun h1=> ?_) (fun h1=> ?_)
   ·have hne:x.1≠f.1:=fun e=>h1 (cR.2 e)
    refine ah<|au rfl<|au rfl<|au rfl<|hy (fun _=>ck rfl rfl Tryz.underlying36 fb hA_r rfl (by omega))<|hy (fun m=>yV (aP rfl rb fb rfl (mO (m.rd 0 rfl) hgx)) ((rfl:_=Value.agg [SV x.1,SV x.2].toArray)))<| ?_
    refine hx (b5 Tryz.underlying36 iG rfl rfl rfl (by simp[Value.cells,B8]) (by decide) (by decide) (fun g43=> ?_))
    have hA_b43:0<1→(some (⟨g43,0,none⟩:Addr))≠none:=fun _ h=>by cases h
    refine aH (fun w m=>m.bw 0 rfl (show _=aI 156 2 (.slice (some ⟨g43,0,none⟩) 1 1) 1 (fc [x])from rfl)) ?_
    refine hx (bC 1 rfl rfl rfl Tryz.underlying36 Tryz.underlying36 (by exact .inl rfl) iG rfl (fun m=>Src.b9 (m.ord 0 rfl)) nw (by unfold maxLen;omega) (by omega) (fun u=> ?_))
    refine aC (fun m=>(m.own 0 rfl).slice) ?_
    rintro⟨A_o,c_o,rfl,hc_o⟩
    refine aC (fun m=>(m.ord 0 rfl).2.1) fun hA_o=> ?_
    refine aH (fun w m=>m.bw 0 rfl (show _=aI 156 2 (.slice A_o (k+1) c_o) (k+1) (fc (out++[x]))from congrArg (aI _ _ _ _) (gX ..).symm)) ?_
    refine aG rfl<|ag<|az [5,37,25,11,6,7,4,3,0,1] rfl<|aY rfl rfl<|aW<|aa<|ah<|au rfl<|hy (fun _=>aO rfl rfl (bE (by omega) (by omega)))<|aG rfl<|ag<|az [7,5,37,25,11,6,4,3,0,1] rfl<| ?_
    refine jT (i+1) A_o (k+1) c_o (out++[x]) true ⟨rfl,rfl,rfl,rfl,rfl,rfl,rfl,trivial⟩ [0,1] rfl [0] rfl (⟨by omega,by rw[hs,if_pos hne],by rw[List.length_append,hk.symm];rfl,by simp at hki ⊢;omega⟩) (by omega)
   ·have hne:¬x.1≠f.1:=fun e=>h1 (fun h=>e (cR.1 h))
    refine aB<|aW<|aa<|ah<|au rfl<|hy (fun _=>aO rfl rfl (bE (by omega) (by omega)))<|aG rfl<|ag<|az [7,37,25,11,5,6,4,3,0,1] rfl<| ?_
    refine jT (i+1) A1 (k) c1 (out) true ⟨rfl,rfl,rfl,rfl,rfl,rfl,rfl,trivial⟩ [0,0] rfl [0] rfl (⟨by omega,by rw[hs,if_neg hne],hk.symm.symm,by simp at hki ⊢;omega⟩) (by omega)
  ·obtain rfl:pt=false:=by simpa using hp
   by_cases hge:mL x.1 f.1=false
   ·simp only[hge,and_self,if_true]at hs
    refine aB<|aa<|ae<|aM<|ae<|ae<|cA [] [(0,some 0),(1,some 0),(2,some 0),(3,some 0),(4,some 0),(5,some 0),(6,some 0),(7,some 0),(8,some 0),(9,some 0),(10,some 0),(11,some 0)] (by kernel_rfl) (by kernel_rfl) rfl 99<|aj (ai rfl)<|aj ((j5 rfl))<|aj (ai rfl)<|cq (o:=_) rfl rfl rfl (ai rfl)<|cq (o:=_) rfl rfl rfl (ai rfl)<|cq (o:=_) rfl rfl rfl (ck rfl rfl Tryz.underlying36 fb hA_r rfl (by omega))<|cq (o:=_) rfl rfl rfl (ax rfl fi (by decide))<|pB (o:=_) rfl rfl rfl (fun m=>yV (ak rfl lO (fF (m.rd 0 rfl) g0)) ((rfl:_=Value.string (strOf x.1))))<|cq (o:=_) rfl rfl rfl (ax rfl fi (by decide))<|pB (o:=_) rfl rfl rfl (fun m=>yV (ak rfl lO (ar (m.aN 1 rfl) (i:=0) rfl)) ((rfl:_=Value.string (strOf f.1))))<|cq (o:=_) rfl rfl rfl (yT (CQ rfl rfl) ((by show(!mL x.1 f.1)=true;rw[hge];rfl)))<|aj (bz rfl rfl)<|bp<|az [25,11,5,6,7,4,3,0,1] rfl<|aa<| ?_
    refine fx rfl (rfl) ?_
    refine ae<|ah<|au rfl<|hy (fun m=>yV (aP rfl rb fb rfl ((m.aN 1 rfl).aw)) ((rfl:_=Value.agg [SV f.1,SV f.2].toArray)))<| ?_
    refine hx (b5 Tryz.underlying36 iG rfl rfl rfl (by simp[Value.cells,B8]) (by decide) (by decide) (fun g28=> ?_))
    have hA_b28:0<1→(some (⟨g28,0,none⟩:Addr))≠none:=fun _ h=>by cases h
    refine aH (fun w m=>m.bw 0 rfl (show _=aI 156 2 (.slice (some ⟨g28,0,none⟩) 1 1) 1 (fc [f])from rfl)) ?_
    refine hx (bC 1 rfl rfl rfl Tryz.underlying36 Tryz.underlying36 (by exact .inl rfl) iG rfl (fun m=>Src.b9 (m.ord 0 rfl)) nw (by unfold maxLen;omega) (by omega) (fun u=> ?_))
    refine aC (fun m=>(m.own 0 rfl).slice) ?_
    rintro⟨A_o,c_o,rfl,hc_o⟩
    refine aC (fun m=>(m.ord 0 rfl).2.1) fun hA_o=> ?_
    refine aH (fun w m=>m.bw 0 rfl (show _=aI 156 2 (.slice A_o (k+1) c_o) (k+1) (fc (out++[f]))from congrArg (aI _ _ _ _) (gX ..).symm)) ?_
    have hk1:(out++[f]).length=k+1:=by rw[List.length_append,hk];rfl
    refine aG rfl<|ag<|az [5,25,11,6,7,4,3,0,1] rfl<|aY rfl rfl<|aa<|ah<|aG rfl<|ag<|aa<|ae<|cA [] [(0,some 0),(1,some 0),(2,some 0),(3,some 0),(4,some 0),(5,some 0),(6,some 0),(7,some 0)] (by kernel_rfl) (by kernel_rfl) rfl 99<|aj (ai rfl)<|aj (ai rfl)<|aj (ck rfl rfl Tryz.underlying36 fb hA_r rfl (by omega))<|aj (ax rfl fi (by decide))<|bV (fun m=>yV (ak rfl lO (fF (m.rd 0 rfl) g0)) ((rfl:_=Value.string (strOf x.1))))<|aj (ax rfl fi (by decide))<|bV (fun m=>yV (ak rfl lO (ar (m.aN 2 rfl) (i:=0) rfl)) ((rfl:_=Value.string (strOf f.1))))<|aj (ma rfl rfl)<|bp<|az [37,6,5,25,11,7,4,3,0,1] rfl<|aa<| ?_
    refine cu rfl (fun h1=> ?_) (fun h1=> ?_)
    ·have hne:x.1≠f.1:=fun e=>h1 (cR.2 e)
     refine ah<|au rfl<|au rfl<|au rfl<|hy (fun _=>ck rfl rfl Tryz.underlying36 fb hA_r rfl (by omega))<|hy (fun m=>yV (aP rfl rb fb rfl (mO (m.rd 0 rfl) hgx)) ((rfl:_=Value.agg [SV x.1,SV x.2].toArray)))<| ?_
     refine hx (b5 Tryz.underlying36 iG rfl rfl rfl (by simp[Value.cells,B8]) (by decide) (by decide) (fun g43=> ?_))
     have hA_b43:0<1→(some (⟨g43,0,none⟩:Addr))≠none:=fun _ h=>by cases h
     refine aH (fun w m=>m.bw 0 rfl (show _=aI 156 2 (.slice (some ⟨g43,0,none⟩) 1 1) 1 (fc [x])from rfl)) ?_
     refine hx (bC 1 rfl rfl rfl Tryz.underlying36 Tryz.underlying36 (by exact .inl rfl) iG rfl (fun m=>Src.b9 (m.ord 0 rfl)) nw (by unfold maxLen;omega) (by omega) (fun u2=> ?_))
     refine aC (fun m=>(m.own 0 rfl).slice) ?_
     rintro⟨A_o2,c_o2,rfl,hc_o⟩
     refine aC (fun m=>(m.ord 0 rfl).2.1) fun hA_o=> ?_
     refine aH (fun w m=>m.bw 0 rfl (show _=aI 156 2 (.slice A_o2 (k+1+1) c_o2) (k+1+1) (fc ((out++[f])++[x]))from congrArg (aI _ _ _ _) (gX ..).symm)) ?_
     refine aG rfl<|ag<|az [5,37,6,25,11,7,4,3,0,1] rfl<|aY rfl rfl<|aW<|aa<|ah<|au rfl<|hy (fun _=>aO rfl rfl (bE (by omega) (by omega)))<|aG rfl<|ag<|az [7,5,37,6,25,11,4,3,0,1] rfl<| ?_
     refine jT (i+1) A_o2 (k+1+1) c_o2 ((out++[f])++[x]) true ⟨rfl,rfl,rfl,rfl,rfl,rfl,rfl,trivial⟩ [0,2] rfl [0] rfl (⟨by omega,by rw[hs,if_pos hne],by rw[List.length_append,hk1];rfl,by simp at hki ⊢;omega⟩) (by omega)
    ·have hne:¬x.1≠f.1:=fun e=>h1 (fun h=>e (cR.1 h))
     refine aB<|aW<|aa<|ah<|au rfl<|hy (fun _=>aO rfl rfl (bE (by omega) (by omega)))<|aG rfl<|ag<|az [7,37,6,5,25,11,4,3,0,1] rfl<| ?_
     refine jT (i+1) A_o (k+1) c_o ((out++[f])) true ⟨rfl,rfl,rfl,rfl,rfl,rfl,rfl,trivial⟩ [0,1] rfl [0] rfl (⟨by omega,by rw[hs,if_neg hne],hk1.symm,by simp at hki ⊢;omega⟩) (by omega)
   ·have hlt:mL x.1 f.1=true:=by simpa using hge
    simp only[hlt,Bool.true_eq_false,and_false,if_false]at hs
    refine aB<|aa<|ae<|aM<|ae<|ae<|cA [] [(0,some 0),(1,some 0),(2,some 0),(3,some 0),(4,some 0),(5,some 0),(6,some 0),(7,some 0),(8,some 0),(9,some 0),(10,some 0),(11,some 0)] (by kernel_rfl) (by kernel_rfl) rfl 99<|aj (ai rfl)<|aj ((j5 rfl))<|aj (ai rfl)<|cq (o:=_) rfl rfl rfl (ai rfl)<|cq (o:=_) rfl rfl rfl (ai rfl)<|cq (o:=_) rfl rfl rfl (ck rfl rfl Tryz.underlying36 fb hA_r rfl (by omega))<|cq (o:=_) rfl rfl rfl (ax rfl fi (by decide))<|pB (o:=_) rfl rfl rfl (fun m=>yV (ak rfl lO (fF (m.rd 0 rfl) g0)) ((rfl:_=Value.string (strOf x.1))))<|cq (o:=_) rfl rfl rfl (ax rfl fi (by decide))<|pB (o:=_) rfl rfl rfl (fun m=>yV (ak rfl lO (ar (m.aN 1 rfl) (i:=0) rfl)) ((rfl:_=Value.string (strOf f.1))))<|cq (o:=_) rfl rfl rfl (yF (CQ rfl rfl) ((by show(!mL x.1 f.1)=false;rw[hlt];rfl)))<|aj (bz rfl rfl)<|bp<|az [25,11,5,6,7,4,3,0,1] rfl<|aa<| ?_
    refine dm rfl (rfl) ?_
    refine aB<|aa<|ae<|cA [] [(0,some 0),(1,some 0),(2,some 0),(3,some 0),(4,some 0),(5,some 0),(6,some 0),(7,some 0)] (by kernel_rfl) (by kernel_rfl) rfl 99<|aj (ai rfl)<|aj (ai rfl)<|aj (ck rfl rfl Tryz.underlying36 fb hA_r rfl (by omega))<|aj (ax rfl fi (by decide))<|bV (fun m=>yV (ak rfl lO (fF (m.rd 0 rfl) g0)) ((rfl:_=Value.string (strOf x.1))))<|aj (ax rfl fi (by decide))<|bV (fun m=>yV (ak rfl lO (ar (m.aN 1 rfl) (i:=0) rfl)) ((rfl:_=Value.string (strOf f.1))))<|aj (ma rfl rfl)<|bp<|az [37,25,11,5,6,7,4,3,0,1] rfl<|aa<| ?_
    refine cu rfl (fun h1=> ?_) (fun h1=> ?_)
    ·have hne:x.1≠f.1:=fun e=>h1 (cR.2 e)
     refine ah<|au rfl<|au rfl<|au rfl<|hy (fun _=>ck rfl rfl Tryz.underlying36 fb hA_r rfl (by omega))<|hy (fun m=>yV (aP rfl rb fb rfl (mO (m.rd 0 rfl) hgx)) ((rfl:_=Value.agg [SV x.1,SV x.2].toArray)))<| ?_
     refine hx (b5 Tryz.underlying36 iG rfl rfl rfl (by simp[Value.cells,B8]) (by decide) (by decide) (fun g43=> ?_))
     have hA_b43:0<1→(some (⟨g43,0,none⟩:Addr))≠none:=fun _ h=>by cases h
     refine aH (fun w m=>m.bw 0 rfl (show _=aI 156 2 (.slice (some ⟨g43,0,none⟩) 1 1) 1 (fc [x])from rfl)) ?_
     refine hx (bC 1 rfl rfl rfl Tryz.underlying36 Tryz.underlying36 (by exact .inl rfl) iG rfl (fun m=>Src.b9 (m.ord 0 rfl)) nw (by unfold maxLen;omega) (by omega) (fun u=> ?_))
     refine aC (fun m=>(m.own 0 rfl).slice) ?_
     rintro⟨A_o,c_o,rfl,hc_o⟩
     refine aC (fun m=>(m.ord 0 rfl).2.1) fun hA_o=> ?_
     refine aH (fun w m=>m.bw 0 rfl (show _=aI 156 2 (.slice A_o (k+1) c_o) (k+1) (fc (out++[x]))from congrArg (aI _ _ _ _) (gX ..).symm)) ?_
     refine aG rfl<|ag<|az [5,37,25,11,6,7,4,3,0,1] rfl<|aY rfl rfl<|aW<|aa<|ah<|au rfl<|hy (fun _=>aO rfl rfl (bE (by omega) (by omega)))<|aG rfl<|ag<|az [7,5,37,25,11,6,4,3,0,1] rfl<| ?_
     refine jT (i+1) A_o (k+1) c_o (out++[x]) false ⟨rfl,rfl,rfl,rfl,rfl,rfl,rfl,trivial⟩ [0,1] rfl [0] rfl (⟨by omega,by rw[hs,if_pos hne],by rw[List.length_append,hk.symm];rfl,by simp at hki ⊢;omega⟩) (by omega)
    ·have hne:¬x.1≠f.1:=fun e=>h1 (fun h=>e (cR.1 h))
     refine aB<|aW<|aa<|ah<|au rfl<|hy (fun _=>aO rfl rfl (bE (by omega) (by omega)))<|aG rfl<|ag<|az [7,37,25,11,5,6,4,3,0,1] rfl<| ?_
     refine jT (i+1) A1 (k) c1 (out) false ⟨rfl,rfl,rfl,rfl,rfl,rfl,rfl,trivial⟩ [0,0] rfl [0] rfl (⟨by omega,by rw[hs,if_neg hne],hk.symm.symm,by simp at hki ⊢;omega⟩) (by omega)
 ·obtain rfl:i=n:=by omega
  have hww:Cw f l l.length=(out,pt):=by rw[hl];exact hw
  by_cases hp:pt=true
  ·subst hp
   have hW:iD l f=out:=by rw[iD,hww];rfl
   refine bH<|al<|al<|aD<|aa<|ae<|ae<|ah<|au rfl<|hy (fun _=>(j5 rfl))<|ag<|az [46,11,5,6,7,4,3,0,1] rfl<|aa<| ?_
   refine dm rfl (rfl) ?_
   refine aB<|aa<|ae<|ah<|au rfl<|aG rfl<|ag<|az [4,46,11,5,6,7,3,0,1] rfl<|aa<|aR<| ?_
   refine bd (fun w m=>m.bw 0 rfl (show _=aI 156 2 (.slice A1 k c1) k (fc (iD l f))from by rw[hW])) ?_
   exact bc trivial rfl rfl [0] rfl [] rfl ⟨_,_,rfl,rfl,rfl,⟨by rw[hW];exact hk,by simp at hki;omega⟩⟩
  ·obtain rfl:pt=false:=by simpa using hp
   have hW:iD l f=out++[f]:=by rw[iD,hww];rfl
   refine bH<|al<|al<|aD<|aa<|ae<|ae<|ah<|au rfl<|hy (fun _=>(j5 rfl))<|ag<|az [46,11,5,6,7,4,3,0,1] rfl<|aa<| ?_
   refine fx rfl (rfl) ?_
   refine ah<|au rfl<|hy (fun m=>yV (aP rfl rb fb rfl ((m.aN 1 rfl).aw)) ((rfl:_=Value.agg [SV f.1,SV f.2].toArray)))<| ?_
   refine hx (b5 Tryz.underlying36 iG rfl rfl rfl (by simp[Value.cells,B8]) (by decide) (by decide) (fun g49=> ?_))
   have hA_b49:0<1→(some (⟨g49,0,none⟩:Addr))≠none:=fun _ h=>by cases h
   refine aH (fun w m=>m.bw 0 rfl (show _=aI 156 2 (.slice (some ⟨g49,0,none⟩) 1 1) 1 (fc [f])from rfl)) ?_
   refine hx (bC 1 rfl rfl rfl Tryz.underlying36 Tryz.underlying36 (by exact .inl rfl) iG rfl (fun m=>Src.b9 (m.ord 0 rfl)) nw (by unfold maxLen;omega) (by omega) (fun u=> ?_))
   refine aC (fun m=>(m.own 0 rfl).slice) ?_
   rintro⟨A_o,c_o,rfl,hc_o⟩
   refine aC (fun m=>(m.ord 0 rfl).2.1) fun hA_o=> ?_
   refine aH (fun w m=>m.bw 0 rfl (show _=aI 156 2 (.slice A_o (k+1) c_o) (k+1) (fc (iD l f))from(congrArg (aI _ _ _ _) ((gX ..).symm.trans (congrArg fc hW.symm))))) ?_
   refine aG rfl<|ag<|az [5,46,11,6,7,4,3,0,1] rfl<|aY rfl rfl<|aa<|ae<|ah<|au rfl<|aG rfl<|ag<|az [4,5,46,11,6,7,3,0,1] rfl<|aa<|aR<| ?_
   exact bc trivial rfl rfl [0] rfl [] rfl ⟨_,_,rfl,rfl,rfl,⟨by rw[hW,List.length_append,hk];rfl,by simp at hki;omega⟩⟩
end Go.Proofs.YtmibdabdlgmafaaGreatDoor
end
section
set_option maxRecDepth 20000
namespace Go.Proofs.YtmibdabdlgmafaaGreatDoor
open Go.Eng Go.Hx
def dN(l:List FP)(p:List UInt8):List FP:=l.filter fun x=>decide (x.1≠p)
def cv(k:Int)(p t b:List UInt8):List Value:=[.int .i64 k,SV p,SV t,SV b]
def eB(l:List FP)(k:Int)(p t b:List UInt8):List FP:=
 if k=0 then iD l (p,b)else match l[cP l p]? with
  |none=>l
  |some x=>if k=2 then dN l p else iD (dN l p) (t,x.2)
theorem gZ{l:List FP}{p:List UInt8}:kc l p<0↔l[cP l p]? =none:=by
 unfold kc
 by_cases h:cP l p<l.length
 ·rw[if_pos h,List.getElem?_eq_getElem h];simp
 ·rw[if_neg h,List.getElem?_eq_none (by omega)];simp
theorem EH{A:Option Addr}{n c:Nat}{l:List FP}{k:Int}{p t bb:List UInt8}(hl:l.length=n)(hn:n≤900000):cf Tryz.prog 162 [.slice A n c,.agg (cv k p t bb).toArray] [] [cz 2 A n (fc l)] (fun v_ X_ S_=>∃A1 n1 c1,v_=(.slice A1 n1 c1)∧X_=[]∧S_=[cz 2 A1 n1 (fc (eB l k p t bb))]∧(n1=(eB l k p t bb).length∧n1≤n+1)):=by
 refine aK (N:=43) Tryz.func162 rfl rfl (by simp) fun b=> ?_
 refine aQ (fun m=>eU (m.rd 0 rfl)) ?_
 rintro⟨hl_r,hA_r⟩
 refine ae<|ah<| ?_
 refine hx (br rfl (fun g3=> ?_))
 refine aH (fun w m=>m.bw 0 rfl (show _=aE g3 186 (cv k p t bb)from congrArg (aE _ _) (aV _))) ?_
 refine aG rfl<|ag<|aY rfl rfl<|aa<|ae<|ae<|ah<|hy (fun _=>ax rfl wa (by decide))<|hy (fun m=>ak rfl cY (ar (m.aN 0 rfl) (i:=0) rfl))<|hy (fun _=>cD rfl rfl)<|ag<|az [8,4,3,0,1] rfl<|aa<| ?_
 refine cu rfl (fun h0=> ?_) (fun h0=> ?_)
 ·have hM:eB l k p t bb=iD l (p,bb):=by rw[eB,if_pos h0]
  refine ae<|ah<|au rfl<|hy (fun _=>ax rfl oV (by decide))<|hy (fun m=>yV (ak rfl lO (ar (m.aN 0 rfl) (i:=1) rfl)) ((rfl:_=SV p)))<|hy (fun _=>ax rfl BW (by decide))<|hy (fun m=>yV (ak rfl lO (ar (m.aN 0 rfl) (i:=3) rfl)) ((rfl:_=SV bb)))<|hy (fun _=>yV (b6 iG rfl rfl (by kernel_rfl) (.cons (o:=0) (sz:=1) (by kernel_rfl) rfl rfl (Nat.le_of_ble_eq_true rfl) (.cons (o:=1) (sz:=1) (by kernel_rfl) rfl rfl (Nat.le_of_ble_eq_true rfl) .nil))) ((rfl:_=Value.agg [SV p,SV bb].toArray)))<| ?_
  refine hx (an rfl Tryz.call220 (yl (by omega) (by omega) (f:=(p,bb))) [] rfl [0] rfl ?_)
  rintro _ _ _ ⟨v,k2,rfl,rfl,rfl,hp⟩
  refine aC (fun m=>(m.own 0 rfl).slice) ?_
  rintro⟨A_x,c_x,rfl,hc_x⟩
  refine aC (fun m=>(m.ord 0 rfl).2.1) fun hA_x=> ?_
  refine aG rfl<|ag<|az [4,8,3,0,1] rfl<|aY rfl rfl<|aa<|aR<|aq<| ?_
  rw[←hM]at hp
  refine bd (fun w m=>m.bw 0 rfl (show _=aI 156 2 (.slice A_x k2 c_x) k2 (fc (eB l k p t bb))from by rw[hM])) ?_
  refine bd (fun w m=>(m.perm (ao [0] _ [_] _ rfl)).freeze) ?_
  refine bd (fun w m=>m.ew 0 rfl .own) ?_
  refine uw (fun m=>eU (m.rd 0 rfl)) ?_
  rintro⟨hl_xr,hA_xr⟩
  exact bc trivial rfl rfl [] rfl [0] rfl ⟨_,_,_,rfl,rfl,rfl,hp⟩
 ·refine aB<|aa<|ae<|ah<|au rfl<|hy (fun _=>ax rfl oV (by decide))<|hy (fun m=>yV (ak rfl lO (ar (m.aN 0 rfl) (i:=1) rfl)) ((rfl:_=SV p)))<| ?_
  refine hx (an rfl Tryz.call113 (uT (by omega) (by omega)) [] rfl [0] rfl ?_)
  rintro _ _ _ ⟨rfl,rfl,rfl⟩
  refine aG rfl<|ag<|az [5,8,4,3,0,1] rfl<|aY rfl rfl<|aa<|ae<|ae<|ah<|au rfl<|hy (fun _=>bx rfl rfl)<|ag<|az [21,5,8,4,3,0,1] rfl<|aa<| ?_
  refine cu rfl (fun h1=> ?_) (fun h1=> ?_)
  ·have hM:eB l k p t bb=l:=by rw[eB,if_neg h0,gZ.1 h1]
   refine ae<|ah<|au rfl<|aG rfl<|ag<|az [4,21,5,8,3,0,1] rfl<|aa<|aR<|aq<| ?_
   rw[hM]
   exact bc trivial rfl rfl [] rfl [0] rfl ⟨_,_,_,rfl,rfl,rfl,⟨hl.symm,by omega⟩⟩
  ·obtain⟨x0,cF⟩:∃x0,l[cP l p]? =some x0:=by
    cases hq:l[cP l p]? with
    |none=>exact absurd (gZ.2 hq) h1
    |some x0=>exact⟨x0,rfl⟩
   have hfl:cP l p<l.length:=(List.getElem?_eq_some_iff.1 cF).1
   obtain⟨f0,f1⟩:=jD l _ x0 cF
   have hfi:kc l p=(cP l p:Nat):=by rw[kc,if_pos hfl]
   have hwl:(dN l p).length≤l.length:=List.length_filter_le ..
   refine aB<|aa<|ae<|ae<|ah<|hy (fun _=>ax rfl wa (by decide))<|hy (fun m=>ak rfl cY (ar (m.aN 0 rfl) (i:=0) rfl))<|hy (fun _=>cD rfl rfl)<|ag<|az [25,21,5,8,4,3,0,1] rfl<|aa<| ?_
   refine cu rfl (fun h2=> ?_) (fun h2=> ?_)
   ·have hM:eB l k p t bb=dN l p:=by rw[eB,if_neg h0,cF];simp only[if_pos h2]
    refine ae<|ah<|au rfl<|hy (fun _=>ax rfl oV (by decide))<|hy (fun m=>yV (ak rfl lO (ar (m.aN 0 rfl) (i:=1) rfl)) ((rfl:_=SV p)))<| ?_
    refine hx (an rfl Tryz.call221 (q8 (by omega) (by omega)) [] rfl [0] rfl ?_)
    rintro _ _ _ ⟨v,k2,rfl,rfl,rfl,hp⟩
    refine aC (fun m=>(m.own 0 rfl).slice) ?_
    rintro⟨A_x,c_x,rfl,hc_x⟩
    refine aC (fun m=>(m.ord 0 rfl).2.1) fun hA_x=> ?_
    refine aG rfl<|ag<|az [4,25,21,5,8,3,0,1] rfl<|aY rfl rfl<|aa<|aR<|aq<| ?_
    refine bd (fun w m=>m.bw 0 rfl (show _=aI 156 2 (.slice A_x k2 c_x) k2 (fc (eB l k p t bb))from by rw[hM];rfl)) ?_
    refine bd (fun w m=>(m.perm (ao [0] _ [_] _ rfl)).freeze) ?_
    refine bd (fun w m=>m.ew 0 rfl .own) ?_
    refine uw (fun m=>eU (m.rd 0 rfl)) ?_
    rintro⟨hl_xr,hA_xr⟩
    exact bc trivial rfl rfl [] rfl [0] rfl ⟨_,_,_,rfl,rfl,rfl,⟨hp.trans (congrArg List.length hM.symm),by rw[hp];show(dN l p).length≤_;omega⟩⟩
   ·have hM:eB l k p t bb=iD (dN l p) (t,x0.2):=by rw[eB,if_neg h0,cF];simp only[if_neg h2]
    refine aB<|aa<|ae<|cA [3,12] [(0,some 0),(1,some 0),(2,some 0),(4,some 1),(5,some 1),(6,some 2),(7,some 2),(8,some 1),(9,some 1),(10,some 1),(11,some 1),(3,none),(12,none),(13,some 2)] (by kernel_rfl) (by kernel_rfl) rfl 99<|aj (ai rfl)<|aj (ax rfl oV (by decide))<|bV (fun m=>yV (ak rfl lO (ar (m.aN 0 rfl) (i:=1) rfl)) ((rfl:_=SV p)))<|aj (ax rfl Bb (by decide))<|bV (fun m=>yV (ak rfl lO (ar (m.aN 0 rfl) (i:=2) rfl)) ((rfl:_=SV t)))<|aj (ai rfl)<|aj (ai rfl)<|aj (ck rfl rfl Tryz.underlying36 fb hA_r hfi.symm (by omega))<|aj (ax rfl oK (by decide))<|bV (fun m=>yV (ak rfl lO (fF (m.rd 0 rfl) f1)) ((rfl:_=SV x0.2)))<|aj (yV (b6 iG rfl rfl (by kernel_rfl) (.cons (o:=0) (sz:=1) (by kernel_rfl) rfl rfl (Nat.le_of_ble_eq_true rfl) (.cons (o:=1) (sz:=1) (by kernel_rfl) rfl rfl (Nat.le_of_ble_eq_true rfl) .nil))) ((rfl:_=Value.agg [SV t,SV x0.2].toArray)))<| ?_
    refine dk (an rfl Tryz.call221 (q8 (by omega) (by omega)) [] rfl [0] rfl ?_)
    rintro _ _ _ ⟨v,k2,rfl,rfl,rfl,hp⟩
    refine⟨(fun _=>wk [1] [0] rfl rfl), ?_⟩
    refine bU (fun m=>(m.own 0 rfl).slice) ?_
    rintro⟨A_x,c_x,rfl,hc_x⟩
    refine bU (fun m=>(m.ord 0 rfl).2.1) fun hA_x=> ?_
    have hk2:k2=(dN l p).length:=hp
    clear hp
    refine dk (cS rfl Tryz.call220 (yl (by omega) (by omega) (l:=(dN l p)) (f:=(t,x0.2))) [] rfl (.x 0 rfl .own .nil) ?_)
    rintro _ _ _ ⟨v2,k3,rfl,rfl,rfl,hp2⟩
    refine⟨rfl, ?_⟩
    refine⟨(fun _=>wk [2] [0] rfl rfl), ?_⟩
    refine bU (fun m=>(m.own 0 rfl).slice) ?_
    rintro⟨A_x2,c_x2,rfl,hc_x2⟩
    refine bU (fun m=>(m.ord 0 rfl).2.1) fun hA_x2=> ?_
    refine aj (ay rfl)<|bp<|az [4,25,21,5,8,3,0,1] rfl<|aY rfl rfl<|aa<|aR<| ?_
    rw[hM]
    refine bd (fun w m=>(m.perm (ao [0] _ [_] _ rfl)).freeze) ?_
    refine bd (fun w m=>m.ew 0 rfl .own) ?_
    refine uw (fun m=>eU (m.rd 0 rfl)) ?_
    rintro⟨hl_x2r,hA_x2r⟩
    exact bc trivial rfl rfl [] rfl [0] rfl ⟨_,_,_,rfl,rfl,rfl,⟨hp2.1,by omega⟩⟩
abbrev RC:=Int×List UInt8×List UInt8×List UInt8
def uu(l:List RC):List Value:=l.flatMap fun x=>cv x.1 x.2.1 x.2.2.1 x.2.2.2
theorem uM(a b:List RC):uu (a++b)=uu a++uu b:=by simp[uu]
theorem wO{l:List RC}:∀u∈uu l,u.oneCell' =true:=by
 intro u hu
 obtain⟨x,_,h⟩:=List.mem_flatMap.1 hu
 simp only[cv,List.mem_cons,List.not_mem_nil,or_false]at h
 rcases h with rfl|rfl|rfl|rfl <;> rfl
theorem iU{room pw:Int}{A A2 A3:Option Addr}{n c n2 c2 n3 c3:Nat}:∀u∈dv room (.slice A n c) (.slice A2 n2 c2) (.slice A3 n3 c3) pw,u.oneCell' =true:=by
 intro u hu
 simp only[dv,List.mem_cons,List.not_mem_nil,or_false]at hu
 rcases hu with rfl|rfl|rfl|rfl|rfl <;> rfl
def eH(pw:Int):Int:=if 0<pw then pw-1 else pw
theorem EF{room pw:Int}{A Al A3:Option Addr}{n c nl cl n3 c3:Nat}{l:List FP}{wl:List RC}{k:Int}{p t bb:List UInt8}(hl:l.length=n)(hn:n≤900000)(hw:wl.length=n3)(hn3:n3≤900000)(hp1:-10≤pw)(hp2:pw≤1000000000000):cf Tryz.prog 114 [.agg (dv room (.slice A n c) (.slice Al nl cl) (.slice A3 n3 c3) pw).toArray,.agg (cv k p t bb).toArray] [] [cz 2 A n (fc l),cz 4 A3 n3 (uu wl)] (fun v_ X_ S_=>∃A1 n1 c1 A2 n2 c2,v_=(.agg (dv room (.slice A1 n1 c1) (.slice Al nl cl) (.slice A2 n2 c2) (eH pw)).toArray)∧X_=[]∧S_=[cz 2 A1 n1 (fc (eB l k p t bb)),cz 4 A2 n2 (uu (wl++[(k,p,t,bb)]))]∧(n1=(eB l k p t bb).length∧n1≤n+1∧n2=n3+1)):=by
 refine aK (N:=28) Tryz.func114 rfl rfl (by simp) fun b=> ?_
 refine aQ (fun m=>eU (m.rd 0 rfl)) ?_
 rintro⟨hl_r,hA_r⟩
 refine aQ (fun m=>eU (m.rd 1 rfl)) ?_
 rintro⟨hl_w,hA_w⟩
 refine ae<|ah<| ?_
 refine hx (br rfl (fun g2=> ?_))
 refine aH (fun w m=>m.bw 0 rfl (show _=aE g2 39 (dv room (.slice A n c) (.slice Al nl cl) (.slice A3 n3 c3) pw)from congrArg (aE _ _) (aV _))) ?_
 refine hx (br rfl (fun g3=> ?_))
 refine aH (fun w m=>m.bw 0 rfl (show _=aE g3 186 (cv k p t bb)from congrArg (aE _ _) (aV _))) ?_
 refine hx (ba mR (fun g4=> ?_))
 refine ag<|aY rfl rfl<|aa<|ae<|ah<|hy (fun _=>ax rfl jY (by decide))<|hy (fun m=>ak rfl sX (ar (m.aN 2 rfl) (i:=1) rfl))<|hy (fun m=>yV (aP rfl Dm Dn rfl ((m.aN 1 rfl).aw)) ((rfl:_=Value.agg (cv k p t bb).toArray)))<| ?_
 refine hx (an rfl Tryz.call162 (EH (by omega) (by omega)) [] rfl [0] rfl ?_)
 rintro _ _ _ ⟨A1,n1,c1,rfl,rfl,rfl,hp⟩
 refine aC (fun m=>eU (m.rd 0 rfl)) ?_
 rintro⟨hl_q,hA_q⟩
 refine hy (fun _=>ax rfl jY (by decide))<| ?_
 refine cF (bZ 2 rfl rfl rfl GY rfl (by first|exact Nat.le_of_ble_eq_true rfl|simp) ?_)
 refine ag<|az [4,3,2,0,1] rfl<|aY rfl rfl<|aa<|ae<|ah<|aG rfl<|ag<|aa<|ae<|ah<|au rfl<|hy (fun _=>ax rfl ve (by decide))<|hy (fun m=>ak rfl Hg (ar (m.aN 0 rfl) rfl))<| ?_
 refine aH (fun w m=>m.cL (r' :=aI 186 4 (.slice none 0 0) 0 []) (.refl _ _) (Own.nil _ _ _ _) (fun k hk=>hk.elim)) ?_
 refine hx (bC 0 rfl rfl rfl Tryz.underlying37 Tryz.underlying37 (by exact .inl rfl) qs rfl (fun m=>Src.b9 (m.rd 2 rfl)) wO (by unfold maxLen;omega) (by omega) (fun u=> ?_))
 refine aC (fun m=>(m.own 0 rfl).slice) ?_
 rintro⟨A_o,c_o,rfl,hc_o⟩
 refine aC (fun m=>(m.ord 0 rfl).2.1) fun hA_o=> ?_
 rw[Nat.zero_add]
 refine aH (fun w m=>m.bw 0 rfl (show _=aI 186 4 (.slice A_o n3 c_o) n3 (uu wl)from rfl)) ?_
 refine aG rfl<|ag<|az [5,4,3,2,0,1] rfl<|aY rfl rfl<|aa<|ae<|ah<|au rfl<|hy (fun m=>yV (aP rfl Dm Dn rfl ((m.aN 3 rfl).aw)) ((rfl:_=Value.agg (cv k p t bb).toArray)))<| ?_
 refine hx (b5 Tryz.underlying37 qs rfl rfl rfl (by simp[Value.cells,cv]) (by decide) (by decide) (fun g17=> ?_))
 have hA_b17:0<1→(some (⟨g17,0,none⟩:Addr))≠none:=fun _ h=>by cases h
 refine aH (fun w m=>m.bw 0 rfl (show _=aI 186 4 (.slice (some ⟨g17,0,none⟩) 1 1) 1 (uu [(k,p,t,bb)])from rfl)) ?_
 refine hx (bC 1 rfl rfl rfl Tryz.underlying37 Tryz.underlying37 (by exact .inl rfl) qs rfl (fun m=>Src.b9 (m.ord 0 rfl)) wO (by unfold maxLen;omega) (by omega) (fun u2=> ?_))
 refine aC (fun m=>(m.own 0 rfl).slice) ?_
 rintro⟨A_o2,c_o2,rfl,hc_o⟩
 refine aC (fun m=>(m.ord 0 rfl).2.1) fun hA_o=> ?_
 refine aH (fun w m=>m.bw 0 rfl (show _=aI 186 4 (.slice A_o2 (n3+1) c_o2) (n3+1) (uu (wl++[(k,p,t,bb)]))from congrArg (aI _ _ _ _) (uM ..).symm)) ?_
 refine hy (fun _=>ax rfl ve (by decide))<| ?_
 refine cF (bZ 2 rfl rfl rfl Fv rfl (by first|exact Nat.le_of_ble_eq_true rfl|simp) ?_)
 refine aH (fun w m=>m.bw 0 rfl (show _=aE g2 39 (dv room (.slice A1 n1 c1) (.slice Al nl cl) (.slice A_o2 (n3+1) c_o2) pw)from rfl)) ?_
 refine ag<|az [5,4,3,2,0,1] rfl<|aY rfl rfl<|aa<|ae<|ae<|ah<|hy (fun _=>ax rfl jO (by decide))<|hy (fun m=>ak rfl cY (ar (m.aN 0 rfl) (i:=4) rfl))<|hy (fun _=>cw rfl rfl)<|ag<|az [22,5,4,3,2,0,1] rfl<|aa<| ?_
 refine a8 (fun w m=>(m.perm (ao [1] _ [_] _ rfl)).freeze) ?_
 refine a8 (fun w m=>m.ew 0 rfl .own) ?_
 refine cu rfl (fun h=> ?_) (fun h=> ?_)
 ·refine ah<|hy (fun _=>ax rfl jO (by decide))<|hy (fun m=>ak rfl cY (ar (m.aN 0 rfl) (i:=4) rfl))<|hy (fun _=>ct rfl rfl (bE (by omega) (by omega)))<|hy (fun _=>ax rfl jO (by decide))<| ?_
  refine cF (bZ 0 rfl rfl rfl tA rfl (by first|exact Nat.le_of_ble_eq_true rfl|simp) ?_)
  refine aH (fun w m=>m.bw 0 rfl (show _=aE g2 39 (dv room (.slice A1 n1 c1) (.slice Al nl cl) (.slice A_o2 (n3+1) c_o2) (eH pw))from by rw[eH,if_pos h];rfl)) ?_
  refine ag<|az [22,5,4,3,2,0,1] rfl<|aY rfl rfl<|aa<|ae<|ah<|hy (fun m=>aP rfl cK bT rfl ((m.aN 0 rfl).aw))<| ?_
  refine cF (a7 2 rfl rfl rfl bT rfl iU rfl ?_)
  refine ag<|az [22,5,4,3,2,0,1] rfl<|aY rfl rfl<|aa<|aR<| ?_
  exact eZ trivial rfl rfl cK bT rfl (fun m=>(m.aN 0 rfl).aw) [] rfl [2,0] rfl ⟨_,_,_,_,_,_,rfl,rfl,rfl,⟨hp.1,hp.2,rfl⟩⟩
 ·refine a8 (fun w m=>m.bw 0 rfl (show _=aE g2 39 (dv room (.slice A1 n1 c1) (.slice Al nl cl) (.slice A_o2 (n3+1) c_o2) (eH pw))from by rw[eH,if_neg h])) ?_
  refine aB<|aa<|ae<|ah<|hy (fun m=>aP rfl cK bT rfl ((m.aN 0 rfl).aw))<| ?_
  refine cF (a7 2 rfl rfl rfl bT rfl iU rfl ?_)
  refine ag<|az [22,5,4,3,2,0,1] rfl<|aY rfl rfl<|aa<|aR<| ?_
  exact eZ trivial rfl rfl cK bT rfl (fun m=>(m.aN 0 rfl).aw) [] rfl [2,0] rfl ⟨_,_,_,_,_,_,rfl,rfl,rfl,⟨hp.1,hp.2,rfl⟩⟩
end Go.Proofs.YtmibdabdlgmafaaGreatDoor
end
section
set_option maxRecDepth 20000
namespace Go.Proofs.YtmibdabdlgmafaaGreatDoor
open Go.Eng Go.Hx
structure RD where
 room:Int
 seen:List FP
 dq:List FP
 waits:List RC
 pw:Int
def RD.sz(d:RD)(p:List UInt8):Nat:=((d.seen[cP d.seen p]?).map (·.2.length)).getD 0
def RD.bP(d:RD)(p bb:List UInt8):Int:=if¬fQ p then 1 else if d.pw=0 then 6 else if d.room<(dz d.seen:Int)+(bb.length:Nat)-(d.sz p:Nat)then 5 else 0
def RD.k6(d:RD)(k:Int)(p t bb:List UInt8):RD:={d with seen:=eB d.seen k p t bb,waits:=d.waits++[(k,p,t,bb)],pw:=eH d.pw}
def RD.write(d:RD)(p bb:List UInt8):RD:=if d.bP p bb=0 then d.k6 0 p [] bb else d
structure yJ(d:RD)(k:Nat):Prop where
 seen:d.seen.length≤k
 waits:d.waits.length≤k
 lH:dz d.seen≤k*1048576
 p1:-10≤d.pw
 p2:d.pw≤1000000000000
theorem Gq(d:RD)(p:List UInt8):d.sz p≤dz d.seen:=by
 unfold RD.sz
 cases h:d.seen[cP d.seen p]? with
 |none=>simp
 |some x=>
  have h1:=qo h
  have h2:=wC d.seen (cP d.seen p+1)
  simp only[Option.map_some,Option.getD_some]
  omega
def rv(d:RD)(A:Option Addr)(n c:Nat)(Al:Option Addr)(nl cl:Nat)(A3:Option Addr)(n3 c3:Nat):List Value:=dv d.room (.slice A n c) (.slice Al nl cl) (.slice A3 n3 c3) d.pw
theorem Fu{room:Int}:cf Tryz.prog 25 [.int .i64 room] [] [] (fun v_ X_ S_=>v_=(.agg (dv room (.slice none 0 0) (.slice none 0 0) (.slice none 0 0) (-1)).toArray)∧X_=[]∧S_=[]):=by
 refine aK (N:=5) Tryz.func25 rfl rfl (by simp) fun b=> ?_
 refine ae<|ah<| ?_
 refine hx (ba mR (fun g2=> ?_))
 refine ag<|aY rfl rfl<|aa<|ae<|ah<|au rfl<|hy (fun _=>yV (b6 mR rfl rfl (by kernel_rfl) (.cons (o:=0) (sz:=1) (by kernel_rfl) rfl rfl (Nat.le_of_ble_eq_true rfl) (.cons (o:=4) (sz:=1) (by kernel_rfl) rfl rfl (Nat.le_of_ble_eq_true rfl) .nil))) ((rfl:_=Value.agg (dv room (.slice none 0 0) (.slice none 0 0) (.slice none 0 0) (-1)).toArray)))<| ?_
 refine cF (a7 0 rfl rfl rfl bT rfl iU rfl ?_)
 refine ag<|az [2,0] rfl<|aY rfl rfl<|aa<|aR<| ?_
 exact eZ trivial rfl rfl cK bT rfl (fun m=>(m.aN 0 rfl).aw) [] rfl [] rfl ⟨rfl,rfl,rfl⟩
theorem BM{d:RD}{kk:Nat}{A Al A3:Option Addr}{n c nl cl n3 c3:Nat}{p bb:List UInt8}(hl:d.seen.length=n)(hw:d.waits.length=n3)(ok:yJ d kk)(hkk:kk≤100000)(hpl:p.length≤1000000)(hbb:bb.length≤1000000):cf Tryz.prog 31 [.agg (rv d A n c Al nl cl A3 n3 c3).toArray,.string (strOf p),.string (strOf bb)] [] [cz 2 A n (fc d.seen),cz 4 A3 n3 (uu d.waits)] (fun v_ X_ S_=>∃A1 n1 c1 A2 n2 c2,v_=(.tuple #[.agg (rv (d.write p bb) A1 n1 c1 Al nl cl A2 n2 c2).toArray,.int .i64 (d.bP p bb)])∧X_=[]∧S_=[cz 2 A1 n1 (fc (d.write p bb).seen),cz 4 A2 n2 (uu (d.write p bb).waits)]∧((d.write p bb).seen.length=n1∧(d.write p bb).waits.length=n2)):=by
 have hk1:=ok.seen
 have hk2:=ok.waits
 have hk3:=ok.lH
 have hk4:=ok.p1
 have hk5:=ok.p2
 have hsz:=Gq d p
 refine aK (N:=50) Tryz.func31 rfl rfl (by simp) fun b=> ?_
 refine aQ (fun m=>eU (m.rd 0 rfl)) ?_
 rintro⟨hl_r,hA_r⟩
 refine aQ (fun m=>eU (m.rd 1 rfl)) ?_
 rintro⟨hl_w,hA_w⟩
 refine ae<|ah<| ?_
 refine hx (br rfl (fun g3=> ?_))
 refine aH (fun w m=>m.bw 0 rfl (show _=aE g3 39 (rv d A n c Al nl cl A3 n3 c3)from congrArg (aE _ _) (aV _))) ?_
 refine hx (ba mR (fun g6=> ?_))
 refine aG rfl<|ag<|aY rfl rfl<|aa<|ae<|ah<|au rfl<| ?_
 refine hx (an rfl Tryz.call112 (vU (by omega)) [] rfl [] rfl ?_)
 rintro _ _ _ ⟨rfl,rfl,rfl⟩
 refine aG rfl<|ag<|az [8,7,6,3,0,1,2] rfl<|aY rfl rfl<|aa<|ae<|ae<|ah<|au rfl<|hy (fun _=>eu rfl)<|ag<|az [14,8,7,6,3,0,1,2] rfl<|aa<| ?_
 refine cu rfl (fun hN=> ?_) (fun hN=> ?_)
 ·have hE:d.bP p bb=1:=by rw[RD.bP,if_pos hN]
  have hW:d.write p bb=d:=by rw[RD.write,if_neg (by rw[hE];decide)]
  rw[hE,hW]
  refine ae<|ah<|hy (fun m=>yV (aP rfl cK bT rfl ((m.aN 1 rfl).aw)) ((rfl:_=Value.agg (rv d A n c Al nl cl A3 n3 c3).toArray)))<| ?_
  refine cF (a7 0 rfl rfl rfl bT rfl iU rfl ?_)
  refine aG rfl<|ag<|az [7,14,8,6,3,0,1,2] rfl<|aY rfl rfl<|aa<|aR<|aq<| ?_
  exact eo trivial rfl rfl rfl cK bT rfl (fun m=>(m.aN 0 rfl).aw) [] rfl [0,1] rfl ⟨_,_,_,_,_,_,rfl,rfl,rfl,⟨hl,hw⟩⟩
 ·refine aB<|aa<|ae<|ae<|ah<|hy (fun _=>ax rfl jO (by decide))<|hy (fun m=>ak rfl cY (ar (m.aN 1 rfl) (i:=4) rfl))<|hy (fun _=>cD rfl rfl)<|ag<|az [18,14,8,7,6,3,0,1,2] rfl<|aa<| ?_
  refine cu rfl (fun h0=> ?_) (fun h0=> ?_)
  ·have hE:d.bP p bb=6:=by rw[RD.bP,if_neg hN,if_pos h0]
   have hW:d.write p bb=d:=by rw[RD.write,if_neg (by rw[hE];decide)]
   rw[hE,hW]
   refine ae<|ah<|hy (fun m=>yV (aP rfl cK bT rfl ((m.aN 1 rfl).aw)) ((rfl:_=Value.agg (rv d A n c Al nl cl A3 n3 c3).toArray)))<| ?_
   refine cF (a7 0 rfl rfl rfl bT rfl iU rfl ?_)
   refine aG rfl<|ag<|az [7,18,14,8,6,3,0,1,2] rfl<|aY rfl rfl<|aa<|aR<|aq<| ?_
   exact eo trivial rfl rfl rfl cK bT rfl (fun m=>(m.aN 0 rfl).aw) [] rfl [0,1] rfl ⟨_,_,_,_,_,_,rfl,rfl,rfl,⟨hl,hw⟩⟩
  ·have hsb:=da bb
   refine aB<|aa<|ae<|ah<|hy (fun m=>yV (aP rfl cK bT rfl ((m.aN 1 rfl).aw)) ((rfl:_=Value.agg (rv d A n c Al nl cl A3 n3 c3).toArray)))<| ?_
   refine hx (an rfl Tryz.call89 (D9 (by omega) (by omega) (by omega)) [] rfl [0] rfl ?_)
   rintro _ _ _ ⟨rfl,rfl,rfl⟩
   refine au rfl<|hy (fun _=>fa rfl Tryz.underlying9)<|hy (fun _=>aO rfl rfl (bE (by omega) (by omega)))<|aG rfl<|ag<|az [9,18,14,8,7,6,3,0,1,2] rfl<|aY rfl rfl<|aa<|ae<|ah<|hy (fun _=>ax rfl jY (by decide))<|hy (fun m=>ak rfl sX (ar (m.aN 1 rfl) (i:=1) rfl))<|au rfl<| ?_
   refine hx (an rfl Tryz.call113 (uT (by omega) (by omega)) [] rfl [0] rfl ?_)
   rintro _ _ _ ⟨rfl,rfl,rfl⟩
   refine aG rfl<|ag<|az [10,9,18,14,8,7,6,3,0,1,2] rfl<|aY rfl rfl<|aa<|ae<|ae<|ah<|au rfl<|hy (fun _=>eO rfl rfl)<|ag<|az [30,10,9,18,14,8,7,6,3,0,1,2] rfl<|aa<| ?_
   refine cu rfl (fun hf=> ?_) (fun hf=> ?_)
   ·obtain⟨x0,hfx⟩:∃x0,d.seen[cP d.seen p]? =some x0:=by
     cases hq:d.seen[cP d.seen p]? with
     |none=>exact absurd (gZ.2 hq) (by omega)
     |some x0=>exact⟨x0,rfl⟩
    have hfl:cP d.seen p<d.seen.length:=(List.getElem?_eq_some_iff.1 hfx).1
    obtain⟨f0,f1⟩:=jD d.seen _ x0 hfx
    have hfi:kc d.seen p=(cP d.seen p:Nat):=by rw[kc,if_pos hfl]
    have hsx:=da x0.2
    have hs0:d.sz p=x0.2.length:=by unfold RD.sz;rw[hfx];rfl
    refine ah<|au rfl<|hy (fun _=>ax rfl jY (by decide))<|hy (fun m=>ak rfl sX (ar (m.aN 1 rfl) (i:=1) rfl))<|au rfl<|hy (fun _=>ck rfl rfl Tryz.underlying36 fb hA_r hfi.symm (by omega))<|hy (fun _=>ax rfl oK (by decide))<|hy (fun m=>yV (ak rfl lO (fF (m.rd 0 rfl) f1)) ((rfl:_=Value.string (strOf x0.2))))<|hy (fun _=>fa rfl Tryz.underlying9)<|hy (fun _=>ct rfl rfl (bE (by omega) (by omega)))<|aG rfl<|ag<|az [9,30,10,18,14,8,7,6,3,0,1,2] rfl<|aa<|ae<|ae<|ah<|au rfl<|hy (fun _=>ax rfl zf (by decide))<|hy (fun m=>ak rfl cY (ar (m.aN 1 rfl) (i:=0) rfl))<|hy (fun _=>cw rfl rfl)<|ag<|az [43,9,30,10,18,14,8,7,6,3,0,1,2] rfl<|aa<| ?_
    refine cu rfl (fun hR=> ?_) (fun hR=> ?_)
    ·have hE:d.bP p bb=5:=by rw[RD.bP,if_neg hN,if_neg h0,if_pos (by omega)]
     have hW:d.write p bb=d:=by rw[RD.write,if_neg (by rw[hE];decide)]
     rw[hE,hW]
     refine ae<|ah<|hy (fun m=>yV (aP rfl cK bT rfl ((m.aN 1 rfl).aw)) ((rfl:_=Value.agg (rv d A n c Al nl cl A3 n3 c3).toArray)))<| ?_
     refine cF (a7 0 rfl rfl rfl bT rfl iU rfl ?_)
     refine aG rfl<|ag<|az [7,43,9,30,10,18,14,8,6,3,0,1,2] rfl<|aY rfl rfl<|aa<|aR<|aq<| ?_
     exact eo trivial rfl rfl rfl cK bT rfl (fun m=>(m.aN 0 rfl).aw) [] rfl [0,1] rfl ⟨_,_,_,_,_,_,rfl,rfl,rfl,⟨hl,hw⟩⟩
    ·have hE:d.bP p bb=0:=by rw[RD.bP,if_neg hN,if_neg h0,if_neg (by omega)]
     have hW:d.write p bb=d.k6 0 p [] bb:=by rw[RD.write,if_pos hE]
     rw[hE,hW]
     refine aB<|aa<|ae<|ah<|hy (fun m=>yV (aP rfl cK bT rfl ((m.aN 1 rfl).aw)) ((rfl:_=Value.agg (dv d.room (.slice A n c) (.slice Al nl cl) (.slice A3 n3 c3) d.pw).toArray)))<|au rfl<|au rfl<|hy (fun _=>yV (b6 qs rfl rfl (by kernel_rfl) (.cons (o:=1) (sz:=1) (by kernel_rfl) rfl rfl (Nat.le_of_ble_eq_true rfl) (.cons (o:=3) (sz:=1) (by kernel_rfl) rfl rfl (Nat.le_of_ble_eq_true rfl) .nil))) ((rfl:_=Value.agg (cv 0 p [] bb).toArray)))<| ?_
     refine hx (an rfl Tryz.call114 (EF (by omega) (by omega) (by omega) (by omega) (by omega) (by omega)) [] rfl [0,1] rfl ?_)
     rintro _ _ _ ⟨A1,n1,c1,A2,n2,c2,rfl,rfl,rfl,hp⟩
     refine aC (fun m=>eU (m.rd 0 rfl)) ?_
     rintro⟨hl_q,hA_q⟩
     refine aC (fun m=>eU (m.rd 1 rfl)) ?_
     rintro⟨hl_u,hA_u⟩
     refine cF (a7 0 rfl rfl rfl bT rfl iU rfl ?_)
     refine aG rfl<|ag<|az [7,43,9,30,10,18,14,8,6,3,0,1,2] rfl<|aY rfl rfl<|aa<|aR<| ?_
     exact eo trivial rfl rfl rfl cK bT rfl (fun m=>(m.aN 0 rfl).aw) [] rfl [0,1] rfl ⟨_,_,_,_,_,_,rfl,rfl,rfl,⟨hp.1.symm,by rw[hp.2.2,←hw];exact List.length_append⟩⟩
   ·have hs0:d.sz p=0:=by
     unfold RD.sz
     rw[gZ.1 (by omega)];rfl
    refine aB<|aa<|ae<|ae<|ah<|au rfl<|hy (fun _=>ax rfl zf (by decide))<|hy (fun m=>ak rfl cY (ar (m.aN 1 rfl) (i:=0) rfl))<|hy (fun _=>cw rfl rfl)<|ag<|az [43,30,10,9,18,14,8,7,6,3,0,1,2] rfl<|aa<| ?_
    refine cu rfl (fun hR=> ?_) (fun hR=> ?_)
    ·have hE:d.bP p bb=5:=by rw[RD.bP,if_neg hN,if_neg h0,if_pos (by omega)]
     have hW:d.write p bb=d:=by rw[RD.write,if_neg (by rw[hE];decide)]
     rw[hE,hW]
     refine ae<|ah<|hy (fun m=>yV (aP rfl cK bT rfl ((m.aN 1 rfl).aw)) ((rfl:_=Value.agg (rv d A n c Al nl cl A3 n3 c3).toArray)))<| ?_
     refine cF (a7 0 rfl rfl rfl bT rfl iU rfl ?_)
     refine aG rfl<|ag<|az [7,43,30,10,9,18,14,8,6,3,0,1,2] rfl<|aY rfl rfl<|aa<|aR<|aq<| ?_
     exact eo trivial rfl rfl rfl cK bT rfl (fun m=>(m.aN 0 rfl).aw) [] rfl [0,1] rfl ⟨_,_,_,_,_,_,rfl,rfl,rfl,⟨hl,hw⟩⟩
    ·have hE:d.bP p bb=0:=by rw[RD.bP,if_neg hN,if_neg h0,if_neg (by omega)]
     have hW:d.write p bb=d.k6 0 p [] bb:=by rw[RD.write,if_pos hE]
     rw[hE,hW]
     refine aB<|aa<|ae<|ah<|hy (fun m=>yV (aP rfl cK bT rfl ((m.aN 1 rfl).aw)) ((rfl:_=Value.agg (dv d.room (.slice A n c) (.slice Al nl cl) (.slice A3 n3 c3) d.pw).toArray)))<|au rfl<|au rfl<|hy (fun _=>yV (b6 qs rfl rfl (by kernel_rfl) (.cons (o:=1) (sz:=1) (by kernel_rfl) rfl rfl (Nat.le_of_ble_eq_true rfl) (.cons (o:=3) (sz:=1) (by kernel_rfl) rfl rfl (Nat.le_of_ble_eq_true rfl) .nil))) ((rfl:_=Value.agg (cv 0 p [] bb).toArray)))<| ?_
     refine hx (an rfl Tryz.call114 (EF (by omega) (by omega) (by omega) (by omega) (by omega) (by omega)) [] rfl [0,1] rfl ?_)
     rintro _ _ _ ⟨A1,n1,c1,A2,n2,c2,rfl,rfl,rfl,hp⟩
     refine aC (fun m=>eU (m.rd 0 rfl)) ?_
     rintro⟨hl_q,hA_q⟩
     refine aC (fun m=>eU (m.rd 1 rfl)) ?_
     rintro⟨hl_u,hA_u⟩
     refine cF (a7 0 rfl rfl rfl bT rfl iU rfl ?_)
     refine aG rfl<|ag<|az [7,43,30,10,9,18,14,8,6,3,0,1,2] rfl<|aY rfl rfl<|aa<|aR<| ?_
     exact eo trivial rfl rfl rfl cK bT rfl (fun m=>(m.aN 0 rfl).aw) [] rfl [0,1] rfl ⟨_,_,_,_,_,_,rfl,rfl,rfl,⟨hp.1.symm,by rw[hp.2.2,←hw];exact List.length_append⟩⟩
def RD.dx(d:RD)(p:List UInt8):Int:=if d.pw=0 then 6 else if d.seen[cP d.seen p]? =none then 4 else 0
def RD.cJ(d:RD)(p:List UInt8):List UInt8:=if d.pw=0 then []else((d.seen[cP d.seen p]?).map (·.2)).getD []
theorem Ev{d:RD}{kk:Nat}{A Al A3:Option Addr}{n c nl cl n3 c3:Nat}{p:List UInt8}(hl:d.seen.length=n)(ok:yJ d kk)(hkk:kk≤100000):cf Tryz.prog 91 [.agg (rv d A n c Al nl cl A3 n3 c3).toArray,.string (strOf p)] [] [cz 2 A n (fc d.seen)] (fun v_ X_ S_=>v_=(.tuple #[.string (strOf (d.cJ p)),.int .i64 (d.dx p)])∧X_=[]∧S_=[]):=by
 have hk1:=ok.seen
 refine aK (N:=22) Tryz.func91 rfl rfl (by simp) fun b=> ?_
 refine aQ (fun m=>eU (m.rd 0 rfl)) ?_
 rintro⟨hl_r,hA_r⟩
 refine ae<|ah<| ?_
 refine hx (br rfl (fun g2=> ?_))
 refine aH (fun w m=>m.bw 0 rfl (show _=aE g2 39 (rv d A n c Al nl cl A3 n3 c3)from congrArg (aE _ _) (aV _))) ?_
 refine aG rfl<|aG rfl<|ag<|aY rfl rfl<|aa<|ae<|ah<|hy (fun _=>ax rfl jY (by decide))<|hy (fun m=>ak rfl sX (ar (m.aN 0 rfl) (i:=1) rfl))<|au rfl<| ?_
 refine hx (an rfl Tryz.call113 (uT (by omega) (by omega)) [] rfl [0] rfl ?_)
 rintro _ _ _ ⟨rfl,rfl,rfl⟩
 refine aG rfl<|ag<|az [6,5,4,2,0,1] rfl<|aY rfl rfl<|aa<|ae<|ae<|ah<|hy (fun _=>ax rfl jO (by decide))<|hy (fun m=>ak rfl cY (ar (m.aN 0 rfl) (i:=4) rfl))<|hy (fun _=>cD rfl rfl)<|ag<|az [13,6,5,4,2,0,1] rfl<|aa<| ?_
 refine cu rfl (fun h0=> ?_) (fun h0=> ?_)
 ·have hE:d.dx p=6:=by rw[RD.dx,if_pos h0]
  have hB:d.cJ p=[]:=by rw[RD.cJ,if_pos h0]
  rw[hE,hB]
  refine ae<|ah<|aG rfl<|aG rfl<|ag<|aa<|aR<|aq<| ?_
  exact cQ trivial rfl rfl rfl [] rfl [] rfl ⟨rfl,rfl,rfl⟩
 ·refine aB<|aa<|ae<|ae<|ah<|au rfl<|hy (fun _=>bx rfl rfl)<|ag<|az [15,13,6,5,4,2,0,1] rfl<|aa<| ?_
  refine cu rfl (fun h1=> ?_) (fun h1=> ?_)
  ·have hq:=gZ.1 h1
   have hE:d.dx p=4:=by rw[RD.dx,if_neg h0,if_pos hq]
   have hB:d.cJ p=[]:=by rw[RD.cJ,if_neg h0,hq];rfl
   rw[hE,hB]
   refine ae<|ah<|aG rfl<|aG rfl<|ag<|aa<|aR<|aq<| ?_
   exact cQ trivial rfl rfl rfl [] rfl [] rfl ⟨rfl,rfl,rfl⟩
  ·obtain⟨x0,hfx⟩:∃x0,d.seen[cP d.seen p]? =some x0:=by
    cases hq:d.seen[cP d.seen p]? with
    |none=>exact absurd (gZ.2 hq) h1
    |some x0=>exact⟨x0,rfl⟩
   have hfl:cP d.seen p<d.seen.length:=(List.getElem?_eq_some_iff.1 hfx).1
   obtain⟨f0,f1⟩:=jD d.seen _ x0 hfx
   have hfi:kc d.seen p=(cP d.seen p:Nat):=by rw[kc,if_pos hfl]
   have hE:d.dx p=0:=by rw[RD.dx,if_neg h0,if_neg (by rw[hfx];exact fun e=>by cases e)]
   have hB:d.cJ p=x0.2:=by rw[RD.cJ,if_neg h0,hfx];rfl
   rw[hE,hB]
   refine aB<|aa<|ae<|ah<|hy (fun _=>ax rfl jY (by decide))<|hy (fun m=>ak rfl sX (ar (m.aN 0 rfl) (i:=1) rfl))<|au rfl<|hy (fun _=>ck rfl rfl Tryz.underlying36 fb hA_r hfi.symm (by omega))<|hy (fun _=>ax rfl oK (by decide))<|hy (fun m=>yV (ak rfl lO (fF (m.rd 0 rfl) f1)) ((rfl:_=Value.string (strOf x0.2))))<|aG rfl<|aG rfl<|ag<|az [5,4,15,13,6,2,0,1] rfl<|aa<|aR<| ?_
   exact cQ trivial rfl rfl rfl [] rfl [] rfl ⟨rfl,rfl,rfl⟩
end Go.Proofs.YtmibdabdlgmafaaGreatDoor
end
section
namespace Go.Proofs.YtmibdabdlgmafaaGreatDoor
open Go.Eng Go.Hx
theorem C3:∀(x y:List UInt8),Op.bytesLess x y=decide (x<y)
 | [],[]=>by simp[Op.bytesLess]
 |_::_,[]=>by simp[Op.bytesLess]
 | [],_::_=>by simp[Op.bytesLess]
 |a::x,b::y=>by
  rw[Op.bytesLess,C3 x y]
  simp only[List.cons_lt_cons_iff]
  by_cases h1:a<b <;> by_cases h2:a=b <;> by_cases h3:x<y <;> simp[h1,h2,h3]
theorem qC{a b:List UInt8}:mL a b=decide (a<b):=by
 unfold mL
 rw[C3,Lib.toList_data,Lib.toList_data]
 rfl
def iF:List FP→FP→List FP
 | [],f=>[f]
 |x::r,f=>if x.1<f.1 then x::iF r f else f::(x::r).filter fun y=>decide (y.1≠f.1)
theorem kN(f:FP):∀(l acc:List FP),l.foldl (iy f) (acc,true)=(acc++l.filter (fun y=>decide (y.1≠f.1)),true)
 | [],acc=>by simp
 |x::r,acc=>by
  rw[List.foldl_cons]
  by_cases h:x.1=f.1
  ·have:iy f (acc,true) x=(acc,true):=by simp[iy,h]
   rw[this,kN f r acc];simp[h]
  ·have:iy f (acc,true) x=(acc++[x],true):=by simp[iy,h]
   rw[this,kN f r (acc++[x])];simp[h]
def y7(f:FP)(st:List FP×Bool):List FP:=if st.2 then st.1 else st.1++[f]
theorem pe(f:FP):∀(l acc:List FP),y7 f (l.foldl (iy f) (acc,false))=acc++iF l f
 | [],acc=>by simp[iF,y7]
 |x::r,acc=>by
  rw[List.foldl_cons]
  by_cases h:x.1<f.1
  ·have hne:x.1≠f.1:=fun e=>by rw[e]at h;exact List.lt_irrefl _ h
   have:iy f (acc,false) x=(acc++[x],false):=by simp[iy,qC,h,hne]
   rw[this,pe f r (acc++[x]),iF,if_pos h];simp
  ·have hs:mL x.1 f.1=false:=by rw[qC];simpa using h
   rw[iF,if_neg h]
   by_cases he:x.1=f.1
   ·have hs' :mL f.1 f.1=false:=he▸hs
    have:iy f (acc,false) x=(acc++[f],true):=by simp[iy,hs',he]
    rw[this,kN];simp[he,y7]
   ·have:iy f (acc,false) x=(acc++[f]++[x],true):=by simp[iy,hs,he]
    rw[this,kN];simp[he,y7]
theorem nC(l:List FP)(f:FP):iD l f=iF l f:=by
 have:=pe f l []
 rw[List.nil_append]at this
 rw[←this]
 unfold iD Cw y7
 rw[List.take_of_length_le (Nat.le_refl _)]
def lk:List FP→List UInt8→Option (List UInt8)
 | [],_=>none
 |x::r,p=>if x.1=p then some x.2 else lk r p
theorem jV:∀(l:List FP) (p:List UInt8),(l[cP l p]?).map (·.2)=lk l p
 | [],p=>rfl
 |x::r,p=>by
  have:=jV r p
  unfold cP at this ⊢
  rw[List.findIdx_cons]
  by_cases h:x.1=p
  ·simp[h,lk]
  ·simp[h,lk,this]
theorem kR(q:List UInt8):∀(l:List FP) (p:List UInt8),lk (l.filter fun y=>decide (y.1≠q)) p=if p=q then none else lk l p
 | [],p=>by simp[lk]
 |x::r,p=>by
  have ih:=kR q r p
  by_cases h:x.1=q
  ·rw[List.filter_cons,if_neg (by simp[h]),ih]
   by_cases hp:p=q
   ·simp[hp]
   ·rw[if_neg hp,if_neg hp,lk,if_neg (fun e=>hp (e.symm.trans h))]
  ·rw[List.filter_cons,if_pos (by simp[h]),lk,ih]
   by_cases hp:p=q
   ·rw[if_pos hp,if_pos hp,if_neg (fun e=>h (e.trans hp))]
   ·rw[if_neg hp,if_neg hp,lk]
theorem sB:∀(l:List FP) (f:FP) (p:List UInt8),lk (iF l f) p=if p=f.1 then some f.2 else lk l p
 | [],f,p=>by simp only[iF,lk,eq_comm]
 |x::r,f,p=>by
  unfold iF
  by_cases h:x.1<f.1
  ·rw[if_pos h,lk,sB r f p,lk]
   have hne:x.1≠f.1:=fun e=>by rw[e]at h;exact List.lt_irrefl _ h
   by_cases hp:p=f.1
   ·rw[if_pos hp,if_pos hp,if_neg (fun e=>hne (e.trans hp))]
   ·rw[if_neg hp,if_neg hp]
  ·rw[if_neg h,lk,kR]
   by_cases hp:p=f.1
   ·rw[if_pos hp.symm,if_pos hp]
   ·rw[if_neg (fun e=>hp e.symm),if_neg hp,if_neg hp]
def r5(l:List FP):Prop:=(l.map (·.1)).Pairwise (· <·)
theorem n5{l:List FP}(q:FP→Bool)(h:r5 l):r5 (l.filter q):=List.Pairwise.sublist (List.Sublist.map _ List.filter_sublist) h
theorem Cd{l:List FP}{f y:FP}(h:y∈iF l f):y=f∨y∈l:=by
 induction l with
 |nil=>exact .inl (by simpa[iF]using h)
 |cons x r ih=>
  unfold iF at h
  split at h
  ·rcases List.mem_cons.1 h with h|h
   ·exact .inr (by rw[h];exact List.mem_cons_self ..)
   ·rcases ih h with h|h
    ·exact .inl h
    ·exact .inr (List.mem_cons_of_mem _ h)
  ·rcases List.mem_cons.1 h with h|h
   ·exact .inl h
   ·exact .inr ((List.mem_filter.1 h).1)
theorem zJ{l:List FP}{f:FP}(h:r5 l):r5 (iF l f):=by
 induction l with
 |nil=>simp[r5,iF]
 |cons x r ih=>
  have hx:∀y∈r,x.1<y.1:=by
   intro y hy
   exact(List.pairwise_cons.1 h).1 _ (List.mem_map.2 ⟨y,hy,rfl⟩)
  have hr:r5 r:=(List.pairwise_cons.1 h).2
  unfold iF
  by_cases hlt:x.1<f.1
  ·rw[if_pos hlt]
   refine List.pairwise_cons.2 ⟨?_,ih hr⟩
   intro a ha
   obtain⟨y,hy,rfl⟩:=List.mem_map.1 ha
   rcases Cd hy with rfl|hy
   ·exact hlt
   ·exact hx y hy
  ·rw[if_neg hlt]
   refine List.pairwise_cons.2 ⟨?_,n5 _ h⟩
   intro a ha
   obtain⟨y,hy,rfl⟩:=List.mem_map.1 ha
   have hy1:=(List.mem_filter.1 hy).1
   have hy2:y.1≠f.1:=by simpa using(List.mem_filter.1 hy).2
   have hge:¬y.1<f.1:=by
    rcases List.mem_cons.1 hy1 with rfl|h1
    ·exact hlt
    ·exact fun e=>hlt (List.lt_trans (hx y h1) e)
   exact Decidable.byContradiction fun hn=>hy2 (List.le_antisymm (List.not_lt.1 hn) (List.not_lt.1 hge))
structure gL(fs:dH)(l:List FP):Prop where
 ord:r5 l
 nd:(cT fs).Nodup
 look:∀p,(bF fs p).map (·.l)=lk l p
 len:∀x∈fs,x.2.n=x.2.l.length
theorem gL.nil:gL [] []:=⟨by simp[r5],by simp[cT],fun p=>rfl,fun x h=>by cases h⟩
theorem Ek{l:List FP}{p:List UInt8}:lk l p≠none↔p∈l.map (·.1):=by
 induction l with
 |nil=>simp[lk]
 |cons x r ih=>
  unfold lk
  by_cases h:x.1=p
  ·simp[h]
  ·rw[if_neg h,ih];simp[Ne.symm h]
theorem gL.keys{fs:dH}{l:List FP}(h:gL fs l):(cT fs).Perm (l.map (·.1)):=by
 have hn:(l.map (·.1)).Nodup:=List.Pairwise.imp (fun hlt e=>by rw[e]at hlt;exact List.lt_irrefl _ hlt) h.ord
 refine(List.perm_ext_iff_of_nodup h.nd hn).2 fun p=> ?_
 rw[←Ek,←h.look p]
 have:= @kL (List UInt8) bh _ fs p
 cases hq:bF fs p with
 |none=>simp[this.1 hq]
 |some r=>simp;exact Decidable.byContradiction fun hm=>by rw[this.2 hm]at hq;cases hq
theorem gL.put{fs:dH}{l:List FP}(h:gL fs l){p:List UInt8}{r:bh}(hr:r.n=r.l.length):gL (cC fs p r) (iD l (p,r.l)):=by
 rw[nC]
 refine⟨zJ h.ord,fT h.nd,fun q=> ?_,fun x hx=> ?_⟩
 ·rw[kS,sB]
  by_cases hq:p=q
  ·rw[if_pos hq,if_pos hq.symm];rfl
  ·rw[if_neg hq,if_neg (fun e=>hq e.symm)];exact h.look q
 ·rcases nG (List.mem_map.2 ⟨x,hx,rfl⟩)with h1|h1
  ·obtain⟨y,hy,e⟩:=List.mem_map.1 h1
   rw[←e];exact h.len y hy
  ·rw[h1];exact hr
theorem zC{a b:List Nat}(h:a.Perm b):a.sum=b.sum:=by
 induction h with
 |nil=>rfl
 |cons x _ ih=>simp[ih]
 |swap x y l=>simp;omega
 |trans _ _ h1 h2=>rw[h1,h2]
theorem Cs{l:List FP}(h:r5 l){x:FP}(hx:x∈l):lk l x.1=some x.2:=by
 induction l with
 |nil=>cases hx
 |cons y r ih=>
  unfold lk
  rcases List.mem_cons.1 hx with rfl|h1
  ·rw[if_pos rfl]
  ·have hlt:y.1<x.1:=(List.pairwise_cons.1 h).1 _ (List.mem_map.2 ⟨x,h1,rfl⟩)
   rw[if_neg (fun e=>by rw[e]at hlt;exact List.lt_irrefl _ hlt)]
   exact ih (List.pairwise_cons.1 h).2 h1
theorem gL.lH{fs:dH}{l:List FP}(h:gL fs l):lH fs=dz l:=by
 let g:List UInt8→Nat:=fun p=>((lk l p).getD []).length
 have h1:fs.map (fun x=>x.2.n)=(cT fs).map g:=by
  rw[cT,List.map_map]
  refine List.map_congr_left fun x hx=> ?_
  have:=h.look x.1
  rw[n0 h.nd (show(x.1,x.2)∈fs from hx)]at this
  show x.2.n=((lk l x.1).getD []).length
  rw[←this,h.len x hx];rfl
 have h2:l.map (fun x=>x.2.length)=(l.map (·.1)).map g:=by
  rw[List.map_map]
  refine List.map_congr_left fun x hx=> ?_
  show x.2.length=((lk l x.1).getD []).length
  rw[Cs h.ord hx];rfl
 show(fs.map fun x=>x.2.n).sum=(l.map fun x=>x.2.length).sum
 rw[h1,h2]
 exact zC (h.keys.map g)
theorem gL.Hu{fs:dH}{l:List FP}(h:gL fs l):fs.length=l.length:=by
 have:=h.keys.length_eq
 simpa[cT]using this
theorem gL.sz{fs:dH}{l:List FP}(h:gL fs l)(p:List UInt8):((bF fs p).map (·.n)).getD 0=((l[cP l p]?).map (·.2.length)).getD 0:=by
 have h1:=h.look p
 rw[←jV]at h1
 cases hq:bF fs p with
 |none=>
  rw[hq]at h1
  cases hl:l[cP l p]? with
  |none=>rfl
  |some x=>rw[hl]at h1;cases h1
 |some r=>
  rw[hq]at h1
  cases hl:l[cP l p]? with
  |none=>rw[hl]at h1;cases h1
  |some x=>
   rw[hl]at h1
   have e:r.l=x.2:=Option.some.inj h1
   have:=h.len _ (ji hq)
   simp only[Option.map_some,Option.getD_some]
   rw[←e];exact this
structure uX(st:cU)(d:RD):Prop where
 room:st.room=d.room
 cy:st.cy=d.pw
 files:gL st.seen d.seen
 waits:st.waits.length=d.waits.length
theorem uX.bP{st:cU}{d:RD}(h:uX st d)(p bb:List UInt8):bP st p bb.length=d.bP p bb:=by
 have h1:=h.files.sz p
 have h2:=h.files.lH
 unfold Go.Proofs.YtmibdabdlgmafaaGreatDoor.bP RD.bP RD.sz
 rw[h.cy,h.room,h1,h2]
 by_cases hn:¬fQ p
 ·rw[if_pos hn,if_pos hn]
 ·rw[if_neg hn,if_neg hn]
  by_cases h0:d.pw=0
  ·rw[if_pos h0,if_pos h0]
  ·rw[if_neg h0,if_neg h0]
   by_cases hr:d.room<(dz d.seen:Int)+(bb.length:Nat)-(((d.seen[cP d.seen p]?).map (·.2.length)).getD 0:Nat)
   ·rw[if_pos hr,if_pos (by omega)]
   ·rw[if_neg hr,if_neg (by omega)]
theorem uX.dx{st:cU}{d:RD}(h:uX st d)(p:List UInt8):er st p=d.dx p:=by
 have h1:=h.files.look p
 rw[←jV]at h1
 unfold er RD.dx
 rw[h.cy]
 by_cases h0:d.pw=0
 ·rw[if_pos h0,if_pos h0]
 ·rw[if_neg h0,if_neg h0]
  cases ha:bF st.seen p with
  |none=>
   rw[ha]at h1
   cases hb:d.seen[cP d.seen p]? with
   |none=>simp
   |some y=>rw[hb]at h1;cases h1
  |some r=>
   rw[ha]at h1
   cases hb:d.seen[cP d.seen p]? with
   |none=>rw[hb]at h1;cases h1
   |some y=>simp
theorem uX.cJ{st:cU}{d:RD}(h:uX st d)(p:List UInt8):cJ st p=d.cJ p:=by
 have h1:=h.files.look p
 rw[←jV]at h1
 have h2:=h.dx p
 unfold Go.Proofs.YtmibdabdlgmafaaGreatDoor.cJ RD.cJ
 rw[h2,←h1]
 unfold RD.dx
 by_cases h0:d.pw=0
 ·rw[if_pos h0,if_pos h0,if_neg (by decide)]
 ·rw[if_neg h0,if_neg h0]
  cases hb:d.seen[cP d.seen p]? with
  |none=>
   rw[hb]at h1
   cases ha:bF st.seen p with
   |none=>simp
   |some r=>rw[ha]at h1;cases h1
  |some y=>simp
end Go.Proofs.YtmibdabdlgmafaaGreatDoor
end
section
set_option maxRecDepth 20000
namespace Go.Proofs.YtmibdabdlgmafaaGreatDoor
open Go.Eng Go.Hx
structure RX where
 d:RD
 A:Option Addr
 c:Nat
 Al:Option Addr
 cl:Nat
 A3:Option Addr
 c3:Nat
def RX.cs(x:RX):List Value:=rv x.d x.A x.d.seen.length x.c x.Al x.d.dq.length x.cl x.A3 x.d.waits.length x.c3
abbrev RX.parts(x:RX):List bg:=[cz 2 x.A x.d.seen.length (fc x.d.seen),cz 2 x.Al x.d.dq.length (fc x.d.dq),cz 4 x.A3 x.d.waits.length (uu x.d.waits)]
def eg(x:RX):bg:=fB x.parts
theorem cx{x:RX}:∀u∈x.cs,u.oneCell' =true:=iU
theorem View.En{x:RX}:View (eg x) (cz 2 x.A x.d.seen.length (fc x.d.seen)):=View.oH 0 rfl
theorem View.Gh{x:RX}:View (eg x) (cz 2 x.Al x.d.dq.length (fc x.d.dq)):=View.oH 1 rfl
theorem View.Ho{x:RX}:View (eg x) (cz 4 x.A3 x.d.waits.length (uu x.d.waits)):=View.oH 2 rfl
def RD.new(room:Int):RD:=⟨room,[],[],[],-1⟩
def RX.new(room:Int):RX:=⟨RD.new room,none,0,none,0,none,0⟩
theorem wZ{y:RX}{S:List bg}(h0:∃t∈S,View t (cz 2 y.A y.d.seen.length (fc y.d.seen)))(h1:∃t∈S,View t (cz 2 y.Al y.d.dq.length (fc y.d.dq)))(h2:∃t∈S,View t (cz 4 y.A3 y.d.waits.length (uu y.d.waits))):sg S [eg y]:=by
 refine sg.cons (fun s hs=> ?_) sg.nil
 simp only[List.mem_cons,List.not_mem_nil,or_false]at hs
 rcases hs with rfl|rfl|rfl
 ·exact h0
 ·exact h1
 ·exact h2
theorem CC{room:Int}:sg [] [eg (RX.new room)]:=by
 intro s hs
 obtain rfl:=List.mem_singleton.1 hs
 refine⟨fun w _ x hx=> ?_,fun k hk=> ?_⟩
 ·simp only[List.mem_cons,List.not_mem_nil,or_false]at hx
  rcases hx with rfl|rfl|rfl <;> exact Rd.nil _ _ _
 ·obtain⟨x,hx,hk⟩:=hk
  simp only[List.mem_cons,List.not_mem_nil,or_false]at hx
  rcases hx with rfl|rfl|rfl <;> exact absurd rfl hk.1
theorem HN{r:bg}{S:List bg}:∃t∈r::S,View t r:=⟨r,List.mem_cons_self ..,.same⟩
theorem inr{r a:bg}{S:List bg}(h:∃t∈S,View t r):∃t∈a::S,View t r:=by
 obtain⟨t,ht,hv⟩:=h
 exact⟨t,List.mem_cons_of_mem _ ht,hv⟩
theorem inv1{r a:bg}{S:List bg}(h:View a r):∃t∈a::S,View t r:=⟨a,List.mem_cons_self ..,h⟩
theorem G3{room:Int}:cf Tryz.prog 25 [.int .i64 room] [] [] (fun v_ X_ S_=>∃y,v_=(.agg y.cs.toArray)∧X_=[]∧S_=[eg y]∧(y.d=RD.new room)):=by
 exact cf.uO Fu (fun s hs=>by cases hs) (fun v X S h=>by
  obtain⟨rfl,rfl,rfl⟩:=h
  exact⟨_,⟨RX.new room,rfl,rfl,rfl,rfl⟩,CC⟩)
theorem AU{x:RX}{kk:Nat}{p:List UInt8}(ok:yJ x.d kk)(hkk:kk≤100000):cf Tryz.prog 91 [.agg x.cs.toArray,.string (strOf p)] [] [eg x] (fun v_ X_ S_=>v_=(.tuple #[.string (strOf (x.d.cJ p)),.int .i64 (x.d.dx p)])∧X_=[]∧S_=[]):=by
 exact cf.uO (Ev rfl ok hkk) (fun s hs=>⟨_,List.mem_singleton_self _,by rw[List.mem_singleton.1 hs];exact View.En⟩) (fun v X S h=>⟨[],⟨h.1,h.2.1,rfl⟩,sg.nil⟩)
theorem nU(d:RD)(p bb:List UInt8):(d.write p bb).dq=d.dq:=by
 unfold RD.write
 split <;> rfl
theorem wN{x:RX}:∀s∈ [cz 2 x.A x.d.seen.length (fc x.d.seen),cz 4 x.A3 x.d.waits.length (uu x.d.waits)],∃t∈ [eg x],View t s:=by
 intro s hs
 refine⟨_,List.mem_singleton_self _, ?_⟩
 simp only[List.mem_cons,List.not_mem_nil,or_false]at hs
 rcases hs with rfl|rfl
 ·exact View.En
 ·exact View.Ho
theorem BO{x:RX}{kk:Nat}{p bb:List UInt8}(ok:yJ x.d kk)(hkk:kk≤100000)(hpl:p.length≤1000000)(hbb:bb.length≤1000000):cf Tryz.prog 31 [.agg x.cs.toArray,.string (strOf p),.string (strOf bb)] [] [eg x] (fun v_ X_ S_=>∃y,v_=(.tuple #[.agg y.cs.toArray,.int .i64 (x.d.bP p bb)])∧X_=[]∧S_=[eg y]∧(y.d=x.d.write p bb)):=by
 refine cf.uO (BM rfl rfl ok hkk hpl hbb) wN (fun v X S h=> ?_)
 obtain⟨A1,n1,c1,A2,n2,c2,rfl,rfl,rfl,rfl,rfl⟩:=h
 refine⟨_,⟨⟨x.d.write p bb,A1,c1,x.Al,x.cl,A2,c2⟩,by unfold RX.cs;simp only[nU],rfl,rfl,rfl⟩,wZ HN (inr (inr (inv1 ?_))) (inr HN)⟩
 simp only[nU]
 exact View.Gh
theorem HY{x:RX}{kk:Nat}{k:Int}{p t bb:List UInt8}(ok:yJ x.d kk)(hkk:kk≤100000):cf Tryz.prog 114 [.agg x.cs.toArray,.agg (cv k p t bb).toArray] [] [eg x] (fun v_ X_ S_=>∃y,v_=(.agg y.cs.toArray)∧X_=[]∧S_=[eg y]∧(y.d=x.d.k6 k p t bb)):=by
 have h1:=ok.seen
 have h2:=ok.waits
 refine cf.uO (EF rfl (by omega) rfl (by omega) ok.p1 ok.p2) wN (fun v X S h=> ?_)
 obtain⟨A1,n1,c1,A2,n2,c2,rfl,rfl,rfl,rfl,_,rfl⟩:=h
 have e:(x.d.waits++[(k,p,t,bb)]).length=x.d.waits.length+1:=by simp
 refine⟨_,⟨⟨x.d.k6 k p t bb,A1,c1,x.Al,x.cl,A2,c2⟩,by unfold RX.cs;simp only[RD.k6,e];rfl,rfl,rfl,rfl⟩,wZ HN (inr (inr (inv1 View.Gh))) (inr (inv1 ?_))⟩
 simp only[RD.k6,e]
 exact .same
def RD.ca(d:RD)(a c:List UInt8):Int:=if¬fQ c then 1 else d.dx a
def RD.rename(d:RD)(a c:List UInt8):RD:=if d.ca a c=0 then d.k6 1 a c []else d
theorem zp{x:RX}{kk:Nat}{a c:List UInt8}(ok:yJ x.d kk)(hkk:kk≤100000)(hcl:c.length≤1000000):cf Tryz.prog 100 [.agg x.cs.toArray,.string (strOf a),.string (strOf c)] [] [eg x] (fun v_ X_ S_=>∃y,v_=(.tuple #[.agg y.cs.toArray,.int .i64 (x.d.ca a c)])∧X_=[]∧S_=[eg y]∧(y.d=x.d.rename a c)):=by
 refine aK (N:=31) Tryz.func100 rfl rfl (by simp) fun b=> ?_
 refine ae<|ah<| ?_
 refine hx (br rfl (fun g3=> ?_))
 refine aH (fun w m=>m.bw 0 rfl (show _=aE g3 39 x.cs from congrArg (aE _ _) (aV _))) ?_
 refine hx (ba mR (fun g6=> ?_))
 refine aG rfl<|ag<|aY rfl rfl<|aa<|ae<|ah<|au rfl<| ?_
 refine hx (an rfl Tryz.call112 (vU (by omega)) [] rfl [] rfl ?_)
 rintro _ _ _ ⟨rfl,rfl,rfl⟩
 refine aG rfl<|ag<|az [8,7,6,3,0,1,2] rfl<|aY rfl rfl<|aa<|ae<|ae<|ah<|au rfl<|hy (fun _=>eu rfl)<|ag<|az [14,8,7,6,3,0,1,2] rfl<|aa<| ?_
 refine cu rfl (fun hN=> ?_) (fun hN=> ?_)
 ·have hE:x.d.ca a c=1:=by rw[RD.ca,if_pos hN]
  have hE0:¬(1:Int)=0:=by decide
  have hW:x.d.rename a c=x.d:=by rw[RD.rename,if_neg (by rw[hE];exact hE0)]
  rw[hE,hW]
  refine ae<|ah<|hy (fun m=>yV (aP rfl cK bT rfl ((m.aN 1 rfl).aw)) ((rfl:_=Value.agg x.cs.toArray)))<| ?_
  refine cF (a7 0 rfl rfl rfl bT rfl cx rfl ?_)
  refine aG rfl<|ag<|az [7,14,8,6,3,0,1,2] rfl<|aY rfl rfl<|aa<|aR<|aq<| ?_
  exact eo trivial rfl rfl rfl cK bT rfl (fun m=>(m.aN 0 rfl).aw) [] rfl [0] rfl ⟨x,rfl,rfl,rfl,rfl⟩
 ·have hE:x.d.ca a c=x.d.dx a:=by rw[RD.ca,if_neg hN]
  refine aB<|aa<|ae<|ah<|hy (fun m=>yV (aP rfl cK bT rfl ((m.aN 1 rfl).aw)) ((rfl:_=Value.agg x.cs.toArray)))<|au rfl<| ?_
  refine hx (an rfl Tryz.call91 (AU (by omega) (by omega)) [] rfl [0] rfl ?_)
  rintro _ _ _ ⟨rfl,rfl,rfl⟩
  refine au rfl<|hy (fun _=>aF rfl rfl)<|hy (fun _=>aF rfl rfl)<|aG rfl<|aG rfl<|ag<|az [10,14,8,7,6,3,0,1,2] rfl<|aY rfl rfl<|aa<|ae<|ae<|ah<|au rfl<|hy (fun _=>de rfl rfl)<|ag<|az [23,10,14,8,7,6,3,0,1,2] rfl<|aa<| ?_
  refine cu rfl (fun hE0=> ?_) (fun hE0=> ?_)
  ·have hW:x.d.rename a c=x.d:=by rw[RD.rename,if_neg (by rw[hE];exact hE0)]
   rw[hE,hW]
   refine ae<|ah<|hy (fun m=>yV (aP rfl cK bT rfl ((m.aN 1 rfl).aw)) ((rfl:_=Value.agg x.cs.toArray)))<|au rfl<| ?_
   refine cF (a7 0 rfl rfl rfl bT rfl cx rfl ?_)
   refine aG rfl<|ag<|az [7,23,10,14,8,6,3,0,1,2] rfl<|aY rfl rfl<|aa<|aR<|aq<| ?_
   exact eo trivial rfl rfl rfl cK bT rfl (fun m=>(m.aN 0 rfl).aw) [] rfl [0] rfl ⟨x,rfl,rfl,rfl,rfl⟩
  ·have hr0:=Decidable.not_not.1 hE0
   have hW:x.d.rename a c=x.d.k6 1 a c []:=by rw[RD.rename,if_pos (by rw[hE];exact hr0)]
   rw[hE,hW,hr0]
   refine aB<|aa<|ae<|ah<|hy (fun m=>yV (aP rfl cK bT rfl ((m.aN 1 rfl).aw)) ((rfl:_=Value.agg x.cs.toArray)))<|au rfl<|au rfl<|hy (fun _=>yV (b6 qs rfl rfl (by kernel_rfl) (.cons (o:=0) (sz:=1) (by kernel_rfl) rfl rfl (Nat.le_of_ble_eq_true rfl) (.cons (o:=1) (sz:=1) (by kernel_rfl) rfl rfl (Nat.le_of_ble_eq_true rfl) (.cons (o:=2) (sz:=1) (by kernel_rfl) rfl rfl (Nat.le_of_ble_eq_true rfl) .nil)))) ((rfl:_=Value.agg (cv 1 a c []).toArray)))<| ?_
   refine hx (an rfl Tryz.call114 (HY (by omega) (by omega)) [] rfl [0] rfl ?_)
   rintro _ _ _ ⟨y,rfl,rfl,rfl,hp⟩
   refine cF (a7 0 rfl rfl rfl bT rfl cx rfl ?_)
   refine aG rfl<|ag<|az [7,23,10,14,8,6,3,0,1,2] rfl<|aY rfl rfl<|aa<|aR<| ?_
   exact eo trivial rfl rfl rfl cK bT rfl (fun m=>(m.aN 0 rfl).aw) [] rfl [0] rfl ⟨y,rfl,rfl,rfl,hp⟩
def RD.dy(d:RD):Int:=if d.pw=0 then 6 else 0
def RD.sync(d:RD):RD:=if d.pw=0 then d else{d with dq:=d.seen,waits:=[],pw:=eH d.pw}
theorem yR{x:RX}{kk:Nat}(ok:yJ x.d kk):cf Tryz.prog 99 [.agg x.cs.toArray] [] [eg x] (fun v_ X_ S_=>∃y,v_=(.tuple #[.agg y.cs.toArray,.int .i64 x.d.dy])∧X_=[]∧S_=[eg y]∧(y.d=x.d.sync)):=by
 have hp1:=ok.p1
 have hp2:=ok.p2
 refine aK (N:=20) Tryz.func99 rfl rfl (by simp) fun b=> ?_
 refine ae<|ah<| ?_
 refine hx (br rfl (fun g1=> ?_))
 refine aH (fun w m=>m.bw 0 rfl (show _=aE g1 39 x.cs from congrArg (aE _ _) (aV _))) ?_
 refine hx (ba mR (fun g2=> ?_))
 refine aG rfl<|ag<|aY rfl rfl<|aa<|ae<|ae<|ah<|hy (fun _=>ax rfl jO (by decide))<|hy (fun m=>ak rfl cY (ar (m.aN 1 rfl) (i:=4) rfl))<|hy (fun _=>cD rfl rfl)<|ag<|az [6,3,2,1,0] rfl<|aa<| ?_
 refine cu rfl (fun h0=> ?_) (fun h0=> ?_)
 ·have hE:x.d.dy=6:=by rw[RD.dy,if_pos h0]
  have hW:x.d.sync=x.d:=by rw[RD.sync,if_pos h0]
  rw[hE,hW]
  refine ae<|ah<|hy (fun m=>yV (aP rfl cK bT rfl ((m.aN 1 rfl).aw)) ((rfl:_=Value.agg x.cs.toArray)))<| ?_
  refine cF (a7 0 rfl rfl rfl bT rfl cx rfl ?_)
  refine aG rfl<|ag<|az [3,6,2,1,0] rfl<|aY rfl rfl<|aa<|aR<|aq<| ?_
  exact eo trivial rfl rfl rfl cK bT rfl (fun m=>(m.aN 0 rfl).aw) [] rfl [0] rfl ⟨x,rfl,rfl,rfl,rfl⟩
 ·have hE:x.d.dy=0:=by rw[RD.dy,if_neg h0]
  have hW:x.d.sync={x.d with dq:=x.d.seen,waits:=[],pw:=eH x.d.pw}:=by rw[RD.sync,if_neg h0]
  rw[hE]
  refine a8 (fun w m=>m.ew 0 rfl View.En) ?_
  refine aQ (fun m=>eU (m.rd 0 rfl)) ?_
  rintro⟨hl_r0,hA_r0⟩
  refine a8 (fun w m=>m.o7 (r' :=cz 4 none 0 []) (.refl _ _) (Rd.nil _ _ _) (fun k hk=>absurd rfl hk.1)) ?_
  have hA_z:0<0→(none:Option Addr)≠none:=fun h=>absurd h (by decide)
  refine aB<|aa<|ae<|ah<|hy (fun _=>ax rfl jY (by decide))<|hy (fun m=>ak rfl sX (ar (m.aN 1 rfl) (i:=1) rfl))<|hy (fun _=>ax rfl ER (by decide))<| ?_
  refine cF (bZ 1 rfl rfl rfl GY rfl (by first|exact Nat.le_of_ble_eq_true rfl|simp) ?_)
  refine ag<|az [6,3,2,1,0] rfl<|aY rfl rfl<|aa<|ae<|ah<|hy (fun _=>ax rfl ve (by decide))<| ?_
  refine cF (bZ 0 rfl rfl rfl Fv rfl (by first|exact Nat.le_of_ble_eq_true rfl|simp) ?_)
  refine ag<|az [6,3,2,1,0] rfl<|aY rfl rfl<|aa<|ae<|ae<|ah<|hy (fun _=>ax rfl jO (by decide))<|hy (fun m=>ak rfl cY (ar (m.aN 0 rfl) (i:=4) rfl))<|hy (fun _=>cw rfl rfl)<|ag<|az [14,6,3,2,1,0] rfl<|aa<| ?_
  refine a8 (S' :=eg ⟨{x.d with dq:=x.d.seen,waits:=[],pw:=eH x.d.pw},x.A,x.c,x.A,x.c,none,0⟩::_) (fun w m=>m.nA [1,1,0] rfl) ?_
  refine cu rfl (fun h1=> ?_) (fun h1=> ?_)
  ·refine ah<|hy (fun _=>ax rfl jO (by decide))<|hy (fun m=>ak rfl cY (ar (m.aN 0 rfl) (i:=4) rfl))<|hy (fun _=>ct rfl rfl (bE (by omega) (by omega)))<|hy (fun _=>ax rfl jO (by decide))<| ?_
   refine cF (bZ 0 rfl rfl rfl tA rfl (by first|exact Nat.le_of_ble_eq_true rfl|simp) ?_)
   refine ag<|az [14,6,3,2,1,0] rfl<|aY rfl rfl<|aa<|ae<|ah<| ?_
   refine aH (fun w m=>m.bw 0 rfl (show _=aE g1 39 (RX.cs ⟨{x.d with dq:=x.d.seen,waits:=[],pw:=eH x.d.pw},x.A,x.c,x.A,x.c,none,0⟩)from by rw[eH,if_pos h1];rfl)) ?_
   refine hy (fun m=>yV (aP rfl cK bT rfl ((m.aN 0 rfl).aw)) ((rfl:_=Value.agg (RX.cs ⟨{x.d with dq:=x.d.seen,waits:=[],pw:=eH x.d.pw},x.A,x.c,x.A,x.c,none,0⟩).toArray)))<| ?_
   refine cF (a7 1 rfl rfl rfl bT rfl cx rfl ?_)
   refine aG rfl<|ag<|az [3,14,6,2,1,0] rfl<|aY rfl rfl<|aa<|aR<| ?_
   exact eo trivial rfl rfl rfl cK bT rfl (fun m=>(m.aN 0 rfl).aw) [] rfl [0] rfl ⟨_,rfl,rfl,rfl,hW.symm⟩
  ·refine aB<|aa<|ae<|ah<| ?_
   refine aH (fun w m=>m.bw 0 rfl (show _=aE g1 39 (RX.cs ⟨{x.d with dq:=x.d.seen,waits:=[],pw:=eH x.d.pw},x.A,x.c,x.A,x.c,none,0⟩)from by rw[eH,if_neg h1];rfl)) ?_
   refine hy (fun m=>yV (aP rfl cK bT rfl ((m.aN 0 rfl).aw)) ((rfl:_=Value.agg (RX.cs ⟨{x.d with dq:=x.d.seen,waits:=[],pw:=eH x.d.pw},x.A,x.c,x.A,x.c,none,0⟩).toArray)))<| ?_
   refine cF (a7 1 rfl rfl rfl bT rfl cx rfl ?_)
   refine aG rfl<|ag<|az [3,14,6,2,1,0] rfl<|aY rfl rfl<|aa<|aR<| ?_
   exact eo trivial rfl rfl rfl cK bT rfl (fun m=>(m.aN 0 rfl).aw) [] rfl [0] rfl ⟨_,rfl,rfl,rfl,hW.symm⟩
end Go.Proofs.YtmibdabdlgmafaaGreatDoor
end
section
set_option maxRecDepth 20000
namespace Go.Proofs.YtmibdabdlgmafaaGreatDoor
open Go.Eng Go.Hx
theorem s9{α:Type}{f:α→List Value}{k:Nat}(hf:∀x,(f x).length=k):∀(l:List α) (i j:Nat) (x:α),l[i]? =some x→j<k→(l.flatMap f)[i*k+j]? =(f x)[j]?
 | [],i,j,x,h,hj=>by simp at h
 |a::r,0,j,x,h,hj=>by
  simp only[List.getElem?_cons_zero,Option.some.injEq]at h
  subst h
  rw[List.flatMap_cons,Nat.zero_mul,Nat.zero_add,List.getElem?_append_left (by rw[hf];exact hj)]
 |a::r,i+1,j,x,h,hj=>by
  rw[List.flatMap_cons,List.getElem?_append_right (by rw[hf,Nat.succ_mul];omega),hf,show(i+1)*k+j-k=i*k+j by rw[Nat.succ_mul];omega]
  exact s9 hf r i j x (by simpa using h) hj
theorem cm{α:Type}{f:α→List Value}{k:Nat}{w:World}{A:Option Addr}{n i:Nat}{l:List α}{x:α}(hf:∀x,(f x).length=k)(h:Rd w k A n (l.flatMap f))(hx:l[i]? =some x):∀(j:Nat) (u:Value),(f x)[j]? =some u→w.cell? (((A.getD d0).add (i*k)).add j)=some u:=by
 intro j u hu
 have hj:j<k:=by have:=(List.getElem?_eq_some_iff.1 hu).1;rwa [hf]at this
 exact fF h (by rw[s9 hf l i j x hx hj];exact hu)
end Go.Proofs.YtmibdabdlgmafaaGreatDoor
end
section
namespace Go.Proofs.YtmibdabdlgmafaaGreatDoor
open Go.Eng Go.Hx
theorem gL.del{fs:dH}{l:List FP}(h:gL fs l)(p:List UInt8):gL (e7 fs p) (dN l p):=by
 refine⟨n5 _ h.ord,lM h.nd,fun q=> ?_,fun x hx=> ?_⟩
 ·rw[xl h.nd]
  have:=kR p l q
  unfold dN
  rw[this]
  by_cases hq:p=q
  ·rw[if_pos hq,if_pos hq.symm];rfl
  ·rw[if_neg hq,if_neg (fun e=>hq e.symm)];exact h.look q
 ·have h1:=nt (List.mem_map.2 ⟨x,hx,rfl⟩)
  obtain⟨y,hy,e⟩:=List.mem_map.1 h1
  rw[←e];exact h.len y hy
theorem gL.at{fs:dH}{l:List FP}(h:gL fs l)(p:List UInt8):(bF fs p=none∧l[cP l p]? =none)∨∃r x,bF fs p=some r∧l[cP l p]? =some x∧r.l=x.2∧r.n=r.l.length:=by
 have h1:=h.look p
 rw[←jV]at h1
 cases ha:bF fs p with
 |none=>
  rw[ha]at h1
  cases hb:l[cP l p]? with
  |none=>exact .inl ⟨rfl,rfl⟩
  |some y=>rw[hb]at h1;cases h1
 |some r=>
  rw[ha]at h1
  cases hb:l[cP l p]? with
  |none=>rw[hb]at h1;cases h1
  |some y=>
   rw[hb]at h1
   exact .inr ⟨r,y,rfl,rfl,Option.some.inj h1,h.len _ (ji ha)⟩
def jh.rc:jh→RC
 | .written p r=>(0,p,[],r.l)
 | .renamed a c=>(1,a,c,[])
 | .removed p=>(2,p,[],[])
def jh.wl(c:jh):Prop:=∀r,c.row=some r→r.n=r.l.length
theorem gL.sD{fs:dH}{l:List FP}(h:gL fs l){c:jh}(hc:c.wl):gL (sD fs c) (eB l c.rc.1 c.rc.2.1 c.rc.2.2.1 c.rc.2.2.2):=by
 cases c with
 |written p r=>
  rw[eB]
  exact h.put (hc r rfl)
 |renamed a b=>
  rw[eB]
  simp only[jh.rc,Go.Proofs.YtmibdabdlgmafaaGreatDoor.sD]
  rcases h.at a with⟨h1,h2⟩|⟨r,x,h1,h2,h3,h4⟩
  ·simp only[h1,h2];exact h
  ·simp only[h1,h2]
   rw[←h3]
   exact(h.del a).put h4
 |removed p=>
  rw[eB]
  simp only[jh.rc,Go.Proofs.YtmibdabdlgmafaaGreatDoor.sD]
  rcases h.at p with⟨h1,h2⟩|⟨r,x,h1,h2,h3,h4⟩
  ·simp only[h2]
   have e:e7 fs p=fs:=by
    have hk:¬p∈cT fs:=kL.1 h1
    clear h h2 h1
    induction fs with
    |nil=>rfl
    |cons a q ih=>
     obtain⟨k,u⟩:=a
     simp only[cT,List.map_cons,List.mem_cons,not_or]at hk
     simp only[e7]
     rw[if_neg (fun e=>hk.1 e.symm),ih hk.2]
   rw[if_neg (by decide),e];exact h
  ·simp only[h2]
   rw[if_neg (by decide)]
   exact h.del p
structure DS(st:cU)(d:RD)(k:Nat):Prop where
 sw:uX st d
 ok:oT st k
 low:-1≤d.pw
 dq:gL st.dq d.dq
 waits:st.waits.map jh.rc=d.waits
 Gn:∀c∈st.waits,c.wl
theorem DS.le{st:cU}{d:RD}{k k' :Nat}(h:DS st d k)(hk:k≤k'):DS st d k' :=⟨h.sw,h.ok.le hk,h.low,h.dq,h.waits,h.Gn⟩
theorem DS.C7{st:cU}{d:RD}{k:Nat}(h:DS st d k):yJ d k:=by
 refine⟨?_, ?_, ?_,by have:=h.low;omega, ?_⟩
 ·rw[←h.sw.files.Hu];exact h.ok.seen
 ·rw[←h.sw.waits];have:=h.ok.rest;omega
 ·rw[←h.sw.files.lH];exact h.ok.lH
 ·rw[←h.sw.cy];exact h.ok.cy
theorem DS.init{n:Int}{gs gl:Nat}(h:n≤1048576):DS (lQ n gs gl) (RD.new n) 0:=
 ⟨⟨rfl,rfl,gL.nil,rfl⟩,oT.init h,Int.le_refl _,gL.nil,rfl,fun c hc=>by cases hc⟩
theorem qZ{p:Int}(h:-1≤p):-1≤eH p:=by
 unfold eH
 split <;> omega
theorem DS.k6{st:cU}{d:RD}{k:Nat}(h:DS st d k){c:jh}(hc:c.wl){st1:cU}(hs:st1.room=st.room∧st1.dq=st.dq∧st1.cy=st.fp.cy∧st1.seen=sD st.seen c∧st1.waits=st.waits++[c])(ok:oT st1 (k+1)):
  DS st1 (d.k6 c.rc.1 c.rc.2.1 c.rc.2.2.1 c.rc.2.2.2) (k+1):=by
 obtain⟨h1,h2,h3,h4,h5⟩:=hs
 refine⟨⟨h1.trans h.sw.room, ?_, ?_, ?_⟩,ok,qZ h.low, ?_, ?_,fun x hx=> ?_⟩
 ·rw[h3]
  show(if 0<st.cy then st.cy-1 else st.cy)=eH d.pw
  rw[h.sw.cy];rfl
 ·rw[h4];exact h.sw.files.sD hc
 ·rw[h5,List.length_append,h.sw.waits]
  show _=(d.waits++[_]).length
  rw[List.length_append];rfl
 ·rw[h2];exact h.dq
 ·rw[h5,List.map_append,h.waits];rfl
 ·rw[h5]at hx
  rcases List.mem_append.1 hx with hx|hx
  ·exact h.Gn x hx
  ·rw[List.mem_singleton.1 hx];exact hc
theorem DS.write{st st1:cU}{d:RD}{k n:Nat}(h:DS st d k){p l:List UInt8}{B A:Option Addr}{c1 c2:Nat}(hl:l.length=n)(hn:n≤1048576)
  (hw:(bP st p n≠0∧st1=st)∨(bP st p n=0∧st1=st.wrote p ⟨B,n,c1,l⟩ A c2)):DS st1 (d.write p l) (k+1)∧d.bP p l=bP st p n:=by
 subst hl
 have e:=h.sw.bP p l
 refine⟨?_,e.symm⟩
 unfold RD.write
 rw[←e]
 rcases hw with⟨h1,rfl⟩|⟨h1,rfl⟩
 ·rw[if_neg h1];exact h.le (Nat.le_succ _)
 ·rw[if_pos h1]
  exact h.k6 (c:=.written p ⟨B,l.length,c1,l⟩) (fun r hr=>by cases hr;rfl) ⟨rfl,rfl,rfl,rfl,rfl⟩ (h.ok.wrote hn A c2)
theorem DS.dx{st:cU}{d:RD}{k:Nat}(h:DS st d k)(p:List UInt8):d.dx p=er st p:=(h.sw.dx p).symm
theorem DS.cJ{st:cU}{d:RD}{k:Nat}(h:DS st d k)(p:List UInt8):d.cJ p=cJ st p:=(h.sw.cJ p).symm
theorem DS.rename{st st1:cU}{d:RD}{k:Nat}(h:DS st d k){a c:List UInt8}{A:Option Addr}{j:Nat}
  (hw:(ca st a c≠0∧st1=st)∨(ca st a c=0∧st1=st.k6 (.renamed a c) A j)):DS st1 (d.rename a c) (k+1)∧d.ca a c=ca st a c:=by
 have e:d.ca a c=ca st a c:=by
  unfold RD.ca Go.Proofs.YtmibdabdlgmafaaGreatDoor.ca
  rw[h.dx]
 refine⟨?_,e⟩
 unfold RD.rename
 rw[e]
 rcases hw with⟨h1,rfl⟩|⟨h1,rfl⟩
 ·rw[if_neg h1];exact h.le (Nat.le_succ _)
 ·rw[if_pos h1]
  exact h.k6 (c:=.renamed a c) (fun r hr=>by cases hr) ⟨rfl,rfl,rfl,rfl,rfl⟩ (h.ok.k6 rfl A j)
theorem DS.sync{st st1:cU}{d:RD}{k gl:Nat}(h:DS st d k)(hw:(st.cy=0∧st1=st)∨(st.cy≠0∧st1=st.synced gl)):DS st1 d.sync k∧d.dy=dy st:=by
 have e:d.dy=dy st:=by unfold RD.dy Go.Proofs.YtmibdabdlgmafaaGreatDoor.dy;rw[h.sw.cy]
 refine⟨?_,e⟩
 unfold RD.sync
 rw[←h.sw.cy]
 rcases hw with⟨h1,rfl⟩|⟨h1,rfl⟩
 ·rw[if_pos h1];exact h
 ·rw[if_neg h1]
  refine⟨⟨h.sw.room, ?_,h.sw.files,rfl⟩,h.ok.synced gl, ?_,h.sw.files,rfl,fun c hc=>by cases hc⟩
  ·rfl
  ·rw[h.sw.cy];exact qZ h.low
def RD.ok(d:RD)(k:Nat):Prop:=∃st,DS st d k
theorem RD.ok.C7{d:RD}{k:Nat}(h:d.ok k):yJ d k:=by obtain⟨st,h⟩:=h;exact h.C7
theorem RD.ok.write{d:RD}{k:Nat}(h:d.ok k){p l:List UInt8}(hl:l.length≤1048576):(d.write p l).ok (k+1):=by
 obtain⟨st,h⟩:=h
 by_cases he:Go.Proofs.YtmibdabdlgmafaaGreatDoor.bP st p l.length=0
 ·exact⟨_,(h.write (st1:=st.wrote p ⟨none,l.length,0,l⟩ none 0) rfl hl (.inr ⟨he,rfl⟩)).1⟩
 ·exact⟨_,(h.write (B:=none) (A:=none) (c1:=0) (c2:=0) (st1:=st) rfl hl (.inl ⟨he,rfl⟩)).1⟩
theorem RD.ok.rename{d:RD}{k:Nat}(h:d.ok k){a c:List UInt8}:(d.rename a c).ok (k+1):=by
 obtain⟨st,h⟩:=h
 by_cases he:Go.Proofs.YtmibdabdlgmafaaGreatDoor.ca st a c=0
 ·exact⟨_,(h.rename (st1:=st.k6 (.renamed a c) none 0) (.inr ⟨he,rfl⟩)).1⟩
 ·exact⟨_,(h.rename (A:=none) (j:=0) (st1:=st) (.inl ⟨he,rfl⟩)).1⟩
theorem RD.ok.sync{d:RD}{k:Nat}(h:d.ok k):d.sync.ok k:=by
 obtain⟨st,h⟩:=h
 by_cases he:st.cy=0
 ·exact⟨_,(h.sync (gl:=0) (st1:=st) (.inl ⟨he,rfl⟩)).1⟩
 ·exact⟨_,(h.sync (st1:=st.synced 0) (.inr ⟨he,rfl⟩)).1⟩
end Go.Proofs.YtmibdabdlgmafaaGreatDoor
end
section
namespace Go.Hx
open Go.Eng
def chunks(k:Nat)(l:List UInt8):List (List UInt8):=(List.range k).map fun i=>(l.drop (32*i)).take 32
def oG(l:List UInt8):Nat:=(l.getD 0 0).toNat+256*(l.getD 1 0).toNat+65536*(l.getD 2 0).toNat+16777216*(l.getD 3 0).toNat
theorem A5(l:List UInt8):oG l<4294967296:=by
 have h0:=(l.getD 0 0).toNat_lt
 have h1:=(l.getD 1 0).toNat_lt
 have h2:=(l.getD 2 0).toNat_lt
 have h3:=(l.getD 3 0).toNat_lt
 unfold oG
 omega
end Go.Hx
end
section
namespace Go.Hx
open Go.Eng
def acc(l:List UInt8):Nat→Nat
 |0=>0
 |j+1=>acc l j*256+(l.getD (3-j) 0).toNat
theorem yn(l:List UInt8):∀j,acc l j<256 ^ j
 |0=>by simp[acc]
 |j+1=>by
  have h1:=yn l j
  have h2:=(l.getD (3-j) 0).toNat_lt
  rw[acc,Nat.pow_succ]
  omega
theorem EO(l:List UInt8){j:Nat}(h:j≤4):acc l j<4294967296:=by
 have h1:=yn l j
 have h2:256 ^ j≤256 ^ 4:=Nat.pow_le_pow_right (by decide) h
 have h3:256 ^ 4=4294967296:=by decide
 omega
theorem HX(l:List UInt8):acc l 4=oG l:=by
 have e:(3-0=3)∧(3-1=2)∧(3-2=1)∧(3-3=0):=by decide
 simp only[acc,oG,e.1,e.2.1,e.2.2.1,e.2.2.2]
 omega
theorem BG(a b:Nat)(ha:a<4294967296)(hb:b<256):bits .or .i64 (a*256:Int) (b:Int)=((a*256+b:Nat):Int):=by
 have h1:(a*256:Int)=((a*256:Nat):Int):=by simp
 have h2:a*256 ||| b=a*256+b:=by rw[Nat.mul_comm a 256,show 256=2 ^ 8 from rfl,Nat.two_pow_add_eq_or_of_lt (by simpa using hb)]
 have e0:∀n:Nat,n<18446744073709551616→(BitVec.ofInt 64 (n:Int)).toNat=n:=fun n hn=>by
  rw[BitVec.toNat_ofInt]
  simp
  omega
 rw[h1]
 show IntKind.i64.wrap ((BitVec.ofInt 64 ((a*256:Nat):Int) ||| BitVec.ofInt 64 (b:Int)).toNat:Int)=_
 rw[BitVec.toNat_or,e0 _ (by omega),e0 _ (by omega),h2]
 exact bE (by omega) (by omega)
end Go.Hx
end
section
namespace Go.Hx
open Go.Eng
def cM(l:List UInt8):Nat×Nat×Nat×Bool:=
 if(l.getD 0 0).toNat<128 then((l.getD 0 0).toNat+2,(l.getD 0 0).toNat+1,0,decide ((l.getD 0 0).toNat+2≤l.length))
 else if l.length<3 then(0,0,0,false)else(3,(l.getD 0 0).toNat-124,1+(l.getD 1 0).toNat+256*(l.getD 2 0).toNat,true)
def again(d:Nat):Nat→List UInt8→List UInt8
 |0,o=>o
 |k+1,o=>again d k (o++[o.getD (o.length-d) 0])
theorem mf(d:Nat):∀(k:Nat) (o:List UInt8),(again d k o).length=o.length+k
 |0,o=>rfl
 |k+1,o=>by rw[again,mf d k];simp;omega
theorem kV{l:List UInt8}(h:(cM l).2.2.2=true):2≤(cM l).1∧(cM l).1≤l.length:=by
 unfold cM at h ⊢
 split at h
 ·rename_i h1
  rw[if_pos h1]
  have:=of_decide_eq_true h
  exact⟨by show 2≤_+2;omega,this⟩
 ·rename_i h1
  rw[if_neg h1]
  split at h
  ·cases h
  ·rename_i h2
   rw[if_neg h2]
   exact⟨by show 2≤3;decide,by show 3≤_;omega⟩
theorem Dr(l:List UInt8):(cM l).2.1≤131∧(cM l).2.2.1≤65536:=by
 have h0:=(l.getD 0 0).toNat_lt
 have h1:=(l.getD 1 0).toNat_lt
 have h2:=(l.getD 2 0).toNat_lt
 unfold cM
 split
 ·exact⟨by show _+1≤_;omega,by show 0≤_;omega⟩
 ·split
  ·exact⟨by show 0≤_;omega,by show 0≤_;omega⟩
  ·exact⟨by show _-124≤_;omega,by show 1+_+256*_≤_;omega⟩
def made(l o:List UInt8):List UInt8:=if(cM l).2.2.1=0 then o++(l.drop 1).take ((cM l).1-1)else again (cM l).2.2.1 (cM l).2.1 o
def kF(most:Int)(l o:List UInt8):List UInt8×Int:=
 if h0:l=[]then(o,0)
 else if h1:(cM l).2.2.2=true then
  if o.length<(cM l).2.2.1 then([],2)else if most<(o.length:Int)+((cM l).2.1:Nat)then([],3)else kF most (l.drop (cM l).1) (made l o)
 else([],2)
termination_by l.length
decreasing_by
 obtain⟨h2,h3⟩:=kV h1
 rw[List.length_drop]
 omega
theorem sl(most:Int)(o:List UInt8):kF most [] o=(o,0):=by
 rw[kF]
 rfl
theorem kQ{most:Int}{l o:List UInt8}(h0:l≠ [])(h:¬((cM l).2.2.2=true∧(cM l).2.2.1≤o.length)):kF most l o=([],2):=by
 rw[kF,dif_neg h0]
 split
 ·rename_i h1
  rw[if_pos (Nat.lt_of_not_le fun h2=>h ⟨h1,h2⟩)]
 ·rfl
theorem oO{most:Int}{l o:List UInt8}(h0:l≠ [])(h1:(cM l).2.2.2=true)(h2:(cM l).2.2.1≤o.length)(h3:most<(o.length:Int)+((cM l).2.1:Nat)):kF most l o=([],3):=by
 rw[kF,dif_neg h0,dif_pos h1,if_neg (by omega),if_pos h3]
theorem sr{most:Int}{l o:List UInt8}(h0:l≠ [])(h1:(cM l).2.2.2=true)(h2:(cM l).2.2.1≤o.length)(h3:¬most<(o.length:Int)+((cM l).2.1:Nat)):kF most l o=kF most (l.drop (cM l).1) (made l o):=by
 rw[kF,dif_neg h0,dif_pos h1,if_neg (by omega),if_neg h3]
theorem ow{l o:List UInt8}(h1:(cM l).2.2.2=true):(made l o).length=o.length+(cM l).2.1:=by
 unfold made
 split
 ·rename_i h0
  obtain⟨h2,h3⟩:=kV h1
  have e:(cM l).1-1=(cM l).2.1:=by
   unfold cM at h0 h1 ⊢
   split
   ·show _+2-1=_+1;omega
   ·split
    ·rename_i a1 a2;rw[if_neg a1,if_pos a2]at h1;cases h1
    ·rename_i a1 a2;rw[if_neg a1,if_neg a2]at h0;simp at h0
  rw[List.length_append,List.length_take,List.length_drop,e]
  omega
 ·exact mf _ _ _
end Go.Hx
end
section
namespace Go.Hx
open Go.Eng
def k0(b:List UInt8)(i k:Nat):Nat→Nat→Nat
 |0,n=>n
 |f+1,n=>if i+n<b.length∧b.getD (i+n) 0=b.getD (k+n) 0 then k0 b i k f (n+1)else n
def lv(b:List UInt8)(i k:Nat):Nat:=k0 b i k 131 0
theorem gF(b:List UInt8)(i k:Nat):∀f n,n≤k0 b i k f n∧k0 b i k f n≤n+f∧(i+n≤b.length→i+k0 b i k f n≤b.length)∧∀j,n≤j→j<k0 b i k f n→b.getD (i+j) 0=b.getD (k+j) 0
 |0,n=>⟨Nat.le_refl _,Nat.le_refl _,fun h=>h,fun j h1 h2=>by simp only[k0]at h2;omega⟩
 |f+1,n=>by
  unfold k0
  split
  ·rename_i h
   obtain⟨h1,h2,h3,h4⟩:=gF b i k f (n+1)
   refine⟨by omega,by omega,fun _=>h3 (by omega),fun j hj hj2=> ?_⟩
   rcases Nat.eq_or_lt_of_le hj with e|e
   ·rw[←e];exact h.2
   ·exact h4 j e hj2
  ·exact⟨Nat.le_refl _,by omega,fun h=>h,fun j h1 h2=>by omega⟩
theorem ED(b:List UInt8)(i k:Nat):lv b i k≤131:=by have:=(gF b i k 131 0).2.1;unfold lv;omega
theorem yc{b:List UInt8}{i:Nat}(k:Nat)(h:i≤b.length):i+lv b i k≤b.length:=(gF b i k 131 0).2.2.1 (by omega)
theorem rD{b:List UInt8}{i k j:Nat}(h:j<lv b i k):b.getD (i+j) 0=b.getD (k+j) 0:=(gF b i k 131 0).2.2.2 j (Nat.zero_le _) h
theorem kY{b:List UInt8}{i k f n:Nat}(h:¬(i+n<b.length∧b.getD (i+n) 0=b.getD (k+n) 0)):k0 b i k f n=n:=by
 cases f with
 |zero=>rfl
 |succ f=>rw[k0,if_neg h]
theorem gY{b:List UInt8}{i k f n:Nat}(hf:0<f)(h:i+n<b.length∧b.getD (i+n) 0=b.getD (k+n) 0):k0 b i k f n=k0 b i k (f-1) (n+1):=by
 cases f with
 |zero=>omega
 |succ f=>rw[k0,if_pos h];rfl
def ee(b:List UInt8)(p:Nat):List UInt8:=(b.drop p).take 4
theorem bK{b:List UInt8}{p:Nat}(h:p+4≤b.length):(ee b p).length=4:=by unfold ee;rw[List.length_take,List.length_drop];omega
theorem CO{b:List UInt8}{i p:Nat}(hi:i+4≤b.length)(hp:p<i):ee b p=ee b i↔3<lv b i p:=by
 have e:∀q,q+4≤b.length→ee b q=[b.getD (q+0) 0,b.getD (q+1) 0,b.getD (q+2) 0,b.getD (q+3) 0]:=by
  intro q hq
  apply List.ext_getElem?
  intro j
  unfold ee
  rw[List.getElem?_take,List.getElem?_drop]
  rcases j with _|_|_|_|j
  all_goals simp
  all_goals (try (rw[List.getElem?_eq_getElem (by omega)];rfl))
  all_goals (try (intro h;omega))
 rw[e p (by omega),e i hi]
 constructor
 ·intro h
  simp only[List.cons.injEq,and_true]at h
  have e0:lv b i p=k0 b i p 127 4:=by
   unfold lv
   rw[gY (by decide) ⟨by omega,h.1.symm⟩,gY (by decide) ⟨by omega,h.2.1.symm⟩,gY (by decide) ⟨by omega,h.2.2.1.symm⟩,gY (by decide) ⟨by omega,h.2.2.2.symm⟩]
  rw[e0]
  exact(gF b i p 127 4).1
 ·intro h
  simp only[List.cons.injEq,and_true]
  exact⟨(rD (by omega)).symm,(rD (by omega)).symm,(rD (by omega)).symm,(rD (by omega)).symm⟩
def gC(b:List UInt8)(i:Nat)(s:Nat×Nat)(d:Nat):Nat×Nat:=if 3<lv b i (i-d)∧s.1<lv b i (i-d)then(lv b i (i-d),d)else s
def cr(b:List UInt8)(i k:Nat):Nat×Nat:=(List.range' 1 k).foldl (gC b i) (0,0)
theorem dB(b:List UInt8)(i k:Nat):cr b i (k+1)=gC b i (cr b i k) (k+1):=by
 unfold cr
 rw[List.range'_concat,List.foldl_append]
 simp[Nat.add_comm]
def bf(b:List UInt8)(i:Nat):Nat×Nat:=cr b i (min i 1024)
def fO(b:List UInt8)(i:Nat)(s:Nat×Nat)(p:Nat):Nat×Nat:=if 1024<i-p then s else if s.1<lv b i p then(lv b i p,i-p)else s
def kz(b:List UInt8)(n:Nat)(k:List UInt8):List Nat:=(List.range n).filter fun p=>decide (ee b p=k)
theorem x2(b:List UInt8)(n:Nat)(k:List UInt8):kz b (n+1) k=kz b n k++if ee b n=k then [n]else []:=by
 unfold kz
 rw[List.range_succ,List.filter_append]
 congr 1
 by_cases h:ee b n=k <;> simp[h]
theorem Cr{b:List UInt8}{n p:Nat}{k:List UInt8}(h:p∈kz b n k):p<n∧ee b p=k:=by
 unfold kz at h
 simpa using h
theorem nW(b:List UInt8)(n:Nat)(k:List UInt8):(kz b n k).length≤n:=by
 unfold kz
 exact Nat.le_trans (List.length_filter_le _ _) (by simp)
theorem xI(i:Nat):(List.range i).reverse=(List.range' 1 i).map fun d=>i-d:=by
 apply List.ext_getElem
 ·simp
 ·intro j h1 h2
  simp
  omega
theorem jG{α β:Type}(f:β→α→β)(s:β):∀(l:List α),(∀x∈l,∀t,f t x=t)→l.foldl f s=s
 | [],_=>rfl
 |x::l,h=>by
  rw[List.foldl_cons,h x (by simp) s]
  exact jG f s l (fun y hy=>h y (List.mem_cons_of_mem _ hy))
theorem ui{b:List UInt8}{i:Nat}(hi:i+4≤b.length):(kz b i (ee b i)).reverse.foldl (fO b i) (0,0)=bf b i:=by
 unfold kz bf
 rw[←List.filter_reverse,xI,List.filter_map,List.foldl_map,List.foldl_filter]
 have h1:∀(l:List Nat) (s:Nat×Nat),(∀d∈l,1≤d∧d≤i)→l.foldl (fun s d=>if((fun p=>decide (ee b p=ee b i)) ∘ fun d=>i-d) d=true then fO b i s (i-d)else s) s=l.foldl (fun s d=>if 1024<d then s else gC b i s d) s:=by
  intro l
  induction l with
  |nil=>intro s _;rfl
  |cons d l ih=>
   intro s hd
   simp only[List.foldl_cons]
   rw[ih _ (fun x hx=>hd x (List.mem_cons_of_mem _ hx))]
   congr 1
   obtain⟨hd1,hd2⟩:=hd d (by simp)
   have e:=CO (p:=i-d) hi (by omega)
   simp only[Function.comp_apply,decide_eq_true_eq]
   unfold fO gC
   rw[show i-(i-d)=d by omega]
   by_cases hk:ee b (i-d)=ee b i
   ·rw[if_pos hk]
    have:=e.1 hk
    split
    ·rfl
    ·by_cases h:s.1<lv b i (i-d)
     ·rw[if_pos h,if_pos ⟨this,h⟩]
     ·rw[if_neg h,if_neg (fun q=>h q.2)]
   ·rw[if_neg hk]
    split
    ·rfl
    ·rw[if_neg (fun q=>hk (e.2 q.1))]
 rw[h1 _ _ (fun d hd=>by simp at hd;omega)]
 have h2:List.range' 1 i=List.range' 1 (min i 1024)++List.range' (1+min i 1024) (i-min i 1024):=by
  rw[List.range'_append_1]
  congr 1
  omega
 rw[h2,List.foldl_append,jG _ _ (List.range' (1+min i 1024) (i-min i 1024))]
 ·unfold cr
  have h3:∀(l:List Nat) (s:Nat×Nat),(∀d∈l,d≤1024)→l.foldl (fun s d=>if 1024<d then s else gC b i s d) s=l.foldl (gC b i) s:=by
   intro l
   induction l with
   |nil=>intro s _;rfl
   |cons d l ih=>
    intro s hd
    simp only[List.foldl_cons]
    rw[if_neg (by have:=hd d (by simp);omega)]
    exact ih _ (fun x hx=>hd x (List.mem_cons_of_mem _ hx))
  exact h3 _ _ (fun d hd=>by simp at hd;omega)
 ·intro d hd t
  simp at hd
  rw[if_pos (by omega)]
theorem tF(b:List UInt8)(n:Nat)(k:List UInt8):(kz b n k).Pairwise (· <·):=(List.pairwise_lt_range).filter _
theorem xC{b:List UInt8}{i n x:Nat}{k:List UInt8}{pre rest:List Nat}{s:Nat×Nat}(h:(kz b n k).reverse=pre++x::rest)(hx:1024<i-x):(kz b n k).reverse.foldl (fO b i) s=pre.foldl (fO b i) s:=by
 have hs:(pre++x::rest).Pairwise (· >·):=by
  rw[←h,List.pairwise_reverse]
  exact tF b n k
 rw[h,List.foldl_append]
 refine jG _ _ _ fun y hy t=> ?_
 have h1:=(List.pairwise_cons.1 (List.pairwise_append.1 hs).2.1).1
 unfold fO
 rw[if_pos]
 rcases List.mem_cons.1 hy with rfl|hy
 ·exact hx
 ·have:=h1 y hy
  omega
theorem s5{b:List UInt8}{i:Nat}(hi:i≤b.length)(h:b.length<i+4):bf b i=(0,0):=by
 unfold bf cr
 refine jG _ _ _ fun d hd t=> ?_
 unfold gC
 rw[if_neg]
 intro q
 have:=yc (i-d) hi
 omega
theorem qQ(b:List UInt8)(i:Nat)(hi:i≤b.length):∀k,k≤i→(cr b i k=(0,0))∨(4≤(cr b i k).1∧(cr b i k).1≤131∧1≤(cr b i k).2∧(cr b i k).2≤k∧i+(cr b i k).1≤b.length∧(cr b i k).1=lv b i (i-(cr b i k).2))
 |0,_=>.inl rfl
 |k+1,hk=>by
  rw[dB]
  unfold gC
  split
  ·rename_i h
   exact .inr ⟨by show 4≤lv _ _ _;omega,ED _ _ _,by show 1≤k+1;omega,Nat.le_refl _,yc _ hi,rfl⟩
  ·rcases qQ b i hi k (by omega)with h|h
   ·exact .inl h
   ·exact .inr ⟨h.1,h.2.1,h.2.2.1,by omega,h.2.2.2.2.1,h.2.2.2.2.2⟩
theorem mZ{b:List UInt8}{i:Nat}(hi:i≤b.length):(bf b i=(0,0))∨(4≤(bf b i).1∧(bf b i).1≤131∧1≤(bf b i).2∧(bf b i).2≤min i 1024∧i+(bf b i).1≤b.length∧(bf b i).1=lv b i (i-(bf b i).2)):=qQ b i hi _ (by omega)
def eQ(l:List UInt8):List UInt8:=if h:l=[]then []else UInt8.ofNat (min l.length 128-1)::l.take 128++eQ (l.drop 128)
termination_by l.length
decreasing_by
 have:=List.length_pos_iff.2 h
 rw[List.length_drop]
 omega
theorem o4:eQ []=[]:=by rw[eQ];rfl
theorem mS{l:List UInt8}(h:l≠ []):eQ l=UInt8.ofNat (min l.length 128-1)::l.take 128++eQ (l.drop 128):=by rw[eQ,dif_neg h]
theorem fq(l:List UInt8):(eQ l).length≤2*l.length:=by
 by_cases h:l=[]
 ·subst h;rw[o4];simp
 ·have hp:=List.length_pos_iff.2 h
  have hd:(l.drop 128).length=l.length-128:=List.length_drop
  have:=fq (l.drop 128)
  rw[mS h]
  simp only[List.length_append,List.length_cons,List.length_take]
  omega
termination_by l.length
decreasing_by
 rw[List.length_drop]
 have:=List.length_pos_iff.2 h
 omega
def iz(m:Nat×Nat):List UInt8:=[UInt8.ofNat (124+m.1),UInt8.ofNat (m.2-1),UInt8.ofNat ((m.2-1)/256)]
def gO(b:List UInt8)(i:Nat)(own out:List UInt8):List UInt8:=
 if h:i<b.length then
  if h0:(bf b i).1=0 then gO b (i+1) (own++[b.getD i 0]) out
  else gO b (i+(bf b i).1) [] (out++eQ own++iz (bf b i))
 else out++eQ own
termination_by b.length-i
def eF(b:List UInt8):List UInt8:=gO b 0 [] []
theorem nE{b own out:List UInt8}{i:Nat}(h:¬i<b.length):gO b i own out=out++eQ own:=by rw[gO,dif_neg h]
theorem nz{b own out:List UInt8}{i:Nat}(h:i<b.length)(h0:(bf b i).1=0):gO b i own out=gO b (i+1) (own++[b.getD i 0]) out:=by rw[gO,dif_pos h,dif_pos h0]
theorem ke{b own out:List UInt8}{i:Nat}(h:i<b.length)(h0:(bf b i).1≠0):gO b i own out=gO b (i+(bf b i).1) [] (out++eQ own++iz (bf b i)):=by rw[gO,dif_pos h,dif_neg h0]
theorem jQ:∀(b:List UInt8) (i:Nat) (own out:List UInt8),i≤b.length→out.length+2*own.length≤2*i→(gO b i own out).length≤2*b.length
 |b,i,own,out,hi,h=>by
  by_cases hlt:i<b.length
  ·by_cases h0:(bf b i).1=0
   ·rw[nz hlt h0]
    exact jQ b (i+1) _ _ (by omega) (by simp;omega)
   ·rw[ke hlt h0]
    rcases mZ hi with hm|hm
    ·rw[hm]at h0;exact absurd rfl h0
    ·have:=fq own
     exact jQ b _ _ _ (by omega) (by simp[iz];omega)
  ·rw[nE hlt,List.length_append]
   have:=fq own
   omega
termination_by b i=>b.length-i
theorem lS(b:List UInt8):(eF b).length≤2*b.length:=jQ b 0 [] [] (Nat.zero_le _) (by simp)
end Go.Hx
end
section
namespace Go.Hx
open Go.Eng
def zV(b:List UInt8):Bool:=decide ((eF b).length<b.length)
def n9(b:List UInt8):List UInt8:=if zV b then eF b else b
def cj(b:List UInt8):List UInt8:=[76,if zV b then 1 else 0]++jA b.length++n9 b++jA (dj b)
theorem rN(b:List UInt8):(n9 b).length≤b.length:=by
 unfold n9 zV
 split
 ·rename_i h;have:=of_decide_eq_true h;omega
 ·exact Nat.le_refl _
theorem rC(b:List UInt8):(cj b).length=(n9 b).length+10:=by simp[cj,iq];omega
theorem pX(b:List UInt8):10≤(cj b).length∧(cj b).length≤b.length+10:=by
 have:=rN b
 rw[rC]
 omega
def ij(f:List UInt8):Option Nat:=if f.length<10∨f.getD 0 0≠76∨1<(f.getD 1 0).toNat then none else some (oG (f.drop 2))
def dA(f:List UInt8):List UInt8:=(f.drop 6).take (f.length-10)
def x1(f:List UInt8)(n:Nat):List UInt8×Int:=if f.getD 1 0=1 then kF n (dA f) []else(dA f,0)
def gH(f:List UInt8)(n:Nat):List UInt8×Int:=
 if(x1 f n).2≠0 then([],2)else if(x1 f n).1.length≠n then([],2)else if jA (dj (x1 f n).1)≠f.drop (f.length-4)then([],7)else((x1 f n).1,0)
def c7(f:List UInt8)(most:Int):List UInt8×Int:=
 match ij f with
 |none=>([],2)
 |some n=>if most<n then([],3)else gH f n
theorem pf{most:Int}:∀(l o:List UInt8),(o.length:Int)≤most→(((kF most l o).1.length:Int)≤most∨(kF most l o).1=[])∧((kF most l o).2=0∨(kF most l o).2=2∨(kF most l o).2=3)∧((kF most l o).2≠0→(kF most l o).1=[])
 |l,o,hm=>by
  by_cases h0:l=[]
  ·subst h0;rw[sl];exact⟨.inl hm,.inl rfl,fun h=>absurd rfl h⟩
  ·by_cases h1:(cM l).2.2.2=true∧(cM l).2.2.1≤o.length
   ·by_cases h2:most<(o.length:Int)+((cM l).2.1:Nat)
    ·rw[oO h0 h1.1 h1.2 h2];exact⟨.inr rfl,.inr (.inr rfl),fun _=>rfl⟩
    ·rw[sr h0 h1.1 h1.2 h2]
     exact pf _ _ (by rw[ow h1.1];omega)
   ·rw[kQ h0 h1];exact⟨.inr rfl,.inr (.inl rfl),fun _=>rfl⟩
termination_by l=>l.length
decreasing_by
 obtain⟨h2,h3⟩:=kV h1.1
 rw[List.length_drop]
 omega
theorem zz{f:List UInt8}{n:Nat}(h:(gH f n).2=0):(gH f n).1.length=n:=by
 unfold gH at h ⊢
 split at h
 ·cases h
 ·rename_i h1
  rw[if_neg h1]
  split at h
  ·cases h
  ·rename_i h2
   rw[if_neg h2]
   split at h
   ·cases h
   ·rename_i h3
    rw[if_neg h3]
    exact Decidable.not_not.1 h2
theorem xq{f:List UInt8}{n:Nat}(h:(gH f n).2≠0):(gH f n).1=[]:=by
 unfold gH at h ⊢
 split at h
 ·rename_i h1;rw[if_pos h1]
 ·rename_i h1
  rw[if_neg h1]
  split at h
  ·rename_i h2;rw[if_pos h2]
  ·rename_i h2
   rw[if_neg h2]
   split at h
   ·rename_i h3;rw[if_pos h3]
   ·exact absurd rfl h
theorem xL{f:List UInt8}{most:Int}(h:(c7 f most).2≠0):(c7 f most).1=[]:=by
 unfold c7 at h ⊢
 split at h
 ·rfl
 ·rename_i n hn
  split at h
  ·rename_i h1;rw[if_pos h1]
  ·rename_i h1;rw[if_neg h1];exact xq h
theorem AH{f:List UInt8}{most:Int}(h:(c7 f most).2=0):((c7 f most).1.length:Int)≤most:=by
 unfold c7 at h ⊢
 split at h
 ·cases h
 ·rename_i n hn
  split at h
  ·cases h
  ·rename_i h1;rw[if_neg h1,zz h];omega
theorem nu{f:List UInt8}{most:Int}(hm:0≤most):((c7 f most).1.length:Int)≤most:=by
 by_cases h:(c7 f most).2=0
 ·exact AH h
 ·rw[xL h];simpa using hm
end Go.Hx
end
section
namespace Go.Proofs.YtmibdabdlgmafaaGreatDoor
open Go.Eng Go.Hx
def bI(nm:List UInt8):List UInt8:=[99,47]++(cG nm).take 2++[47]++cG nm
def bW(nm:List UInt8):List UInt8:=[116,47]++cG nm
theorem lq{nm:List UInt8}(h:nm.length=32):(bI nm).length=69:=by simp[bI,dW,h]
theorem k9{nm:List UInt8}(h:nm.length=32):(bW nm).length=66:=by simp[bW,dW,h]
theorem og{nm:List UInt8}(h:nm.length=32):(bI nm).drop 5=cG nm:=by
 have h2:((cG nm).take 2).length=2:=by rw[List.length_take,dW,h];rfl
 unfold bI
 rw[List.drop_append_of_le_length (by simp[h2]),List.drop_of_length_le (by simp[h2])]
 rfl
theorem vd{a b:List UInt8}(ha:a.length=32)(hb:b.length=32)(h:bI a=bI b):a=b:=by
 have:=congrArg (List.drop 5) h
 rw[og ha,og hb]at this
 exact yv this
def RD.Bq(d:RD)(nm:List UInt8):List UInt8×Int:=c7 (d.cJ (bI nm)) 4096
def RD.fu(d:RD)(nm:List UInt8):Int:=if d.dx (bI nm)≠0 then d.dx (bI nm)else if(d.Bq nm).2≠0∨bA (d.Bq nm).1≠nm then 7 else 0
def RD.ik(d:RD)(nm:List UInt8):List UInt8:=if d.fu nm=0 then(d.Bq nm).1 else []
theorem jm{d:RD}{nm:List UInt8}(h:d.dx (bI nm)≠0):d.fu nm=d.dx (bI nm):=by unfold RD.fu;rw[if_pos h]
theorem mK{d:RD}{nm:List UInt8}(h:d.dx (bI nm)=0)(h2:(d.Bq nm).2≠0∨bA (d.Bq nm).1≠nm):d.fu nm=7:=by unfold RD.fu;rw[if_neg (fun q=>q h),if_pos h2]
theorem vx{d:RD}{nm:List UInt8}(h:d.dx (bI nm)=0)(h2:¬((d.Bq nm).2≠0∨bA (d.Bq nm).1≠nm)):d.fu nm=0:=by unfold RD.fu;rw[if_neg (fun q=>q h),if_neg h2]
theorem jX{d:RD}{nm:List UInt8}(h:d.fu nm≠0):d.ik nm=[]:=by unfold RD.ik;rw[if_neg h]
theorem rl{d:RD}{nm:List UInt8}(h:d.fu nm=0):d.ik nm=(d.Bq nm).1:=by unfold RD.ik;rw[if_pos h]
theorem mI(d:RD)(nm:List UInt8):(d.ik nm).length≤4096:=by
 by_cases h:d.fu nm=0
 ·rw[rl h]
  have:=nu (f:=d.cJ (bI nm)) (most:=4096) (by decide)
  unfold RD.Bq
  omega
 ·rw[jX h];exact Nat.zero_le _
def gQ:List (RD→RD×Int)→RD→RD×Int
 | [],d=>(d,0)
 |f::r,d=>if(f d).2≠0 then f d else gQ r (f d).1
def rF(p b:List UInt8)(d:RD):RD×Int:=(d.write p b,d.bP p b)
def lK(d:RD):RD×Int:=(d.sync,d.dy)
def rH(a c:List UInt8)(d:RD):RD×Int:=(d.rename a c,d.ca a c)
def dQ:List UInt8:=List.replicate 32 0
def RD.iZ(d:RD)(b:List UInt8):RD×Int:=gQ [rF (bW (bA b)) (cj b),lK,rH (bW (bA b)) (bI (bA b)),lK] d
def RD.put(d:RD)(b:List UInt8):RD×List UInt8×Int:=
 if 4096<b.length then(d,dQ,3)
 else if d.fu (bA b)=6 then(d,dQ,6)
 else if d.fu (bA b)=0 then(d,bA b,0)
 else((d.iZ b).1,if(d.iZ b).2=0 then bA b else dQ,(d.iZ b).2)
end Go.Proofs.YtmibdabdlgmafaaGreatDoor
end
section
set_option maxRecDepth 20000
set_option maxHeartbeats 2000000
namespace Go.Proofs.YtmibdabdlgmafaaGreatDoor
open Go.Eng Go.Hx
theorem iJ{a b:List UInt8}(h:a.length+b.length≤1000000):(strOf a).size+(strOf b).size≤9223372036854775807:=by rw[da,da];omega
theorem Af{nm:List UInt8}(hm:nm.length=32):cf Tryz.prog 94 [.agg (aT nm).toArray] [] [] (fun v_ X_ S_=>v_=(.string (strOf (bI nm)))∧X_=[]∧S_=[]):=by
 have hhl:(cG nm).length=64:=by rw[dW,hm]
 have h2:((cG nm).take 2).length=2:=by rw[List.length_take,hhl];rfl
 refine aK (N:=12) Tryz.func94 rfl rfl (by simp) fun b=> ?_
 refine ae<|ah<| ?_
 refine hx (br rfl (fun g1=> ?_))
 refine aH (fun w m=>m.bw 0 rfl (show _=aE g1 53 (aT nm)from congrArg (aE _ _) (aV _))) ?_
 refine aG rfl<|ag<|aY rfl rfl<|aa<|ae<|ah<|hy (fun m=>aP rfl cB b7 (by rw[aA];exact hm) ((m.aN 0 rfl).aw))<| ?_
 refine hx (an rfl Tryz.call104 (yx hm) [] rfl [] rfl ?_)
 rintro _ _ _ ⟨rfl,rfl,rfl⟩
 refine aG rfl<|ag<|az [3,2,1,0] rfl<|aY rfl rfl<|aa<|ae<|ah<|au rfl<|hy (fun _=>yV (wv rfl rfl Tryz.underlying9 (show((2:Nat):Int)=2 from rfl) (show 2≤(cG nm).length by omega)) ((rfl:_=Value.string (strOf ((cG nm).take 2)))))<|hy (fun _=>yV (iB rfl rfl (iJ (a:=[99,47]) (b:=(cG nm).take 2) (by simp[h2]))) ((show Value.string (strOf [99,47]++strOf ((cG nm).take 2))= .string (strOf ([99,47]++(cG nm).take 2))from congrArg Value.string (cX _ _))))<|hy (fun _=>yV (iB rfl rfl (iJ (a:=[99,47]++(cG nm).take 2) (b:=[47]) (by simp[h2]))) ((show Value.string (strOf ([99,47]++(cG nm).take 2)++strOf [47])= .string (strOf ([99,47]++(cG nm).take 2++[47]))from congrArg Value.string (cX _ _))))<|au rfl<|hy (fun _=>yV (iB rfl rfl (iJ (a:=[99,47]++(cG nm).take 2++[47]) (b:=cG nm) (by simp[h2,hhl]))) ((show Value.string (strOf ([99,47]++(cG nm).take 2++[47])++strOf (cG nm))= .string (strOf (bI nm))from congrArg Value.string (cX _ _))))<|aG rfl<|ag<|az [2,3,1,0] rfl<|aa<|aR<| ?_
 exact bc trivial rfl rfl [] rfl [] rfl ⟨rfl,rfl,rfl⟩
theorem vK{nm:List UInt8}(hm:nm.length=32):cf Tryz.prog 29 [.agg (aT nm).toArray] [] [] (fun v_ X_ S_=>v_=(.string (strOf (bI nm)))∧X_=[]∧S_=[]):=by
 have hhl:(cG nm).length=64:=by rw[dW,hm]
 have h2:((cG nm).take 2).length=2:=by rw[List.length_take,hhl];rfl
 refine aK (N:=12) Tryz.func29 rfl rfl (by simp) fun b=> ?_
 refine ae<|ah<| ?_
 refine hx (br rfl (fun g1=> ?_))
 refine aH (fun w m=>m.bw 0 rfl (show _=aE g1 53 (aT nm)from congrArg (aE _ _) (aV _))) ?_
 refine aG rfl<|ag<|aY rfl rfl<|aa<|ae<|ah<|hy (fun m=>aP rfl cB b7 (by rw[aA];exact hm) ((m.aN 0 rfl).aw))<| ?_
 refine hx (an rfl Tryz.call111 (wY hm) [] rfl [] rfl ?_)
 rintro _ _ _ ⟨rfl,rfl,rfl⟩
 refine aG rfl<|ag<|az [3,2,1,0] rfl<|aY rfl rfl<|aa<|ae<|ah<|au rfl<|hy (fun _=>yV (wv rfl rfl Tryz.underlying9 (show((2:Nat):Int)=2 from rfl) (show 2≤(cG nm).length by omega)) ((rfl:_=Value.string (strOf ((cG nm).take 2)))))<|hy (fun _=>yV (iB rfl rfl (iJ (a:=[99,47]) (b:=(cG nm).take 2) (by simp[h2]))) ((show Value.string (strOf [99,47]++strOf ((cG nm).take 2))= .string (strOf ([99,47]++(cG nm).take 2))from congrArg Value.string (cX _ _))))<|hy (fun _=>yV (iB rfl rfl (iJ (a:=[99,47]++(cG nm).take 2) (b:=[47]) (by simp[h2]))) ((show Value.string (strOf ([99,47]++(cG nm).take 2)++strOf [47])= .string (strOf ([99,47]++(cG nm).take 2++[47]))from congrArg Value.string (cX _ _))))<|au rfl<|hy (fun _=>yV (iB rfl rfl (iJ (a:=[99,47]++(cG nm).take 2++[47]) (b:=cG nm) (by simp[h2,hhl]))) ((show Value.string (strOf ([99,47]++(cG nm).take 2++[47])++strOf (cG nm))= .string (strOf (bI nm))from congrArg Value.string (cX _ _))))<|aG rfl<|ag<|az [2,3,1,0] rfl<|aa<|aR<| ?_
 exact bc trivial rfl rfl [] rfl [] rfl ⟨rfl,rfl,rfl⟩
end Go.Proofs.YtmibdabdlgmafaaGreatDoor
end
section
set_option maxRecDepth 20000
namespace Go.Proofs.YtmibdabdlgmafaaGreatDoor
open Go.Eng Go.Hx
theorem Er{g:Nat}{st:cU}{d:RD}{kk:Nat}{p:List UInt8}(hD:DS st d kk):cf Tryz.prog 90 [.pointer (some ⟨g,0,none⟩),.string (strOf p)] [bG g st] [] (fun v_ X_ S_=>∃v,v_=(.tuple #[v,.int .i64 (d.dx p)])∧X_=[bG g st,aI 5 1 v (d.cJ p).length (aT (d.cJ p))]∧S_=[]):=by
 rw[hD.dx,hD.cJ]
 exact Gp hD.ok.sm
theorem BN{g:Nat}{st:cU}{d:RD}{kk:Nat}{p:List UInt8}{A:Option Addr}{n c:Nat}{l:List UInt8}(hD:DS st d kk)(hkk:kk≤99000)(hl:l.length=n)(hn:n≤1048576):cf Tryz.prog 33 [.pointer (some ⟨g,0,none⟩),.string (strOf p),.slice A n c] [bG g st] [cz 1 A n (aT l)] (fun v_ X_ S_=>∃st1,v_=(.int .i64 (d.bP p l))∧X_=[bG g st1]∧S_=[]∧(DS st1 (d.write p l) (kk+1))):=by
 exact cf.mono (EW hD.ok (by omega) hn) (fun v X S h=>by
  obtain⟨st1,B,c1,A1,c2,h1,h2,h3,hw⟩:=h
  have hW:=hD.write hl hn hw
  exact⟨st1,by rw[hW.2];exact h1,h2,h3,hW.1⟩)
theorem Ff{g:Nat}{st:cU}{d:RD}{kk:Nat}(hD:DS st d kk):cf Tryz.prog 110 [.pointer (some ⟨g,0,none⟩)] [bG g st] [] (fun v_ X_ S_=>∃st1,v_=(.int .i64 d.dy)∧X_=[bG g st1]∧S_=[]∧(DS st1 d.sync kk)):=by
 exact cf.mono (Fx hD.ok) (fun v X S h=>by
  obtain⟨st1,gl,h1,h2,h3,hw⟩:=h
  have hW:=hD.sync hw
  exact⟨st1,by rw[hW.2];exact h1,h2,h3,hW.1⟩)
theorem yZ{g:Nat}{st:cU}{d:RD}{kk:Nat}{a c:List UInt8}(hD:DS st d kk)(hkk:kk≤99000):cf Tryz.prog 108 [.pointer (some ⟨g,0,none⟩),.string (strOf a),.string (strOf c)] [bG g st] [] (fun v_ X_ S_=>∃st1,v_=(.int .i64 (d.ca a c))∧X_=[bG g st1]∧S_=[]∧(DS st1 (d.rename a c) (kk+1))):=by
 exact cf.mono (Bt hD.ok (by omega)) (fun v X S h=>by
  obtain⟨st1,A,j,h1,h2,h3,hw⟩:=h
  have hW:=hD.rename hw
  exact⟨st1,by rw[hW.2];exact h1,h2,h3,hW.1⟩)
theorem DS.u9{st:cU}{d:RD}{kk:Nat}(h:DS st d kk)(p:List UInt8):(d.cJ p).length≤1048576:=by
 rw[h.cJ]
 by_cases he:er st p=0
 ·obtain⟨r,hr⟩:=s4 he
  rw[sP he hr]
  have h1:=h.ok.small r (List.mem_append_left _ (List.mem_append_left _ (List.mem_map.2 ⟨_,ji hr,rfl⟩)))
  have h2:r.n=r.l.length:=h.sw.files.len _ (ji hr)
  omega
 ·rw[tU he];exact Nat.zero_le _
end Go.Proofs.YtmibdabdlgmafaaGreatDoor
end
section
set_option maxRecDepth 20000
namespace Go.Proofs.YtmibdabdlgmafaaGreatDoor
open Go.Eng Go.Hx
theorem Rd.part{w:World}{a:Addr}{n k m:Nat}{B:List UInt8}(h:Rd w 1 (some a) n (aT B)):∀(j:Nat) (u:Value),(aT ((B.drop k).take m))[j]? =some u→w.cell? ((a.add k).add j)=some u:=by
 intro j u hu
 rw[add_add]
 refine h.cell ?_
 unfold aT at hu ⊢
 rw[List.getElem?_map,List.getElem?_take]at hu
 rw[List.getElem?_map]
 split at hu
 ·rw[List.getElem?_drop]at hu;exact hu
 ·simp at hu
end Go.Proofs.YtmibdabdlgmafaaGreatDoor
end
section
namespace Go.Eng
open Go.RowKit
abbrev Ge(v:Value):List PanicEntry:=[{v,recovered:=false}]
def RE(b:cg)(R Rp:Value→List bg→List bg→Prop):Ending→World→Prop:=fun e w' =>
 (∃v X' S',e= .returned v∧R v X' S' ∧Mem b X' S' w')∨(∃v X' S',e= .panicked (Ge v)∧Rp v X' S' ∧Mem b X' S' w')
def EE(P:Program)(f:Nat)(args:List Value)(X0 S0:List bg)(R Rp:Value→List bg→List bg→Prop):Prop:=
 ∀w,Mem ⟨w,c6 X0,c6 S0⟩ X0 S0 w→Calls P f args.toArray w (RE ⟨w,c6 X0,c6 S0⟩ R Rp)
section
variable{P:Program}{Q:Exit→Act→World→Prop}{N:Nat}{D:List Deferred}{ρ:Env}{b:cg}{X X' X0 Xr S S' S0:List bg}{ty:TypeId}{x:Operand}{K:Value→List bg→List bg→Prop}
theorem CF{w:World}{K:Value→World→Prop}{f:Nat}{l:List Operand}{vs:List Value}{tys:Array TypeId}{R:Ending→World→Prop}(hv:mP ρ l=some vs)(hf:∀args w,(callFunc f args).run P w= .ok (.enter f args) w)
  (hc:Calls P f vs.toArray w R) (hR:∀e w',R e w' →(∃v,e= .returned v∧K v w')∨∃c,e= .panicked c∧WQ Q N D (.panic c) ρ w'):XW P Q N D ρ w (.call ⟨.value (.func f),l.toArray,tys⟩) ty K:=by
 intro a dst pos af g ha
 unfold Oper.wp
 have:(execOp a.eval ⟨dst,.call ⟨.value (.func f),l.toArray,tys⟩,ty,pos,af,g⟩).run P w= .ok (.enter f vs.toArray) w:=by
  simp[execOp,resolve,Deferred.ofValue,Act.eval,invoke,ha.gM hv,hf]
 rw[this]
 refine Calls.mono hc ?_
 intro e w' he
 rcases hR e w' he with⟨v,rfl,hk⟩|⟨c,rfl,hk⟩
 ·exact⟨v,rfl,hk⟩
 ·exact hk a ha
theorem gG{f:Nat}{l:List Operand}{vs:List Value}{tys:Array TypeId}{R Rp:Value→List bg→List bg→Prop}(hv:mP ρ l=some vs)(hf:∀args w,(callFunc f args).run P w= .ok (.enter f args) w)
  (hc:EE P f vs X0 S0 R Rp) (is:List Nat) (hX:bN is X=some (X0,Xr)) (js:List Nat) (hS:dh js S=some S0)
  (kp:∀v X' S',Rp v X' S' →HQ Q N D (.panic (Ge v)) ρ b (X' ++Xr) (S' ++S)) (k:∀v X' S',R v X' S' →K v (X' ++Xr) (S' ++S)):XH P Q N D ρ b X S (.call ⟨.value (.func f),l.toArray,tys⟩) ty K:=fun w m=>by
 have m1:=m.perm (ao _ _ _ _ hX)
 refine CF hv hf (hc w (m1.part (cb _ _ _ hS))) ?_
 rintro e w' (⟨v,X',S',rfl,hR,m'⟩|⟨v,X',S',rfl,hR,m'⟩)
 ·exact .inl ⟨v,rfl,_,_,m1.frame (cb _ _ _ hS) m',k v X' S' hR⟩
 ·exact .inr ⟨_,rfl,kp v X' S' hR w' (m1.frame (cb _ _ _ hS) m')⟩
theorem dX{K:Act→World→Prop}{c:List PanicEntry}(h:HQ Q N D (.panic c) ρ b X S):HQ (Exit.then K Q) N D (.panic c) ρ b X S:=h
end
theorem Ck{P:Program}{f:Nat}{fn:Func}{c:Code}{vs:List Value}{R Rp:Value→List bg→List bg→Prop}{N:Nat}{X0 S0:List bg}(hf:P.funcs[f]? =some fn)(hb:fn.body=some c)(hN:fn.ntmps=N)(hl:vs.length≤N)
  (h:∀b,HC P (bodyPost P fn (RE b R Rp)) N [] c (fI vs 0) b X0 S0):EE P f vs X0 S0 R Rp:=fun w m=>enter hf hb hN hl (h _ w m)
section
variable{P:Program}{fn:Func}{R Rp:Value→List bg→List bg→Prop}{N:Nat}{D:List Deferred}{ρ:Env}{b:cg}{X X' Xz Xr X0 S S' S0:List bg}{e:Exit}{u:FrameMode}
theorem qf{R1 R2:Ending→World→Prop}(h:∀e w,R1 e w→R2 e w):∀e a w,bodyPost P fn R1 e a w→bodyPost P fn R2 e a w
 | .normal,a,w,⟨h1,v,h2,h3⟩=>⟨h1,v,h2,h _ _ h3⟩
 | .ret,a,w,⟨h1,v,h2,h3⟩=>⟨h1,v,h2,h _ _ h3⟩
 | .panic c,a,w,⟨h1,h2⟩=>⟨h1,h _ _ h2⟩
 | .outgrown,a,w,h1=>h _ _ h1
 | .exit _,a,w,h1=>h1.elim
 | .goto _,a,w,h1=>h1.elim
theorem Gx(h:HQ (bodyPost P fn (RB b R)) N D e ρ b X S):HQ (bodyPost P fn (RE b R Rp)) N D e ρ b X S:=fun w m a ha=>
 qf (fun e w h=>by obtain⟨v,X',S',h1,h2,h3⟩:=h;exact .inl ⟨v,X',S',h1,h2,h3⟩) _ _ _ (h w m a ha)
theorem F6{v:Value}(is:List Nat)(hX:bN is X=some (X',Xz))(js:List Nat)(hS:dh js S=some S')(hR:Rp v X' S'):HQ (bodyPost P fn (RE b R Rp)) N [] (.panic (Ge v)) ρ b X S:=fun w m a ha=>
 ⟨ha.df,.inr ⟨v,X',S',rfl,hR,m.out is hX js hS⟩⟩
def EZ(P:Program)(fn:Func)(b:cg)(R:Value→List bg→List bg→Prop)(N:Nat)(D:List Deferred)(ρ:Env)(X S:List bg)(u:FrameMode):Prop:=∀w,Mem b X S w→∀tmps:Array Value,(∀t v,get ρ t=some v→tmps[t]? =some v)→Go.Leaves P fn tmps (RB b R) D u w
theorem wy(he:Leaves e)(h:EZ P fn b R N D ρ X S .returning):HQ (bodyPostD P fn (RB b R)) N D e ρ b X S:=ya he h
theorem iQ{c:List PanicEntry}(h:EZ P fn b R N D ρ X S (.panicking c)):HQ (bodyPostD P fn (RB b R)) N D (.panic c) ρ b X S:=fun w m a ha=>by
 have:=h w m a.tmps ha.gt
 show Go.Leaves P fn a.tmps (RB b R) a.defers (.panicking c) w
 rw[ha.df]
 exact this
def BR(P:Program)(f:Nat)(args:List Value)(u:FrameMode)(X0 S0:List bg)(R:FrameMode→List bg→List bg→Prop):Prop:=
 ∀w,Mem ⟨w,c6 X0,c6 S0⟩ X0 S0 w→CallsD P f args.toArray u w fun e u' w' =>e= .returned (.tuple #[])∧∃X' S',R (settle u') X' S' ∧Mem ⟨w,c6 X0,c6 S0⟩ X' S' w'
theorem l6{f:Nat}{vs cap:List Value}{Rd:FrameMode→List bg→List bg→Prop}(hu:u≠ .run)(hcall:∀args w,(callFunc f args).run P w= .ok (.enter f args) w)(hc:BR P f (vs++cap) u X0 S0 Rd)(is:List Nat)(hX:bN is X=some (X0,Xr))(js:List Nat)(hS:dh js S=some S0)
  (k:∀u' X' S',Rd u' X' S' →EZ P fn b R N D ρ (X' ++Xr) (S' ++S) u'):EZ P fn b R N (⟨.fn (.func f) cap.toArray,vs.toArray⟩::D) ρ X S u:=fun w m tmps ht=>by
 have m1:=m.perm (ao _ _ _ _ hX)
 refine leaves_cons (f:=f) (args:=(vs++cap).toArray) hu ?_ ?_
 ·simp[invoke,hcall]
 ·refine CallsD.mono (hc w (m1.part (cb _ _ _ hS))) ?_
  rintro e u' w' ⟨rfl,X',S',hR,m'⟩
  exact k _ _ _ hR w' (m1.frame (cb _ _ _ hS) m') tmps ht
end
section
variable{P:Program}{ops:Array Oper}{fn:Func}{N:Nat}{D:List Deferred}{ρ ρ' :Env}{w:World}{c₀:Frame}{cs:List Frame}{R:Ending→FrameMode→World→Prop}{Q:Exit→Act→List Frame→World→Prop}{op:Op}{ty:TypeId}{pos:String}{af:Array Edge}{d:Nat}{v:Value}{rest:List Nat}{u:FrameMode}
def SL(P:Program)(ops:Array Oper)(Q:Exit→Act→List Frame→World→Prop)(N:Nat)(D:List Deferred)(l:List Nat)(ρ:Env)(cs:List Frame)(w:World):Prop:=∀a,Ag N D ρ a→wpOpsS P ops Q l a cs w
theorem Ha{i:Nat}(ho:ops[i]? =some ⟨some d,op,ty,pos,af,none⟩)(h:Yl P N D ρ w op ty v)(k:SL P ops Q N D rest ((d,v)::ρ) cs w)(hd:d<N:=by decide):SL P ops Q N D (i::rest) ρ cs w:=fun a ha=>by
 simp only[wpOpsS,ho]
 rw[if_pos (by simp[Region.wanted]),h a (some d) pos af none ha]
 exact k _ (ha.put hd)
theorem Dz{i:Nat}{tys:Array TypeId}{pv:Value}{older:List PanicEntry}(ho:ops[i]? =some ⟨some d,.call ⟨.builtin .recover, #[],tys⟩,ty,pos,af,none⟩)(hu:c₀.mode= .panicking ({v:=pv,recovered:=false}::older))
  (k:SL P ops Q N D rest ((d,pv)::ρ) ({c₀ with mode:=.panicking ({v:=pv,recovered:=true}::older)}::cs) w) (hd:d<N:=by decide):SL P ops Q N D (i::rest) ρ (c₀::cs) w:=fun a ha=>by
 have hr:(execOp a.eval ⟨some d,.call ⟨.builtin .recover, #[],tys⟩,ty,pos,af,none⟩).run P w= .ok .recover w:=by
  simp[execOp,resolve,invoke,builtin]
 have h2:recoverD (c₀::cs)=some (pv,{c₀ with mode:=.panicking ({v:=pv,recovered:=true}::older)}::cs):=by simp[recoverD,hu]
 simp only[wpOpsS,ho]
 rw[if_pos (by simp[Region.wanted]),hr]
 simp only[h2]
 exact k _ (ha.put hd)
theorem Bv{i:Nat}{tys:Array TypeId}(ho:ops[i]? =some ⟨some d,.call ⟨.builtin .recover, #[],tys⟩,ty,pos,af,none⟩)(hu:c₀.mode= .returning)
  (k:SL P ops Q N D rest ((d,.nilIface)::ρ) (c₀::cs) w) (hd:d<N:=by decide):SL P ops Q N D (i::rest) ρ (c₀::cs) w:=fun a ha=>by
 have hr:(execOp a.eval ⟨some d,.call ⟨.builtin .recover, #[],tys⟩,ty,pos,af,none⟩).run P w= .ok .recover w:=by
  simp[execOp,resolve,invoke,builtin]
 have h2:recoverD (c₀::cs)=none:=by simp[recoverD,hu]
 simp only[wpOpsS,ho]
 rw[if_pos (by simp[Region.wanted]),hr]
 simp only[h2]
 exact k _ (ha.put hd)
theorem Ex{c:Code}{a:Act}{b:cg}{X S:List bg}{R0:Ending→World→Prop}(m:Mem b X S w)(h:HC P (bodyPost P fn R0) N [] c ρ b X S)(ha:Ag N [] ρ a)(hR:∀e w',R0 e w' →∃v,e= .returned v∧R (.returned v) u w'):c.wpS P (bodyPostS P fn c₀ cs R) a ({c₀ with mode:=u}::cs) w:=by
 refine wpS_of_wp (wp_mono (h w m a ha) ?_)
 intro e a' w' hb
 cases e with
 |normal=>
  obtain⟨h1,v,h2,h3⟩:=hb
  obtain⟨v',hv,h4⟩:=hR _ _ h3
  cases hv
  exact⟨h1,u,rfl,v,h2,h4⟩
 |ret=>
  obtain⟨h1,v,h2,h3⟩:=hb
  obtain⟨v',hv,h4⟩:=hR _ _ h3
  cases hv
  exact⟨h1,u,rfl,v,h2,h4⟩
 |panic c=>
  obtain⟨h1,h2⟩:=hb
  obtain⟨v',hv,h4⟩:=hR _ _ h2
  cases hv
 |outgrown=>
  obtain⟨v',hv,h4⟩:=hR _ _ hb
  cases hv
 |exit id=>exact hb.elim
 |goto l=>exact hb.elim
end
end Go.Eng
end
section
namespace Go.Eng
open Go.RowKit
def q7(ds:List Nat)(a a' :Act):Prop:=a'.defers=a.defers∧a'.tmps.size=a.tmps.size∧∀t:Nat,t∉ds→a'.tmps[t]? =a.tmps[t]?
theorem q7.refl(ds:List Nat)(a:Act):q7 ds a a:=⟨rfl,rfl,fun _ _=>rfl⟩
theorem q7.put{ds:List Nat}{a a' :Act}{d:Nat}{v:Value}(hd:d∈ds)(h:q7 ds a a'):q7 ds (a.put (some d) v) a' :=by
 obtain⟨h1,h2,h3⟩:=h
 refine⟨h1,by rw[h2];simp[Act.put],fun t ht=> ?_⟩
 rw[h3 t ht]
 have hne:d≠t:=fun e=>ht (e▸hd)
 simp only[Act.put]
 rw[Array.getElem?_setIfInBounds_ne hne]
def Ai(ds:List Nat)(Q:Exit→Act→World→Prop):Exit→Act→World→Prop
 | .panic c,a,w=>∀a',q7 ds a a' →Q (.panic c) a' w
 | .outgrown,_,_=>False
 |e,a,w=>Q e a w
section
variable{P:Program}{ops:Array Oper}{Q:Exit→Act→World→Prop}
theorem iK{T:Nat→World→Prop}{X:List Nat}(hs:Region.noSelect ops=true)(hQ:∀(i:Nat) (o:Oper),ops[i]? =some o→∀c a v w,Q (.panic c) (a.put o.dst v) w→Q (.panic c) a w):∀(L:List (Nat×Option Nat)) (sq:List (Option Nat×Oper)) (l:Array Bool) (a:Act) (w:World) (n k:Nat),
  ia ops L=some sq→ep ops X L l=true→L.length≤n→Kept ops l→jg X l=k→T k w→fj P ops Q T k sq a w→B7 P ops Q (fun l w=>T (jg X l) w) n l a w
 | [],sq,l,a,w,n,k,hp,hk,_,_,_,_,h=>by
  simp only[ia,Option.some.injEq]at hp
  subst hp
  have hr:Region.ready .any ops l=[]:=by simpa[ep]using hk
  cases n with
  |zero=>exact⟨hr,h⟩
  |succ n=>exact⟨fun _=>h,by rw[hr];simp⟩
 |(i,x)::r,sq,l,a,w,0,k,hp,hk,hf,_,_,_,h=>by simp at hf
 |(i,x)::r,sq,l,a,w,n+1,k,hp,hk,hf,hK,hc,hT,h=>by
  unfold ia at hp
  split at hp
  ·rename_i o l' ho hl'
   cases hp
   have hf' :r.length≤n:=by simp at hf;omega
   cases x with
   |none=>
    simp only[ep,Bool.and_eq_true,beq_iff_eq]at hk
    obtain⟨⟨hrd,hct⟩,hk⟩:=hk
    have hmem:i∈Region.ready .any ops l:=by rw[hrd];simp
    have hcs:jg X (l.setIfInBounds i true)=k+1:=by rw[rV (mem_ready.1 hmem).1,hct,hc]
    have hK' :=hK.set hmem
    refine⟨fun h0=>(by rw[h0]at hmem;cases hmem),fun j hj=> ?_⟩
    have hji:j=i:=by rw[hrd]at hj;simpa using hj
    subst hji
    unfold wpOp
    simp only[ho]
    simp only[fj]at h
    split at h
    ·rename_i hw
     rw[if_pos hw]
     refine .inl (Oper.wp_mono ?_ h)
     rintro a' w' ⟨hS',h'⟩
     exact⟨by rw[hcs];exact hS',iK hs hQ r l' _ a' w' n (k+1) hl' hk hf' hK' hcs hS' h'⟩
    ·rename_i hw
     rw[if_neg hw]
     exact⟨by rw[hcs];exact h.1,iK hs hQ r l' _ _ w n (k+1) hl' hk hf' hK' hcs h.1 h.2⟩
   |some m=>
    simp only[ep,Bool.and_eq_true,Bool.not_eq_true']at hk
    obtain⟨⟨⟨⟨hfree,hcon⟩,hX⟩,hcap⟩,hk⟩:=hk
    obtain⟨v,hy,h'⟩:=h
    have hmem:i∈Region.ready .any ops l:=by simpa using hcon
    have hcs:jg X (l.setIfInBounds i true)=k:=by rw[nr hX,hc]
    refine mQ ho (Region.noSelect_spec hs) (fun c a w=>hQ i o ho c a _ w) (fun l' =>Kept ops l' ∧∀q,l.getD q false=true→l'.getD q false=true) (fun l' j hR hj=>⟨hR.1.set hj,fun q hq=>getD_set_true (hR.2 q hq)⟩)
     (fun l' w' =>by rw[nr hX]) n l a w (Region.free_spec ho hfree) hmem ?_ ⟨hK,fun q hq=>hq⟩ (by rw[hc];exact hT) (iK hs hQ r l' _ _ w n k hl' hk hf' (hK.set hmem) hcs hT h')
    rcases hy with⟨hw,hv⟩|hy
    ·refine .inl ⟨hw,fun w' hw' =>hv w' ?_⟩
     obtain⟨l2,⟨hK2,j7⟩,hun,hT2⟩:=hw'
     exact⟨jg X l2,by rw[←hc];exact pG j7,r9 hK2 hun hcap,hT2⟩
    ·exact .inr hy
  ·cases hp
theorem pc{T:Nat→World→Prop}{X ds:List Nat}{id:Nat}{a:Act}{w:World}{sq:List (Option Nat×Oper)}(L:List (Nat×Option Nat))(hds:ops.all (fun o=>match o.dst with|some d=>ds.contains d|none=>true)=true)(hm:P.follows .mixedOrders=true)(hs:Region.noSelect ops=true)(hk:ep ops X L (Array.replicate ops.size false)=true)(hn:L.length≤ops.size)
  (hp:ia ops L=some sq) (hT:T 0 w.drew) (h:fj P ops (Ai ds Q) T 0 sq a w.drew):(Code.region id ops true).wp P Q a w:=by
 refine Code.wp_mono (Q:=Ai ds Q) (fun e a w q=>by cases e <;> first|exact q|exact q.elim|exact q a (.refl _ _)) ?_
 refine wp_region_any hm (eL _ _ _ _ (iK (X:=X) hs (fun i o ho c a v w q a' ha' => ?_) L sq _ a _ _ 0 hp hk hn ?_ ?_ hT h))
 ·have hmem:o∈ops:=by
   obtain⟨hi,he⟩:=Array.getElem?_eq_some_iff.1 ho
   exact he▸Array.getElem_mem hi
  have:=Array.all_eq_true_iff_forall_mem.1 hds o hmem
  cases hd:o.dst with
  |none=>rw[hd]at q;exact q a' ha'
  |some d=>
   rw[hd]at this q
   exact q a' (ha'.put (by simpa using this))
 ·intro j hj
  simp[Array.getElem?_replicate]at hj
  split at hj <;> cases hj
 ·unfold jg
  rw[List.countP_eq_zero]
  intro x _
  simp[Array.getElem?_replicate]
  split <;> rfl
end
def BB(ds:List Nat)(ρ:Env):Env:=ρ.filter fun p=> !ds.contains p.1
theorem pS{ds:List Nat}:∀{ρ:Env} {t:Nat} {v:Value},get (BB ds ρ) t=some v→t∉ds∧get ρ t=some v
 | [],t,v,h=>by simp[BB,get]at h
 |(t0,v0)::ρ,t,v,h=>by
  unfold BB at h
  rw[List.filter_cons]at h
  by_cases hc:ds.contains t0=true
  ·rw[if_neg (by simpa using hc)]at h
   obtain⟨h1,h2⟩:=pS (ρ:=ρ) h
   refine⟨h1, ?_⟩
   have hne:t0≠t:=fun e=>h1 (by rw[←e];simpa using hc)
   simp only[get]
   have hbf:Nat.beq t0 t=false:=by
    cases hb:Nat.beq t0 t with
    |true=>exact absurd (Nat.eq_of_beq_eq_true hb) hne
    |false=>rfl
   rw[hbf]
   exact h2
  ·rw[if_pos (by simpa using hc)]at h
   simp only[get]at h ⊢
   cases hb:Nat.beq t0 t with
   |true=>
    rw[hb]at h
    have:t0=t:=Nat.eq_of_beq_eq_true hb
    subst this
    exact⟨by simpa using hc,h⟩
   |false=>
    rw[hb]at h
    exact pS (ρ:=ρ) h
section
variable{P:Program}{ops:Array Oper}{Q:Exit→Act→World→Prop}{N:Nat}{D:List Deferred}{ρ ρ' :Env}{b:cg}{X X' X0 Xr S S' S0 X1 S1:List bg}{k c:Nat}{ds:List Nat}
theorem y8{id:Nat}{l:List (Option Nat×Oper)}(ds:List Nat)(is js:List Nat)(hX:bN is X=some (X1,Xr))(hS:dh js S=some S1)(Xs:List Nat)(L:List (Nat×Option Nat))(hm:P.follows .mixedOrders=true)
  (hk:(Region.noSelect ops && ep ops Xs L (Array.replicate ops.size false) && decide (L.length≤ops.size))=true) (hds:ops.all (fun o=>match o.dst with|some d=>ds.contains d|none=>true)=true)
  (hp:ia ops L=some l) (c:Nat) (h:HT P ops (Ai ds Q) (TT b X1 S1 c) N D 0 l ρ b X S):HC P Q N D (.region id ops true) ρ b X S:=fun w m a ha=>by
 simp only[Bool.and_eq_true,decide_eq_true_eq]at hk
 exact pc (X:=Xs) L hds hm hk.1.1 hk.1.2 hk.2 hp (fun _=>(wk is js hX hS).mem (m.lift (Fr.drew w))) (h _ (m.lift (Fr.drew w)) a ha)
theorem yB{T:Nat→World→Prop}(h:HQ Q N D .normal ρ b X S):HT P ops (Ai ds Q) T N D k [] ρ b X S:=fun w m a ha=>h w m a ha
theorem C1{e:List PanicEntry}(h:HQ Q N D (.panic e) (BB ds ρ) b X S):HQ (Ai ds Q) N D (.panic e) ρ b X S:=fun w m a ha a' hag=>by
 obtain⟨h1,h2,h3⟩:=hag
 refine h w m a' ⟨by rw[h2];exact ha.sz,by rw[h1];exact ha.df,fun t v ht=> ?_⟩
 obtain⟨h4,h5⟩:=pS ht
 rw[h3 t h4]
 exact ha.gt t v h5
end
section
variable{P:Program}{ops:Array Oper}{fn:Func}{Q:Exit→Act→List Frame→World→Prop}{N:Nat}{D:List Deferred}{ρ:Env}{b:cg}{X X' S S' :List bg}{cs:List Frame}{c₀:Frame}{rest:List Nat}{op:Op}{ty:TypeId}{pos:String}{af:Array Edge}{d i:Nat}{v:Value}
def uv(P:Program)(ops:Array Oper)(Q:Exit→Act→List Frame→World→Prop)(N:Nat)(D:List Deferred)(l:List Nat)(ρ:Env)(cs:List Frame)(b:cg)(X S:List bg):Prop:=∀w,Mem b X S w→SL P ops Q N D l ρ cs w
theorem oz{o:Oper}{a:Act}{w:World}(ho:ops[i]? =some o)(hw:Region.wanted o (yielded ops a.tmps)=true)(h:o.wp P a w (fun a' w' =>wpOpsS P ops Q rest a' cs w') (fun e a' w' =>Q e a' cs w')):wpOpsS P ops Q (i::rest) a cs w:=by
 simp only[wpOpsS,ho]
 rw[if_pos hw]
 unfold Oper.wp at h
 split
 ·rename_i w' hr
  rw[hr]at h
  exact h.elim
 ·exact h
theorem ln(ho:ops[i]? =some ⟨some d,op,ty,pos,af,none⟩)(h:∀{w},Mem b X S w→Yl P N D ρ w op ty v)(k:uv P ops Q N D rest ((d,v)::ρ) cs b X S)(hd:d<N:=by decide):uv P ops Q N D (i::rest) ρ cs b X S:=fun w m=>Ha ho (h m) (k w m) hd
theorem De(ho:ops[i]? =some ⟨some d,op,ty,pos,af,none⟩)(h:XH P (fun e a w=>Q e a cs w) N D ρ b X S op ty fun v X' S' =>uv P ops Q N D rest ((d,v)::ρ) cs b X' S')(hd:d<N:=by decide):uv P ops Q N D (i::rest) ρ cs b X S:=fun w m a ha=>by
 refine oz ho (by simp[Region.wanted]) (Oper.wp_mono ?_ (h w m a (some d) pos af none ha))
 rintro a' w' ⟨v,rfl,X',S',m',hk⟩
 exact hk w' m' _ (ha.put hd)
theorem yL(ho:ops[i]? =some ⟨none,op,ty,pos,af,none⟩)(h:XH P (fun e a w=>Q e a cs w) N D ρ b X S op ty fun _ X' S' =>uv P ops Q N D rest ρ cs b X' S'):uv P ops Q N D (i::rest) ρ cs b X S:=fun w m a ha=>by
 refine oz ho (by simp[Region.wanted]) (Oper.wp_mono ?_ (h w m a none pos af none ha))
 rintro a' w' ⟨v,rfl,X',S',m',hk⟩
 exact hk w' m' _ ha
theorem BJ{tys:Array TypeId}{pv:Value}{older:List PanicEntry}(ho:ops[i]? =some ⟨some d,.call ⟨.builtin .recover, #[],tys⟩,ty,pos,af,none⟩)(hu:c₀.mode= .panicking ({v:=pv,recovered:=false}::older))
  (k:uv P ops Q N D rest ((d,pv)::ρ) ({c₀ with mode:=.panicking ({v:=pv,recovered:=true}::older)}::cs) b X S) (hd:d<N:=by decide):uv P ops Q N D (i::rest) ρ (c₀::cs) b X S:=fun w m=>Dz ho hu (k w m) hd
theorem zI{tys:Array TypeId}(ho:ops[i]? =some ⟨some d,.call ⟨.builtin .recover, #[],tys⟩,ty,pos,af,none⟩)(hu:c₀.mode= .returning)(k:uv P ops Q N D rest ((d,.nilIface)::ρ) ({c₀ with mode:=.returning}::cs) b X S)(hd:d<N:=by decide):uv P ops Q N D (i::rest) ρ (c₀::cs) b X S:=fun w m=>
 Bv ho hu (by have:=k w m;rwa [show({c₀ with mode:=FrameMode.returning}:Frame)=c₀ by cases c₀;simp_all]at this) hd
theorem DH{l:List Nat}(h:∀w,Mem b X S w→Mem b X' S' w)(k:uv P ops Q N D l ρ cs b X' S'):uv P ops Q N D l ρ cs b X S:=fun w m=>k w (h w m)
def Ie(b:cg)(R:FrameMode→List bg→List bg→Prop):Ending→FrameMode→World→Prop:=fun e u' w' =>e= .returned (.tuple #[])∧∃X' S',R (settle u') X' S' ∧Mem b X' S' w'
def QD(P:Program)(fn:Func)(c₀:Frame)(cs:List Frame)(b:cg)(R:FrameMode→List bg→List bg→Prop)(c2:Code):Exit→Act→List Frame→World→Prop:=Exit.thenS (fun a cs' w=>c2.wpS P (bodyPostS P fn c₀ cs (Ie b R)) a cs' w) (bodyPostS P fn c₀ cs (Ie b R))
theorem sO{R:FrameMode→List bg→List bg→Prop}{c2:Code}{u2:FrameMode}(h:HC P (bodyPost P fn (RB b fun v X S=>v= .tuple #[]∧R (settle u2) X S)) N [] c2 ρ b X S):uv P ops (QD P fn c₀ cs b R c2) N [] [] ρ ({c₀ with mode:=u2}::cs) b X S:=fun w m a ha=>by
 refine Ex m h ha ?_
 rintro e w' ⟨v,X',S',rfl,⟨rfl,hR⟩,m'⟩
 exact⟨_,rfl,rfl,X',S',hR,m'⟩
end
theorem vC{P:Program}{f:Nat}{fn:Func}{id:Nat}{ops:Array Oper}{c2:Code}{vs:List Value}{u:FrameMode}{N:Nat}{X0 S0:List bg}{R:FrameMode→List bg→List bg→Prop}(hf:P.funcs[f]? =some fn)(hb:fn.body=some (.seq (.region id ops false) c2))(hN:fn.ntmps=N)(hl:vs.length≤N)
  (h:∀(b:cg) (c₀:Frame) (cs:List Frame),c₀.mode=u→uv P ops (QD P fn c₀ cs b R c2) N [] (List.range ops.size) (fI vs 0) (c₀::cs) b X0 S0):BR P f vs u X0 S0 R:=fun w m=>by
 refine callsD_of_wpS hf hb fun c₀ cs hu=> ?_
 refine wpS_seq (wpS_region ?_)
 refine h _ c₀ cs hu w m _ ⟨?_,rfl,fun t v ht=> ?_⟩
 ·simp[hN];omega
 ·obtain⟨_,h2⟩:=gE vs 0 t v ht
  have hlt:=(List.getElem?_eq_some_iff.1 h2).1
  rw[Array.getElem?_append_left (by simpa using hlt)]
  simpa using h2
section
variable{P:Program}{Q:Exit→Act→World→Prop}{N:Nat}{D:List Deferred}{ρ:Env}{b:cg}{X S:List bg}{ty t:TypeId}{x:Operand}{v:Value}{K:Value→List bg→List bg→Prop}
theorem zc(hx:ev ρ x=some (.iface t v))(h:HQ Q N D (.panic (Ge (.iface t v))) ρ b X S):XH P Q N D ρ b X S (.panic x) ty K:=fun w m a dst pos af g ha=>by
 unfold Oper.wp
 have:(execOp a.eval ⟨dst,.panic x,ty,pos,af,g⟩).run P w= .halt (.panic (.iface t v)) w:=by
  simp[execOp,ha.eval hx,Instr.panic,goPanic]
 rw[this]
 exact h w m a ha
theorem AF{fs:Array Field}{xT:TypeId}{w:World}(ht:P.underlying t=some (.struct fs)):(Instr.typeAssert (.iface t v) xT t true).run P w= .ok (.tuple #[v,.bool true]) w:=by
 simp[Instr.typeAssert,run_underlying ht]
theorem AK{fs:Array Field}{xT:TypeId}{w:World}{z:Value}{sz bytes:Nat}(ht:P.underlying t=some (.struct fs))(hT:TI P t z sz bytes):(Instr.typeAssert .nilIface xT t true).run P w= .ok (.tuple #[z,.bool false]) w:=by
 simp[Instr.typeAssert,run_underlying ht,qd hT]
end
section
variable{P:Program}{fn:Func}{R:Value→List bg→List bg→Prop}{N:Nat}{ρ:Env}{b:cg}{X X' Xz S S' :List bg}{w:World}
theorem qy{t:TypeId}{p:Addr}{v:Value}(ha:c5 P t=some false)(hc:w.cell? p=some v):(loadVar t p).run P w= .ok v w:=by
 simp[loadVar,jy ha,hc]
theorem gT{t t' :Nat}{ty ty' :TypeId}{p p' :Addr}{v v' :Value}(hr:fn.results= #[.cell t ty,.cell t' ty'])(hv:get ρ t=some (.pointer (some p)))(hv' :get ρ t' =some (.pointer (some p')))(ha:c5 P ty=some false)(ha' :c5 P ty' =some false)
  (hc:∀{w},Mem b X S w→w.cell? p=some v) (hc' :∀{w},Mem b X S w→w.cell? p' =some v') (is:List Nat) (hX:bN is X=some (X',Xz)) (js:List Nat) (hS:dh js S=some S') (hR:R (.tuple #[v,v']) X' S'):EZ P fn b R N [] ρ X S .returning:=fun w m tmps h=>
 ⟨.tuple #[v,v'],by have h1:=qG h hv;have h2:=qG h hv';simp at h1 h2;simp[results,hr,h1,h2,asAddr,qy ha (hc m),qy ha' (hc' m)],_,_,_,rfl,hR,m.out is hX js hS⟩
theorem zP{e:Exit}{t1 t2 t3 t4:Nat}{v1 v2 v3 v4:Value}(he:Leaves e)(hr:fn.results= #[.tmp t1,.tmp t2,.tmp t3,.tmp t4])(h1:get ρ t1=some v1)(h2:get ρ t2=some v2)(h3:get ρ t3=some v3)(h4:get ρ t4=some v4)(is:List Nat)(hX:bN is X=some (X',Xz))(js:List Nat)(hS:dh js S=some S')(hR:R (.tuple #[v1,v2,v3,v4]) X' S'):HQ (bodyPost P fn (RB b R)) N [] e ρ b X S:=
 fun w m=>iA he (fun a hA=>by have g1:=hA.getD h1;have g2:=hA.getD h2;have g3:=hA.getD h3;have g4:=hA.getD h4;simp at g1 g2 g3 g4;simp[results,hr,g1,g2,g3,g4]) ⟨_,_,_,rfl,hR,m.out is hX js hS⟩
theorem pH{u:FrameMode}{D:List Deferred}(h:∀w,Mem b X S w→Mem b X' S' w)(k:EZ P fn b R N D ρ X' S' u):EZ P fn b R N D ρ X S u:=fun w m=>k w (h w m)
end
end Go.Eng
end
section
namespace Go.Eng
open Go.RowKit
section
variable{P:Program}{Q:Exit→Act→World→Prop}{N:Nat}{D:List Deferred}{c:Code}{ρ:Env}{b:cg}{X S:List bg}
theorem uB{α β:Type}(R:α→β→Env)(X1 S1:α→β→List bg)(I:α→β→Prop)(ρk:Env)(hk:eb ρk ρ)(is:List Nat){Xt Xr:List bg}(hX:bN is X=some (Xt,Xr))
  (h:HC P (xe N D (fun i:α×β=>R i.1 i.2++ρk) fun i w=>Mem b (X1 i.1 i.2++Xr) (S1 i.1 i.2++S) w∧I i.1 i.2) N D c ρ b X S) (k:∀x y,I x y→HQ Q N D .normal (R x y++ρk) b (X1 x y++Xr) (S1 x y++S)):HC P Q N D c ρ b X S:=
 vq (fun i:α×β=>R i.1 i.2++ρk) (fun i=>X1 i.1 i.2++Xr) (fun i=>S1 i.1 i.2++S) (fun i=>I i.1 i.2) h fun i hi=>k (i.1) (i.2) hi
theorem fC{α β:Type}{R:α→β→Env}{X1 S1:α→β→List bg}{I:α→β→Prop}{ρ0:Env}{Xr Sr:List bg}(x:α)(y:β)(hs:eb (R x y++ρ0) ρ)(is:List Nat){Xz:List bg}(hX:bN is X=some (X1 x y++Xr,Xz))(js:List Nat)(hS:dh js S=some (S1 x y++Sr))(hI:I x y):
  HQ (xe N D (fun i:α×β=>R i.1 i.2++ρ0) fun i w=>Mem b (X1 i.1 i.2++Xr) (S1 i.1 i.2++Sr) w∧I i.1 i.2) N D .normal ρ b X S:=
 G0 (i:=(x,y)) hs is hX js hS hI
end
end Go.Eng
end
section
namespace Go.Eng
open Go.RowKit
open Go.ChangeMaps (setBlock)
section
variable{b:cg}{X S Xp Xq:List bg}{w:World}{r:bg}
theorem Mem.mF(m:Mem b (eD Xp::X) S w)(h:Xp.Perm Xq):Mem b (eD Xq::X) S w:=((m.unpack).perm (h.append_right X)).pack
theorem Mem.ta(m:Mem b (eD Xp::X) S w)(i:Nat)(h:Xp[i]? =some r):Mem b (r::eD (Xp.eraseIdx i)::X) S w:=by
 obtain⟨hlt,rfl⟩:=List.getElem?_eq_some_iff.1 h
 have m1:=(m.mF (gv Xp i hlt).symm).unpack
 rw[List.cons_append]at m1
 have m2:Mem b (Xp.eraseIdx i++(Xp[i]::X)) S w:=m1.perm (List.perm_middle.symm)
 exact(m2.pack).perm (List.Perm.swap ..)
theorem Mem.rZ(m:Mem b (r::eD Xp::X) S w):Mem b (eD (r::Xp)::X) S w:=by
 have m1:Mem b (eD Xp::r::X) S w:=m.perm (List.Perm.swap ..)
 have m2:=m1.unpack
 have m3:Mem b ((r::Xp)++X) S w:=m2.perm (List.perm_middle)
 exact m3.pack
theorem Mem.CA(m:Mem b X S w):Mem b (eD []::X) S w:=Mem.pack (Xp:=[]) m
end
abbrev Bn(n:Nat):={l:List UInt8//l.length=n}
def KN{n:Nat}(d:Bn n):Value:=DV d.1
theorem zU{P:Program}{kt e:TypeId}{n:Nat}(ht:P.underlying kt=some (.array n e))(he:P.underlying e=some (.int .u8))(hs:P.cellsOf kt=n)(hse:P.cellsOf e=1)(hk:P.keyTypeAt 2 kt=true):oD P kt (KN (n:=n))where
 inj a b h:=Subtype.ext (sA h)
 check w em d:=by
  have h1:(KN d).formed P kt=true:=by simp[Value.formed,KN,DV,ht,aA,d.2,hs]
  have h2:=fk (P:=P) (D:=0) (l:=d.1) ht he hs hse d.2
  exact run_checkKey_deep em 9998 2 kt hk w 2 (KN d) _ h1 (by simpa[KN,DV,Value.cells]using h2)
 find w k es h:=by
  have hag:c5 P kt=some true:=by simp[c5,ht]
  have heq:∀q:Bn n,(Op.equal kt (KN k) (KN q)).run P w= .ok (decide (k=q)) w:=fun q=>by
   have h2:=fk (P:=P) (D:=0) (l:=k.1) ht he hs hse k.2
   have h3:=fk (P:=P) (D:=0) (l:=q.1) ht he hs hse q.2
   exact lW (m:=2) (p:=k=q) (by decide) hk hag (by rw[aA,hs];exact k.2) (by rw[aA,hs];exact q.2) h2 h3 (by rw[iI];exact⟨fun e=>Subtype.ext e,fun e=>by rw[e]⟩)
  have hnow:∀(es:List MapEntry) (i:Nat),es≠ []→Instr.findNow (.array n e) (KN k) es i=none:=fun es i hne=>by
   cases es with
   |nil=>exact absurd rfl hne
   |cons x r=>rfl
  have hask:∀(es:List MapEntry) (i:Nat),(∀x∈es,∃q:Bn n,x.key=KN q)→(∃j x,es[j]? =some x∧x.key=KN k∧(Instr.findAsking kt (KN k) es i).run P w= .ok (some (i+j,x.val)) w)∨((∀x∈es,x.key≠KN k)∧(Instr.findAsking kt (KN k) es i).run P w= .ok none w):=by
   intro es
   induction es with
   |nil=>intro i _;exact .inr ⟨by simp,rfl⟩
   |cons x r ih=>
    intro i h
    obtain⟨q,hq⟩:=h x (by simp)
    have hx:=heq q
    rw[←hq]at hx
    by_cases hkq:k=q
    ·rw[decide_eq_true hkq]at hx
     exact .inl ⟨0,x,rfl,by rw[hq,hkq],by simp[Instr.findAsking,hx]⟩
    ·rw[decide_eq_false hkq]at hx
     rcases ih (i+1) (fun y hy=>h y (by simp[hy]))with⟨j,y,hj,hy,hf⟩|⟨hall,hf⟩
     ·refine .inl ⟨j+1,y,by simpa using hj,hy, ?_⟩
      simp[Instr.findAsking,hx,hf]
      omega
     ·refine .inr ⟨fun y hy=> ?_,by simp[Instr.findAsking,hx,hf]⟩
      rcases List.mem_cons.1 hy with rfl|hy
      ·rw[hq];exact fun e=>hkq (Subtype.ext (sA e)).symm
      ·exact hall y hy
  cases es with
  |nil=>exact .inr ⟨by simp,by simp[Instr.findKey,run_underlying ht,Instr.findNow]⟩
  |cons x r=>
   have h0:=hnow (x::r) 0 (by simp)
   rcases hask (x::r) 0 h with⟨j,y,hj,hy,hf⟩|⟨hall,hf⟩
   ·refine .inl ⟨j,y,hj,hy, ?_⟩
    simp[Instr.findKey,run_underlying ht,h0,hf]
   ·exact .inr ⟨hall,by simp[Instr.findKey,run_underlying ht,h0,hf]⟩
 stays w k:=by
  have:Instr.sameBits 10000 (KN k) (KN k)=true:=by
   show((aT k.1).toArray.size == (aT k.1).toArray.size && ((aT k.1).toArray.toList.zip (aT k.1).toArray.toList).all fun(x,y)=>Instr.sameBits 9999 x y)=true
   simp only[beq_self_eq_true,Bool.true_and]
   exact pr 9999 k.1
  simp[Instr.keyThatStays,this]
section
variable{κ:Type}[DecidableEq κ]{enc:κ→Value}
def wW(enc:κ→Value)(w:World)(b:Nat)(l:List (κ×Value))(k:κ)(st:Nat):Prop:=
 ∃es clock,w.heap[b]? =some (.map es clock)∧es.toList.map (fun e=>(e.key,e.val))=l.map (fun p=>(enc p.1,p.2))∧(cT l).Nodup∧(∀e∈es.toList,e.born<clock)∧(es.toList.map (·.born)).Nodup∧∃(i:Nat) (x:MapEntry) (u:Value),es.toList[i]? =some x∧x.born=st∧l[i]? =some (k,u)
def AZ(enc:κ→Value)(b:Nat)(l:List (κ×Value))(k:κ)(st:Nat):bg where
 db i:=i=b
 holds w:=wW enc w b l k st
 gV f h m:=by
  obtain⟨es,clock,hb,rest⟩:=m
  exact⟨es,clock,(f.block b (cV hb) (h b rfl)).trans hb,rest⟩
 low m hk:=by
  obtain⟨es,clock,hb,rest⟩:=m
  exact hk▸cV hb
theorem qq{l:List (κ×Value)}{k:κ}{u v:Value}:cC (cC l k u) k v=cC l k v:=by
 induction l with
 |nil=>simp[cC]
 |cons p r ih=>
  obtain⟨q,x⟩:=p
  by_cases h:q=k
  ·simp[cC,h]
  ·simp[cC,h,ih]
theorem uY{P:Program}{w:World}{t kt et:TypeId}{b:Nat}{l:List (κ×Value)}{z:Value}{sz bytes:Nat}(ht:P.underlying t=some (.map kt et))(hT:TI P et z sz bytes)(K:oD P kt enc)(h:gI enc w b l)(k:κ):
  ∃(st:Nat) (w' :World),(Instr.mapEntry t (.map (some b)) (enc k)).run P w= .ok (.tuple #[(bF l k).getD z,.int .i64 (st:Nat)]) w' ∧wW enc w' b (cC l k ((bF l k).getD z)) k st∧Fr (fun i=>i=b) w w' :=by
 have hn:=h.keys
 obtain⟨es,clock,hb,hl,hborn,hnb,hf⟩:=h.found K k
 have hg:(getObj b).run P w= .ok (.map es clock) w:=by simp[getObj,Sem.run,hb]
 have hc:=K.check w false k
 rcases hf with⟨i,x,hi,hp,ha,hx,hf⟩|⟨ha,hf⟩
 ·have hst:=K.stays w k
  have hxi:es[i]? =some x:=by simpa using hi
  have hsame:es.modify i (fun e=>{e with key:=enc k})=es:=by
   apply Array.ext'
   apply List.ext_getElem?
   intro j
   rw[Array.toList_modify,List.getElem?_modify]
   by_cases hij:i=j
   ·subst hij
    rw[hi]
    show some (if i=i then({x with key:=enc k}:MapEntry)else x)=some x
    rw[if_pos rfl,←hx]
   ·simp[hij]
  refine⟨x.born,setBlock w b (.map es clock), ?_,⟨es,clock,dV hb, ?_,fT hn,hborn,hnb,i,x,x.val,hi,rfl, ?_⟩,dP⟩
  ·rw[ha]
   simp[Instr.mapEntry,run_underlying ht,hg,hc,hf,hxi,hx,hst,hsame,ey hb,goInt]
  ·rw[ha,o3 hn hp,hl]
   congr 1
   apply List.ext_getElem?
   intro j
   rw[List.getElem?_set]
   by_cases hij:i=j
   ·subst hij
    rw[if_pos rfl,if_pos (List.getElem?_eq_some_iff.1 hp).1,hp]
    rfl
   ·rw[if_neg hij]
  ·rw[ha,o3 hn hp,List.getElem?_set,if_pos rfl,if_pos (List.getElem?_eq_some_iff.1 hp).1]
   rfl
 ·have hlen:es.toList.length=l.length:=by have:=congrArg List.length hl;simpa using this
  refine⟨clock,setBlock w b (.map (es.push {key:=enc k,val:=z,born:=clock}) (clock+1)), ?_,⟨_,_,dV hb, ?_,fT hn, ?_, ?_,es.toList.length,{key:=enc k,val:=z,born:=clock},z,by simp,rfl, ?_⟩,dP⟩
  ·rw[ha]
   simp[Instr.mapEntry,run_underlying ht,hg,hc,hf,qd hT,ey hb,goInt]
  ·rw[ha,py ha,Array.toList_push,List.map_append,hl]
   simp
  ·intro e he
   rw[Array.toList_push]at he
   rcases List.mem_append.1 he with he|he
   ·have:=hborn e he;omega
   ·rcases List.mem_singleton.1 he with rfl
    exact Nat.lt_succ_self _
  ·rw[Array.toList_push,List.map_append]
   refine lA hnb (fun hm=> ?_)
   obtain⟨e,he,hk⟩:=List.mem_map.1 hm
   have:=hborn e he
   simp only at hk
   omega
  ·rw[ha,py ha,hlen]
   simp
theorem uo{P:Program}{w:World}{t:TypeId}{b:Nat}{l:List (κ×Value)}{k:κ}{st:Nat}(h:wW enc w b l k st)(v:Value):
  ∃w',(Instr.entryStore t (.map (some b)) (.int .i64 (st:Nat)) v).run P w= .ok () w' ∧gI enc w' b (cC l k v)∧Fr (fun i=>i=b) w w' :=by
 obtain⟨es,clock,hb,hl,hn,hborn,hnb,i,x,u,hi,rfl,hp⟩:=h
 have hg:(getObj b).run P w= .ok (.map es clock) w:=by simp[getObj,Sem.run,hb]
 have hidx:es.findIdx? (fun e=>((e.born:Nat):Int) == ((x.born:Nat):Int))=some i:=by
  rw[WideElems.findIdx_arr]
  exact WideElems.findIdx_born hnb hi
 refine⟨setBlock w b (.map (es.modify i fun e=>{e with val:=v}) clock), ?_,⟨_,clock,dV hb, ?_,fT hn, ?_, ?_⟩,dP⟩
 ·simp[Instr.entryStore,hg,asInt,asIntOf,hidx,ey hb]
 ·rw[o3 hn hp,Array.toList_modify]
  apply List.ext_getElem?
  intro j
  have hj:=congrArg (fun q:List (Value×Value)=>q[j]?) hl
  simp only[List.getElem?_map]at hj
  simp only[List.getElem?_map,List.getElem?_modify,List.getElem?_set]
  by_cases hij:i=j
  ·subst hij
   have hlt:=(List.getElem?_eq_some_iff.1 hp).1
   rw[hi,hp]at hj
   simp only[Option.map_some,Option.some.injEq,Prod.mk.injEq]at hj
   simp[hi,hlt,hj.1]
  ·simp only[hij,if_false]
   simpa using hj
 ·intro e he
  rw[Array.toList_modify]at he
  obtain⟨j,hj⟩:=List.mem_iff_getElem?.1 he
  rw[List.getElem?_modify]at hj
  cases hej:es.toList[j]? with
  |none=>rw[hej]at hj;simp at hj
  |some e0=>
   have:=hborn e0 (List.mem_of_getElem? hej)
   rw[hej]at hj
   simp only[Option.map_eq_map,Option.map_some,Option.some.injEq]at hj
   subst hj
   split <;> exact this
 ·have:(es.modify i fun e=>{e with val:=v}).toList.map (·.born)=es.toList.map (·.born):=by
   apply List.ext_getElem?
   intro j
   rw[Array.toList_modify]
   simp only[List.getElem?_map,List.getElem?_modify]
   cases es.toList[j]? with
   |none=>rfl
   |some e0=>simp only[Option.map_eq_map,Option.map_some];split <;> rfl
  rw[this]
  exact hnb
section
variable{P:Program}{Q:Exit→Act→World→Prop}{N:Nat}{D:List Deferred}{ρ:Env}{b:cg}{X S:List bg}{ty t kt et:TypeId}{x y q:Operand}{K:Value→List bg→List bg→Prop}{g:Nat}{l:List (κ×Value)}
theorem ze{k:κ}{z:Value}{sz bytes:Nat}(i:Nat)(hi:X[i]? =some (dC enc g l))(hx:ev ρ x=some (.map (some g)))(hy:ev ρ y=some (enc k))(ht:P.underlying t=some (.map kt et))(hT:TI P et z sz bytes)(hK:oD P kt enc)
  (kk:∀st:Nat,K (.tuple #[(bF l k).getD z,.int .i64 (st:Nat)]) (AZ enc g (cC l k ((bF l k).getD z)) k st::X.eraseIdx i) S):XH P Q N D ρ b X S (.mapEntry t x y) ty K:=fun w m=>by
 obtain⟨st,w',hrun,hE,hf⟩:=uY ht hT hK (m.mr i hi) k
 refine cZ (v' :=.tuple #[(bF l k).getD z,.int .i64 (st:Nat)]) (w' :=w') (fun a _ _ _ _ ha=>by simp[execOp,ha.eval hx,ha.eval hy,hrun]) ⟨_,_, ?_,kk st⟩
 have m' :=m.perm (ao [i] X [dC enc g l] (X.eraseIdx i) (by simp[bN,hi]))
 exact m'.change (r' :=AZ enc g (cC l k ((bF l k).getD z)) k st) hf hE (fun k hk=>.inl hk)
theorem qx{k:κ}{st:Nat}{v:Value}(i:Nat)(hi:X[i]? =some (AZ enc g l k st))(hx:ev ρ x=some (.map (some g)))(hy:ev ρ y=some (.int .i64 (st:Nat)))(hq:ev ρ q=some v)
  (kk:K undef (dC enc g (cC l k v)::X.eraseIdx i) S):XH P Q N D ρ b X S (.entryStore t x y q) ty K:=fun w m=>by
 have hE:wW enc w g l k st:=m.hx _ (List.mem_of_getElem? hi)
 obtain⟨w',hrun,hM,hf⟩:=uo (P:=P) (t:=t) hE v
 refine jK (w' :=w') (fun a _ _ _ _ ha=>by simp[execOp,ha.eval hx,ha.eval hy,ha.eval hq,hrun]) ⟨_,_, ?_,kk⟩
 have m' :=m.perm (ao [i] X [AZ enc g l k st] (X.eraseIdx i) (by simp[bN,hi]))
 exact m'.change (r' :=dC enc g (cC l k v)) hf hM (fun k hk=>.inl hk)
end
end
end Go.Eng
end
section
set_option maxRecDepth 20000
set_option maxHeartbeats 2000000
namespace Go.Proofs.YtmibdabdlgmafaaGreatDoor
open Go.Eng Go.Hx
theorem C0{A:Option Addr}{n c i k:Nat}{l:List UInt8}(hn:n≤1000000000)(hl:l.length=n)(hi:i≤n)(hk:k≤i):cf Tryz.prog 272 [.slice A n c,.int .i64 (i:Nat),.int .i64 (k:Nat)] [] [cz 1 A n (aT l)] (fun v_ X_ S_=>v_=(.int .i64 (lv l i k:Nat))∧X_=[]∧S_=[]):=by
 refine aK (N:=36) Tryz.func272 rfl rfl (by simp) fun b=> ?_
 refine aQ (fun m=>ek (m.rd 0 rfl)) ?_
 rintro⟨hl_r,hA_r⟩
 refine ae<|ah<|aG rfl<|ag<|aa<|ae<|ah<|aG rfl<|ag<|aa<|ae<|aM<| ?_
 refine dD (fun m=>131-m) (fun m=>[(7,.int .i64 (m:Nat))]) (fun m=>[]) (fun m=>[]) (fun m=>m≤131∧i+m≤n∧k0 l i k (131-m) m=lv l i k) 0 [(6,_),(0,_),(1,_),(2,_)] ⟨rfl,rfl,rfl,rfl,trivial⟩ [] rfl [] rfl (⟨by decide,hi,rfl⟩) ⟨rfl,trivial⟩ (fun m ⟨hm,him,hL⟩=> ?_)
 refine ae<|ae<|cA [] [(0,some 0),(1,some 0),(2,some 0),(3,some 0),(4,some 0),(5,some 0),(6,some 0),(7,some 0),(8,some 0),(9,some 0),(10,some 0),(11,some 0),(12,some 0),(13,some 0),(14,some 0),(15,some 0),(16,some 0),(17,some 0),(18,some 0),(19,some 0),(20,some 0),(21,some 0),(22,some 0),(23,some 0),(24,some 0)] (by kernel_rfl) (by kernel_rfl) rfl 99<|aj (ai rfl)<|aj (bx rfl rfl)<|aj (ai rfl)<| ?_
 refine kP 10 rfl (fun h1=> ?_) (fun h1=> ?_)
 ·refine cq (o:=_) rfl rfl rfl (ai rfl)<|cq (o:=_) rfl rfl rfl (ai rfl)<|cq (o:=_) rfl rfl rfl (aO rfl rfl (bE (by omega) (by omega)))<|cq (o:=_) rfl rfl rfl (ai rfl)<|cq (o:=_) rfl rfl rfl (a6 rfl Tryz.underlying27)<|cq (o:=_) rfl rfl rfl (bx rfl rfl)<|aj (bz rfl rfl)<|aj (ai rfl)<| ?_
  refine kP 18 rfl (fun h2=> ?_) (fun h2=> ?_)
  ·refine cq (o:=_) rfl rfl rfl (ai rfl)<|cq (o:=_) rfl rfl rfl (ai rfl)<|cq (o:=_) rfl rfl rfl (ai rfl)<|cq (o:=_) rfl rfl rfl (aO rfl rfl (bE (by omega) (by omega)))<|cq (o:=_) rfl rfl rfl (aS rfl rfl Tryz.underlying27 dJ hA_r (show((i+m:Nat):Int)=_ by omega) (by omega))<|pB (o:=_) rfl rfl rfl (fun m=>ak rfl iV ((m.rd 0 rfl).cell (bO (by omega))))<|cq (o:=_) rfl rfl rfl (ai rfl)<|cq (o:=_) rfl rfl rfl (ai rfl)<|cq (o:=_) rfl rfl rfl (ai rfl)<|cq (o:=_) rfl rfl rfl (aO rfl rfl (bE (by omega) (by omega)))<|cq (o:=_) rfl rfl rfl (aS rfl rfl Tryz.underlying27 dJ hA_r (show((k+m:Nat):Int)=_ by omega) (by omega))<|pB (o:=_) rfl rfl rfl (fun m=>ak rfl iV ((m.rd 0 rfl).cell (bO (by omega))))<|cq (o:=_) rfl rfl rfl (cD rfl rfl)<|aj (bz rfl rfl)<|bp<|az [32,7,6,0,1,2] rfl<|aa<| ?_
   refine cu rfl (fun h3=> ?_) (fun h3=> ?_)
   ·have e3:l.getD (i+m) 0=l.getD (k+m) 0:=UInt8.toNat_inj.1 (by omega)
    rw[gY (by omega) ⟨by omega,e3⟩]at hL
    refine aB<|aa<|aM<|ah<|au rfl<|hy (fun _=>aO rfl rfl (bE (by omega) (by omega)))<|aG rfl<|ag<|az [7,32,6,0,1,2] rfl<|aW<| ?_
    refine cH (m+1) ⟨rfl,rfl,rfl,rfl,rfl,trivial⟩ [] rfl [0] rfl (⟨by omega,by omega,by rw[←hL];rfl⟩) (by omega)
   ·rw[kY (fun q=>h3 (by rw[q.2]))]at hL
    rw[←hL]
    refine bH<|al<|al<|aD<|aa<|ae<|ah<|au rfl<|aG rfl<|ag<|az [6,32,7,0,1,2] rfl<|aa<|aR<| ?_
    exact bc trivial rfl rfl [] rfl [] rfl ⟨rfl,rfl,rfl⟩
  ·rw[kY (fun q=>h2 (by omega))]at hL
   rw[←hL]
   refine bj rfl rfl rfl (by decide)<|bj rfl rfl rfl (by decide)<|bj rfl rfl rfl (by decide)<|bj rfl rfl rfl (by decide)<|bj rfl rfl rfl (by decide)<|bj rfl rfl rfl (by decide)<|bj rfl rfl rfl (by decide)<|bj rfl rfl rfl (by decide)<|bj rfl rfl rfl (by decide)<|bj rfl rfl rfl (by decide)<|bj rfl rfl rfl (by decide)<|bj rfl rfl rfl (by decide)<|bj rfl rfl rfl (by decide)<|aj (bn rfl rfl)<|bp<|az [32,7,6,0,1,2] rfl<|aa<| ?_
   refine dm rfl (rfl) ?_
   refine bH<|al<|al<|aD<|aa<|ae<|ah<|au rfl<|aG rfl<|ag<|az [6,32,7,0,1,2] rfl<|aa<|aR<| ?_
   exact bc trivial rfl rfl [] rfl [] rfl ⟨rfl,rfl,rfl⟩
 ·obtain rfl:m=131:=by omega
  have hL:131=lv l i k:=hL
  rw[←hL]
  refine bj rfl rfl rfl (by decide)<|bj rfl rfl rfl (by decide)<|bj rfl rfl rfl (by decide)<|bj rfl rfl rfl (by decide)<|bj rfl rfl rfl (by decide)<|bj rfl rfl rfl (by decide)<|aj (bn rfl rfl)<|aj (ai rfl)<| ?_
  refine bj rfl rfl rfl (by decide)<|bj rfl rfl rfl (by decide)<|bj rfl rfl rfl (by decide)<|bj rfl rfl rfl (by decide)<|bj rfl rfl rfl (by decide)<|bj rfl rfl rfl (by decide)<|bj rfl rfl rfl (by decide)<|bj rfl rfl rfl (by decide)<|bj rfl rfl rfl (by decide)<|bj rfl rfl rfl (by decide)<|bj rfl rfl rfl (by decide)<|bj rfl rfl rfl (by decide)<|bj rfl rfl rfl (by decide)<|aj (bn rfl rfl)<|bp<|az [32,7,6,0,1,2] rfl<|aa<| ?_
  refine dm rfl (rfl) ?_
  refine bH<|al<|al<|aD<|aa<|ae<|ah<|au rfl<|aG rfl<|ag<|az [6,32,7,0,1,2] rfl<|aa<|aR<| ?_
  exact bc trivial rfl rfl [] rfl [] rfl ⟨rfl,rfl,rfl⟩
structure ki where
 A:Option Addr
 c:Nat
 l:List Nat
def ki.val(r:ki):Value:=.slice r.A r.l.length r.c
def Bh(l:List Nat):List Value:=l.map fun n=>Value.int .i64 (n:Nat)
theorem wE{l:List Nat}:∀u∈Bh l,u.oneCell' =true:=by
 intro u hu
 obtain⟨n,_,rfl⟩:=List.mem_map.1 hu
 rfl
def ki.res(r:ki):bg:=aI 3 1 (.slice r.A r.l.length r.c) r.l.length (Bh r.l)
abbrev u0:=List (Bn 4×ki)
def jj(es:u0):List (Bn 4×Value):=es.map fun x=>(x.1,x.2.val)
def fP(es:u0):List bg:=es.map fun x=>x.2.res
abbrev nL(g gm:Nat)(A:Option Addr)(n c m:Nat)(es:u0):bg:=eD [aE g 359 [.slice A n c,.map (some gm),.int .i64 (m:Nat)],dC (KN (n:=4)) gm (jj es),eD (fP es)]
def x6(l:List UInt8)(m:Nat)(es:u0):Prop:=∀k:Bn 4,((bF es k).map ki.l).getD []=kz l m k.1
theorem kU(k:Bn 4):∀es:u0,bF (jj es) k=(bF es k).map ki.val
 | []=>rfl
 |(q,r)::t=>by
  have ih:=kU k t
  unfold jj at ih ⊢
  simp only[List.map_cons,bF]
  split
  ·rfl
  ·exact ih
theorem nF(k:Bn 4)(r:ki):∀es:u0,cC (jj es) k r.val=jj (cC es k r)
 | []=>rfl
 |(q,x)::t=>by
  have ih:=nF k r t
  unfold jj at ih ⊢
  simp only[List.map_cons,cC]
  split
  ·rfl
  ·rw[ih];rfl
theorem pN{k:Bn 4}(r:ki):∀{es:u0},bF es k=none→fP (cC es k r)=fP es++[r.res]
 | [],_=>rfl
 |(q,x)::t,h=>by
  simp only[bF]at h
  split at h
  ·cases h
  ·rename_i hq
   have ih:=pN r h
   unfold fP at ih ⊢
   simp only[cC,if_neg hq,List.map_cons,ih,List.cons_append]
theorem kg{k:Bn 4}:∀{es:u0} {x:ki},bF es k=some x→∃i,(fP es)[i]? =some x.res∧∀r:ki,fP (cC es k r)=(fP es).set i r.res
 | [],_,h=>by cases h
 |(q,y)::t,x,h=>by
  simp only[bF]at h
  split at h
  ·rename_i hq
   cases h
   exact⟨0,rfl,fun r=>by simp[fP,cC,hq]⟩
  ·rename_i hq
   obtain⟨i,h1,h2⟩:=kg h
   refine⟨i+1,by simpa[fP]using h1,fun r=> ?_⟩
   have h2:=h2 r
   unfold fP at h2 ⊢
   simp only[cC,if_neg hq,List.map_cons,h2,List.set_cons_succ]
theorem set_perm{α:Type}:∀(l:List α) (i:Nat) (x:α),i<l.length→(l.set i x).Perm (x::l.eraseIdx i)
 | [],i,x,h=>by simp at h
 |a::t,0,x,h=>by simp
 |a::t,i+1,x,h=>by
  have:=set_perm t i x (by simpa using h)
  simp only[List.set_cons_succ,List.eraseIdx_cons_succ]
  exact(this.cons a).trans (List.Perm.swap ..)
theorem w0{l:List UInt8}{m:Nat}{es:u0}{A:Option Addr}{c:Nat}(h:x6 l m es)(hm:m+4≤l.length):x6 l (m+1) (cC es ⟨ee l m,bK hm⟩ ⟨A,c,kz l m (ee l m)++[m]⟩):=by
 intro k
 rw[kS,x2]
 by_cases hk:ee l m=k.1
 ·rw[if_pos (Subtype.ext hk),if_pos hk,←hk];rfl
 ·rw[if_neg (fun e=>hk (congrArg Subtype.val e)),if_neg hk,List.append_nil]
  exact h k
theorem BC(l:List UInt8):x6 l 0 []:=fun k=>rfl
theorem tK{es:u0}{l:List UInt8}{m:Nat}{k:Bn 4}{r:ki}(h:x6 l m es)(hr:bF es k=some r):r.l=kz l m k.1:=by
 have:=h k
 rw[hr]at this
 exact this
theorem q6{es:u0}{l:List UInt8}{m:Nat}{k:Bn 4}(h:x6 l m es)(hr:bF es k=none):kz l m k.1=[]:=by
 have:=h k
 rw[hr]at this
 exact this.symm
theorem Gw{g gm:Nat}{A:Option Addr}{n c p i:Nat}{l:List UInt8}{es:u0}(hc:n≤c)(hn:n≤1000000000)(hl:l.length=n)(hpi:p≤i)(hi:i+4≤n)(hF:x6 l p es):cf Tryz.prog 270 [.pointer (some ⟨g,0,none⟩),.int .i64 (i:Nat)] [nL g gm A n c p es] [cz 1 A n (aT l)] (fun v_ X_ S_=>∃es1,v_=(.tuple #[])∧X_=[nL g gm A n c i es1]∧S_=[]∧(x6 l i es1)):=by
 refine aK (N:=61) Tryz.func270 rfl rfl (by simp) fun b=> ?_
 refine aQ (fun m=>ek (m.rd 0 rfl)) ?_
 rintro⟨hl_r,hA_r⟩
 refine a8 (fun w m=>(m.perm (ao [0] _ [_] _ rfl)).unpack) ?_
 refine aM<| ?_
 refine kv (fun p es=>i-p) (fun p es=>[]) (fun p es=>[aE g 359 [.slice A n c,.map (some gm),.int .i64 (p:Nat)],dC (KN (n:=4)) gm (jj es),eD (fP es)]) (fun p es=>[]) (fun p es=>p≤i∧x6 l p es) p es [(0,_),(1,_)] ⟨rfl,rfl,trivial⟩ [0,0,0] rfl [] rfl (⟨hpi,hF⟩) trivial (fun p es ⟨hpi,hF⟩=> ?_)
 refine ae<|ae<|cA [] [(0,some 0),(1,some 0),(2,some 0),(3,some 0),(4,some 0),(5,some 0),(6,some 0),(7,some 0),(8,some 0),(9,some 0),(10,some 0),(11,some 0),(12,some 0),(13,some 0),(14,some 0),(15,some 0),(16,some 0),(17,some 0),(18,some 0)] (by kernel_rfl) (by kernel_rfl) rfl 99<|aj (ai rfl)<|aj (aL rfl)<|aj (ax rfl gU (by decide))<|bV (fun m=>ak rfl cY (ar (m.aN 0 rfl) rfl))<|aj (ai rfl)<|aj (bx rfl rfl)<|aj (ai rfl)<| ?_
 refine kP 11 rfl (fun h1=> ?_) (fun h1=> ?_)
 ·refine cq (o:=_) rfl rfl rfl (ai rfl)<|cq (o:=_) rfl rfl rfl (aL rfl)<|cq (o:=_) rfl rfl rfl (ax rfl gU (by decide))<|pB (o:=_) rfl rfl rfl (fun m=>ak rfl cY (ar (m.aN 0 rfl) rfl))<|cq (o:=_) rfl rfl rfl (aO rfl rfl (bE (by omega) (by omega)))<|cq (o:=_) rfl rfl rfl (ai rfl)<|cq (o:=_) rfl rfl rfl (aL rfl)<|cq (o:=_) rfl rfl rfl (ax rfl jP (by decide))<|pB (o:=_) rfl rfl rfl (fun m=>ak rfl di (ar (m.aN 0 rfl) rfl))<|cq (o:=_) rfl rfl rfl (a6 rfl Tryz.underlying27)<|cq (o:=_) rfl rfl rfl (jo rfl rfl)<|aj (bz rfl rfl)<|bp<|az [23,0,1] rfl<|aa<| ?_
  refine fx rfl ((decide_eq_true (by omega))) ?_
  refine aQ (fun m=>(m.rd 0 rfl).some (by omega)) fun h_=> ?_
  obtain⟨a,rfl⟩:∃a_,A=some a_:=⟨_,h_⟩
  clear h_
  refine aB<|aa<|ae<|aM<|ae<|cA [16,17] [(0,some 1),(1,some 1),(2,some 1),(3,some 1),(4,some 1),(5,some 1),(6,some 1),(7,some 1),(8,some 1),(9,some 1),(10,some 1),(11,some 1),(12,some 1),(13,some 1),(14,some 1),(15,some 1),(16,none),(17,none)] (by kernel_rfl) (by kernel_rfl) rfl 1<|aj (ai rfl)<|aj (aL rfl)<|aj (ax rfl jP (by decide))<|bV (fun m=>ak rfl di (ar (m.aN 0 rfl) rfl))<|aj (ai rfl)<|aj (aL rfl)<|aj (ax rfl gU (by decide))<|bV (fun m=>ak rfl cY (ar (m.aN 0 rfl) rfl))<|aj (ai rfl)<|aj (aL rfl)<|aj (ax rfl gU (by decide))<|bV (fun m=>ak rfl cY (ar (m.aN 0 rfl) rfl))<|aj (aO rfl rfl (bE (by omega) (by omega)))<|aj (yV (eA rfl rfl rfl Tryz.underlying27 dJ rfl (show((p+4:Nat):Int)=_ by omega) (by omega) (by omega)) ((show Value.slice (if c=p then some a else(some a).map (·.add (p*1))) (p+4-p) (c-p)= .slice (some (a.add p)) 4 (c-p) by rw[if_neg (by omega),Nat.mul_one,Nat.add_sub_cancel_left];rfl)))<|aj (sC rfl Tryz.underlying364 (by omega))<|bV (fun m=>yV (aP rfl wx tE (by rw[aA];exact bK (by omega)) (Rd.part (m.rd 0 rfl))) ((rfl:Value.agg _= .agg (aT (ee l p)).toArray)))<| ?_
  refine dk (ba Gf (fun g4=>⟨(fun _=>wk [1,1,1] [0] rfl rfl), ?_⟩))
  refine gi (a7 0 rfl rfl rfl tE (by rw[aA];exact bK (by omega)) bl rfl ⟨(fun h=>absurd h (by decide)), ?_⟩)
  refine bp<|az [4,23,0,1] rfl<|aY rfl rfl<|aa<| ?_
  refine cA [9,10,12,14] [(0,some 1),(1,some 1),(2,some 1),(3,some 1),(4,some 1),(5,some 0),(6,some 0),(7,some 0),(8,some 0),(9,none),(10,none),(11,some 2),(13,some 3),(12,none),(14,none)] (by kernel_rfl) (by kernel_rfl) rfl 1<|aj (ai rfl)<|aj (aL rfl)<|aj (ax rfl rm (by decide))<|bV (fun m=>ak rfl yW (ar (m.aN 1 rfl) rfl))<|bV (fun m=>yV (aP rfl wx tE (by rw[aA];exact bK (by omega)) ((m.aN 0 rfl).aw)) ((rfl:Value.agg _=KN ⟨ee l p,bK (by omega)⟩)))<|aj (ai rfl)<|aj (aL rfl)<|aj (ax rfl gU (by decide))<|bV (fun m=>ak rfl cY (ar (m.aN 1 rfl) rfl))<| ?_
  refine dk (b5 Tryz.underlying44 Fi rfl rfl rfl (by simp[Value.cells,B8]) (by decide) (by decide) (fun g57=>⟨(fun _=>wk [1,1,1,1] [0] rfl rfl), ?_⟩))
  have hA_b57:0<1→(some (⟨g57,0,none⟩:Addr))≠none:=fun _ h=>by cases h
  refine dU (fun w m=>m.bw 0 rfl (show _=aI 3 1 (.slice (some ⟨g57,0,none⟩) 1 1) 1 (Bh [p])from rfl)) ?_
  refine dk (ze (enc:=(KN (n:=4))) (k:=⟨ee l p,bK (by omega)⟩) 3 rfl rfl rfl Tryz.underlying357 Eo (zU Tryz.underlying364 Tryz.underlying5 (by kernel_rfl) (by kernel_rfl) (by kernel_rfl)) (fun st58=>⟨(fun h=>absurd h (by decide)), ?_⟩))
  rw[kU]
  rcases hq:bF es ⟨ee l p,bK (by omega)⟩with _|x
  ·have e0:=q6 hF hq
   refine dU (fun w m=>m.cL (r' :=aI 3 1 (.slice none 0 0) 0 []) (.refl _ _) (Own.nil _ _ _ _) (fun k hk=>hk.elim)) ?_
   refine aj (aF rfl rfl)<|aj (aF rfl rfl)<| ?_
   refine dk (bC 0 rfl rfl rfl Tryz.underlying44 Tryz.underlying44 (by exact .inl rfl) Fi rfl (fun m=>Src.b9 (m.ord 2 rfl)) (wE (l:=[p])) (by unfold maxLen;omega) (by omega) (fun u=>⟨(fun h=>absurd h (by decide)), ?_⟩))
   refine bU (fun m=>(m.own 0 rfl).slice) ?_
   rintro⟨A_x,c_x,rfl,hc_x⟩
   refine bU (fun m=>(m.ord 0 rfl).2.1) fun hA_x=> ?_
   refine gi (qx (enc:=(KN (n:=4))) 1 rfl rfl rfl rfl ⟨(fun h=>absurd h (by decide)), ?_⟩)
   refine bp<|az [4,23,0,1] rfl<|aY rfl rfl<|aW<|aa<|ah<|au rfl<|hy (fun _=>aL rfl)<|hy (fun _=>ax rfl gU (by decide))<|hy (fun m=>ak rfl cY (ar (m.aN 4 rfl) rfl))<|hy (fun _=>aO rfl rfl (bE (by omega) (by omega)))<|hy (fun _=>aL rfl)<|hy (fun _=>ax rfl gU (by decide))<| ?_
   refine cF (bZ 4 rfl rfl rfl tA rfl (by first|exact Nat.le_of_ble_eq_true rfl|simp) ?_)
   refine ag<|az [4,23,0,1] rfl<|aY rfl rfl<| ?_
   refine bd (fun w m=>m.bw 0 rfl (show _=aE g 359 [.slice (some a) n c,.map (some gm),.int .i64 ((p+1:Nat):Int)]from rfl)) ?_
   refine bd (fun w m=>m.bw 1 rfl (show _=dC (KN (n:=4)) gm (jj (cC es ⟨ee l p,bK (by omega)⟩ ⟨A_x,c_x,[p]⟩))from congrArg (dC _ _) (qq.trans (nF _ ⟨A_x,c_x,[p]⟩ es)))) ?_
   refine bd (X' :=eD (fP (cC es ⟨ee l p,bK (by omega)⟩ ⟨A_x,c_x,[p]⟩))::_) (fun w m=>(Mem.rZ (m.perm (ao [2,4] _ [_,_] _ rfl))).mF (by rw[pN _ hq];exact(List.perm_append_singleton _ _).symm)) ?_
   refine hC (p+1) (cC es ⟨ee l p,bK (by omega)⟩ ⟨A_x,c_x,[p]⟩) ⟨rfl,rfl,trivial⟩ [2,1,0] rfl [0] rfl (⟨by omega,by have:=w0 (A:=A_x) (c:=c_x) hF (by omega);rw[e0]at this;exact this⟩) (by omega)
  ·obtain⟨j,hj1,hj2⟩:=kg hq
   have e0:=tK hF hq
   have hxl:x.l.length≤n:=by rw[e0];exact Nat.le_trans (nW _ _ _) (by omega)
   refine dU (X' :=aI 3 1 (.slice x.A x.l.length x.c) x.l.length (Bh x.l)::_) (fun w m=>(m.perm (ao [4] _ [_] _ rfl)).ta j hj1) ?_
   refine aj (aF rfl rfl)<|aj (aF rfl rfl)<| ?_
   refine dk (bC 0 rfl rfl rfl Tryz.underlying44 Tryz.underlying44 (by exact .inl rfl) Fi rfl (fun m=>Src.b9 (m.ord 3 rfl)) (wE (l:=[p])) (by unfold maxLen;omega) (by omega) (fun u=>⟨(fun h=>absurd h (by decide)), ?_⟩))
   refine bU (fun m=>(m.own 0 rfl).slice) ?_
   rintro⟨A_y,c_y,rfl,hc_y⟩
   refine bU (fun m=>(m.ord 0 rfl).2.1) fun hA_y=> ?_
   refine gi (qx (enc:=(KN (n:=4))) 2 rfl rfl rfl rfl ⟨(fun h=>absurd h (by decide)), ?_⟩)
   refine bp<|az [4,23,0,1] rfl<|aY rfl rfl<|aW<|aa<|ah<|au rfl<|hy (fun _=>aL rfl)<|hy (fun _=>ax rfl gU (by decide))<|hy (fun m=>ak rfl cY (ar (m.aN 5 rfl) rfl))<|hy (fun _=>aO rfl rfl (bE (by omega) (by omega)))<|hy (fun _=>aL rfl)<|hy (fun _=>ax rfl gU (by decide))<| ?_
   refine cF (bZ 5 rfl rfl rfl tA rfl (by first|exact Nat.le_of_ble_eq_true rfl|simp) ?_)
   refine ag<|az [4,23,0,1] rfl<|aY rfl rfl<| ?_
   refine bd (fun w m=>m.bw 0 rfl (show _=aE g 359 [.slice (some a) n c,.map (some gm),.int .i64 ((p+1:Nat):Int)]from rfl)) ?_
   have h1e:cC (jj es) ⟨ee l p,bK (by omega)⟩ (.slice A_y (x.l.length+1) c_y)=jj (cC es ⟨ee l p,bK (by omega)⟩ ⟨A_y,c_y,x.l++[p]⟩):=by rw[←nF];simp[ki.val]
   refine bd (fun w m=>m.bw 1 rfl (show _=dC (KN (n:=4)) gm (jj (cC es ⟨ee l p,bK (by omega)⟩ ⟨A_y,c_y,x.l++[p]⟩))from congrArg (dC _ _) (qq.trans h1e))) ?_
   have h2e:aI 3 1 (.slice A_y (x.l.length+1) c_y) (x.l.length+1) (Bh x.l++Bh [p])=(⟨A_y,c_y,x.l++[p]⟩:ki).res:=by simp[ki.res,Bh]
   refine bd (fun w m=>m.bw 2 rfl (show _=(⟨A_y,c_y,x.l++[p]⟩:ki).res from h2e)) ?_
   have hjl:=(List.getElem?_eq_some_iff.1 hj1).1
   refine bd (X' :=eD (fP (cC es ⟨ee l p,bK (by omega)⟩ ⟨A_y,c_y,x.l++[p]⟩))::_) (fun w m=>(Mem.rZ (m.perm (ao [0,2] _ [_,_] _ rfl))).mF (by rw[hj2];exact(set_perm _ _ _ hjl).symm)) ?_
   refine hC (p+1) (cC es ⟨ee l p,bK (by omega)⟩ ⟨A_y,c_y,x.l++[p]⟩) ⟨rfl,rfl,trivial⟩ [2,1,0] rfl [0] rfl (⟨by omega,by have:=w0 (A:=A_y) (c:=c_y) hF (by omega);rw[←e0]at this;exact this⟩) (by omega)
 ·obtain rfl:p=i:=by omega
  refine bj rfl rfl rfl (by decide)<|bj rfl rfl rfl (by decide)<|bj rfl rfl rfl (by decide)<|bj rfl rfl rfl (by decide)<|bj rfl rfl rfl (by decide)<|bj rfl rfl rfl (by decide)<|bj rfl rfl rfl (by decide)<|bj rfl rfl rfl (by decide)<|bj rfl rfl rfl (by decide)<|bj rfl rfl rfl (by decide)<|bj rfl rfl rfl (by decide)<|aj (bn rfl rfl)<|bp<|az [23,0,1] rfl<|aa<| ?_
  refine dm rfl (rfl) ?_
  refine bH<|al<|al<|aD<| ?_
  refine bd (X' :=nL g gm A n c p es::_) (fun w m=>(m.perm (ao [0,0,0] _ [_,_,_] _ rfl)).pack) ?_
  exact fA trivial rfl [0] rfl [] rfl ⟨es,rfl,rfl,rfl,hF⟩
end Go.Proofs.YtmibdabdlgmafaaGreatDoor
end
section
namespace Go.Eng
open Go.RowKit
def mJ:Op→Bool
 | .defer _=>true
 |_=>false
abbrev nH(l:Nat):Fence:=Fence.wide.inRound l
section
variable{P:Program}{Q:Exit→Act→World→Prop}{a:Act}{w:World}{l n:Nat}
theorem Fo{o:Oper}{next next' :Act→World→Prop}(h:o.wp P a w next Q)(hd:mJ o.op=false)(hn:∀a w,next a w→next' a w):o.wpIn (nH l) n P a w next' Q:=by
 refine⟨fun _ _=>trivial, ?_⟩
 have e:o.semAt (nH l).round a.eval=execOp a.eval o:=Oper.semAt_eq _ _ _ (fun c hc=>by rw[hc]at hd;cases hd)
 rw[e]
 unfold Oper.wp at h
 generalize(execOp a.eval o).run P w=r at h
 match r,h with
 | .ok (.value v) w',h=>exact hn _ _ h
 | .ok .skip w',h=>exact hn _ _ h
 | .ok (.defer d) w',h=>exact hn _ _ h
 | .ok (.enter f args) w',h=>
  refine⟨fun h=>by simp[Fence.wide]at h,CallsIn.inRound l (callsIn_wide.2 (Calls.mono h ?_))⟩
  intro e w'' q
  cases e with
  |returned v=>exact hn _ _ q
  |panicked c=>exact q
  |outgrown=>exact q
 | .ok (.row row args) w',h=>exact⟨fun h=>by simp[Fence.wide]at h,fun c cs _=>let⟨v,w'',r,s⟩:=h c cs;⟨v,w'',hn _ _ r,stepsIn_wide.2 s⟩⟩
 | .halt (.panic v) w',h=>exact h
theorem nf{ops:Array Oper}(hQ:¬LetsOut Q)(hd:ops.toList.all (fun o=> !mJ o.op)=true):∀(il:List Nat) (a:Act) (w:World),wpOps P ops Q il a w→wpOpsIn (nH l) n P ops Q il a w
 | [],a,w,h=>h
 |i::rest,a,w,h=>by
  unfold wpOps at h
  unfold wpOpsIn
  cases ho:ops[i]? with
  |none=>simp only[ho]at h ⊢;exact nf hQ hd rest a w h
  |some o=>
   simp only[ho]at h ⊢
   have hod:mJ o.op=false:=by
    have h1:=List.all_eq_true.1 hd o (by obtain⟨hi,he⟩:=Array.getElem?_eq_some_iff.1 ho;rw[←he];exact Array.getElem_mem_toList ..)
    simpa using h1
   split
   ·rename_i hw
    rw[if_pos hw]at h
    rcases h with h|⟨_,h⟩
    ·exact Fo h hod (fun a w h=>nf hQ hd rest a w h)
    ·exact absurd h hQ
   ·rename_i hw
    rw[if_neg hw]at h
    exact⟨fun _ _=>trivial,nf hQ hd rest _ w h⟩
end
def r7(l n:Nat)(P:Program)(Q:Exit→Act→World→Prop)(N:Nat)(D:List Deferred)(c:Code)(ρ:Env)(b:cg)(X S:List bg):Prop:=
 ¬LetsOut Q→∀w,Mem b X S w→∀a,Ag N D ρ a→c.wpIn (nH l) n P Q a w
section
variable{P:Program}{Q:Exit→Act→World→Prop}{N:Nat}{D:List Deferred}{ρ ρ' :Env}{b:cg}{X X' X1 Xr S S' S1:List bg}{c c' :Code}{l n:Nat}{ops:Array Oper}
theorem sd{K:Act→World→Prop}:LetsOut (Exit.then K Q)→LetsOut Q:=fun⟨a,w,h⟩=>⟨a,w,h⟩
theorem qj{id:Nat}:LetsOut (Exit.inBlock id Q)→LetsOut Q:=fun⟨a,w,h⟩=>⟨a,w,h⟩
theorem lg:LetsOut (eP Q)→LetsOut Q:=fun⟨a,w,h⟩=>⟨a,w,by first|exact h|exact h.elim⟩
theorem oq(h:r7 l n P (Exit.then (fun a w=>¬LetsOut Q→c'.wpIn (nH l) n P Q a w) Q) N D c ρ b X S):r7 l n P Q N D (.seq c c') ρ b X S:=fun hQ w m a ha=>
 wpIn_seq (wpIn_mono (h (fun k=>hQ (sd k)) w m a ha) (fun e a w q=>by cases e <;> first|exact q hQ|exact q))
theorem pg{id:Nat}{il:List Oper}(h:HL P il.toArray Q N D il ρ b X S)(hd:il.all (fun o=> !mJ o.op)=true:=by rfl):r7 l n P Q N D (.region id il.toArray false) ρ b X S:=fun hQ w m a ha=>by
 refine wpIn_region (nf hQ (by simpa using hd) _ _ _ ?_)
 have h1:=h w m a ha
 rw[List.range_eq_range',←Array.length_toList,wpOps_eq_wpList il.toArray.toList 0 (by simp)]
 simpa using h1
theorem oS(h:HQ Q N D .normal ρ b X S):r7 l n P Q N D .skip ρ b X S:=fun hQ w m a ha=>wpIn_skip (h w m a ha)
theorem AQ{id:Nat}(h:HQ Q N D (.exit id) ρ b X S):r7 l n P Q N D (.exit id) ρ b X S:=fun hQ w m a ha=>wpIn_exit (h w m a ha)
theorem rK{id:Nat}(h:r7 l n P (Exit.inBlock id Q) N D c ρ b X S):r7 l n P Q N D (.block id c) ρ b X S:=fun hQ w m a ha=>wpIn_block (h (fun k=>hQ (qj k)) w m a ha)
theorem CI{p:Prop}[Decidable p]{x:Operand}(hc:ev ρ x=some (.bool (decide p)))(ht:p→r7 l n P Q N D c ρ b X S)(he:¬p→r7 l n P Q N D c' ρ b X S):r7 l n P Q N D (.cond x c c') ρ b X S:=
 fun hQ w m a ha=>wpIn_cond_split (ha.eval hc) (fun h=>ht (of_decide_eq_true h) hQ w m a ha) (fun h=>he (of_decide_eq_false h) hQ w m a ha)
theorem ky(h:r7 l n P Q N D c ρ b X S):HQ (Exit.then (fun a w=>¬LetsOut Q→c.wpIn (nH l) n P Q a w) Q) N D .normal ρ b X S:=fun w m a ha hQ=>h hQ w m a ha
theorem Bo{p:Prop}(h:∀{w},Mem b X S w→p)(k:p→r7 l n P Q N D c ρ b X S):r7 l n P Q N D c ρ b X S:=fun hQ w m=>k (h m) hQ w m
theorem AS{id:Nat}{il:List (Option Nat×Oper)}(Xs:List Nat)(L:List (Nat×Option Nat))(hm:P.follows .mixedOrders=true)(hk:(Region.noSelect ops && ep ops Xs L (Array.replicate ops.size false) && decide (L.length≤ops.size))=true)
  (hp:ia ops L=some il) (cc:Nat) (h:HT P ops (eP Q) (TT b X S cc) N D 0 il ρ b X S) (hd:ops.toList.all (fun o=> !mJ o.op)=true:=by rfl):r7 l n P Q N D (.region id ops true) ρ b X S:=fun hQ w m a ha=>by
 simp only[Bool.and_eq_true,decide_eq_true_eq]at hk
 refine wpIn_mono (Q:=eP Q) ?_ (fun e a w q=>by cases e <;> first|exact q|exact q.elim)
 refine wpIn_region_draw fun t=>nf (fun k=>hQ (lg k)) hd _ _ _ ?_
 simp only[Region.schedule,hm,Bool.true_or,if_true]
 refine wpAny_sound ops.size t _ a _ ?_
 refine eL _ _ _ _ (fR (X:=Xs) hk.1.1 (fun c a d v w q=>q.elim) L il _ a _ _ 0 hp hk.1.2 hk.2 ?_ ?_ (T:=TT b X S cc) (fun _=>m.lift (Fr.drew w)) (h _ (m.lift (Fr.drew w)) a ha))
 ·intro j hj
  simp[Array.getElem?_replicate]at hj
  split at hj <;> cases hj
 ·unfold jg
  rw[List.countP_eq_zero]
  intro x _
  simp[Array.getElem?_replicate]
  split <;> rfl
theorem zB{id:Nat}{il:List (Option Nat×Oper)}(is js:List Nat)(hX:bN is X=some (X1,Xr))(hS:dh js S=some S1)(Xs:List Nat)(L:List (Nat×Option Nat))(hm:P.follows .mixedOrders=true)(hk:(Region.noSelect ops && ep ops Xs L (Array.replicate ops.size false) && decide (L.length≤ops.size))=true)
  (hp:ia ops L=some il) (cc:Nat) (h:HT P ops (eP Q) (TT b X1 S1 cc) N D 0 il ρ b X S) (hd:ops.toList.all (fun o=> !mJ o.op)=true:=by rfl):r7 l n P Q N D (.region id ops true) ρ b X S:=fun hQ w m a ha=>by
 simp only[Bool.and_eq_true,decide_eq_true_eq]at hk
 refine wpIn_mono (Q:=eP Q) ?_ (fun e a w q=>by cases e <;> first|exact q|exact q.elim)
 refine wpIn_region_draw fun t=>nf (fun k=>hQ (lg k)) hd _ _ _ ?_
 simp only[Region.schedule,hm,Bool.true_or,if_true]
 refine wpAny_sound ops.size t _ a _ ?_
 refine eL _ _ _ _ (fR (X:=Xs) hk.1.1 (fun c a d v w q=>q.elim) L il _ a _ _ 0 hp hk.1.2 hk.2 ?_ ?_ (T:=TT b X1 S1 cc) (fun _=>(wk is js hX hS).mem (m.lift (Fr.drew w))) (h _ (m.lift (Fr.drew w)) a ha))
 ·intro j hj
  simp[Array.getElem?_replicate]at hj
  split at hj <;> cases hj
 ·unfold jg
  rw[List.countP_eq_zero]
  intro x _
  simp[Array.getElem?_replicate]
  split <;> rfl
end
end Go.Eng
end
section
namespace Go.Eng
open Go.RowKit
def j9(D:Nat):bg where
 db k:=k=D
 holds w:=w.heap[D]? =some (.deferred (some []))
 gV:=fun{S w w'} f h e=>by
  have hlt:=(Array.getElem?_eq_some_iff.1 e).1
  exact(f.block D hlt (h D rfl)).trans e
 low:=fun{w k} e hk=>by
  have hk' :k=D:=hk
  rw[hk'];exact(Array.getElem?_eq_some_iff.1 e).1
theorem Mem.grown{b:cg}{X S:List bg}{w w' :World}{R:Nat→Prop}(m:Mem b X S w)(f:Fr R w w')(h1:∀k,R k→b.w.heap.size≤k)(h2:∀k,R k→∀x∈X,¬x.db k)(h3:∀k,R k→∀s∈S,¬s.db k):Mem b X S w' :=
 ⟨m.fr.trans f (fun _ e=>e) (fun i hi e=>absurd (h1 i e) (by omega)),m.xx,m.xs,fun x hx=>x.gV f (fun k hk hr=>h2 k hr x hx hk) (m.hx x hx),fun s hs=>s.gV f (fun k hk hr=>h3 k hr s hs hk) (m.hs s hs),m.nx,m.ns⟩
theorem ua{w w' :World}{row:Option Nat}(h:w.grownBy w' row):Fr (fun k=>row=some k) w w' :=⟨h.os,h.tape,h.output,h.size,fun k hk hn=>h.block k hk (fun e=>hn e.symm)⟩
def FQ(B:Nat)(M:Nat→Prop)(W W' :World):Prop:=∀k,k<B→¬M k→W'.heap[k]? =W.heap[k]?
def th(ps:Array Tmp)(vs:List Value):Env:=(ps.toList.zip vs)
theorem Mem.zH{b:cg}{X S:List bg}{w:World}{D B:Nat}(m:Mem b X S w)(hb:b.w.heap.size≤B)(hD:B≤D)(hx:∀x∈X,∀k,x.db k→k<B)(hs:∀s∈S,∀k,s.db k→k<B)(h:w.heap[D]? =some (.deferred (some []))):Mem b (j9 D::X) S w:=by
 refine⟨m.fr,List.pairwise_cons.2 ⟨fun y hy k hk hy' => ?_,m.xx⟩,fun x hx' s hs' k hk hk' => ?_,fun x hx' => ?_,m.hs,fun x hx' k hk=> ?_,m.ns⟩
 ·have hk' :k=D:=hk
  have:=hx y hy k hy'
  omega
 ·rcases List.mem_cons.1 hx' with rfl|hx'
  ·have h1:k=D:=hk
   have:=hs s hs' k hk'
   omega
  ·exact m.xs x hx' s hs' k hk hk'
 ·rcases List.mem_cons.1 hx' with rfl|hx'
  ·exact h
  ·exact m.hx x hx'
 ·rcases List.mem_cons.1 hx' with rfl|hx'
  ·have h1:k=D:=hk
   exact .inr (by omega)
  ·exact m.nx x hx' k hk
theorem Mem.off{b:cg}{X S X1 Xr:List bg}{w:World}{is:List Nat}(m:Mem b X S w)(hX:bN is X=some (X1,Xr))(j:Nat){r:bg}(hj:Xr[j]? =some r){k:Nat}(hk:r.db k):¬c6 X1 k:=by
 have m1:=m.perm (ao _ _ _ _ hX)
 rintro⟨x,hx,hxk⟩
 exact(List.pairwise_append.1 m1.xx).2.2 x hx r (List.mem_of_getElem? hj) k hxk hk
def RQ{α σ:Type}(b:cg)(X1:σ→List bg)(Sb:List bg)(id:Nat)(step:σ→α→σ)(brk:σ→α→Prop)(s:σ)(x:α):Exit→Act→World→Prop
 | .normal,_,w=>Mem b (X1 (step s x)) Sb w
 | .exit i,_,w=>i=id∧Mem b (X1 s) Sb w∧brk s x
 |_,_,_=>False
theorem kO{α σ:Type}{b:cg}{X1:σ→List bg}{Sb:List bg}{id:Nat}{step:σ→α→σ}{brk:σ→α→Prop}{s:σ}{x:α}{N:Nat}{D:List Deferred}{ρ:Env}{X S Xz:List bg}(s' :σ)(he:step s x=s')(is:List Nat)(hX:bN is X=some (X1 s',Xz))(js:List Nat)(hS:dh js S=some Sb):
  HQ (RQ b X1 Sb id step brk s x) N D .normal ρ b X S:=fun w m a ha=>by
 show Mem b (X1 (step s x)) Sb w
 rw[he]
 exact m.out is hX js hS
theorem ra{α σ:Type}{b:cg}{X1:σ→List bg}{Sb:List bg}{id:Nat}{step:σ→α→σ}{brk:σ→α→Prop}{s:σ}{x:α}{N:Nat}{D:List Deferred}{ρ:Env}{X S Xz:List bg}(is:List Nat)(hX:bN is X=some (X1 s,Xz))(js:List Nat)(hS:dh js S=some Sb)(hb:brk s x):
  HQ (RQ b X1 Sb id step brk s x) N D (.exit id) ρ b X S:=fun w m a ha=>⟨rfl,m.out is hX js hS,hb⟩
section
variable{P:Program}{Q:Exit→Act→World→Prop}{N:Nat}{D:List Deferred}{ρ ρ' :Env}{b:cg}{X X' Xr S S' Sb:List bg}
theorem ye{α σ:Type}{g gf id:Nat}{ps:Array Tmp}{assign body:Code}{lb:List Value}(X1:σ→List bg)(s0:σ)(step:σ→α→σ)(brk:σ→α→Prop)(encs:α→List Value)(xs:List α)(ρx:α→Env)(ρk:Env)(hk:eb ρk ρ)
  (hv:get ρ g=some (.func (.func gf) #[] lb.toArray)) (heg:∀args w,(callFunc gf args).run P w= .ok (.enter gf args) w)
  (is:List Nat) (hX:bN is X=some (X1 s0,Xr)) (hft:∀s k,c6 (X1 s) k↔c6 (X1 s0) k) (js:List Nat) (hS:dh js S=some Sb)
  (ae:∀w,Mem b X S w→SeqStopsK Fence.wide 2 P gf lb.toArray (fun x=>(encs x).toArray) (FQ w.heap.size (c6 (X1 s0))) (fun ys=>ys=xs) (fun pre=>pre<+:xs) xs.length w)
  (hps:∀x,(encs x).length=ps.size) (hpn:∀p∈ps.toList,p<N) (hnd:∀x (a:Act),Ag N D ρ a→Ag N [] (ρ' ++th ps (encs x)++ρ) {tmps:=(ps.zip (encs x).toArray).foldl (fun t (p,v)=>t.setIfInBounds p v) a.tmps,defers:=[]})
  (hasg:∀(l:Nat) (b' :cg) (s:σ) (x:α) (Q' :Exit→Act→World→Prop),HQ Q' N [] .normal (ρx x++ρk) b' (X1 s) Sb→r7 l 1 P Q' N [] assign (ρ' ++th ps (encs x)++ρ) b' (X1 s) Sb)
  (hbody:∀(l:Nat) (b' :cg) (s:σ) (x:α),r7 l 1 P (RQ b' X1 Sb id step brk s x) N [] body (ρx x++ρk) b' (X1 s) Sb)
  (k:∀(Dk:Nat) (s:σ),(s=xs.foldl step s0∨∃pre x rest,xs=pre++x::rest∧s=pre.foldl step s0∧brk s x)→HQ Q N (⟨.collected Dk, #[]⟩::D) .normal ρ b (j9 Dk::(X1 s++Xr)) S):
  HC P Q N D (.block id (.rangeFunc (.tmp g) ps assign body)) ρ b X S:=by
 intro w m a ha
 have m1:=m.perm (ao _ _ _ _ hX)
 have hSb:=cb _ _ _ hS
 obtain⟨M,hM⟩:∃M,M=c6 (X1 s0):=⟨_,rfl⟩
 have hbz:b.w.heap.size≤w.heap.size:=m.fr.size
 have lowM:∀k,M k→k<w.heap.size:=by
  rw[hM]
  rintro k ⟨x,hx,hk⟩
  exact x.low (m1.hx x (List.mem_append_left _ hx)) hk
 have lowX:∀s x,x∈X1 s++Xr→∀k,x.db k→k<w.heap.size:=by
  intro s x hx k hk
  rcases List.mem_append.1 hx with hx|hx
  ·exact lowM k (by rw[hM];exact(hft s k).1 ⟨x,hx,hk⟩)
  ·exact x.low (m1.hx x (List.mem_append_right _ hx)) hk
 have lowS:∀s∈S,∀k,s.db k→k<w.heap.size:=fun s hs k hk=>s.low (m.hs s hs) hk
 refine wpIn_wide (n:=3).1 (wpIn_block ?_)
 have hown:∀{s:σ} {W W' :World} {row:Option Nat},Mem b (X1 s++Xr) S W→W.grownBy W' row→(∀r,row=some r→w.heap.size≤r∧∃o:Obj,W.heap[r]? =some o∧o.isCells=false)→Mem b (X1 s++Xr) S W' :=by
  intro s W W' row mW hg hr
  refine mW.grown (ua hg) (fun k e=>Nat.le_trans hbz (hr k e).1) (fun k e x hx hk=> ?_) (fun k e x hx hk=> ?_)
  ·have h1:=lowX s x hx k hk
   have h2:=(hr k e).1
   omega
  ·have h1:=lowS x hx k hk
   have h2:=(hr k e).1
   omega
 have hround:∀{s:σ} {W W' :World} {Y:List bg},Mem b (X1 s++Xr) S W→w.heap.size≤W.heap.size→Mem ⟨W,c6 (X1 s),c6 Sb⟩ Y Sb W' →KeepsFrom w.heap.size W W' ∧FQ w.heap.size M W W' ∧Mem b (Y++Xr) S W' :=by
  intro s W W' Y mW hsz mY
  have e:∀k,c6 (X1 s) k↔M k:=fun k=>by rw[hM];exact hft s k
  refine⟨⟨mY.fr.size,fun k o hk ho _=> ?_⟩,fun k hk hn=> ?_,(mW.frame hSb mY).iT (fun x hx=>List.mem_append_right _ hx)⟩
  ·have hlt:=(Array.getElem?_eq_some_iff.1 ho).1
   exact(mY.fr.block k hlt (fun q=>by have:=lowM k ((e k).1 q);omega)).trans ho
  ·exact mY.fr.block k (by show k<W.heap.size;omega) (fun q=>hn ((e k).1 q))
 refine wpIn_rangeFunc_ownH (n:=3) (α:=α) (gf:=gf) (lb:=lb.toArray) rfl (by decide) (ha.eval hv) trivial heg (ae w m)
  (fun{A B C} h1 h2 k hk hn=>(h2 k hk hn).trans (h1 k hk hn)) (fun W l o o' hl ho _ _ k hk hn=>World.putObj_heap_other (by omega)) (Below.refl _ w) (fun x=>by simpa using hps x)
  (fun pre W=>w.heap.size≤W.heap.size∧Mem b (X1 (pre.foldl step s0)++Xr) S W) (fun c pre W=>c= .exit id∧∃pre' x,pre=pre' ++[x]∧Mem b (X1 (pre'.foldl step s0)++Xr) S W∧brk (pre'.foldl step s0) x)
  (fun pre W W' row h hg hr=>⟨Nat.le_trans h.1 hg.size,hown h.2 hg hr⟩)
  (fun c pre W W' row h hg hr=>by
   obtain⟨hc,pre',x,e,h1,h2⟩:=h
   exact⟨hc,pre',x,e,hown h1 hg hr,h2⟩)
  ⟨Nat.le_refl _,m1⟩ (fun x a' _=>Ag N [] (ρx x++ρk) a') (fun x a' =>ownFrom_pure _ (fun _=>Ag N [] (ρx x++ρk) a')) ?_ ?_ ?_ ?_
 ·rintro l pre x W K ⟨hsz,mW⟩ hK
  refine hasg l ⟨W,c6 (X1 (pre.foldl step s0)),c6 Sb⟩ (pre.foldl step s0) x _ (fun W' m' a' ha' => ?_) (fun⟨_,_,h⟩=>h) W (mW.part hSb) _ (hnd x a ha)
  obtain⟨h1,h2,h3⟩:=hround mW hsz m'
  exact hK a' W' h1 (by rw[←hM];exact h2) ⟨Nat.le_trans hsz h1.size,h3⟩ ha'
 ·rintro l pre x a' W _ _ ⟨hsz,mW⟩ hax _
  refine wpIn_mono (hbody l ⟨W,c6 (X1 (pre.foldl step s0)),c6 Sb⟩ (pre.foldl step s0) x (fun⟨_,_,h⟩=>h) W (mW.part hSb) a' hax) ?_
  intro e a2 W2 q
  cases e with
  |normal=>
   have q' :Mem _ (X1 (step (pre.foldl step s0) x)) Sb W2:=q
   obtain⟨h1,h2,h3⟩:=hround mW hsz q'
   refine⟨h1,by rw[←hM];exact h2,Nat.le_trans hsz h1.size, ?_⟩
   rw[List.foldl_append]
   exact h3
  |exit i=>
   obtain⟨rfl,q1,q2⟩:=q
   obtain⟨h1,h2,h3⟩:=hround mW hsz q1
   exact⟨h1,rfl,pre,x,rfl,h3,q2⟩
  |ret=>exact q.elim
  |goto t=>exact q.elim
  |panic c=>exact q.elim
  |outgrown=>exact q.elim
 ·rintro Dk ys W hD rfl ⟨hsz,mW⟩ hdef
  exact k Dk _ (.inl rfl) W (mW.zH hbz hD (lowX _) lowS hdef) _ ⟨ha.sz,by rw[ha.df],ha.gt⟩
 ·rintro Dk c pre W hD hpre ⟨rfl,pre',x,rfl,mW,hb⟩ hdef
  obtain⟨rest,hr⟩:=hpre
  refine wpIn_exit ?_
  have hq:=k Dk _ (.inr ⟨pre',x,rest,by rw[←hr];simp,rfl,hb⟩) W (mW.zH hbz hD (lowX _) lowS hdef) {a with defers:=⟨.collected Dk, #[]⟩::a.defers} ⟨ha.sz,by show _::a.defers=_;rw[ha.df],ha.gt⟩
  show(Exit.inBlock id Q) (.exit id) _ W
  simp only[Exit.inBlock,if_pos]
  exact hq
end
theorem yg{N p q:Nat}{D:List Deferred}{ρ:Env}{a:Act}{u v:Value}(hpq:(p == q)=false)(hp:p<N)(hq:q<N)(ha:Ag N D ρ a):
  Ag N [] ([]++th #[p,q] [u,v]++ρ) {tmps:=((#[p,q]:Array Tmp).zip [u,v].toArray).foldl (fun t (p,v)=>t.setIfInBounds p v) a.tmps,defers:=[]}:=by
 have hne:p≠q:=by simpa using hpq
 have e:(((#[p,q]:Array Tmp).zip [u,v].toArray).foldl (fun t (p,v)=>t.setIfInBounds p v) a.tmps)=(a.tmps.setIfInBounds p u).setIfInBounds q v:=by simp
 rw[e]
 have hsz:=ha.sz
 refine⟨by simpa using hsz,rfl,fun t z ht=> ?_⟩
 simp only[th,List.nil_append,List.zip_cons_cons,List.zip_nil_right,List.cons_append,get]at ht
 show((a.tmps.setIfInBounds p u).setIfInBounds q v)[t]? =some z
 cases h1:Nat.beq p t with
 |true=>
  rw[h1]at ht
  have h1' :p=t:=Nat.eq_of_beq_eq_true h1
  simp only[cond_true,Option.some.injEq]at ht
  subst h1';subst ht
  rw[Array.getElem?_setIfInBounds_ne (Ne.symm hne),Array.getElem?_setIfInBounds_self_of_lt (by omega)]
 |false=>
  rw[h1]at ht
  simp only[cond_false]at ht
  have h1' :p≠t:=Nat.ne_of_beq_eq_false h1
  cases h2:Nat.beq q t with
  |true=>
   rw[h2]at ht
   have h2' :q=t:=Nat.eq_of_beq_eq_true h2
   simp only[cond_true,Option.some.injEq]at ht
   subst h2';subst ht
   rw[Array.getElem?_setIfInBounds_self_of_lt (by simp;omega)]
  |false=>
   rw[h2]at ht
   have h2' :q≠t:=Nat.ne_of_beq_eq_false h2
   rw[Array.getElem?_setIfInBounds_ne h2',Array.getElem?_setIfInBounds_ne h1']
   exact ha.gt t z (by simpa using ht)
theorem vP{P:Program}{f:Nat}{fn:Func}{c:Code}{vs:List Value}{R:Value→List bg→List bg→Prop}{N:Nat}{X0 S0:List bg}(hf:P.funcs[f]? =some fn)(hb:fn.body=some c)(hN:fn.ntmps=N)(hl:vs.length≤N)
  (h:∀b,HC P (bodyPostM Fence.wide 3 P fn (RB b R)) N [] c (fI vs 0) b X0 S0):cf P f vs X0 S0 R:=fun w m=>by
 refine callsIn_wide (n:=3).1 (callsIn_of_wp_marks hf hb trivial (wpIn_wide.2 (h _ w m _ ⟨?_,rfl,fun t v ht=> ?_⟩)))
 ·simp[hN];omega
 ·obtain⟨_,h2⟩:=gE vs 0 t v ht
  have hlt:=(List.getElem?_eq_some_iff.1 h2).1
  rw[Array.getElem?_append_left (by simpa using hlt)]
  simpa using h2
section
variable{P:Program}{fn:Func}{R:Value→List bg→List bg→Prop}{N n:Nat}{D:List Deferred}{ρ:Env}{b:cg}{X X' Xz S S' :List bg}{e:Exit}
theorem EC{Dk:Nat}(he:Leaves e)(is:List Nat)(hX:bN is X=some ([j9 Dk],X'))(k:HQ (bodyPostM Fence.wide n P fn (RB b R)) N D e ρ b X' S):HQ (bodyPostM Fence.wide n P fn (RB b R)) N (⟨.collected Dk, #[]⟩::D) e ρ b X S:=by
 intro w m a ha
 have m1:=m.perm (ao _ _ _ _ hX)
 have hc:w.heap[Dk]? =some (.deferred (some [])):=m1.hx (j9 Dk) (by simp)
 have hx1:=(List.pairwise_cons.1 m1.xx).1
 have hr:=run_takeDeferred (P:=P) hc
 have hf:Fr (fun k=>k=Dk) w (w.putObj Dk (.deferred none)):=⟨rfl,rfl,rfl,by simp,fun k _ hk=>World.putObj_heap_other hk⟩
 have hbz:b.w.heap.size≤Dk∨b.M Dk:=(m1.nx (j9 Dk) (by simp) Dk rfl).symm
 have m2:Mem b X' S (w.putObj Dk (.deferred none)):=by
  refine⟨m1.fr.trans hf (fun _ e=>e) (fun i hi e=> ?_),(List.pairwise_cons.1 m1.xx).2,fun x hx=>m1.xs x (List.mem_cons_of_mem _ hx),fun x hx=>x.gV hf (fun k hk e=> ?_) (m1.hx x (List.mem_cons_of_mem _ hx)),fun s hs=>s.gV hf (fun k hk e=> ?_) (m1.hs s hs),fun x hx=>m1.nx x (List.mem_cons_of_mem _ hx),m1.ns⟩
  ·subst e
   rcases hbz with h|h
   ·omega
   ·exact h
  ·exact hx1 x hx k e hk
  ·exact m1.xs (j9 Dk) (by simp) s hs k e hk
 have hk:=k _ m2 {a with defers:=D} ⟨ha.sz,rfl,ha.gt⟩
 cases e with
 |normal=>
  show LeavesInM Fence.wide n P fn a.tmps _ a.defers .returning w
  rw[ha.df]
  exact⟨by simp,.inl ⟨Dk,_,rfl,hr,hk⟩⟩
 |ret=>
  show LeavesInM Fence.wide n P fn a.tmps _ a.defers .returning w
  rw[ha.df]
  exact⟨by simp,.inl ⟨Dk,_,rfl,hr,hk⟩⟩
 |_=>exact he.elim
theorem GA{v:Value}(he:Leaves e)(h:∀a,Ag N [] ρ a→∀w,(results fn a.tmps).run P w= .ok v w)(is:List Nat)(hX:bN is X=some (X',Xz))(js:List Nat)(hS:dh js S=some S')(hR:R v X' S'):HQ (bodyPostM Fence.wide n P fn (RB b R)) N [] e ρ b X S:=by
 intro w m a ha
 have hm:=m.out is hX js hS
 cases e with
 |normal=>
  show LeavesInM Fence.wide n P fn a.tmps _ a.defers .returning w
  rw[ha.df]
  exact⟨v,h a ha w,_,_,_,rfl,hR,hm⟩
 |ret=>
  show LeavesInM Fence.wide n P fn a.tmps _ a.defers .returning w
  rw[ha.df]
  exact⟨v,h a ha w,_,_,_,rfl,hR,hm⟩
 |_=>exact he.elim
theorem rz{t t' :Nat}{v v' :Value}(he:Leaves e)(hr:fn.results= #[.tmp t,.tmp t'])(hv:get ρ t=some v)(hv' :get ρ t' =some v')(is:List Nat)(hX:bN is X=some (X',Xz))(js:List Nat)(hS:dh js S=some S')(hR:R (.tuple #[v,v']) X' S'):HQ (bodyPostM Fence.wide n P fn (RB b R)) N [] e ρ b X S:=
 GA he (fun a ha w=>by have h1:=ha.getD hv;have h2:=ha.getD hv';simp at h1 h2;simp[results,hr,h1,h2]) is hX js hS hR
end
end Go.Eng
end
section
namespace Go.Proofs.YtmibdabdlgmafaaGreatDoor
open Go.Eng Go.RowKit Go.Shelf
attribute [local go_sem] Oper.semAt_some
set_option maxRecDepth 100000 in
set_option maxHeartbeats 4000000 in
theorem yX(F:Fence)(n:Nat)(h7:F.fn 297)(hro:F.round=none)(hn:1≤n)(l Bs B b off cap:Nat)(M:Nat→Prop)(zs:List Int){α:Type}(L:List α)(encs:α→List Value)(hL:L.length=zs.length)(henc:∀(k:Nat) (x:α),L[k]? =some x→encs x=[.int .i64 ((zs.length-1-k:Nat):Int),.int .i64 (zs[zs.length-1-k]?.getD 0)])(hreach:zs.length*8≤140737488351232)(hbs:Bs<B∧¬M Bs)(hb:b<B∧¬M b)(J Jx:List α→World→Prop)
  (hY:∀pre x W,J pre W→pre.length<L.length→YieldAt F (n-1) Tryz.prog l (encs x).toArray W fun e W' =>
   (e= .returned (.bool true)∧J (pre++[x]) W' ∧FQ B M W W')∨(e= .returned (.bool false)∧Jx (pre++[x]) W'))
  (W:World) (hBs:W.cell? ⟨Bs,0,none⟩=some (.slice (some ⟨b,off,none⟩) zs.length cap)) (hc:∀j,j<zs.length→W.cell? ⟨b,off+j,none⟩=some (.int .i64 (zs[j]?.getD 0))) (h0:J [] W):
  CallsIn F n Tryz.prog 297 #[.func (.yield l) #[] #[],.pointer (some ⟨Bs,0,none⟩)] W fun e W' =>(∃v,e= .returned v)∧
   ((∃ys,ys=L∧J ys W')∨(∃pre,pre<+:L∧Jx pre W')):=by
 refine callsIn_of_wp Tryz.func297 rfl h7 ?_ hro
 simp only[Tryz.ntmps297,List.size_toArray,List.length_cons,List.length_nil,Nat.reduceAdd,Nat.reduceSub,Array.replicate_succ,Array.replicate_zero,List.push_toArray,List.append_toArray,List.nil_append,List.cons_append]
 gi_wp2
 gi_loopw [3] (fun i wr=>∃k:Nat,k≤zs.length∧i= .int .i64 ((zs.length:Int)-1-(k:Int))∧J (L.take k) wr∧FQ B M W wr)
  (fun i _=>(intOf i+1).toNat)
 case atStart=>exact⟨0,Nat.zero_le _,by simp,h0,fun _ _ _=>rfl⟩
 case round=>
  obtain⟨k,hk,rfl,hJs,hnx⟩:=hrel
  have hBs' :wr.cell? ⟨Bs,0,none⟩=some (.slice (some ⟨b,off,none⟩) zs.length cap):=by rw[←hBs];simp only[World.cell?,hnx Bs hbs.1 hbs.2]
  have hcx:∀j,j<zs.length→wr.cell? ⟨b,off+j,none⟩=some (.int .i64 (zs[j]?.getD 0)):=fun j h=>by rw[←hc j h];simp only[World.cell?,hnx b hb.1 hb.2]
  by_cases hlt:k<zs.length
  ·obtain⟨j,hj⟩:∃j:Nat,j+1+k=zs.length:=⟨zs.length-1-k,by omega⟩
   have hjk:zs.length-1-k=j:=by omega
   have hji:(zs.length:Int)-1-(k:Int)=(j:Int):=by omega
   obtain⟨x,hx⟩:∃x,L[k]? =some x:=⟨_,List.getElem?_eq_getElem (by omega)⟩
   have htk:L.take (k+1)=L.take k++[x]:=by rw[List.take_add_one,hx];rfl
   obtain⟨fn,tmps,assign,body,hy,hR⟩:=hY _ x wr hJs (by rw[List.length_take];omega)
   rw[henc k x hx,hjk]at hy
   have hcx' :=hcx j (by omega)
   obtain⟨z,hz⟩:∃z,zs[j]?.getD 0=z:=⟨_,rfl⟩
   rw[hz]at hcx' hy
   clear hcx hz hc
   rw[hji]
   have hge:¬((j:Int)<0):=by omega
   have hjl:j<zs.length:=by omega
   gi_wp2
   refine hR.mono ?_
   rintro e W3 (⟨rfl,hJ3,hk3⟩|⟨rfl,hJx3⟩)
   ·gi_wp2
    go_roundw
    case rel=>exact⟨k+1,by omega,by congr 1 <;> omega,by rw[htk];exact hJ3,fun q h1 h2=>(hk3 q h1 h2).trans (hnx q h1 h2)⟩
    case measure=>simp[intOf] <;> omega
   ·gi_wp2
    refine bodyPost_ret (results_none rfl _ _ _) rfl ?_
    exact⟨⟨_,rfl⟩,.inr ⟨_,by rw[←htk];exact List.take_prefix _ _,hJx3⟩⟩
  ·obtain rfl:k=zs.length:=by omega
   have hge:¬((zs.length:Int)-1-(zs.length:Int)≥0):=by omega
   gi_wp2
   go_end0
   exact⟨⟨_,rfl⟩,.inl (by rw[←hL,List.take_length]at hJs;exact hJs)⟩
set_option maxRecDepth 100000 in
set_option maxHeartbeats 4000000 in
theorem sN(F:Fence)(n:Nat)(h7:F.fn 297)(hro:F.round=none)(l Bs cap:Nat)(A:Option Addr)(J:World→Prop)
  (W:World) (hBs:W.cell? ⟨Bs,0,none⟩=some (.slice A 0 cap)) (h0:J W):
  CallsIn F n Tryz.prog 297 #[.func (.yield l) #[] #[],.pointer (some ⟨Bs,0,none⟩)] W fun e W' =>(∃v,e= .returned v)∧J W' :=by
 refine callsIn_of_wp Tryz.func297 rfl h7 ?_ hro
 simp only[Tryz.ntmps297,List.size_toArray,List.length_cons,List.length_nil,Nat.reduceAdd,Nat.reduceSub,Array.replicate_succ,Array.replicate_zero,List.push_toArray,List.append_toArray,List.nil_append,List.cons_append]
 gi_wp2
 gi_loopw [3] (fun i wr=>i= .int .i64 (-1)∧J wr) (fun _ _=>0)
 case atStart=>exact⟨by simp,h0⟩
 case round=>
  obtain⟨rfl,hJs⟩:=hrel
  gi_wp2
  go_end0
  exact⟨⟨_,rfl⟩,hJs⟩
theorem pM(F:Fence)(n:Nat)(h7:F.fn 297)(hro:F.round=none)(hn:1≤n){w:World}{Bs e:Nat}{v:Value}{zs:List Int}{M:Nat→Prop}{α:Type}(L:List α)(encs:α→List Value)(hL:L.length=zs.length)(henc:∀(k:Nat) (x:α),L[k]? =some x→encs x=[.int .i64 ((zs.length-1-k:Nat):Int),.int .i64 (zs[zs.length-1-k]?.getD 0)])(hreach:zs.length*8≤140737488351232)
  (hBs:w.cell? ⟨Bs,0,none⟩=some v) (hMB:¬M Bs) (h:Go.Eng.Own w 0 e 1 v zs.length (zs.map (Value.int .i64))) (hMA:∀k,j8 v k→¬M k):
  SeqStopsK F n Tryz.prog 297 #[.pointer (some ⟨Bs,0,none⟩)] (fun x=>(encs x).toArray) (FQ w.heap.size M) (fun ys=>ys=L) (fun pre=>pre<+:L) L.length w:=by
 intro l J Jx W hW _ _ hY h0
 have hlt:=lu hBs
 have hc' :W.cell? ⟨Bs,0,none⟩=some v:=(hW.cell (p:=⟨Bs,0,none⟩) hlt).trans hBs
 obtain⟨hl,⟨rfl,hz⟩|⟨g,o,cap,cur,rfl,_,hb,hcap,hml,hcl,hx⟩⟩:=h
 ·have hL0:L=[]:=List.eq_nil_of_length_eq_zero (by omega)
  subst hL0
  exact(sN F n h7 hro l Bs 0 none (J []) W hc' h0).mono fun e W' ⟨he,hj⟩=>⟨he,.inl ⟨_,rfl,hj⟩⟩
 ·by_cases hz:zs.length=0
  ·have hL0:L=[]:=List.eq_nil_of_length_eq_zero (by omega)
   subst hL0
   rw[hz]at hc'
   exact(sN F n h7 hro l Bs cap _ (J []) W hc' h0).mono fun e W' ⟨he,hj⟩=>⟨he,.inl ⟨_,rfl,hj⟩⟩
  ·have hcs:∀j,j<zs.length→W.cell? ⟨g,o+j,none⟩=some (.int .i64 (zs[j]?.getD 0)):=fun j hj=>by
    refine(hW.cell (p:=⟨g,o+j,none⟩) hb.lt).trans (hb.cell ?_)
    have h1:((cur.drop o).take (zs.length*1))[j]? =(zs.map (Value.int .i64))[j]? :=by rw[hx]
    rw[List.getElem?_take,if_pos (by omega),List.getElem?_drop,List.getElem?_map,List.getElem?_eq_getElem hj]at h1
    rw[h1,List.getElem?_eq_getElem hj]
    rfl
   have hsz:=hW.size
   have:=yX F n h7 hro hn l Bs w.heap.size g o cap M zs L encs hL henc hreach ⟨hlt,hMB⟩ ⟨hb.lt,hMA g rfl⟩ J Jx hY W hc' hcs h0
   refine this.mono ?_
   rintro e W' ⟨he,⟨ys,rfl,hj⟩|⟨pre,hp,hj⟩⟩
   ·exact⟨he,.inl ⟨_,rfl,hj⟩⟩
   ·exact⟨he,.inr ⟨_,hp,hj⟩⟩
end Go.Proofs.YtmibdabdlgmafaaGreatDoor
end
section
set_option maxRecDepth 20000
set_option maxHeartbeats 2000000
namespace Go.Proofs.YtmibdabdlgmafaaGreatDoor
open Go.Eng Go.Hx
def eM(zs:List Nat)(i:Nat)(h:∀z∈zs,z<i):List {x:Nat×Nat//x.2<i}:=(zs.attach.zipIdx.map fun x=>(⟨(x.2,x.1.1),h _ x.1.2⟩:{x:Nat×Nat//x.2<i})).reverse
theorem iE(zs:List Nat)(i:Nat)(h:∀z∈zs,z<i):(eM zs i h).length=zs.length:=by simp[eM]
theorem nX(zs:List Nat)(i:Nat)(h:∀z∈zs,z<i):(eM zs i h).map (fun x=>x.1.2)=zs.reverse:=by
 unfold eM
 rw[List.map_reverse,List.map_map]
 congr 1
 apply List.ext_getElem
 ·simp
 ·intro j h1 h2
  simp
theorem sV(zs:List Nat)(i:Nat)(h:∀z∈zs,z<i)(k:Nat)(x:{x:Nat×Nat//x.2<i})(hx:(eM zs i h)[k]? =some x):k<zs.length∧x.1.1=zs.length-1-k∧zs[zs.length-1-k]? =some x.1.2:=by
 have hk:k<zs.length:=by rw[←iE zs i h];exact(List.getElem?_eq_some_iff.1 hx).1
 unfold eM at hx
 rw[List.getElem?_reverse (by simpa using hk)]at hx
 simp only[List.length_map,List.length_zipIdx,List.length_attach,List.getElem?_map,List.getElem?_zipIdx,Nat.zero_add]at hx
 have hlt:zs.length-1-k<zs.attach.length:=by simp;omega
 rw[List.getElem?_eq_getElem hlt]at hx
 simp only[Option.map_some,Option.some.injEq]at hx
 subst hx
 refine⟨hk,rfl, ?_⟩
 rw[List.getElem?_eq_getElem (by simpa using hlt)]
 simp
theorem lh(f:Nat×Nat→Nat→Nat×Nat)(s:Nat×Nat)(i:Nat)(L:List {x:Nat×Nat//x.2<i}):L.foldl (fun s x=>f s x.1.2) s=(L.map (fun x=>x.1.2)).foldl f s:=by rw[List.foldl_map]
theorem p7{l:List UInt8}{i:Nat}{zs:List Nat}(hz:zs=kz l i (ee l i))(hi:i+4≤l.length)(h:∀z∈zs,z<i){s:Nat×Nat}
  (hs:s=(eM zs i h).foldl (fun s x=>fO l i s x.1.2) (0,0)∨∃pre x rest,eM zs i h=pre++x::rest∧s=pre.foldl (fun s x=>fO l i s x.1.2) (0,0)∧1024<i-x.1.2):s=bf l i:=by
 subst hz
 rcases hs with rfl|⟨pre,x,rest,e,rfl,hb⟩
 ·rw[lh,nX,ui hi]
 ·have e2:=congrArg (List.map fun x=>x.1.2) e
  rw[nX,List.map_append,List.map_cons]at e2
  rw[lh,←ui hi]
  exact(xC e2 hb).symm
def lp(l:List Nat):List Int:=l.map fun n:Nat=>(n:Int)
theorem eN(l:List Nat):(lp l).length=l.length:=List.length_map ..
theorem yd{w:World}{e:TypeId}{v:Value}{l:List Nat}(h:Go.Eng.Own w 0 e 1 v l.length (Bh l)):Go.Eng.Own w 0 e 1 v (lp l).length ((lp l).map (Value.int .i64)):=by
 rw[eN]
 unfold lp
 rw[List.map_map]
 exact h
theorem Es{es:u0}{j:Nat}{x:ki}(h:(fP es)[j]? =some x.res):(x.res::(fP es).eraseIdx j).Perm (fP es):=by
 obtain⟨h1,h2⟩:=List.getElem?_eq_some_iff.1 h
 have:=gv (fP es) j h1
 rwa [h2]at this
theorem CU{A:Option Addr}{n c:Nat}:cf Tryz.prog 271 [.slice A n c] [] [] (fun v_ X_ S_=>∃gB,v_=(.func (.func 297) #[] #[.pointer (some ⟨gB,0,none⟩)])∧X_=[aE gB 44 [.slice A n c]]∧S_=[]):=by
 refine aK (N:=4) Tryz.func271 rfl rfl (by simp) fun b=> ?_
 refine ae<|ah<| ?_
 refine hx (br rfl (fun g1=> ?_))
 refine aG rfl<|ag<|aY rfl rfl<|aa<|ae<|ah<|hy (fun _=>fD rfl rfl)<|aG rfl<|ag<|az [2,1,0] rfl<|aa<|aR<| ?_
 refine bd (fun w m=>m.bw 0 rfl (show _=aE g1 44 [.slice A n c]from rfl)) ?_
 exact bc trivial rfl rfl [0] rfl [] rfl ⟨_,rfl,rfl,rfl⟩
theorem FO{A:Option Addr}{n c:Nat}:cf Tryz.prog 229 [.slice A n c] [] [] (fun v_ X_ S_=>∃g gm,v_=(.pointer (some ⟨g,0,none⟩))∧X_=[nL g gm A n c 0 []]∧S_=[]):=by
 refine aK (N:=7) Tryz.func229 rfl rfl (by simp) fun b=> ?_
 refine ae<|ah<|aG rfl<|ag<|aa<|ae<|ah<|au rfl<| ?_
 refine hx (mH (KN (n:=4)) (fun g4=> ?_))
 refine hy (fun _=>b6 FC rfl rfl (by kernel_rfl) (.cons (o:=0) (sz:=1) (by kernel_rfl) rfl rfl (Nat.le_of_ble_eq_true rfl) (.cons (o:=1) (sz:=1) (by kernel_rfl) rfl rfl (Nat.le_of_ble_eq_true rfl) .nil)))<| ?_
 refine hx (br rfl (fun g6=> ?_))
 refine aG rfl<|ag<|az [2,0] rfl<|aY rfl rfl<|aa<|aR<| ?_
 refine bd (fun w m=>m.CA) ?_
 refine bd (fun w m=>m.bw 1 rfl (show _=aE g6 359 [.slice A n c,.map (some g4),.int .i64 ((0:Nat):Int)]from rfl)) ?_
 refine bd (X' :=nL g6 g4 A n c 0 []::_) (fun w m=>(m.perm (ao [0,1,0] _ [_,_,_] _ rfl)).pack) ?_
 exact bc trivial rfl rfl [0] rfl [] rfl ⟨_,_,rfl,rfl,rfl⟩
theorem AT(zs:List Nat)(i:Nat)(h:∀z∈zs,z<i)(k:Nat)(x:{x:Nat×Nat//x.2<i})(hx:(eM zs i h)[k]? =some x):[Value.int .i64 (x.1.1:Nat),.int .i64 (x.1.2:Nat)]=[.int .i64 (((lp zs).length-1-k:Nat):Int),.int .i64 ((lp zs)[(lp zs).length-1-k]?.getD 0)]:=by
 obtain⟨h1,h2,h3⟩:=sV zs i h k x hx
 rw[eN]
 unfold lp
 rw[List.getElem?_map,h3,h2]
 rfl
theorem DX{g gm:Nat}{A:Option Addr}{n c p i:Nat}{l:List UInt8}{es:u0}(hc:n≤c)(hn:n≤1000000000)(hl:l.length=n)(hpi:p≤i)(hi:i≤n)(hF:x6 l p es):cf Tryz.prog 231 [.pointer (some ⟨g,0,none⟩),.int .i64 (i:Nat)] [nL g gm A n c p es] [cz 1 A n (aT l)] (fun v_ X_ S_=>∃p1 es1,v_=(.tuple #[.int .i64 ((bf l i).1:Nat),.int .i64 ((bf l i).2:Nat)])∧X_=[nL g gm A n c p1 es1]∧S_=[]∧(p1≤i∧x6 l p1 es1)):=by
 refine vP (N:=60) Tryz.func231 rfl rfl (by simp) fun b=> ?_
 refine aQ (fun m=>ek (m.rd 0 rfl)) ?_
 rintro⟨hl_r,hA_r⟩
 refine a8 (fun w m=>(m.perm (ao [0] _ [_] _ rfl)).unpack) ?_
 refine ae<|ah<| ?_
 refine hx (br rfl (fun g2=> ?_))
 refine hx (br rfl (fun g3=> ?_))
 refine aG rfl<|aG rfl<|ag<|aY rfl rfl<|aa<|ae<|ae<|cA [] [(0,some 0),(1,some 0),(2,some 0),(3,some 0),(4,some 0),(5,some 0),(6,some 0),(7,some 0)] (by kernel_rfl) (by kernel_rfl) rfl 99<|bV (fun m=>ak rfl cY (ar (m.aN 0 rfl) rfl))<|aj (aO rfl rfl (bE (by omega) (by omega)))<|bV (fun m=>ak rfl om (ar (m.aN 1 rfl) rfl))<|aj (aL rfl)<|aj (ax rfl jP (by decide))<|bV (fun m=>ak rfl di (ar (m.aN 2 rfl) rfl))<|aj (a6 rfl Tryz.underlying27)<|aj (cw rfl rfl)<|bp<|az [18,5,4,3,2,0,1] rfl<|aa<| ?_
 refine cu rfl (fun h1=> ?_) (fun h1=> ?_)
 ·have e:=s5 (b:=l) (i:=i) (by omega) (by omega)
  rw[e]
  refine ae<|ah<|aG rfl<|aG rfl<|ag<|aa<|aR<|aq<| ?_
  refine bd (X' :=nL g gm A n c p es::_) (fun w m=>(m.perm (ao [2,2,2] _ [_,_,_] _ rfl)).pack) ?_
  exact rz trivial rfl rfl rfl [0] rfl [] rfl ⟨p,es,rfl,rfl,rfl,⟨hpi,hF⟩⟩
 ·have hi4:i+4≤n:=by omega
  refine aB<|aa<|ae<| ?_
  refine a8 (X' :=nL g gm A n c p es::_) (fun w m=>(m.perm (ao [2,2,2] _ [_,_,_] _ rfl)).pack) ?_
  refine ah<|hy (fun m=>ak rfl om (ar (m.aN 2 rfl) rfl))<|hy (fun m=>ak rfl cY (ar (m.aN 1 rfl) rfl))<| ?_
  refine hx (an rfl Tryz.call270 (Gw (by omega) (by omega) hl (by omega) (by omega) hF) [0] rfl [0] rfl ?_)
  rintro _ _ _ ⟨es1,rfl,rfl,rfl,hp⟩
  have hF1:=hp
  refine ag<|az [18,5,4,3,2,0,1] rfl<|aY rfl rfl<|aa<|ae<|ah<| ?_
  refine hx (ba Fi (fun g6=> ?_))
  refine hx (ba Fi (fun g7=> ?_))
  refine cF (dw 1 rfl rfl rfl tA rfl (by first|exact Nat.le_of_ble_eq_true rfl|simp) ?_)
  refine cF (dw 1 rfl rfl rfl tA rfl (by first|exact Nat.le_of_ble_eq_true rfl|simp) ?_)
  refine ag<|aY rfl rfl<|aa<|ae<|ae<| ?_
  refine a8 (fun w m=>(m.perm (ao [2] _ [_] _ rfl)).unpack) ?_
  refine aQ (fun m=>(m.rd 0 rfl).some (by omega)) fun h_=> ?_
  obtain⟨a,rfl⟩:∃a_,A=some a_:=⟨_,h_⟩
  clear h_
  rcases hq:bF es1 ⟨ee l i,bK (by omega)⟩with _|x
  ·have e0:=q6 hF1 hq
   refine cA [15] [(0,some 1),(1,some 0),(2,some 0),(3,some 0),(4,some 1),(5,some 1),(6,some 1),(7,some 1),(8,some 1),(9,some 1),(10,some 1),(11,some 0),(12,some 0),(13,some 0),(14,some 0),(15,none)] (by kernel_rfl) (by kernel_rfl) rfl 99<|bV (fun m=>ak rfl om (ar (m.aN 6 rfl) rfl))<|aj (aL rfl)<|aj (ax rfl rm (by decide))<|bV (fun m=>ak rfl yW (ar (m.aN 0 rfl) rfl))<|bV (fun m=>ak rfl om (ar (m.aN 6 rfl) rfl))<|aj (aL rfl)<|aj (ax rfl jP (by decide))<|bV (fun m=>ak rfl di (ar (m.aN 0 rfl) rfl))<|bV (fun m=>ak rfl cY (ar (m.aN 5 rfl) rfl))<|bV (fun m=>ak rfl cY (ar (m.aN 5 rfl) rfl))<|aj (aO rfl rfl (bE (by omega) (by omega)))<|aj (yV (eA rfl rfl rfl Tryz.underlying27 dJ rfl (show((i+4:Nat):Int)=_ by omega) (by omega) (by omega)) ((show Value.slice (if c=i then some a else(some a).map (·.add (i*1))) (i+4-i) (c-i)= .slice (some (a.add i)) 4 (c-i) by rw[if_neg (by omega),Nat.mul_one,Nat.add_sub_cancel_left];rfl)))<|aj (sC rfl Tryz.underlying364 (by omega))<|bV (fun m=>yV (aP rfl wx tE (by rw[aA];exact bK (by omega)) (Rd.part (m.rd 0 rfl))) ((show Value.agg (aT ((l.drop i).take 4)).toArray=KN ⟨ee l i,bK (by omega)⟩from rfl)))<|bV (fun m=>yV (gn (enc:=(KN (n:=4))) (k:=⟨ee l i,bK (by omega)⟩) rfl rfl Tryz.underlying357 Eo (zU Tryz.underlying364 Tryz.underlying5 (by kernel_rfl) (by kernel_rfl) (by kernel_rfl)) (m.mr 1 rfl)) ((show ff false (.slice none 0 0) (bF (jj es1) ⟨ee l i,bK (by omega)⟩)= .slice none 0 0 by rw[kU,hq];rfl)))<| ?_
   refine dk (an rfl Tryz.call271 (CU) [] rfl [] rfl ?_)
   rintro _ _ _ ⟨gB,rfl,rfl,rfl⟩
   refine⟨(fun _=>wk [1,1,1,1,1,1,1] [0] rfl rfl), ?_⟩
   refine bp<|az [37,7,6,18,5,4,3,2,0,1] rfl<|aY rfl rfl<|aa<| ?_
   have hlt:∀z∈([]:List Nat),z<i:=fun z hz=>by cases hz
   refine ye (σ:=Nat×Nat) (α:={x:Nat×Nat//x.2<i}) (ρ' :=[]) (fun s_:Nat×Nat=>[aE g6 3 [.int .i64 (s_.1:Nat)],aE g7 3 [.int .i64 (s_.2:Nat)],aE g3 3 [.int .i64 (i:Nat)],aE g2 322 [.pointer (some ⟨g,0,none⟩)],aE g 359 [.slice (some a) n c,.map (some gm),.int .i64 (i:Nat)]]) (0,0) (fun s_ x_=>fO l i s_ x_.1.2) (fun s_ x_=>1024<i-x_.1.2) (fun x_=>[.int .i64 (x_.1.1:Nat),.int .i64 (x_.1.2:Nat)]) (eM (([]:List Nat)) i hlt) (fun x_=>[(9,.int .i64 (x_.1.2:Nat))]) [(37,_),(7,_),(6,_),(18,_),(5,_),(4,_),(3,_),(2,_),(0,_),(1,_)] ⟨rfl,rfl,rfl,rfl,rfl,rfl,rfl,rfl,rfl,rfl,trivial⟩ rfl Tryz.call297 [5,4,4,4,1] rfl (fun s_ k_=>by simp[c6,aE]) [0] rfl (fun w m=>pM Fence.wide 2 trivial rfl (by decide) (zs:=lp (([]:List Nat))) (e:=3) (eM (([]:List Nat)) i hlt) (fun x_=>[.int .i64 (x_.1.1:Nat),.int .i64 (x_.1.2:Nat)]) (by rw[iE,eN]) (AT _ _ _) (by rw[eN];first|omega|simp) (ar (m.aN 0 rfl) rfl) (m.off (is:=[5,4,4,4,1]) rfl 0 rfl rfl) (Go.Eng.Own.nil _ _ _ _) (fun k hk=>hk.elim)) (fun _=>rfl) (by decide) (fun _ _ ha_=>yg rfl (by decide) (by decide) ha_) (fun l_ b_ s_ x_ Q_ h_=> ?_) (fun l_ b s_ x_=> ?_) (fun Dk_ s_ hs_=> ?_)
   ·exact pg (aG rfl ((ag (by refine j7 ?_ h_;exact⟨rfl,rfl,rfl,rfl,rfl,rfl,rfl,rfl,rfl,rfl,rfl,trivial⟩))))
   ·obtain⟨u1,u2⟩:=s_
    obtain⟨⟨j,q⟩,hq2⟩:=x_
    try dsimp only
    have hq2:q<i:=hq2
    refine rK<|oq<|oq<|pg<|hy (fun m=>ak rfl cY (ar (m.aN 2 rfl) rfl))<|au rfl<|hy (fun _=>ct rfl rfl (bE (by omega) (by omega)))<|hy (fun _=>cw rfl rfl)<|ag<|az [43,9,37,7,6,18,5,4,3,2,0,1] rfl<|ky<| ?_
    refine CI rfl (fun hb=> ?_) (fun hb=> ?_)
    ·refine AQ<|al<|k8 (by decide)<| ?_
     exact ra [0,0,0,0,0] rfl [0] rfl ((show 1024<i-q by omega))
    ·refine oS<|ky<|oq<|AS [6] [(0,some 0),(1,some 0),(2,some 0),(3,some 0),(4,some 0),(5,some 0),(6,none),(7,some 1)] (by kernel_rfl) (by kernel_rfl) rfl 99<|bV (fun m=>ak rfl om (ar (m.aN 3 rfl) rfl))<|aj (aL rfl)<|aj (ax rfl jP (by decide))<|bV (fun m=>ak rfl di (ar (m.aN 4 rfl) rfl))<|bV (fun m=>ak rfl cY (ar (m.aN 2 rfl) rfl))<|aj (ai rfl)<| ?_
     refine dk (an rfl Tryz.call272 (C0 (by omega) hl (by omega) (by omega)) [] rfl [0] rfl ?_)
     rintro _ _ _ ⟨rfl,rfl,rfl⟩
     refine⟨(fun _=>wk [0,0,0,0,0] [0] rfl rfl), ?_⟩
     refine aj (ay rfl)<|bp<|az [10,43,9,37,7,6,18,5,4,3,2,0,1] rfl<|aY rfl rfl<|ky<|oq<|pg<|au rfl<|hy (fun m=>ak rfl cY (ar (m.aN 0 rfl) rfl))<|hy (fun _=>cw rfl rfl)<|ag<|az [53,10,43,9,37,7,6,18,5,4,3,2,0,1] rfl<|ky<| ?_
     refine CI rfl (fun hx1=> ?_) (fun hx1=> ?_)
     ·refine zB [2,2,2] [0] rfl rfl [4,5] [(0,some 0),(1,some 1),(2,some 1),(3,some 1),(4,none),(5,none)] (by kernel_rfl) (by kernel_rfl) rfl 99<|aj (ai rfl)<|bV (fun m=>ak rfl cY (ar (m.aN 0 rfl) rfl))<|aj (ai rfl)<|aj (yV (ct rfl rfl (bE (by omega) (by omega))) ((show Value.int .i64 ((i:Int)-(q:Int))= .int .i64 ((i-q:Nat):Int) by congr 1;omega)))<| ?_
      refine gi (dw 0 rfl rfl rfl tA rfl (by first|exact Nat.le_of_ble_eq_true rfl|simp) ⟨(fun _=>wk [2,2,2] [0] rfl rfl), ?_⟩)
      refine gi (dw 1 rfl rfl rfl tA rfl (by first|exact Nat.le_of_ble_eq_true rfl|simp) ⟨(fun _=>wk [2,2,2] [0] rfl rfl), ?_⟩)
      refine bp<|az [53,10,43,9,37,7,6,18,5,4,3,2,0,1] rfl<|aY rfl rfl<|aW<| ?_
      exact kO (lv l i q,i-q) (by show fO l i (u1,u2) q=_;unfold fO;rw[if_neg (by omega),if_pos (by show u1<_;omega)]) [1,0,0,0,0] rfl [0] rfl
     ·refine oS<|aW<| ?_
      exact kO (u1,u2) (by show fO l i (u1,u2) q=_;unfold fO;rw[if_neg (by omega),if_neg (by show¬u1<_;omega)]) [0,0,0,0,0] rfl [0] rfl
   ·obtain⟨u1,u2⟩:=s_
    have ag:=p7 e0.symm (by omega) hlt hs_
    have hu1:u1=(bf l i).1:=congrArg Prod.fst ag
    have hu2:u2=(bf l i).2:=congrArg Prod.snd ag
    refine aa<|ae<|cA [] [(0,some 0),(1,some 0),(2,some 0),(3,some 0)] (by kernel_rfl) (by kernel_rfl) rfl 99<|bV (fun m=>ak rfl cY (ar (m.aN 1 rfl) rfl))<|bV (fun m=>ak rfl cY (ar (m.aN 2 rfl) rfl))<|aj (ay rfl)<|aj (ay rfl)<|bp<|az [5,4,37,7,6,18,3,2,0,1] rfl<|aa<|aR<| ?_
    refine EC trivial [0] rfl ?_
    skip
    refine bd (X' :=nL g gm (some a) n c i es1::_) (fun w m=>(m.perm (ao [4,5,5] _ [_,_,_] _ rfl)).pack) ?_
    exact rz trivial rfl rfl rfl [0] rfl [] rfl ⟨i,es1,(by rw[←hu1,←hu2]),rfl,rfl,⟨Nat.le_refl _,hF1⟩⟩
  ·have e0:=tK hF1 hq
   refine cA [15] [(0,some 1),(1,some 0),(2,some 0),(3,some 0),(4,some 1),(5,some 1),(6,some 1),(7,some 1),(8,some 1),(9,some 1),(10,some 1),(11,some 0),(12,some 0),(13,some 0),(14,some 0),(15,none)] (by kernel_rfl) (by kernel_rfl) rfl 99<|bV (fun m=>ak rfl om (ar (m.aN 6 rfl) rfl))<|aj (aL rfl)<|aj (ax rfl rm (by decide))<|bV (fun m=>ak rfl yW (ar (m.aN 0 rfl) rfl))<|bV (fun m=>ak rfl om (ar (m.aN 6 rfl) rfl))<|aj (aL rfl)<|aj (ax rfl jP (by decide))<|bV (fun m=>ak rfl di (ar (m.aN 0 rfl) rfl))<|bV (fun m=>ak rfl cY (ar (m.aN 5 rfl) rfl))<|bV (fun m=>ak rfl cY (ar (m.aN 5 rfl) rfl))<|aj (aO rfl rfl (bE (by omega) (by omega)))<|aj (yV (eA rfl rfl rfl Tryz.underlying27 dJ rfl (show((i+4:Nat):Int)=_ by omega) (by omega) (by omega)) ((show Value.slice (if c=i then some a else(some a).map (·.add (i*1))) (i+4-i) (c-i)= .slice (some (a.add i)) 4 (c-i) by rw[if_neg (by omega),Nat.mul_one,Nat.add_sub_cancel_left];rfl)))<|aj (sC rfl Tryz.underlying364 (by omega))<|bV (fun m=>yV (aP rfl wx tE (by rw[aA];exact bK (by omega)) (Rd.part (m.rd 0 rfl))) ((show Value.agg (aT ((l.drop i).take 4)).toArray=KN ⟨ee l i,bK (by omega)⟩from rfl)))<|bV (fun m=>yV (gn (enc:=(KN (n:=4))) (k:=⟨ee l i,bK (by omega)⟩) rfl rfl Tryz.underlying357 Eo (zU Tryz.underlying364 Tryz.underlying5 (by kernel_rfl) (by kernel_rfl) (by kernel_rfl)) (m.mr 1 rfl)) ((show ff false (.slice none 0 0) (bF (jj es1) ⟨ee l i,bK (by omega)⟩)= .slice x.A x.l.length x.c by rw[kU,hq];rfl)))<| ?_
   refine dk (an rfl Tryz.call271 (CU) [] rfl [] rfl ?_)
   rintro _ _ _ ⟨gB,rfl,rfl,rfl⟩
   refine⟨(fun _=>wk [1,1,1,1,1,1,1] [0] rfl rfl), ?_⟩
   refine bp<|az [37,7,6,18,5,4,3,2,0,1] rfl<|aY rfl rfl<|aa<| ?_
   have hlt:∀z∈x.l,z<i:=fun z hz=>(Cr (e0▸hz)).1
   have hxl:x.l.length≤n:=by rw[e0];exact Nat.le_trans (nW _ _ _) (by omega)
   obtain⟨j,hj1,_⟩:=kg hq
   refine a8 (X' :=aI 3 1 (.slice x.A x.l.length x.c) x.l.length (Bh x.l)::_) (fun w m=>(m.perm (ao [3] _ [_] _ rfl)).ta j hj1) ?_
   refine ye (σ:=Nat×Nat) (α:={x:Nat×Nat//x.2<i}) (ρ' :=[]) (fun s_:Nat×Nat=>[aE g6 3 [.int .i64 (s_.1:Nat)],aE g7 3 [.int .i64 (s_.2:Nat)],aE g3 3 [.int .i64 (i:Nat)],aE g2 322 [.pointer (some ⟨g,0,none⟩)],aE g 359 [.slice (some a) n c,.map (some gm),.int .i64 (i:Nat)]]) (0,0) (fun s_ x_=>fO l i s_ x_.1.2) (fun s_ x_=>1024<i-x_.1.2) (fun x_=>[.int .i64 (x_.1.1:Nat),.int .i64 (x_.1.2:Nat)]) (eM (x.l) i hlt) (fun x_=>[(9,.int .i64 (x_.1.2:Nat))]) [(37,_),(7,_),(6,_),(18,_),(5,_),(4,_),(3,_),(2,_),(0,_),(1,_)] ⟨rfl,rfl,rfl,rfl,rfl,rfl,rfl,rfl,rfl,rfl,trivial⟩ rfl Tryz.call297 [6,5,5,5,3] rfl (fun s_ k_=>by simp[c6,aE]) [0] rfl (fun w m=>pM Fence.wide 2 trivial rfl (by decide) (zs:=lp (x.l)) (e:=3) (eM (x.l) i hlt) (fun x_=>[.int .i64 (x_.1.1:Nat),.int .i64 (x_.1.2:Nat)]) (by rw[iE,eN]) (AT _ _ _) (by rw[eN];first|omega|simp) (ar (m.aN 2 rfl) rfl) (m.off (is:=[6,5,5,5,3]) rfl 2 rfl rfl) (yd (m.own 0 rfl)) (fun k hk=>m.off (is:=[6,5,5,5,3]) rfl 0 rfl hk)) (fun _=>rfl) (by decide) (fun _ _ ha_=>yg rfl (by decide) (by decide) ha_) (fun l_ b_ s_ x_ Q_ h_=> ?_) (fun l_ b s_ x_=> ?_) (fun Dk_ s_ hs_=> ?_)
   ·exact pg (aG rfl ((ag (by refine j7 ?_ h_;exact⟨rfl,rfl,rfl,rfl,rfl,rfl,rfl,rfl,rfl,rfl,rfl,trivial⟩))))
   ·obtain⟨u1,u2⟩:=s_
    obtain⟨⟨j,q⟩,hq2⟩:=x_
    try dsimp only
    have hq2:q<i:=hq2
    refine rK<|oq<|oq<|pg<|hy (fun m=>ak rfl cY (ar (m.aN 2 rfl) rfl))<|au rfl<|hy (fun _=>ct rfl rfl (bE (by omega) (by omega)))<|hy (fun _=>cw rfl rfl)<|ag<|az [43,9,37,7,6,18,5,4,3,2,0,1] rfl<|ky<| ?_
    refine CI rfl (fun hb=> ?_) (fun hb=> ?_)
    ·refine AQ<|al<|k8 (by decide)<| ?_
     exact ra [0,0,0,0,0] rfl [0] rfl ((show 1024<i-q by omega))
    ·refine oS<|ky<|oq<|AS [6] [(0,some 0),(1,some 0),(2,some 0),(3,some 0),(4,some 0),(5,some 0),(6,none),(7,some 1)] (by kernel_rfl) (by kernel_rfl) rfl 99<|bV (fun m=>ak rfl om (ar (m.aN 3 rfl) rfl))<|aj (aL rfl)<|aj (ax rfl jP (by decide))<|bV (fun m=>ak rfl di (ar (m.aN 4 rfl) rfl))<|bV (fun m=>ak rfl cY (ar (m.aN 2 rfl) rfl))<|aj (ai rfl)<| ?_
     refine dk (an rfl Tryz.call272 (C0 (by omega) hl (by omega) (by omega)) [] rfl [0] rfl ?_)
     rintro _ _ _ ⟨rfl,rfl,rfl⟩
     refine⟨(fun _=>wk [0,0,0,0,0] [0] rfl rfl), ?_⟩
     refine aj (ay rfl)<|bp<|az [10,43,9,37,7,6,18,5,4,3,2,0,1] rfl<|aY rfl rfl<|ky<|oq<|pg<|au rfl<|hy (fun m=>ak rfl cY (ar (m.aN 0 rfl) rfl))<|hy (fun _=>cw rfl rfl)<|ag<|az [53,10,43,9,37,7,6,18,5,4,3,2,0,1] rfl<|ky<| ?_
     refine CI rfl (fun hx1=> ?_) (fun hx1=> ?_)
     ·refine zB [2,2,2] [0] rfl rfl [4,5] [(0,some 0),(1,some 1),(2,some 1),(3,some 1),(4,none),(5,none)] (by kernel_rfl) (by kernel_rfl) rfl 99<|aj (ai rfl)<|bV (fun m=>ak rfl cY (ar (m.aN 0 rfl) rfl))<|aj (ai rfl)<|aj (yV (ct rfl rfl (bE (by omega) (by omega))) ((show Value.int .i64 ((i:Int)-(q:Int))= .int .i64 ((i-q:Nat):Int) by congr 1;omega)))<| ?_
      refine gi (dw 0 rfl rfl rfl tA rfl (by first|exact Nat.le_of_ble_eq_true rfl|simp) ⟨(fun _=>wk [2,2,2] [0] rfl rfl), ?_⟩)
      refine gi (dw 1 rfl rfl rfl tA rfl (by first|exact Nat.le_of_ble_eq_true rfl|simp) ⟨(fun _=>wk [2,2,2] [0] rfl rfl), ?_⟩)
      refine bp<|az [53,10,43,9,37,7,6,18,5,4,3,2,0,1] rfl<|aY rfl rfl<|aW<| ?_
      exact kO (lv l i q,i-q) (by show fO l i (u1,u2) q=_;unfold fO;rw[if_neg (by omega),if_pos (by show u1<_;omega)]) [1,0,0,0,0] rfl [0] rfl
     ·refine oS<|aW<| ?_
      exact kO (u1,u2) (by show fO l i (u1,u2) q=_;unfold fO;rw[if_neg (by omega),if_neg (by show¬u1<_;omega)]) [0,0,0,0,0] rfl [0] rfl
   ·obtain⟨u1,u2⟩:=s_
    have ag:=p7 e0 (by omega) hlt hs_
    have hu1:u1=(bf l i).1:=congrArg Prod.fst ag
    have hu2:u2=(bf l i).2:=congrArg Prod.snd ag
    refine aa<|ae<|cA [] [(0,some 0),(1,some 0),(2,some 0),(3,some 0)] (by kernel_rfl) (by kernel_rfl) rfl 99<|bV (fun m=>ak rfl cY (ar (m.aN 1 rfl) rfl))<|bV (fun m=>ak rfl cY (ar (m.aN 2 rfl) rfl))<|aj (ay rfl)<|aj (ay rfl)<|bp<|az [5,4,37,7,6,18,3,2,0,1] rfl<|aa<|aR<| ?_
    refine EC trivial [0] rfl ?_
    refine bd (X' :=eD (fP es1)::_) (fun w m=>(Mem.rZ (m.perm (ao [5,5] _ [_,_] _ rfl))).mF (Es hj1)) ?_
    refine bd (X' :=nL g gm (some a) n c i es1::_) (fun w m=>(m.perm (ao [5,6,0] _ [_,_,_] _ rfl)).pack) ?_
    exact rz trivial rfl rfl rfl [0] rfl [] rfl ⟨i,es1,(by rw[←hu1,←hu2]),rfl,rfl,⟨Nat.le_refl _,hF1⟩⟩
end Go.Proofs.YtmibdabdlgmafaaGreatDoor
end
