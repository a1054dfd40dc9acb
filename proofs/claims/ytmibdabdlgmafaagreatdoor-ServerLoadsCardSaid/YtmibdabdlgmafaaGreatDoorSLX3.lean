/- Part. -/
import Derived.Test.YtmibdabdlgmafaaGreatDoorSLX2
import Derived.Laws.BitsAllLaws
import Derived.Recover
import Derived.WideKeyEntry
set_option linter.all false
section
set_option maxRecDepth 20000
namespace Go.Proofs.YtmibdabdlgmafaaGreatDoor
open Go.Eng Go.Hx
theorem A5{P:Program}{N:Nat}{D:List Deferred}{ρ:Env}{w:World}{x y:Operand}{ty t t' :TypeId}{a b:ByteArray}(hx:ev ρ x=some (.string a))(hy:ev ρ y=some (.string b)):Yl P N D ρ w (.binOp .geq t x y t') ty (.bool (!Op.bytesLess a.toList b.toList)):=
 fun _ _ _ _ _ ha=>by simp[execOp,ha.eval hx,ha.eval hy,eqGuard,binOp,Op.stringOp]
abbrev FP:=List UInt8×List UInt8
def fc(l:List FP):List Value:=l.flatMap fun x=>[SV x.1,SV x.2]
theorem gR(a b:List FP):fc (a++b)=fc a++fc b:=by simp[fc]
theorem iW:∀(l:List FP) (i:Nat) (x:FP),l[i]? =some x→(fc l)[i*2]? =some (SV x.1)∧(fc l)[i*2+1]? =some (SV x.2)
 | [],i,x,h=>by simp at h
 |a::r,0,x,h=>by
  simp only[List.getElem?_cons_zero,Option.some.injEq]at h
  subst h
  exact⟨rfl,rfl⟩
 |a::r,i+1,x,h=>by
  have ih:=iW r i x (by simpa using h)
  have e:fc (a::r)=SV a.1::SV a.2::fc r:=by simp[fc]
  rw[e,show(i+1)*2=i*2+2 by omega]
  exact ih
theorem lG{w:World}{A:Option Addr}{n i:Nat}{l:List FP}{x:FP}(h:Rd w 2 A n (fc l))(hx:l[i]? =some x):∀(j:Nat) (u:Value),[SV x.1,SV x.2][j]? =some u→w.cell? (((A.getD d0).add (i*2)).add j)=some u:=by
 obtain⟨g0,g1⟩:=iW l i x hx
 intro j u hu
 match j,hu with
 |0,hu=>cases hu;exact fh h g0
 |1,hu=>cases hu;exact fh h g1
 |j+2,hu=>simp at hu
theorem mC{l:List FP}:∀u∈fc l,u.oneCell' =true:=by
 intro u hu
 obtain⟨x,_,h⟩:=List.mem_flatMap.1 hu
 simp only[List.mem_cons,List.not_mem_nil,or_false]at h
 rcases h with rfl|rfl <;> rfl
theorem tY{p:List UInt8}(hp:p.length≤1000000000):cj Tryz.prog 112 [.string (strOf p)] [] [] (fun v_ X_ S_=>v_=(.bool (decide (jH p)))∧X_=[]∧S_=[]):=by
 have hsz:=cU p
 refine aU (N:=22) Tryz.func112 rfl rfl (by simp) fun b=> ?_
 refine ah<|aj<|hy (fun _=>ab rfl)<|ai<|ag<|ah<|ah<|aj<|hy (fun _=>ab rfl)<|ai<|ag<|aN<| ?_
 refine dA (fun i=>p.length-i) (fun i=>[(3,.int .i64 (i:Nat))]) (fun i=>[]) (fun i=>[]) (fun i=>i≤p.length∧¬(0:UInt8)∈p.take i) 0 [(0,_)] ⟨rfl,trivial⟩ [] rfl [] rfl (⟨Nat.zero_le _,by simp⟩) ⟨rfl,trivial⟩ (fun i hI=> ?_)
 obtain⟨hip,hno⟩:=hI
 refine ah<|ah<|aj<|hy (fun _=>aa rfl)<|hy (fun _=>aa rfl)<|hy (fun _=>cQ rfl Tryz.underlying9)<|hy (fun _=>bk rfl rfl)<|ai<|al (ρ' :=[(7,_),(3,_),(0,_)]) ⟨rfl,rfl,rfl,trivial⟩<|ag<| ?_
 refine cI rfl (fun h=> ?_) (fun h=> ?_)
 ·have hil:i<p.length:=by omega
  refine aC<|ag<|ah<|aN<|ah<|aj<|hy (fun _=>aa rfl)<|hy (fun _=>aa rfl)<|hy (fun _=>eC rfl rfl Tryz.underlying9 rfl (ic hil))<|hy (fun _=>cy rfl rfl)<|ai<|al (ρ' :=[(13,_),(7,_),(3,_),(0,_)]) ⟨rfl,rfl,rfl,rfl,trivial⟩<|ag<| ?_
  refine cI rfl (fun h0=> ?_) (fun h0=> ?_)
  ·have h00:p.getD i 0=0:=UInt8.toNat_inj.1 (by simpa using h0)
   refine ah<|aj<|hy (fun _=>ab rfl)<|ai<|ag<|aQ<|bc<|ay<|ay<|bc<|ay<| ?_
   exact bd trivial rfl rfl [] rfl [] rfl ⟨(congrArg Value.bool (decide_eq_false (fun hN=>hN.2.2 (by rw[←h00];rw[List.getD,List.getElem?_eq_getElem hil];exact List.getElem_mem hil))).symm),rfl,rfl⟩
  ·have hno2:¬(0:UInt8)∈p.take (i+1):=fun hm=>by
    rw[List.take_succ_eq_append_getElem hil]at hm
    rcases List.mem_append.1 hm with h1|h1
    ·exact hno h1
    ·apply h0
     have:=List.mem_singleton.1 h1
     rw[List.getD,List.getElem?_eq_getElem hil]
     simp[←this]
   refine aC<|aW<|ag<|aj<|hy (fun _=>aa rfl)<|hy (fun _=>aM rfl rfl (bB (by omega) (by omega)))<|hy (fun _=>ab rfl)<|ai<|al (ρ' :=[(3,_),(13,_),(7,_),(0,_)]) ⟨rfl,rfl,rfl,rfl,trivial⟩<| ?_
   refine cS (i+1) ⟨rfl,rfl,trivial⟩ [] rfl [] rfl (⟨by omega,hno2⟩) (by omega)
 ·obtain rfl:i=p.length:=by omega
  rw[List.take_of_length_le (Nat.le_refl _)]at hno
  by_cases h1:0<p.length
  ·refine bS<|ar<|ar<|aE<|ag<|ah<|aj<|hy (fun _=>aa rfl)<|hy (fun _=>cQ rfl Tryz.underlying9)<|hy (fun _=>yT (cF rfl rfl) ((decide_eq_true (by omega))))<|hy (fun _=>aa rfl)<|ca (o:=_) rfl rfl rfl (fun _=>aa rfl)<|ca (o:=_) rfl rfl rfl (fun _=>cQ rfl Tryz.underlying9)<|ca (o:=_) rfl rfl rfl (fun _=>bk rfl rfl)<|hy (fun _=>bo rfl rfl)<|hy (fun _=>ab rfl)<|ai<|al (ρ' :=[(2,_),(7,_),(3,_),(0,_)]) ⟨rfl,rfl,rfl,rfl,trivial⟩<|ag<|aQ<| ?_
   exact bd trivial rfl rfl [] rfl [] rfl ⟨(congrArg Value.bool (decide_eq_decide.2 ⟨fun h=>⟨fun e=>by rw[e]at h1;exact absurd h1 (by decide),by omega,hno⟩,fun h=>by have:=h.2.1;omega⟩)),rfl,rfl⟩
  ·refine bS<|ar<|ar<|aE<|ag<|ah<|aj<|hy (fun _=>aa rfl)<|hy (fun _=>cQ rfl Tryz.underlying9)<|hy (fun _=>yF (cF rfl rfl) ((decide_eq_false (by omega))))<|hy (fun _=>aa rfl)<|a6 rfl rfl rfl (by decide)<|a6 rfl rfl rfl (by decide)<|a6 rfl rfl rfl (by decide)<|hy (fun _=>a7 rfl rfl)<|hy (fun _=>ab rfl)<|ai<|al (ρ' :=[(2,_),(7,_),(3,_),(0,_)]) ⟨rfl,rfl,rfl,rfl,trivial⟩<|ag<|aQ<| ?_
   exact bd trivial rfl rfl [] rfl [] rfl ⟨(congrArg Value.bool (decide_eq_false (fun hN=>hN.1 (List.eq_nil_of_length_eq_zero (by omega)))).symm),rfl,rfl⟩
def da(l:List FP)(p:List UInt8):Nat:=l.findIdx (fun x=>decide (x.1=p))
def j5(l:List FP)(p:List UInt8):Int:=if da l p<l.length then(da l p:Nat)else-1
theorem xB{l:List FP}{p:List UInt8}{i:Nat}{x:FP}(hx:l[i]? =some x)(h:x.1=p)(hno:∀j,j<i→∀y,l[j]? =some y→y.1≠p):da l p=i:=by
 obtain⟨hi,rfl⟩:=List.getElem?_eq_some_iff.1 hx
 unfold da
 rw[List.findIdx_eq hi]
 exact⟨by simpa using h,fun j hj=>by simpa using hno j hj _ (List.getElem?_eq_getElem (by omega))⟩
theorem xX{l:List FP}{p:List UInt8}(hno:∀j,j<l.length→∀y,l[j]? =some y→y.1≠p):¬da l p<l.length:=by
 intro h
 have h1:=List.findIdx_getElem (w:=h)
 exact hno _ h _ (List.getElem?_eq_getElem h) (of_decide_eq_true h1)
theorem s6{A:Option Addr}{n c:Nat}{l:List FP}{p:List UInt8}(hl:l.length=n)(hn:n≤1000000000):cj Tryz.prog 113 [.slice A n c,.string (strOf p)] [] [dw 2 A n (fc l)] (fun v_ X_ S_=>v_=(.int .i64 (j5 l p))∧X_=[]∧S_=[]):=by
 refine aU (N:=20) Tryz.func113 rfl rfl (by simp) fun b=> ?_
 refine ba (fun m=>mX (m.rd 0 rfl)) ?_
 rintro⟨hl_r,hA_r⟩
 refine ah<|aj<|hy (fun _=>ab rfl)<|ai<|ag<|ah<|ah<|aj<|hy (fun _=>ab rfl)<|ai<|ag<|aN<| ?_
 refine dA (fun i=>n-i) (fun i=>[(5,.int .i64 (i:Nat))]) (fun i=>[]) (fun i=>[]) (fun i=>i≤n∧∀j,j<i→∀y,l[j]? =some y→y.1≠p) 0 [(0,_),(1,_)] ⟨rfl,rfl,trivial⟩ [] rfl [] rfl (⟨Nat.zero_le _,fun j hj=>absurd hj (Nat.not_lt_zero j)⟩) ⟨rfl,trivial⟩ (fun i hI=> ?_)
 obtain⟨hin,hno⟩:=hI
 refine ah<|ah<|aj<|hy (fun _=>aa rfl)<|hy (fun _=>aa rfl)<|hy (fun _=>aX rfl Tryz.underlying36)<|hy (fun _=>bk rfl rfl)<|ai<|al (ρ' :=[(9,_),(5,_),(0,_),(1,_)]) ⟨rfl,rfl,rfl,rfl,trivial⟩<|ag<| ?_
 refine cI rfl (fun h=> ?_) (fun h=> ?_)
 ·have hil:i<l.length:=by omega
  obtain⟨x,hx⟩:∃x,l[i]? =some x:=⟨_,List.getElem?_eq_getElem hil⟩
  obtain⟨g0,g1⟩:=iW l i x hx
  refine aC<|ag<|ah<|aN<|ah<|aj<|hy (fun _=>aa rfl)<|hy (fun _=>aa rfl)<|hy (fun _=>dF rfl rfl Tryz.underlying36 eR hA_r rfl (by omega))<|hy (fun _=>aI rfl eJ (by decide))<|hy (fun m=>yV (av rfl kL (fh (m.rd 0 rfl) g0)) ((rfl:_=Value.string (strOf x.1))))<|hy (fun _=>aa rfl)<|hy (fun _=>p6 rfl rfl)<|ai<|al (ρ' :=[(18,_),(9,_),(5,_),(0,_),(1,_)]) ⟨rfl,rfl,rfl,rfl,rfl,trivial⟩<|ag<| ?_
  refine cI rfl (fun h0=> ?_) (fun h0=> ?_)
  ·have he:x.1=p:=cE.1 h0
   have hN:=xB hx he hno
   refine ah<|aj<|hy (fun _=>aa rfl)<|hy (fun _=>ab rfl)<|ai<|al (ρ' :=[(4,_),(18,_),(9,_),(5,_),(0,_),(1,_)]) ⟨rfl,rfl,rfl,rfl,rfl,rfl,trivial⟩<|ag<|aQ<|bc<|ay<|ay<|bc<|ay<| ?_
   exact bd trivial rfl rfl [] rfl [] rfl ⟨(by rw[j5,hN,if_pos hil]),rfl,rfl⟩
  ·have he:x.1≠p:=fun e=>h0 (cE.2 e)
   have hno2:∀j,j<i+1→∀y,l[j]? =some y→y.1≠p:=fun j hj y hy=>by
    rcases Nat.lt_succ_iff_lt_or_eq.1 hj with h1|h1
    ·exact hno j h1 y hy
    ·rw[h1,hx]at hy;cases hy;exact he
   refine aC<|aW<|ag<|aj<|hy (fun _=>aa rfl)<|hy (fun _=>aM rfl rfl (bB (by omega) (by omega)))<|hy (fun _=>ab rfl)<|ai<|al (ρ' :=[(5,_),(18,_),(9,_),(0,_),(1,_)]) ⟨rfl,rfl,rfl,rfl,rfl,trivial⟩<| ?_
   refine cS (i+1) ⟨rfl,rfl,rfl,trivial⟩ [] rfl [0] rfl (⟨by omega,hno2⟩) (by omega)
 ·obtain rfl:i=n:=by omega
  refine bS<|ar<|ar<|aE<|ag<|ah<|aj<|hy (fun _=>ab rfl)<|ai<|ag<|aQ<| ?_
  exact bd trivial rfl rfl [] rfl [] rfl ⟨(by rw[j5,if_neg (xX (fun j hj=>hno j (by omega)))]),rfl,rfl⟩
def jt(l:List FP):Nat:=(l.map fun x=>x.2.length).sum
theorem pN{l:List FP}{i:Nat}{x:FP}(h:l[i]? =some x):jt (l.take (i+1))=jt (l.take i)+x.2.length:=by
 obtain⟨hi,rfl⟩:=List.getElem?_eq_some_iff.1 h
 rw[List.take_succ_eq_append_getElem hi]
 unfold jt
 rw[List.map_append,List.sum_append]
 simp
theorem uG(l:List FP)(i:Nat):jt (l.take i)≤jt l:=by
 have:jt l=jt (l.take i)+jt (l.drop i):=by
  conv=>lhs;rw[←List.take_append_drop i l]
  simp only[jt,List.map_append,List.sum_append]
 omega
def dv(room:Int)(s l w:Value)(pw:Int):List Value:=[.int .i64 room,s,l,w,.int .i64 pw]
theorem Ca{room pw:Int}{vl vw:Value}{A:Option Addr}{n c:Nat}{l:List FP}(hl:l.length=n)(hn:n≤1000000000)(ht:jt l≤1000000000000):cj Tryz.prog 89 [.agg (dv room (.slice A n c) vl vw pw).toArray] [] [dw 2 A n (fc l)] (fun v_ X_ S_=>v_=(.int .i64 (jt l:Nat))∧X_=[]∧S_=[]):=by
 refine aU (N:=22) Tryz.func89 rfl rfl (by simp) fun b=> ?_
 refine ba (fun m=>mX (m.rd 0 rfl)) ?_
 rintro⟨hl_r,hA_r⟩
 refine ah<|aj<| ?_
 refine hx (cp rfl (fun g1=> ?_))
 refine aV (fun w m=>m.bQ 0 rfl (show _=aH g1 39 (dv room (.slice A n c) vl vw pw)from congrArg (aH _ _) (bq _))) ?_
 refine hy (fun _=>ab rfl)<|ai<|ak (X' :=[_]) (S' :=[_]) (fun _ m=>m)<|ag<|ah<|aj<|hy (fun _=>ab rfl)<|ai<|ag<|ah<|ah<|aj<|hy (fun _=>ab rfl)<|ai<|ag<|aN<| ?_
 refine dA (fun i=>n-i) (fun i=>[(3,.int .i64 (jt (l.take i):Nat)),(4,.int .i64 (i:Nat))]) (fun i=>[aH g1 39 (dv room (.slice A n c) vl vw pw)]) (fun i=>[]) (fun i=>i≤n) 0 [(2,_),(1,_),(0,_)] ⟨rfl,rfl,rfl,trivial⟩ [0] rfl [] rfl (Nat.zero_le _) ⟨rfl,rfl,trivial⟩ (fun i hI=> ?_)
 refine ah<|ah<|aj<|hy (fun _=>aa rfl)<|hy (fun _=>aI rfl iv (by decide))<|hy (fun m=>av rfl o6 (aB (m.aT 0 rfl) rfl))<|hy (fun _=>aX rfl Tryz.underlying36)<|hy (fun _=>bk rfl rfl)<|ai<|al (ρ' :=[(9,_),(3,_),(4,_),(2,_),(1,_),(0,_)]) ⟨rfl,rfl,rfl,rfl,rfl,rfl,trivial⟩<|ag<| ?_
 refine cI rfl (fun h=> ?_) (fun h=> ?_)
 ·have hil:i<l.length:=by omega
  obtain⟨x,hx⟩:∃x,l[i]? =some x:=⟨_,List.getElem?_eq_getElem hil⟩
  obtain⟨g0,g2⟩:=iW l i x hx
  have h1:=pN hx
  have h2:=uG l (i+1)
  have hsz:=cU x.2
  refine aC<|ag<|ah<|aN<|aj<|hy (fun _=>aa rfl)<|hy (fun _=>aI rfl iv (by decide))<|hy (fun m=>av rfl o6 (aB (m.aT 0 rfl) (i:=1) rfl))<|hy (fun _=>aa rfl)<|hy (fun _=>dF rfl rfl Tryz.underlying36 eR hA_r rfl (by omega))<|hy (fun _=>aI rfl nL (by decide))<|hy (fun m=>yV (av rfl kL (fh (m.rd 0 rfl) g2)) ((rfl:_=Value.string (strOf x.2))))<|hy (fun _=>cQ rfl Tryz.underlying9)<|hy (fun _=>yV (aM rfl rfl (bB (by omega) (by omega))) ((show Value.int .i64 ((jt (l.take i):Nat)+((strOf x.2).size:Nat))= .int .i64 (jt (l.take (i+1)):Nat) by rw[hsz,h1];rfl)))<|hy (fun _=>ab rfl)<|ai<|al (ρ' :=[(3,_),(9,_),(4,_),(2,_),(1,_),(0,_)]) ⟨rfl,rfl,rfl,rfl,rfl,rfl,trivial⟩<|aW<|ag<|aj<|hy (fun _=>aa rfl)<|hy (fun _=>aM rfl rfl (bB (by omega) (by omega)))<|hy (fun _=>ab rfl)<|ai<|al (ρ' :=[(4,_),(3,_),(9,_),(2,_),(1,_),(0,_)]) ⟨rfl,rfl,rfl,rfl,rfl,rfl,trivial⟩<| ?_
  refine cS (i+1) ⟨rfl,rfl,rfl,rfl,rfl,trivial⟩ [0] rfl [0] rfl (by omega) (by omega)
 ·obtain rfl:i=n:=by omega
  refine bS<|ar<|ar<|aE<|ag<|ah<|aj<|hy (fun _=>aa rfl)<|hy (fun _=>ab rfl)<|ai<|al (ρ' :=[(2,_),(9,_),(3,_),(4,_),(1,_),(0,_)]) ⟨rfl,rfl,rfl,rfl,rfl,rfl,trivial⟩<|ag<|aQ<| ?_
  exact bd trivial rfl rfl [] rfl [] rfl ⟨(by rw[←hl,List.take_of_length_le (Nat.le_refl _)]),rfl,rfl⟩
theorem qj{A:Option Addr}{n c:Nat}{l:List FP}{p:List UInt8}(hl:l.length=n)(hn:n≤1000000):cj Tryz.prog 221 [.slice A n c,.string (strOf p)] [] [dw 2 A n (fc l)] (fun v_ X_ S_=>∃v k,v_=v∧X_=[aF 156 2 v k (fc (l.filter fun x=>decide (x.1≠p)))]∧S_=[]∧(k=(l.filter fun x=>decide (x.1≠p)).length)):=by
 refine aU (N:=28) Tryz.func221 rfl rfl (by simp) fun b=> ?_
 refine ba (fun m=>mX (m.rd 0 rfl)) ?_
 rintro⟨hl_r,hA_r⟩
 refine ah<|aj<|hy (fun _=>ab rfl)<|ai<|ag<|ah<|aj<|hy (fun _=>ab rfl)<|ai<|ag<|ah<|ah<|aj<|hy (fun _=>ab rfl)<|ai<|ag<|aN<| ?_
 refine bD (fun w m=>m.cL (r' :=aF 156 2 (.slice none 0 0) 0 []) (.refl _ _) (Own.nil _ _ _ _) (fun k hk=>hk.elim)) ?_
 refine lf (fun i A1 k c1=>n-i) (fun i A1 k c1=>[(5,.slice A1 k c1),(6,.int .i64 (i:Nat))]) (fun i A1 k c1=>[aF 156 2 (.slice A1 k c1) k (fc ((l.take i).filter fun x=>decide (x.1≠p)))]) (fun i A1 k c1=>[]) (fun i A1 k c1=>i≤n∧k=((l.take i).filter fun x=>decide (x.1≠p)).length) 0 none 0 0 [(4,_),(0,_),(1,_)] ⟨rfl,rfl,rfl,trivial⟩ [0] rfl [] rfl (⟨Nat.zero_le _,rfl⟩) ⟨rfl,rfl,trivial⟩ (fun i A1 k c1 hI=> ?_)
 obtain⟨hin,hk⟩:=hI
 have hkl:((l.take i).filter fun x=>decide (x.1≠p)).length≤i:=Nat.le_trans (List.length_filter_le ..) (by rw[List.length_take];omega)
 refine ah<|ah<|aj<|hy (fun _=>aa rfl)<|hy (fun _=>aa rfl)<|hy (fun _=>aX rfl Tryz.underlying36)<|hy (fun _=>bk rfl rfl)<|ai<|al (ρ' :=[(10,_),(5,_),(6,_),(4,_),(0,_),(1,_)]) ⟨rfl,rfl,rfl,rfl,rfl,rfl,trivial⟩<|ag<| ?_
 refine cI rfl (fun h=> ?_) (fun h=> ?_)
 ·have hil:i<l.length:=by omega
  obtain⟨x,hgx⟩:∃x,l[i]? =some x:=⟨_,List.getElem?_eq_getElem hil⟩
  obtain⟨g0,g2⟩:=iW l i x hgx
  have Cw:(l.take (i+1)).filter (fun x=>decide (x.1≠p))=(l.take i).filter (fun x=>decide (x.1≠p))++[x].filter (fun x=>decide (x.1≠p)):=by
   obtain⟨hi,rfl⟩:=List.getElem?_eq_some_iff.1 hgx
   rw[List.take_succ_eq_append_getElem hi,List.filter_append]
  refine aC<|ag<|ah<|aN<|ah<|aj<|hy (fun _=>aa rfl)<|hy (fun _=>aa rfl)<|hy (fun _=>dF rfl rfl Tryz.underlying36 eR hA_r rfl (by omega))<|hy (fun _=>aI rfl eJ (by decide))<|hy (fun m=>yV (av rfl kL (fh (m.rd 0 rfl) g0)) ((rfl:_=Value.string (strOf x.1))))<|hy (fun _=>aa rfl)<|hy (fun _=>nV rfl rfl)<|ai<|al (ρ' :=[(19,_),(10,_),(5,_),(6,_),(4,_),(0,_),(1,_)]) ⟨rfl,rfl,rfl,rfl,rfl,rfl,rfl,trivial⟩<|ag<| ?_
  refine cI rfl (fun h0=> ?_) (fun h0=> ?_)
  ·have hF:(l.take i).filter (fun x=>decide (x.1≠p))++[x]=(l.take (i+1)).filter (fun x=>decide (x.1≠p)):=by
    have hne:x.1≠p:=fun e=>h0 (cE.2 e)
    rw[Cw];simp[hne]
   refine aj<|hy (fun _=>aa rfl)<|hy (fun _=>aa rfl)<|hy (fun _=>aa rfl)<|hy (fun _=>dF rfl rfl Tryz.underlying36 eR hA_r rfl (by omega))<|hy (fun m=>yV (aR rfl pJ eR rfl (lG (m.rd 0 rfl) hgx)) ((rfl:_=Value.agg [SV x.1,SV x.2].toArray)))<| ?_
   refine hx (cg Tryz.underlying36 iD rfl rfl rfl (by simp[Value.cells,B8]) (by decide) (by decide) (fun g25=> ?_))
   have hA_b25:0<1→(some (⟨g25,0,none⟩:Addr))≠none:=fun _ h=>by cases h
   refine aV (fun w m=>m.bQ 0 rfl (show _=aF 156 2 (.slice (some ⟨g25,0,none⟩) 1 1) 1 (fc [x])from rfl)) ?_
   refine hx (bu 1 rfl rfl rfl Tryz.underlying36 Tryz.underlying36 (by exact .inl rfl) iD rfl (fun m=>Src.bN (m.ord 0 rfl)) mC (by unfold maxLen;omega) (by omega) (fun u=> ?_))
   refine aw (fun m=>(m.own 0 rfl).slice) ?_
   rintro⟨A_o,c_o,rfl,hc_o⟩
   refine aw (fun m=>(m.ord 0 rfl).2.1) fun hA_o=> ?_
   refine aV (fun w m=>m.bQ 0 rfl (show _=aF 156 2 (.slice A_o (k+1) c_o) (k+1) (fc ((l.take (i+1)).filter fun x=>decide (x.1≠p)))from congrArg (aF _ _ _ _) ((gR ..).symm.trans (congrArg fc hF)))) ?_
   refine hy (fun _=>ab rfl)<|ai<|al (ρ' :=[(5,_),(19,_),(10,_),(6,_),(4,_),(0,_),(1,_)]) ⟨rfl,rfl,rfl,rfl,rfl,rfl,rfl,trivial⟩<|ak (X' :=[_,_]) (S' :=[_]) (fun _ m=>m)<|aW<|ag<|aj<|hy (fun _=>aa rfl)<|hy (fun _=>aM rfl rfl (bB (by omega) (by omega)))<|hy (fun _=>ab rfl)<|ai<|al (ρ' :=[(6,_),(5,_),(19,_),(10,_),(4,_),(0,_),(1,_)]) ⟨rfl,rfl,rfl,rfl,rfl,rfl,rfl,trivial⟩<| ?_
   refine fA (i+1) A_o (k+1) c_o ⟨rfl,rfl,rfl,rfl,rfl,trivial⟩ [0] rfl [0] rfl (⟨by omega,by rw[←hF,hk,List.length_append];rfl⟩) (by omega)
  ·have hF:(l.take (i+1)).filter (fun x=>decide (x.1≠p))=(l.take i).filter (fun x=>decide (x.1≠p)):=by
    have hne:x.1=p:=cE.1 (Decidable.not_not.1 h0)
    rw[Cw];simp[hne]
   refine bD (fun w m=>m.bQ 0 rfl (show _=aF 156 2 (.slice A1 k c1) k (fc ((l.take (i+1)).filter fun x=>decide (x.1≠p)))from by rw[hF])) ?_
   refine aC<|aW<|ag<|aj<|hy (fun _=>aa rfl)<|hy (fun _=>aM rfl rfl (bB (by omega) (by omega)))<|hy (fun _=>ab rfl)<|ai<|al (ρ' :=[(6,_),(19,_),(10,_),(5,_),(4,_),(0,_),(1,_)]) ⟨rfl,rfl,rfl,rfl,rfl,rfl,rfl,trivial⟩<| ?_
   refine fA (i+1) A1 k c1 ⟨rfl,rfl,rfl,rfl,rfl,trivial⟩ [0] rfl [0] rfl (⟨by omega,by rw[hF];exact hk⟩) (by omega)
 ·obtain rfl:i=n:=by omega
  rw[←hl,List.take_of_length_le (Nat.le_refl _)]at hk
  refine bD (fun w m=>m.bQ 0 rfl (show _=aF 156 2 (.slice A1 k c1) k (fc (l.filter fun x=>decide (x.1≠p)))from by rw[←hl,List.take_of_length_le (Nat.le_refl _)])) ?_
  refine bS<|ar<|ar<|aE<|ag<|ah<|aj<|hy (fun _=>aa rfl)<|hy (fun _=>ab rfl)<|ai<|al (ρ' :=[(4,_),(10,_),(5,_),(6,_),(0,_),(1,_)]) ⟨rfl,rfl,rfl,rfl,rfl,rfl,trivial⟩<|ag<|aQ<| ?_
  exact bd trivial rfl rfl [0] rfl [] rfl ⟨_,_,rfl,rfl,rfl,hk⟩
end Go.Proofs.YtmibdabdlgmafaaGreatDoor
end
section
set_option maxRecDepth 20000
namespace Go.Proofs.YtmibdabdlgmafaaGreatDoor
open Go.Eng Go.Hx
def lr(a b:List UInt8):Bool:=Op.bytesLess (strOf a).toList (strOf b).toList
def ij(f:FP)(st:List FP×Bool)(x:FP):List FP×Bool:=
 let s1:=if st.2=false∧lr x.1 f.1=false then(st.1++[f],true)else st
 (if x.1≠f.1 then s1.1++[x]else s1.1,s1.2)
def zJ(f:FP)(l:List FP)(i:Nat):List FP×Bool:=(l.take i).foldl (ij f) ([],false)
theorem yH{f:FP}{l:List FP}{i:Nat}{x:FP}(h:l[i]? =some x):zJ f l (i+1)=ij f (zJ f l i) x:=by
 obtain⟨hi,rfl⟩:=List.getElem?_eq_some_iff.1 h
 unfold zJ
 rw[List.take_succ_eq_append_getElem hi,List.foldl_append]
 rfl
def gI(l:List FP)(f:FP):List FP:=if(zJ f l l.length).2 then(zJ f l l.length).1 else(zJ f l l.length).1++[f]
theorem w6{A:Option Addr}{n c:Nat}{l:List FP}{f:FP}(hl:l.length=n)(hn:n≤1000000):cj Tryz.prog 220 [.slice A n c,.agg [SV f.1,SV f.2].toArray] [] [dw 2 A n (fc l)] (fun v_ X_ S_=>∃v k,v_=v∧X_=[aF 156 2 v k (fc (gI l f))]∧S_=[]∧(k=(gI l f).length∧k≤n+1)):=by
 refine aU (N:=52) Tryz.func220 rfl rfl (by simp) fun b=> ?_
 refine ba (fun m=>mX (m.rd 0 rfl)) ?_
 rintro⟨hl_r,hA_r⟩
 refine ah<|aj<| ?_
 refine hx (cp rfl (fun g3=> ?_))
 refine aV (fun w m=>m.bQ 0 rfl (show _=aH g3 156 [SV f.1,SV f.2]from congrArg (aH _ _) (bq _))) ?_
 refine hy (fun _=>ab rfl)<|ai<|ak (X' :=[_]) (S' :=[_]) (fun _ m=>m)<|ag<|ah<|aj<|hy (fun _=>ab rfl)<|ai<|ag<|ah<|aj<|hy (fun _=>ab rfl)<|ai<|ag<|ah<|ah<|aj<|hy (fun _=>ab rfl)<|ai<|ag<|aN<| ?_
 refine bD (fun w m=>m.cL (r' :=aF 156 2 (.slice none 0 0) 0 []) (.refl _ _) (Own.nil _ _ _ _) (fun k hk=>hk.elim)) ?_
 refine q6 (fun i A1 k c1 out pt=>n-i) (fun i A1 k c1 out pt=>[(5,.slice A1 k c1),(6,.bool pt),(7,.int .i64 (i:Nat))]) (fun i A1 k c1 out pt=>[aF 156 2 (.slice A1 k c1) k (fc out),aH g3 156 [SV f.1,SV f.2]]) (fun i A1 k c1 out pt=>[]) (fun i A1 k c1 out pt=>i≤n∧zJ f l i=(out,pt)∧k=out.length∧k≤i+pt.toNat) 0 none 0 0 [] false [(4,_),(3,_),(0,_),(1,_)] ⟨rfl,rfl,rfl,rfl,trivial⟩ [0,0] rfl [] rfl (⟨Nat.zero_le _,rfl,rfl,Nat.le_refl _⟩) ⟨rfl,rfl,rfl,trivial⟩ (fun i A1 k c1 out pt ⟨hin,hw,hk,hki⟩=> ?_)
 have hpt:pt.toNat≤1:=by cases pt <;> decide
 refine ah<|ah<|aj<|hy (fun _=>aa rfl)<|hy (fun _=>aa rfl)<|hy (fun _=>aX rfl Tryz.underlying36)<|hy (fun _=>bk rfl rfl)<|ai<|al (ρ' :=[(11,_),(5,_),(6,_),(7,_),(4,_),(3,_),(0,_),(1,_)]) ⟨rfl,rfl,rfl,rfl,rfl,rfl,rfl,rfl,trivial⟩<|ag<| ?_
 refine cI rfl (fun h=> ?_) (fun h=> ?_)
 ·have hil:i<l.length:=by omega
  obtain⟨x,hgx⟩:∃x,l[i]? =some x:=⟨_,List.getElem?_eq_getElem hil⟩
  obtain⟨g0,g2⟩:=iW l i x hgx
  have hs:=yH (f:=f) hgx
  rw[hw]at hs
  unfold ij at hs
  by_cases hp:pt=true
  ·subst hp
   simp only[Bool.true_eq_false,false_and,if_false]at hs
   refine aC<|ag<|ah<|aN<|ah<|ah<|cV [] [(0,some 0),(1,some 0),(2,some 0),(3,some 0),(4,some 0),(5,some 0),(6,some 0),(7,some 0),(8,some 0),(9,some 0),(10,some 0),(11,some 0)] (by kernel_rfl) (by kernel_rfl) rfl 99<|an (aa rfl)<|an ((mN rfl))<|an (aa rfl)<|aO rfl rfl rfl (by decide)<|aO rfl rfl rfl (by decide)<|aO rfl rfl rfl (by decide)<|aO rfl rfl rfl (by decide)<|aO rfl rfl rfl (by decide)<|aO rfl rfl rfl (by decide)<|aO rfl rfl rfl (by decide)<|aO rfl rfl rfl (by decide)<|an (a7 rfl rfl)<|bE<|al (ρ' :=[(25,_),(11,_),(5,_),(6,_),(7,_),(4,_),(3,_),(0,_),(1,_)]) ⟨rfl,rfl,rfl,rfl,rfl,rfl,rfl,rfl,rfl,trivial⟩<|ag<| ?_
   refine dx rfl (rfl) ?_
   refine aC<|ag<|ah<|cV [] [(0,some 0),(1,some 0),(2,some 0),(3,some 0),(4,some 0),(5,some 0),(6,some 0),(7,some 0)] (by kernel_rfl) (by kernel_rfl) rfl 99<|an (aa rfl)<|an (aa rfl)<|an (dF rfl rfl Tryz.underlying36 eR hA_r rfl (by omega))<|an (aI rfl eJ (by decide))<|cn (fun m=>yV (av rfl kL (fh (m.rd 0 rfl) g0)) ((rfl:_=Value.string (strOf x.1))))<|an (aI rfl eJ (by decide))<|cn (fun m=>yV (av rfl kL (aB (m.aT 1 rfl) (i:=0) rfl)) ((rfl:_=Value.string (strOf f.1))))<|an (nV rfl rfl)<|bE<|al (ρ' :=[(37,_),(25,_),(11,_),(5,_),(6,_),(7,_),(4,_),(3,_),(0,_),(1,_)]) ⟨rfl,rfl,rfl,rfl,rfl,rfl,rfl,rfl,rfl,rfl,trivial⟩<|ag<| ?_
   refine cI rfl (fun h1=> ?_) (fun h1=> ?_)
   ·have hne:x.1≠f.1:=fun e=>h1 (cE.2 e)
    refine aj<|hy (fun _=>aa rfl)<|hy (fun _=>aa rfl)<|hy (fun _=>aa rfl)<|hy (fun _=>dF rfl rfl Tryz.underlying36 eR hA_r rfl (by omega))<|hy (fun m=>yV (aR rfl pJ eR rfl (lG (m.rd 0 rfl) hgx)) ((rfl:_=Value.agg [SV x.1,SV x.2].toArray)))<| ?_
    refine hx (cg Tryz.underlying36 iD rfl rfl rfl (by simp[Value.cells,B8]) (by decide) (by decide) (fun g43=> ?_))
    have hA_b43:0<1→(some (⟨g43,0,none⟩:Addr))≠none:=fun _ h=>by cases h
    refine aV (fun w m=>m.bQ 0 rfl (show _=aF 156 2 (.slice (some ⟨g43,0,none⟩) 1 1) 1 (fc [x])from rfl)) ?_
    refine hx (bu 1 rfl rfl rfl Tryz.underlying36 Tryz.underlying36 (by exact .inl rfl) iD rfl (fun m=>Src.bN (m.ord 0 rfl)) mC (by unfold maxLen;omega) (by omega) (fun u=> ?_))
    refine aw (fun m=>(m.own 0 rfl).slice) ?_
    rintro⟨A_o,c_o,rfl,hc_o⟩
    refine aw (fun m=>(m.ord 0 rfl).2.1) fun hA_o=> ?_
    refine aV (fun w m=>m.bQ 0 rfl (show _=aF 156 2 (.slice A_o (k+1) c_o) (k+1) (fc (out++[x]))from congrArg (aF _ _ _ _) (gR ..).symm)) ?_
    refine hy (fun _=>ab rfl)<|ai<|al (ρ' :=[(5,_),(37,_),(25,_),(11,_),(6,_),(7,_),(4,_),(3,_),(0,_),(1,_)]) ⟨rfl,rfl,rfl,rfl,rfl,rfl,rfl,rfl,rfl,rfl,trivial⟩<|ak (X' :=[_,_,_]) (S' :=[_]) (fun _ m=>m)<|aW<|ag<|aj<|hy (fun _=>aa rfl)<|hy (fun _=>aM rfl rfl (bB (by omega) (by omega)))<|hy (fun _=>ab rfl)<|ai<|al (ρ' :=[(7,_),(5,_),(37,_),(25,_),(11,_),(6,_),(4,_),(3,_),(0,_),(1,_)]) ⟨rfl,rfl,rfl,rfl,rfl,rfl,rfl,rfl,rfl,rfl,trivial⟩<| ?_
    refine ig (i+1) A_o (k+1) c_o (out++[x]) true ⟨rfl,rfl,rfl,rfl,rfl,rfl,rfl,trivial⟩ [0,1] rfl [0] rfl (⟨by omega,by rw[hs,if_pos hne],by rw[List.length_append,hk.symm];rfl,by simp at hki ⊢;omega⟩) (by omega)
   ·have hne:¬x.1≠f.1:=fun e=>h1 (fun h=>e (cE.1 h))
    refine aC<|aW<|ag<|aj<|hy (fun _=>aa rfl)<|hy (fun _=>aM rfl rfl (bB (by omega) (by omega)))<|hy (fun _=>ab rfl)<|ai<|al (ρ' :=[(7,_),(37,_),(25,_),(11,_),(5,_),(6,_),(4,_),(3,_),(0,_),(1,_)]) ⟨rfl,rfl,rfl,rfl,rfl,rfl,rfl,rfl,rfl,rfl,trivial⟩<| ?_
    refine ig (i+1) A1 (k) c1 (out) true ⟨rfl,rfl,rfl,rfl,rfl,rfl,rfl,trivial⟩ [0,0] rfl [0] rfl (⟨by omega,by rw[hs,if_neg hne],hk.symm.symm,by simp at hki ⊢;omega⟩) (by omega)
  ·obtain rfl:pt=false:=by simpa using hp
   by_cases hge:lr x.1 f.1=false
   ·simp only[hge,and_self,if_true]at hs
    refine aC<|ag<|ah<|aN<|ah<|ah<|cV [] [(0,some 0),(1,some 0),(2,some 0),(3,some 0),(4,some 0),(5,some 0),(6,some 0),(7,some 0),(8,some 0),(9,some 0),(10,some 0),(11,some 0)] (by kernel_rfl) (by kernel_rfl) rfl 99<|an (aa rfl)<|an ((mN rfl))<|an (aa rfl)<|bI (o:=_) rfl rfl rfl (aa rfl)<|bI (o:=_) rfl rfl rfl (aa rfl)<|bI (o:=_) rfl rfl rfl (dF rfl rfl Tryz.underlying36 eR hA_r rfl (by omega))<|bI (o:=_) rfl rfl rfl (aI rfl eJ (by decide))<|jQ (o:=_) rfl rfl rfl (fun m=>yV (av rfl kL (fh (m.rd 0 rfl) g0)) ((rfl:_=Value.string (strOf x.1))))<|bI (o:=_) rfl rfl rfl (aI rfl eJ (by decide))<|jQ (o:=_) rfl rfl rfl (fun m=>yV (av rfl kL (aB (m.aT 1 rfl) (i:=0) rfl)) ((rfl:_=Value.string (strOf f.1))))<|bI (o:=_) rfl rfl rfl (yT (A5 rfl rfl) ((by show(!lr x.1 f.1)=true;rw[hge];rfl)))<|an (bo rfl rfl)<|bE<|al (ρ' :=[(25,_),(11,_),(5,_),(6,_),(7,_),(4,_),(3,_),(0,_),(1,_)]) ⟨rfl,rfl,rfl,rfl,rfl,rfl,rfl,rfl,rfl,trivial⟩<|ag<| ?_
    refine fe rfl (rfl) ?_
    refine ah<|aj<|hy (fun _=>aa rfl)<|hy (fun m=>yV (aR rfl pJ eR rfl ((m.aT 1 rfl).au)) ((rfl:_=Value.agg [SV f.1,SV f.2].toArray)))<| ?_
    refine hx (cg Tryz.underlying36 iD rfl rfl rfl (by simp[Value.cells,B8]) (by decide) (by decide) (fun g28=> ?_))
    have hA_b28:0<1→(some (⟨g28,0,none⟩:Addr))≠none:=fun _ h=>by cases h
    refine aV (fun w m=>m.bQ 0 rfl (show _=aF 156 2 (.slice (some ⟨g28,0,none⟩) 1 1) 1 (fc [f])from rfl)) ?_
    refine hx (bu 1 rfl rfl rfl Tryz.underlying36 Tryz.underlying36 (by exact .inl rfl) iD rfl (fun m=>Src.bN (m.ord 0 rfl)) mC (by unfold maxLen;omega) (by omega) (fun u=> ?_))
    refine aw (fun m=>(m.own 0 rfl).slice) ?_
    rintro⟨A_o,c_o,rfl,hc_o⟩
    refine aw (fun m=>(m.ord 0 rfl).2.1) fun hA_o=> ?_
    refine aV (fun w m=>m.bQ 0 rfl (show _=aF 156 2 (.slice A_o (k+1) c_o) (k+1) (fc (out++[f]))from congrArg (aF _ _ _ _) (gR ..).symm)) ?_
    have hk1:(out++[f]).length=k+1:=by rw[List.length_append,hk];rfl
    refine hy (fun _=>ab rfl)<|ai<|al (ρ' :=[(5,_),(25,_),(11,_),(6,_),(7,_),(4,_),(3,_),(0,_),(1,_)]) ⟨rfl,rfl,rfl,rfl,rfl,rfl,rfl,rfl,rfl,trivial⟩<|ak (X' :=[_,_,_]) (S' :=[_]) (fun _ m=>m)<|ag<|aj<|hy (fun _=>ab rfl)<|ai<|ag<|ah<|cV [] [(0,some 0),(1,some 0),(2,some 0),(3,some 0),(4,some 0),(5,some 0),(6,some 0),(7,some 0)] (by kernel_rfl) (by kernel_rfl) rfl 99<|an (aa rfl)<|an (aa rfl)<|an (dF rfl rfl Tryz.underlying36 eR hA_r rfl (by omega))<|an (aI rfl eJ (by decide))<|cn (fun m=>yV (av rfl kL (fh (m.rd 0 rfl) g0)) ((rfl:_=Value.string (strOf x.1))))<|an (aI rfl eJ (by decide))<|cn (fun m=>yV (av rfl kL (aB (m.aT 2 rfl) (i:=0) rfl)) ((rfl:_=Value.string (strOf f.1))))<|an (nV rfl rfl)<|bE<|al (ρ' :=[(37,_),(6,_),(5,_),(25,_),(11,_),(7,_),(4,_),(3,_),(0,_),(1,_)]) ⟨rfl,rfl,rfl,rfl,rfl,rfl,rfl,rfl,rfl,rfl,trivial⟩<|ag<| ?_
    refine cI rfl (fun h1=> ?_) (fun h1=> ?_)
    ·have hne:x.1≠f.1:=fun e=>h1 (cE.2 e)
     refine aj<|hy (fun _=>aa rfl)<|hy (fun _=>aa rfl)<|hy (fun _=>aa rfl)<|hy (fun _=>dF rfl rfl Tryz.underlying36 eR hA_r rfl (by omega))<|hy (fun m=>yV (aR rfl pJ eR rfl (lG (m.rd 0 rfl) hgx)) ((rfl:_=Value.agg [SV x.1,SV x.2].toArray)))<| ?_
     refine hx (cg Tryz.underlying36 iD rfl rfl rfl (by simp[Value.cells,B8]) (by decide) (by decide) (fun g43=> ?_))
     have hA_b43:0<1→(some (⟨g43,0,none⟩:Addr))≠none:=fun _ h=>by cases h
     refine aV (fun w m=>m.bQ 0 rfl (show _=aF 156 2 (.slice (some ⟨g43,0,none⟩) 1 1) 1 (fc [x])from rfl)) ?_
     refine hx (bu 1 rfl rfl rfl Tryz.underlying36 Tryz.underlying36 (by exact .inl rfl) iD rfl (fun m=>Src.bN (m.ord 0 rfl)) mC (by unfold maxLen;omega) (by omega) (fun u2=> ?_))
     refine aw (fun m=>(m.own 0 rfl).slice) ?_
     rintro⟨A_o2,c_o2,rfl,hc_o⟩
     refine aw (fun m=>(m.ord 0 rfl).2.1) fun hA_o=> ?_
     refine aV (fun w m=>m.bQ 0 rfl (show _=aF 156 2 (.slice A_o2 (k+1+1) c_o2) (k+1+1) (fc ((out++[f])++[x]))from congrArg (aF _ _ _ _) (gR ..).symm)) ?_
     refine hy (fun _=>ab rfl)<|ai<|al (ρ' :=[(5,_),(37,_),(6,_),(25,_),(11,_),(7,_),(4,_),(3,_),(0,_),(1,_)]) ⟨rfl,rfl,rfl,rfl,rfl,rfl,rfl,rfl,rfl,rfl,trivial⟩<|ak (X' :=[_,_,_,_]) (S' :=[_]) (fun _ m=>m)<|aW<|ag<|aj<|hy (fun _=>aa rfl)<|hy (fun _=>aM rfl rfl (bB (by omega) (by omega)))<|hy (fun _=>ab rfl)<|ai<|al (ρ' :=[(7,_),(5,_),(37,_),(6,_),(25,_),(11,_),(4,_),(3,_),(0,_),(1,_)]) ⟨rfl,rfl,rfl,rfl,rfl,rfl,rfl,rfl,rfl,rfl,trivial⟩<| ?_
     refine ig (i+1) A_o2 (k+1+1) c_o2 ((out++[f])++[x]) true ⟨rfl,rfl,rfl,rfl,rfl,rfl,rfl,trivial⟩ [0,2] rfl [0] rfl (⟨by omega,by rw[hs,if_pos hne],by rw[List.length_append,hk1];rfl,by simp at hki ⊢;omega⟩) (by omega)
    ·have hne:¬x.1≠f.1:=fun e=>h1 (fun h=>e (cE.1 h))
     refine aC<|aW<|ag<|aj<|hy (fun _=>aa rfl)<|hy (fun _=>aM rfl rfl (bB (by omega) (by omega)))<|hy (fun _=>ab rfl)<|ai<|al (ρ' :=[(7,_),(37,_),(6,_),(5,_),(25,_),(11,_),(4,_),(3,_),(0,_),(1,_)]) ⟨rfl,rfl,rfl,rfl,rfl,rfl,rfl,rfl,rfl,rfl,trivial⟩<| ?_
     refine ig (i+1) A_o (k+1) c_o ((out++[f])) true ⟨rfl,rfl,rfl,rfl,rfl,rfl,rfl,trivial⟩ [0,1] rfl [0] rfl (⟨by omega,by rw[hs,if_neg hne],hk1.symm,by simp at hki ⊢;omega⟩) (by omega)
   ·have hlt:lr x.1 f.1=true:=by simpa using hge
    simp only[hlt,Bool.true_eq_false,and_false,if_false]at hs
    refine aC<|ag<|ah<|aN<|ah<|ah<|cV [] [(0,some 0),(1,some 0),(2,some 0),(3,some 0),(4,some 0),(5,some 0),(6,some 0),(7,some 0),(8,some 0),(9,some 0),(10,some 0),(11,some 0)] (by kernel_rfl) (by kernel_rfl) rfl 99<|an (aa rfl)<|an ((mN rfl))<|an (aa rfl)<|bI (o:=_) rfl rfl rfl (aa rfl)<|bI (o:=_) rfl rfl rfl (aa rfl)<|bI (o:=_) rfl rfl rfl (dF rfl rfl Tryz.underlying36 eR hA_r rfl (by omega))<|bI (o:=_) rfl rfl rfl (aI rfl eJ (by decide))<|jQ (o:=_) rfl rfl rfl (fun m=>yV (av rfl kL (fh (m.rd 0 rfl) g0)) ((rfl:_=Value.string (strOf x.1))))<|bI (o:=_) rfl rfl rfl (aI rfl eJ (by decide))<|jQ (o:=_) rfl rfl rfl (fun m=>yV (av rfl kL (aB (m.aT 1 rfl) (i:=0) rfl)) ((rfl:_=Value.string (strOf f.1))))<|bI (o:=_) rfl rfl rfl (yF (A5 rfl rfl) ((by show(!lr x.1 f.1)=false;rw[hlt];rfl)))<|an (bo rfl rfl)<|bE<|al (ρ' :=[(25,_),(11,_),(5,_),(6,_),(7,_),(4,_),(3,_),(0,_),(1,_)]) ⟨rfl,rfl,rfl,rfl,rfl,rfl,rfl,rfl,rfl,trivial⟩<|ag<| ?_
    refine dx rfl (rfl) ?_
    refine aC<|ag<|ah<|cV [] [(0,some 0),(1,some 0),(2,some 0),(3,some 0),(4,some 0),(5,some 0),(6,some 0),(7,some 0)] (by kernel_rfl) (by kernel_rfl) rfl 99<|an (aa rfl)<|an (aa rfl)<|an (dF rfl rfl Tryz.underlying36 eR hA_r rfl (by omega))<|an (aI rfl eJ (by decide))<|cn (fun m=>yV (av rfl kL (fh (m.rd 0 rfl) g0)) ((rfl:_=Value.string (strOf x.1))))<|an (aI rfl eJ (by decide))<|cn (fun m=>yV (av rfl kL (aB (m.aT 1 rfl) (i:=0) rfl)) ((rfl:_=Value.string (strOf f.1))))<|an (nV rfl rfl)<|bE<|al (ρ' :=[(37,_),(25,_),(11,_),(5,_),(6,_),(7,_),(4,_),(3,_),(0,_),(1,_)]) ⟨rfl,rfl,rfl,rfl,rfl,rfl,rfl,rfl,rfl,rfl,trivial⟩<|ag<| ?_
    refine cI rfl (fun h1=> ?_) (fun h1=> ?_)
    ·have hne:x.1≠f.1:=fun e=>h1 (cE.2 e)
     refine aj<|hy (fun _=>aa rfl)<|hy (fun _=>aa rfl)<|hy (fun _=>aa rfl)<|hy (fun _=>dF rfl rfl Tryz.underlying36 eR hA_r rfl (by omega))<|hy (fun m=>yV (aR rfl pJ eR rfl (lG (m.rd 0 rfl) hgx)) ((rfl:_=Value.agg [SV x.1,SV x.2].toArray)))<| ?_
     refine hx (cg Tryz.underlying36 iD rfl rfl rfl (by simp[Value.cells,B8]) (by decide) (by decide) (fun g43=> ?_))
     have hA_b43:0<1→(some (⟨g43,0,none⟩:Addr))≠none:=fun _ h=>by cases h
     refine aV (fun w m=>m.bQ 0 rfl (show _=aF 156 2 (.slice (some ⟨g43,0,none⟩) 1 1) 1 (fc [x])from rfl)) ?_
     refine hx (bu 1 rfl rfl rfl Tryz.underlying36 Tryz.underlying36 (by exact .inl rfl) iD rfl (fun m=>Src.bN (m.ord 0 rfl)) mC (by unfold maxLen;omega) (by omega) (fun u=> ?_))
     refine aw (fun m=>(m.own 0 rfl).slice) ?_
     rintro⟨A_o,c_o,rfl,hc_o⟩
     refine aw (fun m=>(m.ord 0 rfl).2.1) fun hA_o=> ?_
     refine aV (fun w m=>m.bQ 0 rfl (show _=aF 156 2 (.slice A_o (k+1) c_o) (k+1) (fc (out++[x]))from congrArg (aF _ _ _ _) (gR ..).symm)) ?_
     refine hy (fun _=>ab rfl)<|ai<|al (ρ' :=[(5,_),(37,_),(25,_),(11,_),(6,_),(7,_),(4,_),(3,_),(0,_),(1,_)]) ⟨rfl,rfl,rfl,rfl,rfl,rfl,rfl,rfl,rfl,rfl,trivial⟩<|ak (X' :=[_,_,_]) (S' :=[_]) (fun _ m=>m)<|aW<|ag<|aj<|hy (fun _=>aa rfl)<|hy (fun _=>aM rfl rfl (bB (by omega) (by omega)))<|hy (fun _=>ab rfl)<|ai<|al (ρ' :=[(7,_),(5,_),(37,_),(25,_),(11,_),(6,_),(4,_),(3,_),(0,_),(1,_)]) ⟨rfl,rfl,rfl,rfl,rfl,rfl,rfl,rfl,rfl,rfl,trivial⟩<| ?_
     refine ig (i+1) A_o (k+1) c_o (out++[x]) false ⟨rfl,rfl,rfl,rfl,rfl,rfl,rfl,trivial⟩ [0,1] rfl [0] rfl (⟨by omega,by rw[hs,if_pos hne],by rw[List.length_append,hk.symm];rfl,by simp at hki ⊢;omega⟩) (by omega)
    ·have hne:¬x.1≠f.1:=fun e=>h1 (fun h=>e (cE.1 h))
     refine aC<|aW<|ag<|aj<|hy (fun _=>aa rfl)<|hy (fun _=>aM rfl rfl (bB (by omega) (by omega)))<|hy (fun _=>ab rfl)<|ai<|al (ρ' :=[(7,_),(37,_),(25,_),(11,_),(5,_),(6,_),(4,_),(3,_),(0,_),(1,_)]) ⟨rfl,rfl,rfl,rfl,rfl,rfl,rfl,rfl,rfl,rfl,trivial⟩<| ?_
     refine ig (i+1) A1 (k) c1 (out) false ⟨rfl,rfl,rfl,rfl,rfl,rfl,rfl,trivial⟩ [0,0] rfl [0] rfl (⟨by omega,by rw[hs,if_neg hne],hk.symm.symm,by simp at hki ⊢;omega⟩) (by omega)
 ·obtain rfl:i=n:=by omega
  have hww:zJ f l l.length=(out,pt):=by rw[hl];exact hw
  by_cases hp:pt=true
  ·subst hp
   have hW:gI l f=out:=by rw[gI,hww];rfl
   refine bS<|ar<|ar<|aE<|ag<|ah<|ah<|aj<|hy (fun _=>aa rfl)<|hy (fun _=>(mN rfl))<|ai<|al (ρ' :=[(46,_),(11,_),(5,_),(6,_),(7,_),(4,_),(3,_),(0,_),(1,_)]) ⟨rfl,rfl,rfl,rfl,rfl,rfl,rfl,rfl,rfl,trivial⟩<|ag<| ?_
   refine dx rfl (rfl) ?_
   refine aC<|ag<|ah<|aj<|hy (fun _=>aa rfl)<|hy (fun _=>ab rfl)<|ai<|al (ρ' :=[(4,_),(46,_),(11,_),(5,_),(6,_),(7,_),(3,_),(0,_),(1,_)]) ⟨rfl,rfl,rfl,rfl,rfl,rfl,rfl,rfl,rfl,trivial⟩<|ag<|aQ<| ?_
   refine ak (fun w m=>m.bQ 0 rfl (show _=aF 156 2 (.slice A1 k c1) k (fc (gI l f))from by rw[hW])) ?_
   exact bd trivial rfl rfl [0] rfl [] rfl ⟨_,_,rfl,rfl,rfl,⟨by rw[hW];exact hk,by simp at hki;omega⟩⟩
  ·obtain rfl:pt=false:=by simpa using hp
   have hW:gI l f=out++[f]:=by rw[gI,hww];rfl
   refine bS<|ar<|ar<|aE<|ag<|ah<|ah<|aj<|hy (fun _=>aa rfl)<|hy (fun _=>(mN rfl))<|ai<|al (ρ' :=[(46,_),(11,_),(5,_),(6,_),(7,_),(4,_),(3,_),(0,_),(1,_)]) ⟨rfl,rfl,rfl,rfl,rfl,rfl,rfl,rfl,rfl,trivial⟩<|ag<| ?_
   refine fe rfl (rfl) ?_
   refine aj<|hy (fun _=>aa rfl)<|hy (fun m=>yV (aR rfl pJ eR rfl ((m.aT 1 rfl).au)) ((rfl:_=Value.agg [SV f.1,SV f.2].toArray)))<| ?_
   refine hx (cg Tryz.underlying36 iD rfl rfl rfl (by simp[Value.cells,B8]) (by decide) (by decide) (fun g49=> ?_))
   have hA_b49:0<1→(some (⟨g49,0,none⟩:Addr))≠none:=fun _ h=>by cases h
   refine aV (fun w m=>m.bQ 0 rfl (show _=aF 156 2 (.slice (some ⟨g49,0,none⟩) 1 1) 1 (fc [f])from rfl)) ?_
   refine hx (bu 1 rfl rfl rfl Tryz.underlying36 Tryz.underlying36 (by exact .inl rfl) iD rfl (fun m=>Src.bN (m.ord 0 rfl)) mC (by unfold maxLen;omega) (by omega) (fun u=> ?_))
   refine aw (fun m=>(m.own 0 rfl).slice) ?_
   rintro⟨A_o,c_o,rfl,hc_o⟩
   refine aw (fun m=>(m.ord 0 rfl).2.1) fun hA_o=> ?_
   refine aV (fun w m=>m.bQ 0 rfl (show _=aF 156 2 (.slice A_o (k+1) c_o) (k+1) (fc (gI l f))from(congrArg (aF _ _ _ _) ((gR ..).symm.trans (congrArg fc hW.symm))))) ?_
   refine hy (fun _=>ab rfl)<|ai<|al (ρ' :=[(5,_),(46,_),(11,_),(6,_),(7,_),(4,_),(3,_),(0,_),(1,_)]) ⟨rfl,rfl,rfl,rfl,rfl,rfl,rfl,rfl,rfl,trivial⟩<|ak (X' :=[_,_,_]) (S' :=[_]) (fun _ m=>m)<|ag<|ah<|aj<|hy (fun _=>aa rfl)<|hy (fun _=>ab rfl)<|ai<|al (ρ' :=[(4,_),(5,_),(46,_),(11,_),(6,_),(7,_),(3,_),(0,_),(1,_)]) ⟨rfl,rfl,rfl,rfl,rfl,rfl,rfl,rfl,rfl,trivial⟩<|ag<|aQ<| ?_
   exact bd trivial rfl rfl [0] rfl [] rfl ⟨_,_,rfl,rfl,rfl,⟨by rw[hW,List.length_append,hk];rfl,by simp at hki;omega⟩⟩
end Go.Proofs.YtmibdabdlgmafaaGreatDoor
end
section
set_option maxRecDepth 20000
namespace Go.Proofs.YtmibdabdlgmafaaGreatDoor
open Go.Eng Go.Hx
def eY(l:List FP)(p:List UInt8):List FP:=l.filter fun x=>decide (x.1≠p)
def cv(k:Int)(p t b:List UInt8):List Value:=[.int .i64 k,SV p,SV t,SV b]
def eB(l:List FP)(k:Int)(p t b:List UInt8):List FP:=
 if k=0 then gI l (p,b)else match l[da l p]? with
  |none=>l
  |some x=>if k=2 then eY l p else gI (eY l p) (t,x.2)
theorem gU{l:List FP}{p:List UInt8}:j5 l p<0↔l[da l p]? =none:=by
 unfold j5
 by_cases h:da l p<l.length
 ·rw[if_pos h,List.getElem?_eq_getElem h];simp
 ·rw[if_neg h,List.getElem?_eq_none (by omega)];simp
theorem Cr{A:Option Addr}{n c:Nat}{l:List FP}{k:Int}{p t bb:List UInt8}(hl:l.length=n)(hn:n≤900000):cj Tryz.prog 162 [.slice A n c,.agg (cv k p t bb).toArray] [] [dw 2 A n (fc l)] (fun v_ X_ S_=>∃A1 n1 c1,v_=(.slice A1 n1 c1)∧X_=[]∧S_=[dw 2 A1 n1 (fc (eB l k p t bb))]∧(n1=(eB l k p t bb).length∧n1≤n+1)):=by
 refine aU (N:=43) Tryz.func162 rfl rfl (by simp) fun b=> ?_
 refine ba (fun m=>mX (m.rd 0 rfl)) ?_
 rintro⟨hl_r,hA_r⟩
 refine ah<|aj<| ?_
 refine hx (cp rfl (fun g3=> ?_))
 refine aV (fun w m=>m.bQ 0 rfl (show _=aH g3 186 (cv k p t bb)from congrArg (aH _ _) (bq _))) ?_
 refine hy (fun _=>ab rfl)<|ai<|ak (X' :=[_]) (S' :=[_]) (fun _ m=>m)<|ag<|ah<|ah<|aj<|hy (fun _=>aI rfl ub (by decide))<|hy (fun m=>av rfl dV (aB (m.aT 0 rfl) (i:=0) rfl))<|hy (fun _=>cy rfl rfl)<|ai<|al (ρ' :=[(8,_),(4,_),(3,_),(0,_),(1,_)]) ⟨rfl,rfl,rfl,rfl,rfl,trivial⟩<|ag<| ?_
 refine cI rfl (fun h0=> ?_) (fun h0=> ?_)
 ·have hM:eB l k p t bb=gI l (p,bb):=by rw[eB,if_pos h0]
  refine ah<|aj<|hy (fun _=>aa rfl)<|hy (fun _=>aI rfl nS (by decide))<|hy (fun m=>yV (av rfl kL (aB (m.aT 0 rfl) (i:=1) rfl)) ((rfl:_=SV p)))<|hy (fun _=>aI rfl y7 (by decide))<|hy (fun m=>yV (av rfl kL (aB (m.aT 0 rfl) (i:=3) rfl)) ((rfl:_=SV bb)))<|hy (fun _=>yV (cD iD rfl rfl (by kernel_rfl) (.cons (o:=0) (sz:=1) (by kernel_rfl) rfl rfl (Nat.le_of_ble_eq_true rfl) (.cons (o:=1) (sz:=1) (by kernel_rfl) rfl rfl (Nat.le_of_ble_eq_true rfl) .nil))) ((rfl:_=Value.agg [SV p,SV bb].toArray)))<| ?_
  refine hx (aq rfl Tryz.call220 (w6 (by omega) (by omega) (f:=(p,bb))) [] rfl [0] rfl ?_)
  rintro _ _ _ ⟨v,k2,rfl,rfl,rfl,hp⟩
  refine aw (fun m=>(m.own 0 rfl).slice) ?_
  rintro⟨A_x,c_x,rfl,hc_x⟩
  refine aw (fun m=>(m.ord 0 rfl).2.1) fun hA_x=> ?_
  refine hy (fun _=>ab rfl)<|ai<|al (ρ' :=[(4,_),(8,_),(3,_),(0,_),(1,_)]) ⟨rfl,rfl,rfl,rfl,rfl,trivial⟩<|ak (X' :=[_,_]) (S' :=[_]) (fun _ m=>m)<|ag<|aQ<|ay<| ?_
  rw[←hM]at hp
  refine ak (fun w m=>m.bQ 0 rfl (show _=aF 156 2 (.slice A_x k2 c_x) k2 (fc (eB l k p t bb))from by rw[hM])) ?_
  refine ak (fun w m=>(m.perm (az [0] _ [_] _ rfl)).freeze) ?_
  refine ak (fun w m=>m.lq 0 rfl .own) ?_
  refine s4 (fun m=>mX (m.rd 0 rfl)) ?_
  rintro⟨hl_xr,hA_xr⟩
  exact bd trivial rfl rfl [] rfl [0] rfl ⟨_,_,_,rfl,rfl,rfl,hp⟩
 ·refine aC<|ag<|ah<|aj<|hy (fun _=>aa rfl)<|hy (fun _=>aI rfl nS (by decide))<|hy (fun m=>yV (av rfl kL (aB (m.aT 0 rfl) (i:=1) rfl)) ((rfl:_=SV p)))<| ?_
  refine hx (aq rfl Tryz.call113 (s6 (by omega) (by omega)) [] rfl [0] rfl ?_)
  rintro _ _ _ ⟨rfl,rfl,rfl⟩
  refine hy (fun _=>ab rfl)<|ai<|al (ρ' :=[(5,_),(8,_),(4,_),(3,_),(0,_),(1,_)]) ⟨rfl,rfl,rfl,rfl,rfl,rfl,trivial⟩<|ak (X' :=[_]) (S' :=[_]) (fun _ m=>m)<|ag<|ah<|ah<|aj<|hy (fun _=>aa rfl)<|hy (fun _=>bk rfl rfl)<|ai<|al (ρ' :=[(21,_),(5,_),(8,_),(4,_),(3,_),(0,_),(1,_)]) ⟨rfl,rfl,rfl,rfl,rfl,rfl,rfl,trivial⟩<|ag<| ?_
  refine cI rfl (fun h1=> ?_) (fun h1=> ?_)
  ·have hM:eB l k p t bb=l:=by rw[eB,if_neg h0,gU.1 h1]
   refine ah<|aj<|hy (fun _=>aa rfl)<|hy (fun _=>ab rfl)<|ai<|al (ρ' :=[(4,_),(21,_),(5,_),(8,_),(3,_),(0,_),(1,_)]) ⟨rfl,rfl,rfl,rfl,rfl,rfl,rfl,trivial⟩<|ag<|aQ<|ay<| ?_
   rw[hM]
   exact bd trivial rfl rfl [] rfl [0] rfl ⟨_,_,_,rfl,rfl,rfl,⟨hl.symm,by omega⟩⟩
  ·obtain⟨x0,cN⟩:∃x0,l[da l p]? =some x0:=by
    cases hq:l[da l p]? with
    |none=>exact absurd (gU.2 hq) h1
    |some x0=>exact⟨x0,rfl⟩
   have hfl:da l p<l.length:=(List.getElem?_eq_some_iff.1 cN).1
   obtain⟨f0,f1⟩:=iW l _ x0 cN
   have hfi:j5 l p=(da l p:Nat):=by rw[j5,if_pos hfl]
   have hwl:(eY l p).length≤l.length:=List.length_filter_le ..
   refine aC<|ag<|ah<|ah<|aj<|hy (fun _=>aI rfl ub (by decide))<|hy (fun m=>av rfl dV (aB (m.aT 0 rfl) (i:=0) rfl))<|hy (fun _=>cy rfl rfl)<|ai<|al (ρ' :=[(25,_),(21,_),(5,_),(8,_),(4,_),(3,_),(0,_),(1,_)]) ⟨rfl,rfl,rfl,rfl,rfl,rfl,rfl,rfl,trivial⟩<|ag<| ?_
   refine cI rfl (fun h2=> ?_) (fun h2=> ?_)
   ·have hM:eB l k p t bb=eY l p:=by rw[eB,if_neg h0,cN];simp only[if_pos h2]
    refine ah<|aj<|hy (fun _=>aa rfl)<|hy (fun _=>aI rfl nS (by decide))<|hy (fun m=>yV (av rfl kL (aB (m.aT 0 rfl) (i:=1) rfl)) ((rfl:_=SV p)))<| ?_
    refine hx (aq rfl Tryz.call221 (qj (by omega) (by omega)) [] rfl [0] rfl ?_)
    rintro _ _ _ ⟨v,k2,rfl,rfl,rfl,hp⟩
    refine aw (fun m=>(m.own 0 rfl).slice) ?_
    rintro⟨A_x,c_x,rfl,hc_x⟩
    refine aw (fun m=>(m.ord 0 rfl).2.1) fun hA_x=> ?_
    refine hy (fun _=>ab rfl)<|ai<|al (ρ' :=[(4,_),(25,_),(21,_),(5,_),(8,_),(3,_),(0,_),(1,_)]) ⟨rfl,rfl,rfl,rfl,rfl,rfl,rfl,rfl,trivial⟩<|ak (X' :=[_,_]) (S' :=[_]) (fun _ m=>m)<|ag<|aQ<|ay<| ?_
    refine ak (fun w m=>m.bQ 0 rfl (show _=aF 156 2 (.slice A_x k2 c_x) k2 (fc (eB l k p t bb))from by rw[hM];rfl)) ?_
    refine ak (fun w m=>(m.perm (az [0] _ [_] _ rfl)).freeze) ?_
    refine ak (fun w m=>m.lq 0 rfl .own) ?_
    refine s4 (fun m=>mX (m.rd 0 rfl)) ?_
    rintro⟨hl_xr,hA_xr⟩
    exact bd trivial rfl rfl [] rfl [0] rfl ⟨_,_,_,rfl,rfl,rfl,⟨hp.trans (congrArg List.length hM.symm),by rw[hp];show(eY l p).length≤_;omega⟩⟩
   ·have hM:eB l k p t bb=gI (eY l p) (t,x0.2):=by rw[eB,if_neg h0,cN];simp only[if_neg h2]
    refine aC<|ag<|ah<|cV [3,12] [(0,some 0),(1,some 0),(2,some 0),(4,some 1),(5,some 1),(6,some 2),(7,some 2),(8,some 1),(9,some 1),(10,some 1),(11,some 1),(3,none),(12,none),(13,some 2)] (by kernel_rfl) (by kernel_rfl) rfl 99<|an (aa rfl)<|an (aI rfl nS (by decide))<|cn (fun m=>yV (av rfl kL (aB (m.aT 0 rfl) (i:=1) rfl)) ((rfl:_=SV p)))<|an (aI rfl Ay (by decide))<|cn (fun m=>yV (av rfl kL (aB (m.aT 0 rfl) (i:=2) rfl)) ((rfl:_=SV t)))<|an (aa rfl)<|an (aa rfl)<|an (dF rfl rfl Tryz.underlying36 eR hA_r hfi.symm (by omega))<|an (aI rfl nL (by decide))<|cn (fun m=>yV (av rfl kL (fh (m.rd 0 rfl) f1)) ((rfl:_=SV x0.2)))<|an (yV (cD iD rfl rfl (by kernel_rfl) (.cons (o:=0) (sz:=1) (by kernel_rfl) rfl rfl (Nat.le_of_ble_eq_true rfl) (.cons (o:=1) (sz:=1) (by kernel_rfl) rfl rfl (Nat.le_of_ble_eq_true rfl) .nil))) ((rfl:_=Value.agg [SV t,SV x0.2].toArray)))<| ?_
    refine eK (aq rfl Tryz.call221 (qj (by omega) (by omega)) [] rfl [0] rfl ?_)
    rintro _ _ _ ⟨v,k2,rfl,rfl,rfl,hp⟩
    refine⟨(fun _=>wk [1] [0] rfl rfl), ?_⟩
    refine cP (fun m=>(m.own 0 rfl).slice) ?_
    rintro⟨A_x,c_x,rfl,hc_x⟩
    refine cP (fun m=>(m.ord 0 rfl).2.1) fun hA_x=> ?_
    have hk2:k2=(eY l p).length:=hp
    clear hp
    refine eK (bT rfl Tryz.call220 (w6 (by omega) (by omega) (l:=(eY l p)) (f:=(t,x0.2))) [] rfl (.x 0 rfl .own .nil) ?_)
    rintro _ _ _ ⟨v2,k3,rfl,rfl,rfl,hp2⟩
    refine⟨rfl, ?_⟩
    refine⟨(fun _=>wk [2] [0] rfl rfl), ?_⟩
    refine cP (fun m=>(m.own 0 rfl).slice) ?_
    rintro⟨A_x2,c_x2,rfl,hc_x2⟩
    refine cP (fun m=>(m.ord 0 rfl).2.1) fun hA_x2=> ?_
    refine an (ab rfl)<|bE<|al (ρ' :=[(4,_),(25,_),(21,_),(5,_),(8,_),(3,_),(0,_),(1,_)]) ⟨rfl,rfl,rfl,rfl,rfl,rfl,rfl,rfl,trivial⟩<|ak (X' :=[_,_,_]) (S' :=[_]) (fun _ m=>m)<|ag<|aQ<| ?_
    rw[hM]
    refine ak (fun w m=>(m.perm (az [0] _ [_] _ rfl)).freeze) ?_
    refine ak (fun w m=>m.lq 0 rfl .own) ?_
    refine s4 (fun m=>mX (m.rd 0 rfl)) ?_
    rintro⟨hl_x2r,hA_x2r⟩
    exact bd trivial rfl rfl [] rfl [0] rfl ⟨_,_,_,rfl,rfl,rfl,⟨hp2.1,by omega⟩⟩
abbrev RC:=Int×List UInt8×List UInt8×List UInt8
def sV(l:List RC):List Value:=l.flatMap fun x=>cv x.1 x.2.1 x.2.2.1 x.2.2.2
theorem tp(a b:List RC):sV (a++b)=sV a++sV b:=by simp[sV]
theorem ui{l:List RC}:∀u∈sV l,u.oneCell' =true:=by
 intro u hu
 obtain⟨x,_,h⟩:=List.mem_flatMap.1 hu
 simp only[cv,List.mem_cons,List.not_mem_nil,or_false]at h
 rcases h with rfl|rfl|rfl|rfl <;> rfl
theorem iP{room pw:Int}{A A2 A3:Option Addr}{n c n2 c2 n3 c3:Nat}:∀u∈dv room (.slice A n c) (.slice A2 n2 c2) (.slice A3 n3 c3) pw,u.oneCell' =true:=by
 intro u hu
 simp only[dv,List.mem_cons,List.not_mem_nil,or_false]at hu
 rcases hu with rfl|rfl|rfl|rfl|rfl <;> rfl
def fK(pw:Int):Int:=if 0<pw then pw-1 else pw
theorem Cx{room pw:Int}{A Al A3:Option Addr}{n c nl cl n3 c3:Nat}{l:List FP}{wl:List RC}{k:Int}{p t bb:List UInt8}(hl:l.length=n)(hn:n≤900000)(hw:wl.length=n3)(hn3:n3≤900000)(hp1:-10≤pw)(hp2:pw≤1000000000000):cj Tryz.prog 114 [.agg (dv room (.slice A n c) (.slice Al nl cl) (.slice A3 n3 c3) pw).toArray,.agg (cv k p t bb).toArray] [] [dw 2 A n (fc l),dw 4 A3 n3 (sV wl)] (fun v_ X_ S_=>∃A1 n1 c1 A2 n2 c2,v_=(.agg (dv room (.slice A1 n1 c1) (.slice Al nl cl) (.slice A2 n2 c2) (fK pw)).toArray)∧X_=[]∧S_=[dw 2 A1 n1 (fc (eB l k p t bb)),dw 4 A2 n2 (sV (wl++[(k,p,t,bb)]))]∧(n1=(eB l k p t bb).length∧n1≤n+1∧n2=n3+1)):=by
 refine aU (N:=28) Tryz.func114 rfl rfl (by simp) fun b=> ?_
 refine ba (fun m=>mX (m.rd 0 rfl)) ?_
 rintro⟨hl_r,hA_r⟩
 refine ba (fun m=>mX (m.rd 1 rfl)) ?_
 rintro⟨hl_w,hA_w⟩
 refine ah<|aj<| ?_
 refine hx (cp rfl (fun g2=> ?_))
 refine aV (fun w m=>m.bQ 0 rfl (show _=aH g2 39 (dv room (.slice A n c) (.slice Al nl cl) (.slice A3 n3 c3) pw)from congrArg (aH _ _) (bq _))) ?_
 refine hx (cp rfl (fun g3=> ?_))
 refine aV (fun w m=>m.bQ 0 rfl (show _=aH g3 186 (cv k p t bb)from congrArg (aH _ _) (bq _))) ?_
 refine hx (aJ fB (fun g4=> ?_))
 refine ai<|ak (X' :=[_,_,_]) (S' :=[_,_]) (fun _ m=>m)<|ag<|ah<|aj<|hy (fun _=>aI rfl iv (by decide))<|hy (fun m=>av rfl o6 (aB (m.aT 2 rfl) (i:=1) rfl))<|hy (fun m=>yV (aR rfl Br Bt rfl ((m.aT 1 rfl).au)) ((rfl:_=Value.agg (cv k p t bb).toArray)))<| ?_
 refine hx (aq rfl Tryz.call162 (Cr (by omega) (by omega)) [] rfl [0] rfl ?_)
 rintro _ _ _ ⟨A1,n1,c1,rfl,rfl,rfl,hp⟩
 refine aw (fun m=>mX (m.rd 0 rfl)) ?_
 rintro⟨hl_q,hA_q⟩
 refine hy (fun _=>aI rfl iv (by decide))<| ?_
 refine cN (ct 2 rfl rfl rfl C5 rfl (by first|exact Nat.le_of_ble_eq_true rfl|simp) ?_)
 refine ai<|al (ρ' :=[(4,_),(3,_),(2,_),(0,_),(1,_)]) ⟨rfl,rfl,rfl,rfl,rfl,trivial⟩<|ak (X' :=[_,_,_]) (S' :=[_,_,_]) (fun _ m=>m)<|ag<|ah<|aj<|hy (fun _=>ab rfl)<|ai<|ag<|ah<|aj<|hy (fun _=>aa rfl)<|hy (fun _=>aI rfl tf (by decide))<|hy (fun m=>av rfl EL (aB (m.aT 0 rfl) rfl))<| ?_
 refine aV (fun w m=>m.cL (r' :=aF 186 4 (.slice none 0 0) 0 []) (.refl _ _) (Own.nil _ _ _ _) (fun k hk=>hk.elim)) ?_
 refine hx (bu 0 rfl rfl rfl Tryz.underlying37 Tryz.underlying37 (by exact .inl rfl) pV rfl (fun m=>Src.bN (m.rd 2 rfl)) ui (by unfold maxLen;omega) (by omega) (fun u=> ?_))
 refine aw (fun m=>(m.own 0 rfl).slice) ?_
 rintro⟨A_o,c_o,rfl,hc_o⟩
 refine aw (fun m=>(m.ord 0 rfl).2.1) fun hA_o=> ?_
 rw[Nat.zero_add]
 refine aV (fun w m=>m.bQ 0 rfl (show _=aF 186 4 (.slice A_o n3 c_o) n3 (sV wl)from rfl)) ?_
 refine hy (fun _=>ab rfl)<|ai<|al (ρ' :=[(5,_),(4,_),(3,_),(2,_),(0,_),(1,_)]) ⟨rfl,rfl,rfl,rfl,rfl,rfl,trivial⟩<|ak (X' :=[_,_,_,_]) (S' :=[_,_,_]) (fun _ m=>m)<|ag<|ah<|aj<|hy (fun _=>aa rfl)<|hy (fun m=>yV (aR rfl Br Bt rfl ((m.aT 3 rfl).au)) ((rfl:_=Value.agg (cv k p t bb).toArray)))<| ?_
 refine hx (cg Tryz.underlying37 pV rfl rfl rfl (by simp[Value.cells,cv]) (by decide) (by decide) (fun g17=> ?_))
 have hA_b17:0<1→(some (⟨g17,0,none⟩:Addr))≠none:=fun _ h=>by cases h
 refine aV (fun w m=>m.bQ 0 rfl (show _=aF 186 4 (.slice (some ⟨g17,0,none⟩) 1 1) 1 (sV [(k,p,t,bb)])from rfl)) ?_
 refine hx (bu 1 rfl rfl rfl Tryz.underlying37 Tryz.underlying37 (by exact .inl rfl) pV rfl (fun m=>Src.bN (m.ord 0 rfl)) ui (by unfold maxLen;omega) (by omega) (fun u2=> ?_))
 refine aw (fun m=>(m.own 0 rfl).slice) ?_
 rintro⟨A_o2,c_o2,rfl,hc_o⟩
 refine aw (fun m=>(m.ord 0 rfl).2.1) fun hA_o=> ?_
 refine aV (fun w m=>m.bQ 0 rfl (show _=aF 186 4 (.slice A_o2 (n3+1) c_o2) (n3+1) (sV (wl++[(k,p,t,bb)]))from congrArg (aF _ _ _ _) (tp ..).symm)) ?_
 refine hy (fun _=>aI rfl tf (by decide))<| ?_
 refine cN (ct 2 rfl rfl rfl DX rfl (by first|exact Nat.le_of_ble_eq_true rfl|simp) ?_)
 refine aV (fun w m=>m.bQ 0 rfl (show _=aH g2 39 (dv room (.slice A1 n1 c1) (.slice Al nl cl) (.slice A_o2 (n3+1) c_o2) pw)from rfl)) ?_
 refine ai<|al (ρ' :=[(5,_),(4,_),(3,_),(2,_),(0,_),(1,_)]) ⟨rfl,rfl,rfl,rfl,rfl,rfl,trivial⟩<|ak (X' :=[_,_,_,_,_]) (S' :=[_,_,_]) (fun _ m=>m)<|ag<|ah<|ah<|aj<|hy (fun _=>aI rfl jD (by decide))<|hy (fun m=>av rfl dV (aB (m.aT 0 rfl) (i:=4) rfl))<|hy (fun _=>cF rfl rfl)<|ai<|al (ρ' :=[(22,_),(5,_),(4,_),(3,_),(2,_),(0,_),(1,_)]) ⟨rfl,rfl,rfl,rfl,rfl,rfl,rfl,trivial⟩<|ag<| ?_
 refine bD (fun w m=>(m.perm (az [1] _ [_] _ rfl)).freeze) ?_
 refine bD (fun w m=>m.lq 0 rfl .own) ?_
 refine cI rfl (fun h=> ?_) (fun h=> ?_)
 ·refine aj<|hy (fun _=>aI rfl jD (by decide))<|hy (fun m=>av rfl dV (aB (m.aT 0 rfl) (i:=4) rfl))<|hy (fun _=>b6 rfl rfl (bB (by omega) (by omega)))<|hy (fun _=>aI rfl jD (by decide))<| ?_
  refine cN (ct 0 rfl rfl rfl rl rfl (by first|exact Nat.le_of_ble_eq_true rfl|simp) ?_)
  refine aV (fun w m=>m.bQ 0 rfl (show _=aH g2 39 (dv room (.slice A1 n1 c1) (.slice Al nl cl) (.slice A_o2 (n3+1) c_o2) (fK pw))from by rw[fK,if_pos h];rfl)) ?_
  refine ai<|al (ρ' :=[(22,_),(5,_),(4,_),(3,_),(2,_),(0,_),(1,_)]) ⟨rfl,rfl,rfl,rfl,rfl,rfl,rfl,trivial⟩<|ak (X' :=[_,_,_,_]) (S' :=[_,_,_,_,_]) (fun _ m=>m)<|ag<|ah<|aj<|hy (fun m=>aR rfl cz bp rfl ((m.aT 0 rfl).au))<| ?_
  refine cN (aG 2 rfl rfl rfl bp rfl iP rfl ?_)
  refine ai<|al (ρ' :=[(22,_),(5,_),(4,_),(3,_),(2,_),(0,_),(1,_)]) ⟨rfl,rfl,rfl,rfl,rfl,rfl,rfl,trivial⟩<|ak (X' :=[_,_,_,_]) (S' :=[_,_,_,_,_]) (fun _ m=>m)<|ag<|aQ<| ?_
  exact gw trivial rfl rfl cz bp rfl (fun m=>(m.aT 0 rfl).au) [] rfl [2,0] rfl ⟨_,_,_,_,_,_,rfl,rfl,rfl,⟨hp.1,hp.2,rfl⟩⟩
 ·refine bD (fun w m=>m.bQ 0 rfl (show _=aH g2 39 (dv room (.slice A1 n1 c1) (.slice Al nl cl) (.slice A_o2 (n3+1) c_o2) (fK pw))from by rw[fK,if_neg h])) ?_
  refine aC<|ag<|ah<|aj<|hy (fun m=>aR rfl cz bp rfl ((m.aT 0 rfl).au))<| ?_
  refine cN (aG 2 rfl rfl rfl bp rfl iP rfl ?_)
  refine ai<|al (ρ' :=[(22,_),(5,_),(4,_),(3,_),(2,_),(0,_),(1,_)]) ⟨rfl,rfl,rfl,rfl,rfl,rfl,rfl,trivial⟩<|ak (X' :=[_,_,_,_]) (S' :=[_,_,_,_,_]) (fun _ m=>m)<|ag<|aQ<| ?_
  exact gw trivial rfl rfl cz bp rfl (fun m=>(m.aT 0 rfl).au) [] rfl [2,0] rfl ⟨_,_,_,_,_,_,rfl,rfl,rfl,⟨hp.1,hp.2,rfl⟩⟩
end Go.Proofs.YtmibdabdlgmafaaGreatDoor
end
section
set_option maxRecDepth 20000
namespace Go.Proofs.YtmibdabdlgmafaaGreatDoor
open Go.Eng Go.Hx
structure RD where
 room:Int
 seen:List FP
 dS:List FP
 waits:List RC
 pw:Int
def RD.sz(d:RD)(p:List UInt8):Nat:=((d.seen[da d.seen p]?).map (·.2.length)).getD 0
def RD.bZ(d:RD)(p bb:List UInt8):Int:=if¬jH p then 1 else if d.pw=0 then 6 else if d.room<(jt d.seen:Int)+(bb.length:Nat)-(d.sz p:Nat)then 5 else 0
def RD.kK(d:RD)(k:Int)(p t bb:List UInt8):RD:={d with seen:=eB d.seen k p t bb,waits:=d.waits++[(k,p,t,bb)],pw:=fK d.pw}
def RD.write(d:RD)(p bb:List UInt8):RD:=if d.bZ p bb=0 then d.kK 0 p [] bb else d
structure xO(d:RD)(k:Nat):Prop where
 seen:d.seen.length≤k
 waits:d.waits.length≤k
 m7:jt d.seen≤k*1048576
 p1:-10≤d.pw
 p2:d.pw≤1000000000000
theorem C6(d:RD)(p:List UInt8):d.sz p≤jt d.seen:=by
 unfold RD.sz
 cases h:d.seen[da d.seen p]? with
 |none=>simp
 |some x=>
  have h1:=pN h
  have h2:=uG d.seen (da d.seen p+1)
  simp only[Option.map_some,Option.getD_some]
  omega
def rv(d:RD)(A:Option Addr)(n c:Nat)(Al:Option Addr)(nl cl:Nat)(A3:Option Addr)(n3 c3:Nat):List Value:=dv d.room (.slice A n c) (.slice Al nl cl) (.slice A3 n3 c3) d.pw
theorem D8{room:Int}:cj Tryz.prog 25 [.int .i64 room] [] [] (fun v_ X_ S_=>v_=(.agg (dv room (.slice none 0 0) (.slice none 0 0) (.slice none 0 0) (-1)).toArray)∧X_=[]∧S_=[]):=by
 refine aU (N:=5) Tryz.func25 rfl rfl (by simp) fun b=> ?_
 refine ah<|aj<| ?_
 refine hx (aJ fB (fun g2=> ?_))
 refine ai<|ak (X' :=[_]) (S' :=[]) (fun _ m=>m)<|ag<|ah<|aj<|hy (fun _=>aa rfl)<|hy (fun _=>yV (cD fB rfl rfl (by kernel_rfl) (.cons (o:=0) (sz:=1) (by kernel_rfl) rfl rfl (Nat.le_of_ble_eq_true rfl) (.cons (o:=4) (sz:=1) (by kernel_rfl) rfl rfl (Nat.le_of_ble_eq_true rfl) .nil))) ((rfl:_=Value.agg (dv room (.slice none 0 0) (.slice none 0 0) (.slice none 0 0) (-1)).toArray)))<| ?_
 refine cN (aG 0 rfl rfl rfl bp rfl iP rfl ?_)
 refine ai<|al (ρ' :=[(2,_),(0,_)]) ⟨rfl,rfl,trivial⟩<|ak (X' :=[_]) (S' :=[]) (fun _ m=>m)<|ag<|aQ<| ?_
 exact gw trivial rfl rfl cz bp rfl (fun m=>(m.aT 0 rfl).au) [] rfl [] rfl ⟨rfl,rfl,rfl⟩
theorem zn{d:RD}{kk:Nat}{A Al A3:Option Addr}{n c nl cl n3 c3:Nat}{p bb:List UInt8}(hl:d.seen.length=n)(hw:d.waits.length=n3)(ok:xO d kk)(hkk:kk≤100000)(hpl:p.length≤1000000)(hbb:bb.length≤1000000):cj Tryz.prog 31 [.agg (rv d A n c Al nl cl A3 n3 c3).toArray,.string (strOf p),.string (strOf bb)] [] [dw 2 A n (fc d.seen),dw 4 A3 n3 (sV d.waits)] (fun v_ X_ S_=>∃A1 n1 c1 A2 n2 c2,v_=(.tuple #[.agg (rv (d.write p bb) A1 n1 c1 Al nl cl A2 n2 c2).toArray,.int .i64 (d.bZ p bb)])∧X_=[]∧S_=[dw 2 A1 n1 (fc (d.write p bb).seen),dw 4 A2 n2 (sV (d.write p bb).waits)]∧((d.write p bb).seen.length=n1∧(d.write p bb).waits.length=n2)):=by
 have hk1:=ok.seen
 have hk2:=ok.waits
 have hk3:=ok.m7
 have hk4:=ok.p1
 have hk5:=ok.p2
 have hsz:=C6 d p
 refine aU (N:=50) Tryz.func31 rfl rfl (by simp) fun b=> ?_
 refine ba (fun m=>mX (m.rd 0 rfl)) ?_
 rintro⟨hl_r,hA_r⟩
 refine ba (fun m=>mX (m.rd 1 rfl)) ?_
 rintro⟨hl_w,hA_w⟩
 refine ah<|aj<| ?_
 refine hx (cp rfl (fun g3=> ?_))
 refine aV (fun w m=>m.bQ 0 rfl (show _=aH g3 39 (rv d A n c Al nl cl A3 n3 c3)from congrArg (aH _ _) (bq _))) ?_
 refine hx (aJ fB (fun g6=> ?_))
 refine hy (fun _=>ab rfl)<|ai<|ak (X' :=[_,_]) (S' :=[_,_]) (fun _ m=>m)<|ag<|ah<|aj<|hy (fun _=>aa rfl)<| ?_
 refine hx (aq rfl Tryz.call112 (tY (by omega)) [] rfl [] rfl ?_)
 rintro _ _ _ ⟨rfl,rfl,rfl⟩
 refine hy (fun _=>ab rfl)<|ai<|al (ρ' :=[(8,_),(7,_),(6,_),(3,_),(0,_),(1,_),(2,_)]) ⟨rfl,rfl,rfl,rfl,rfl,rfl,rfl,trivial⟩<|ak (X' :=[_,_]) (S' :=[_,_]) (fun _ m=>m)<|ag<|ah<|ah<|aj<|hy (fun _=>aa rfl)<|hy (fun _=>dT rfl)<|ai<|al (ρ' :=[(14,_),(8,_),(7,_),(6,_),(3,_),(0,_),(1,_),(2,_)]) ⟨rfl,rfl,rfl,rfl,rfl,rfl,rfl,rfl,trivial⟩<|ag<| ?_
 refine cI rfl (fun hN=> ?_) (fun hN=> ?_)
 ·have hE:d.bZ p bb=1:=by rw[RD.bZ,if_pos hN]
  have hW:d.write p bb=d:=by rw[RD.write,if_neg (by rw[hE];decide)]
  rw[hE,hW]
  refine ah<|aj<|hy (fun m=>yV (aR rfl cz bp rfl ((m.aT 1 rfl).au)) ((rfl:_=Value.agg (rv d A n c Al nl cl A3 n3 c3).toArray)))<| ?_
  refine cN (aG 0 rfl rfl rfl bp rfl iP rfl ?_)
  refine hy (fun _=>ab rfl)<|ai<|al (ρ' :=[(7,_),(14,_),(8,_),(6,_),(3,_),(0,_),(1,_),(2,_)]) ⟨rfl,rfl,rfl,rfl,rfl,rfl,rfl,rfl,trivial⟩<|ak (X' :=[_,_]) (S' :=[_,_]) (fun _ m=>m)<|ag<|aQ<|ay<| ?_
  exact c6 trivial rfl rfl rfl cz bp rfl (fun m=>(m.aT 0 rfl).au) [] rfl [0,1] rfl ⟨_,_,_,_,_,_,rfl,rfl,rfl,⟨hl,hw⟩⟩
 ·refine aC<|ag<|ah<|ah<|aj<|hy (fun _=>aI rfl jD (by decide))<|hy (fun m=>av rfl dV (aB (m.aT 1 rfl) (i:=4) rfl))<|hy (fun _=>cy rfl rfl)<|ai<|al (ρ' :=[(18,_),(14,_),(8,_),(7,_),(6,_),(3,_),(0,_),(1,_),(2,_)]) ⟨rfl,rfl,rfl,rfl,rfl,rfl,rfl,rfl,rfl,trivial⟩<|ag<| ?_
  refine cI rfl (fun h0=> ?_) (fun h0=> ?_)
  ·have hE:d.bZ p bb=6:=by rw[RD.bZ,if_neg hN,if_pos h0]
   have hW:d.write p bb=d:=by rw[RD.write,if_neg (by rw[hE];decide)]
   rw[hE,hW]
   refine ah<|aj<|hy (fun m=>yV (aR rfl cz bp rfl ((m.aT 1 rfl).au)) ((rfl:_=Value.agg (rv d A n c Al nl cl A3 n3 c3).toArray)))<| ?_
   refine cN (aG 0 rfl rfl rfl bp rfl iP rfl ?_)
   refine hy (fun _=>ab rfl)<|ai<|al (ρ' :=[(7,_),(18,_),(14,_),(8,_),(6,_),(3,_),(0,_),(1,_),(2,_)]) ⟨rfl,rfl,rfl,rfl,rfl,rfl,rfl,rfl,rfl,trivial⟩<|ak (X' :=[_,_]) (S' :=[_,_]) (fun _ m=>m)<|ag<|aQ<|ay<| ?_
   exact c6 trivial rfl rfl rfl cz bp rfl (fun m=>(m.aT 0 rfl).au) [] rfl [0,1] rfl ⟨_,_,_,_,_,_,rfl,rfl,rfl,⟨hl,hw⟩⟩
  ·have hsb:=cU bb
   refine aC<|ag<|ah<|aj<|hy (fun m=>yV (aR rfl cz bp rfl ((m.aT 1 rfl).au)) ((rfl:_=Value.agg (rv d A n c Al nl cl A3 n3 c3).toArray)))<| ?_
   refine hx (aq rfl Tryz.call89 (Ca (by omega) (by omega) (by omega)) [] rfl [0] rfl ?_)
   rintro _ _ _ ⟨rfl,rfl,rfl⟩
   refine hy (fun _=>aa rfl)<|hy (fun _=>cQ rfl Tryz.underlying9)<|hy (fun _=>aM rfl rfl (bB (by omega) (by omega)))<|hy (fun _=>ab rfl)<|ai<|al (ρ' :=[(9,_),(18,_),(14,_),(8,_),(7,_),(6,_),(3,_),(0,_),(1,_),(2,_)]) ⟨rfl,rfl,rfl,rfl,rfl,rfl,rfl,rfl,rfl,rfl,trivial⟩<|ak (X' :=[_,_]) (S' :=[_,_]) (fun _ m=>m)<|ag<|ah<|aj<|hy (fun _=>aI rfl iv (by decide))<|hy (fun m=>av rfl o6 (aB (m.aT 1 rfl) (i:=1) rfl))<|hy (fun _=>aa rfl)<| ?_
   refine hx (aq rfl Tryz.call113 (s6 (by omega) (by omega)) [] rfl [0] rfl ?_)
   rintro _ _ _ ⟨rfl,rfl,rfl⟩
   refine hy (fun _=>ab rfl)<|ai<|al (ρ' :=[(10,_),(9,_),(18,_),(14,_),(8,_),(7,_),(6,_),(3,_),(0,_),(1,_),(2,_)]) ⟨rfl,rfl,rfl,rfl,rfl,rfl,rfl,rfl,rfl,rfl,rfl,trivial⟩<|ak (X' :=[_,_]) (S' :=[_,_]) (fun _ m=>m)<|ag<|ah<|ah<|aj<|hy (fun _=>aa rfl)<|hy (fun _=>gG rfl rfl)<|ai<|al (ρ' :=[(30,_),(10,_),(9,_),(18,_),(14,_),(8,_),(7,_),(6,_),(3,_),(0,_),(1,_),(2,_)]) ⟨rfl,rfl,rfl,rfl,rfl,rfl,rfl,rfl,rfl,rfl,rfl,rfl,trivial⟩<|ag<| ?_
   refine cI rfl (fun hf=> ?_) (fun hf=> ?_)
   ·obtain⟨x0,hfx⟩:∃x0,d.seen[da d.seen p]? =some x0:=by
     cases hq:d.seen[da d.seen p]? with
     |none=>exact absurd (gU.2 hq) (by omega)
     |some x0=>exact⟨x0,rfl⟩
    have hfl:da d.seen p<d.seen.length:=(List.getElem?_eq_some_iff.1 hfx).1
    obtain⟨f0,f1⟩:=iW d.seen _ x0 hfx
    have hfi:j5 d.seen p=(da d.seen p:Nat):=by rw[j5,if_pos hfl]
    have hsx:=cU x0.2
    have hs0:d.sz p=x0.2.length:=by unfold RD.sz;rw[hfx];rfl
    refine aj<|hy (fun _=>aa rfl)<|hy (fun _=>aI rfl iv (by decide))<|hy (fun m=>av rfl o6 (aB (m.aT 1 rfl) (i:=1) rfl))<|hy (fun _=>aa rfl)<|hy (fun _=>dF rfl rfl Tryz.underlying36 eR hA_r hfi.symm (by omega))<|hy (fun _=>aI rfl nL (by decide))<|hy (fun m=>yV (av rfl kL (fh (m.rd 0 rfl) f1)) ((rfl:_=Value.string (strOf x0.2))))<|hy (fun _=>cQ rfl Tryz.underlying9)<|hy (fun _=>b6 rfl rfl (bB (by omega) (by omega)))<|hy (fun _=>ab rfl)<|ai<|al (ρ' :=[(9,_),(30,_),(10,_),(18,_),(14,_),(8,_),(7,_),(6,_),(3,_),(0,_),(1,_),(2,_)]) ⟨rfl,rfl,rfl,rfl,rfl,rfl,rfl,rfl,rfl,rfl,rfl,rfl,trivial⟩<|ag<|ah<|ah<|aj<|hy (fun _=>aa rfl)<|hy (fun _=>aI rfl xp (by decide))<|hy (fun m=>av rfl dV (aB (m.aT 1 rfl) (i:=0) rfl))<|hy (fun _=>cF rfl rfl)<|ai<|al (ρ' :=[(43,_),(9,_),(30,_),(10,_),(18,_),(14,_),(8,_),(7,_),(6,_),(3,_),(0,_),(1,_),(2,_)]) ⟨rfl,rfl,rfl,rfl,rfl,rfl,rfl,rfl,rfl,rfl,rfl,rfl,rfl,trivial⟩<|ag<| ?_
    refine cI rfl (fun hR=> ?_) (fun hR=> ?_)
    ·have hE:d.bZ p bb=5:=by rw[RD.bZ,if_neg hN,if_neg h0,if_pos (by omega)]
     have hW:d.write p bb=d:=by rw[RD.write,if_neg (by rw[hE];decide)]
     rw[hE,hW]
     refine ah<|aj<|hy (fun m=>yV (aR rfl cz bp rfl ((m.aT 1 rfl).au)) ((rfl:_=Value.agg (rv d A n c Al nl cl A3 n3 c3).toArray)))<| ?_
     refine cN (aG 0 rfl rfl rfl bp rfl iP rfl ?_)
     refine hy (fun _=>ab rfl)<|ai<|al (ρ' :=[(7,_),(43,_),(9,_),(30,_),(10,_),(18,_),(14,_),(8,_),(6,_),(3,_),(0,_),(1,_),(2,_)]) ⟨rfl,rfl,rfl,rfl,rfl,rfl,rfl,rfl,rfl,rfl,rfl,rfl,rfl,trivial⟩<|ak (X' :=[_,_]) (S' :=[_,_]) (fun _ m=>m)<|ag<|aQ<|ay<| ?_
     exact c6 trivial rfl rfl rfl cz bp rfl (fun m=>(m.aT 0 rfl).au) [] rfl [0,1] rfl ⟨_,_,_,_,_,_,rfl,rfl,rfl,⟨hl,hw⟩⟩
    ·have hE:d.bZ p bb=0:=by rw[RD.bZ,if_neg hN,if_neg h0,if_neg (by omega)]
     have hW:d.write p bb=d.kK 0 p [] bb:=by rw[RD.write,if_pos hE]
     rw[hE,hW]
     refine aC<|ag<|ah<|aj<|hy (fun m=>yV (aR rfl cz bp rfl ((m.aT 1 rfl).au)) ((rfl:_=Value.agg (dv d.room (.slice A n c) (.slice Al nl cl) (.slice A3 n3 c3) d.pw).toArray)))<|hy (fun _=>aa rfl)<|hy (fun _=>aa rfl)<|hy (fun _=>yV (cD pV rfl rfl (by kernel_rfl) (.cons (o:=1) (sz:=1) (by kernel_rfl) rfl rfl (Nat.le_of_ble_eq_true rfl) (.cons (o:=3) (sz:=1) (by kernel_rfl) rfl rfl (Nat.le_of_ble_eq_true rfl) .nil))) ((rfl:_=Value.agg (cv 0 p [] bb).toArray)))<| ?_
     refine hx (aq rfl Tryz.call114 (Cx (by omega) (by omega) (by omega) (by omega) (by omega) (by omega)) [] rfl [0,1] rfl ?_)
     rintro _ _ _ ⟨A1,n1,c1,A2,n2,c2,rfl,rfl,rfl,hp⟩
     refine aw (fun m=>mX (m.rd 0 rfl)) ?_
     rintro⟨hl_q,hA_q⟩
     refine aw (fun m=>mX (m.rd 1 rfl)) ?_
     rintro⟨hl_u,hA_u⟩
     refine cN (aG 0 rfl rfl rfl bp rfl iP rfl ?_)
     refine hy (fun _=>ab rfl)<|ai<|al (ρ' :=[(7,_),(43,_),(9,_),(30,_),(10,_),(18,_),(14,_),(8,_),(6,_),(3,_),(0,_),(1,_),(2,_)]) ⟨rfl,rfl,rfl,rfl,rfl,rfl,rfl,rfl,rfl,rfl,rfl,rfl,rfl,trivial⟩<|ak (X' :=[_,_]) (S' :=[_,_,_,_]) (fun _ m=>m)<|ag<|aQ<| ?_
     exact c6 trivial rfl rfl rfl cz bp rfl (fun m=>(m.aT 0 rfl).au) [] rfl [0,1] rfl ⟨_,_,_,_,_,_,rfl,rfl,rfl,⟨hp.1.symm,by rw[hp.2.2,←hw];exact List.length_append⟩⟩
   ·have hs0:d.sz p=0:=by
     unfold RD.sz
     rw[gU.1 (by omega)];rfl
    refine aC<|ag<|ah<|ah<|aj<|hy (fun _=>aa rfl)<|hy (fun _=>aI rfl xp (by decide))<|hy (fun m=>av rfl dV (aB (m.aT 1 rfl) (i:=0) rfl))<|hy (fun _=>cF rfl rfl)<|ai<|al (ρ' :=[(43,_),(30,_),(10,_),(9,_),(18,_),(14,_),(8,_),(7,_),(6,_),(3,_),(0,_),(1,_),(2,_)]) ⟨rfl,rfl,rfl,rfl,rfl,rfl,rfl,rfl,rfl,rfl,rfl,rfl,rfl,trivial⟩<|ag<| ?_
    refine cI rfl (fun hR=> ?_) (fun hR=> ?_)
    ·have hE:d.bZ p bb=5:=by rw[RD.bZ,if_neg hN,if_neg h0,if_pos (by omega)]
     have hW:d.write p bb=d:=by rw[RD.write,if_neg (by rw[hE];decide)]
     rw[hE,hW]
     refine ah<|aj<|hy (fun m=>yV (aR rfl cz bp rfl ((m.aT 1 rfl).au)) ((rfl:_=Value.agg (rv d A n c Al nl cl A3 n3 c3).toArray)))<| ?_
     refine cN (aG 0 rfl rfl rfl bp rfl iP rfl ?_)
     refine hy (fun _=>ab rfl)<|ai<|al (ρ' :=[(7,_),(43,_),(30,_),(10,_),(9,_),(18,_),(14,_),(8,_),(6,_),(3,_),(0,_),(1,_),(2,_)]) ⟨rfl,rfl,rfl,rfl,rfl,rfl,rfl,rfl,rfl,rfl,rfl,rfl,rfl,trivial⟩<|ak (X' :=[_,_]) (S' :=[_,_]) (fun _ m=>m)<|ag<|aQ<|ay<| ?_
     exact c6 trivial rfl rfl rfl cz bp rfl (fun m=>(m.aT 0 rfl).au) [] rfl [0,1] rfl ⟨_,_,_,_,_,_,rfl,rfl,rfl,⟨hl,hw⟩⟩
    ·have hE:d.bZ p bb=0:=by rw[RD.bZ,if_neg hN,if_neg h0,if_neg (by omega)]
     have hW:d.write p bb=d.kK 0 p [] bb:=by rw[RD.write,if_pos hE]
     rw[hE,hW]
     refine aC<|ag<|ah<|aj<|hy (fun m=>yV (aR rfl cz bp rfl ((m.aT 1 rfl).au)) ((rfl:_=Value.agg (dv d.room (.slice A n c) (.slice Al nl cl) (.slice A3 n3 c3) d.pw).toArray)))<|hy (fun _=>aa rfl)<|hy (fun _=>aa rfl)<|hy (fun _=>yV (cD pV rfl rfl (by kernel_rfl) (.cons (o:=1) (sz:=1) (by kernel_rfl) rfl rfl (Nat.le_of_ble_eq_true rfl) (.cons (o:=3) (sz:=1) (by kernel_rfl) rfl rfl (Nat.le_of_ble_eq_true rfl) .nil))) ((rfl:_=Value.agg (cv 0 p [] bb).toArray)))<| ?_
     refine hx (aq rfl Tryz.call114 (Cx (by omega) (by omega) (by omega) (by omega) (by omega) (by omega)) [] rfl [0,1] rfl ?_)
     rintro _ _ _ ⟨A1,n1,c1,A2,n2,c2,rfl,rfl,rfl,hp⟩
     refine aw (fun m=>mX (m.rd 0 rfl)) ?_
     rintro⟨hl_q,hA_q⟩
     refine aw (fun m=>mX (m.rd 1 rfl)) ?_
     rintro⟨hl_u,hA_u⟩
     refine cN (aG 0 rfl rfl rfl bp rfl iP rfl ?_)
     refine hy (fun _=>ab rfl)<|ai<|al (ρ' :=[(7,_),(43,_),(30,_),(10,_),(9,_),(18,_),(14,_),(8,_),(6,_),(3,_),(0,_),(1,_),(2,_)]) ⟨rfl,rfl,rfl,rfl,rfl,rfl,rfl,rfl,rfl,rfl,rfl,rfl,rfl,trivial⟩<|ak (X' :=[_,_]) (S' :=[_,_,_,_]) (fun _ m=>m)<|ag<|aQ<| ?_
     exact c6 trivial rfl rfl rfl cz bp rfl (fun m=>(m.aT 0 rfl).au) [] rfl [0,1] rfl ⟨_,_,_,_,_,_,rfl,rfl,rfl,⟨hp.1.symm,by rw[hp.2.2,←hw];exact List.length_append⟩⟩
def RD.ef(d:RD)(p:List UInt8):Int:=if d.pw=0 then 6 else if d.seen[da d.seen p]? =none then 4 else 0
def RD.cR(d:RD)(p:List UInt8):List UInt8:=if d.pw=0 then []else((d.seen[da d.seen p]?).map (·.2)).getD []
theorem Cz{d:RD}{kk:Nat}{A Al A3:Option Addr}{n c nl cl n3 c3:Nat}{p:List UInt8}(hl:d.seen.length=n)(ok:xO d kk)(hkk:kk≤100000):cj Tryz.prog 91 [.agg (rv d A n c Al nl cl A3 n3 c3).toArray,.string (strOf p)] [] [dw 2 A n (fc d.seen)] (fun v_ X_ S_=>v_=(.tuple #[.string (strOf (d.cR p)),.int .i64 (d.ef p)])∧X_=[]∧S_=[]):=by
 have hk1:=ok.seen
 refine aU (N:=22) Tryz.func91 rfl rfl (by simp) fun b=> ?_
 refine ba (fun m=>mX (m.rd 0 rfl)) ?_
 rintro⟨hl_r,hA_r⟩
 refine ah<|aj<| ?_
 refine hx (cp rfl (fun g2=> ?_))
 refine aV (fun w m=>m.bQ 0 rfl (show _=aH g2 39 (rv d A n c Al nl cl A3 n3 c3)from congrArg (aH _ _) (bq _))) ?_
 refine hy (fun _=>ab rfl)<|hy (fun _=>ab rfl)<|ai<|ak (X' :=[_]) (S' :=[_]) (fun _ m=>m)<|ag<|ah<|aj<|hy (fun _=>aI rfl iv (by decide))<|hy (fun m=>av rfl o6 (aB (m.aT 0 rfl) (i:=1) rfl))<|hy (fun _=>aa rfl)<| ?_
 refine hx (aq rfl Tryz.call113 (s6 (by omega) (by omega)) [] rfl [0] rfl ?_)
 rintro _ _ _ ⟨rfl,rfl,rfl⟩
 refine hy (fun _=>ab rfl)<|ai<|al (ρ' :=[(6,_),(5,_),(4,_),(2,_),(0,_),(1,_)]) ⟨rfl,rfl,rfl,rfl,rfl,rfl,trivial⟩<|ak (X' :=[_]) (S' :=[_]) (fun _ m=>m)<|ag<|ah<|ah<|aj<|hy (fun _=>aI rfl jD (by decide))<|hy (fun m=>av rfl dV (aB (m.aT 0 rfl) (i:=4) rfl))<|hy (fun _=>cy rfl rfl)<|ai<|al (ρ' :=[(13,_),(6,_),(5,_),(4,_),(2,_),(0,_),(1,_)]) ⟨rfl,rfl,rfl,rfl,rfl,rfl,rfl,trivial⟩<|ag<| ?_
 refine cI rfl (fun h0=> ?_) (fun h0=> ?_)
 ·have hE:d.ef p=6:=by rw[RD.ef,if_pos h0]
  have hB:d.cR p=[]:=by rw[RD.cR,if_pos h0]
  rw[hE,hB]
  refine ah<|aj<|hy (fun _=>ab rfl)<|hy (fun _=>ab rfl)<|ai<|ag<|aQ<|ay<| ?_
  exact cW trivial rfl rfl rfl [] rfl [] rfl ⟨rfl,rfl,rfl⟩
 ·refine aC<|ag<|ah<|ah<|aj<|hy (fun _=>aa rfl)<|hy (fun _=>bk rfl rfl)<|ai<|al (ρ' :=[(15,_),(13,_),(6,_),(5,_),(4,_),(2,_),(0,_),(1,_)]) ⟨rfl,rfl,rfl,rfl,rfl,rfl,rfl,rfl,trivial⟩<|ag<| ?_
  refine cI rfl (fun h1=> ?_) (fun h1=> ?_)
  ·have hq:=gU.1 h1
   have hE:d.ef p=4:=by rw[RD.ef,if_neg h0,if_pos hq]
   have hB:d.cR p=[]:=by rw[RD.cR,if_neg h0,hq];rfl
   rw[hE,hB]
   refine ah<|aj<|hy (fun _=>ab rfl)<|hy (fun _=>ab rfl)<|ai<|ag<|aQ<|ay<| ?_
   exact cW trivial rfl rfl rfl [] rfl [] rfl ⟨rfl,rfl,rfl⟩
  ·obtain⟨x0,hfx⟩:∃x0,d.seen[da d.seen p]? =some x0:=by
    cases hq:d.seen[da d.seen p]? with
    |none=>exact absurd (gU.2 hq) h1
    |some x0=>exact⟨x0,rfl⟩
   have hfl:da d.seen p<d.seen.length:=(List.getElem?_eq_some_iff.1 hfx).1
   obtain⟨f0,f1⟩:=iW d.seen _ x0 hfx
   have hfi:j5 d.seen p=(da d.seen p:Nat):=by rw[j5,if_pos hfl]
   have hE:d.ef p=0:=by rw[RD.ef,if_neg h0,if_neg (by rw[hfx];exact fun e=>by cases e)]
   have hB:d.cR p=x0.2:=by rw[RD.cR,if_neg h0,hfx];rfl
   rw[hE,hB]
   refine aC<|ag<|ah<|aj<|hy (fun _=>aI rfl iv (by decide))<|hy (fun m=>av rfl o6 (aB (m.aT 0 rfl) (i:=1) rfl))<|hy (fun _=>aa rfl)<|hy (fun _=>dF rfl rfl Tryz.underlying36 eR hA_r hfi.symm (by omega))<|hy (fun _=>aI rfl nL (by decide))<|hy (fun m=>yV (av rfl kL (fh (m.rd 0 rfl) f1)) ((rfl:_=Value.string (strOf x0.2))))<|hy (fun _=>ab rfl)<|hy (fun _=>ab rfl)<|ai<|al (ρ' :=[(5,_),(4,_),(15,_),(13,_),(6,_),(2,_),(0,_),(1,_)]) ⟨rfl,rfl,rfl,rfl,rfl,rfl,rfl,rfl,trivial⟩<|ag<|aQ<| ?_
   exact cW trivial rfl rfl rfl [] rfl [] rfl ⟨rfl,rfl,rfl⟩
end Go.Proofs.YtmibdabdlgmafaaGreatDoor
end
section
set_option maxRecDepth 20000
namespace Go.Proofs.YtmibdabdlgmafaaGreatDoor
open Go.Eng Go.Hx
theorem Cb:cj Tryz.prog 258 [.slice none 0 0,.int .i64 0,.int .i64 0] [] [] (fun v_ X_ S_=>v_=(.tuple #[])∧X_=[]∧S_=[]):=by
 refine aU (N:=49) Tryz.func258 rfl rfl (by simp) fun b=> ?_
 refine ah<|aj<|hy (fun _=>aa rfl)<|hy (fun _=>aM rfl rfl (bB (by omega) (by omega)))<|hy (fun _=>ab rfl)<|ai<|al (ρ' :=[(6,_),(0,_),(1,_),(2,_)]) ⟨rfl,rfl,rfl,rfl,trivial⟩<|ag<|aN<| ?_
 refine dA (fun u=>0) (fun u=>[(6,.int .i64 1)]) (fun u=>[]) (fun u=>[]) (fun u=>u=0) 0 [(0,_),(1,_),(2,_)] ⟨rfl,rfl,rfl,trivial⟩ [] rfl [] rfl (rfl) ⟨rfl,trivial⟩ (fun u hI=> ?_)
 refine ah<|ah<|aj<|hy (fun _=>aa rfl)<|hy (fun _=>aa rfl)<|hy (fun _=>bk rfl rfl)<|ai<|al (ρ' :=[(12,_),(6,_),(0,_),(1,_),(2,_)]) ⟨rfl,rfl,rfl,rfl,rfl,trivial⟩<|ag<| ?_
 refine dx rfl (rfl) ?_
 refine bS<|ar<|ar<|aE<| ?_
 exact gH trivial rfl [] rfl [] rfl ⟨rfl,rfl,rfl⟩
theorem yY:cj Tryz.prog 255 [.int .u64 0] [] [] (fun v_ X_ S_=>v_=(.int .i64 0)∧X_=[]∧S_=[]):=by
 refine aU (N:=25) Tryz.func255 rfl rfl (by simp) fun b=> ?_
 refine ah<|aj<|hy (fun _=>ab rfl)<|ai<|ag<|ah<|ah<|aj<|hy (fun _=>aa rfl)<|hy (fun _=>gG rfl rfl)<|ai<|al (ρ' :=[(4,_),(2,_),(0,_)]) ⟨rfl,rfl,rfl,trivial⟩<|ag<| ?_
 refine dx rfl (rfl) ?_
 refine aC<|ag<|ah<|ah<|aj<|hy (fun _=>aa rfl)<|hy (fun _=>gG rfl rfl)<|ai<|al (ρ' :=[(8,_),(4,_),(2,_),(0,_)]) ⟨rfl,rfl,rfl,rfl,trivial⟩<|ag<| ?_
 refine dx rfl (rfl) ?_
 refine aC<|ag<|ah<|ah<|aj<|hy (fun _=>aa rfl)<|hy (fun _=>gG rfl rfl)<|ai<|al (ρ' :=[(14,_),(8,_),(4,_),(2,_),(0,_)]) ⟨rfl,rfl,rfl,rfl,rfl,trivial⟩<|ag<| ?_
 refine dx rfl (rfl) ?_
 refine aC<|ag<|ah<|aj<|hy (fun _=>aa rfl)<|hy (fun _=>aa rfl)<|hy (fun _=>bJ rfl Tryz.underlying310 Tryz.underlying5 (show IntKind.u8.wrap 0=0 from rfl))<|hy (fun _=>eC rfl rfl Tryz.underlying9 (show((0:Nat):Int)=0 from rfl) (show _=some (0:UInt8)from rfl))<|hy (fun _=>bJ rfl Tryz.underlying5 Tryz.underlying3 (show IntKind.i64.wrap ((0:UInt8).toNat:Int)=0 from rfl))<|hy (fun _=>aM rfl rfl (bB (by omega) (by omega)))<|hy (fun _=>ab rfl)<|ai<|al (ρ' :=[(2,_),(14,_),(8,_),(4,_),(0,_)]) ⟨rfl,rfl,rfl,rfl,rfl,trivial⟩<|ag<|aQ<| ?_
 exact bd trivial rfl rfl [] rfl [] rfl ⟨rfl,rfl,rfl⟩
theorem Ci:cj Tryz.prog 207 [.int .u64 0] [] [] (fun v_ X_ S_=>v_=(.int .i64 0)∧X_=[]∧S_=[]):=by
 refine aU (N:=8) Tryz.func207 rfl rfl (by simp) fun b=> ?_
 refine ah<|aj<|hy (fun _=>ab rfl)<|ai<|ag<|ah<| ?_
 refine dx rfl (rfl) ?_
 refine aC<|ag<|ah<|aj<|hy (fun _=>aa rfl)<| ?_
 refine hx (aq rfl Tryz.call255 (yY) [] rfl [] rfl ?_)
 rintro _ _ _ ⟨rfl,rfl,rfl⟩
 refine hy (fun _=>ab rfl)<|ai<|al (ρ' :=[(2,_),(0,_)]) ⟨rfl,rfl,trivial⟩<|ak (X' :=[]) (S' :=[]) (fun _ m=>m)<|ag<|aQ<| ?_
 exact bd trivial rfl rfl [] rfl [] rfl ⟨rfl,rfl,rfl⟩
theorem B9:cj Tryz.prog 223 [.slice none 0 0,.int .i64 0,.int .i64 0,.int .i64 0] [] [] (fun v_ X_ S_=>v_=(.tuple #[])∧X_=[]∧S_=[]):=by
 refine aU (N:=134) Tryz.func223 rfl rfl (by simp) fun b=> ?_
 refine ah<|aj<|hy (fun _=>ab rfl)<|ai<|ag<|ah<|aj<|hy (fun _=>ab rfl)<|ai<|ag<|aN<| ?_
 refine dA (fun u=>0) (fun u=>[(1,.int .i64 0),(2,.int .i64 0)]) (fun u=>[]) (fun u=>[]) (fun u=>u=0) 0 [(0,_)] ⟨rfl,trivial⟩ [] rfl [] rfl (rfl) ⟨rfl,rfl,trivial⟩ (fun u hI=> ?_)
 refine aN<|ah<|aj<|hy (fun _=>aa rfl)<|hy (fun _=>aa rfl)<|hy (fun _=>b6 rfl rfl (bB (by omega) (by omega)))<|hy (fun _=>ab rfl)<|ai<|al (ρ' :=[(10,_),(1,_),(2,_),(0,_)]) ⟨rfl,rfl,rfl,rfl,trivial⟩<|ag<|ah<|ah<|aj<|hy (fun _=>aa rfl)<|hy (fun _=>lA rfl rfl)<|ai<|al (ρ' :=[(23,_),(10,_),(1,_),(2,_),(0,_)]) ⟨rfl,rfl,rfl,rfl,rfl,trivial⟩<|ag<| ?_
 refine fe rfl (rfl) ?_
 refine ah<|aj<|hy (fun _=>aa rfl)<|hy (fun _=>aa rfl)<|hy (fun _=>aa rfl)<| ?_
 refine hx (aq rfl Tryz.call258 (Cb) [] rfl [] rfl ?_)
 rintro _ _ _ ⟨rfl,rfl,rfl⟩
 refine ai<|al (ρ' :=[(23,_),(10,_),(1,_),(2,_),(0,_)]) ⟨rfl,rfl,rfl,rfl,rfl,trivial⟩<|ak (X' :=[]) (S' :=[]) (fun _ m=>m)<|ag<|aQ<|ay<|bc<|ay<|bc<| ?_
 exact gH trivial rfl [] rfl [] rfl ⟨rfl,rfl,rfl⟩
theorem z1:cj Tryz.prog 165 [.slice none 0 0] [] [] (fun v_ X_ S_=>v_=(.tuple #[])∧X_=[]∧S_=[]):=by
 refine aU (N:=11) Tryz.func165 rfl rfl (by simp) fun b=> ?_
 refine ah<|aj<|hy (fun _=>aa rfl)<|hy (fun _=>aX rfl Tryz.underlying152)<|hy (fun _=>ab rfl)<|ai<|al (ρ' :=[(2,_),(0,_)]) ⟨rfl,rfl,trivial⟩<|ag<|aj<|hy (fun _=>aa rfl)<|hy (fun _=>aa rfl)<|hy (fun _=>aa rfl)<|hy (fun _=>bJ rfl Tryz.underlying3 Tryz.underlying263 rfl)<| ?_
 refine hx (aq rfl Tryz.call207 (Ci) [] rfl [] rfl ?_)
 rintro _ _ _ ⟨rfl,rfl,rfl⟩
 refine hx (aq rfl Tryz.call223 (B9) [] rfl [] rfl ?_)
 rintro _ _ _ ⟨rfl,rfl,rfl⟩
 refine ai<|al (ρ' :=[(2,_),(0,_)]) ⟨rfl,rfl,trivial⟩<|ak (X' :=[]) (S' :=[]) (fun _ m=>m)<| ?_
 exact gH trivial rfl [] rfl [] rfl ⟨rfl,rfl,rfl⟩
end Go.Proofs.YtmibdabdlgmafaaGreatDoor
end
section
set_option maxRecDepth 20000
namespace Go.Proofs.YtmibdabdlgmafaaGreatDoor
open Go.Eng Go.Hx
def rm(l:dM):iZ→dM
 | .written p r=>cC l p r
 | .renamed a c=>match bX l a with
  |none=>l
  |some r=>cC (fa l a) c r
 | .removed p=>fa l p
theorem CM{g:Nat}{l:dM}{a c:List UInt8}:cj Tryz.prog 337 [.agg [SV a,SV c].toArray,.map (some g)] [dR SV g (dW l)] [] (fun v_ X_ S_=>v_=(.tuple #[])∧X_=[dR SV g (dW (rm l (.renamed a c)))]∧S_=[]):=by
 refine aU (N:=21) Tryz.func337 rfl rfl (by simp) fun b=> ?_
 refine ah<|aj<| ?_
 refine hx (cp rfl (fun g2=> ?_))
 refine aV (fun w m=>m.bQ 0 rfl (show _=aH g2 257 [SV a,SV c]from congrArg (aH _ _) (bq _))) ?_
 rcases oN (l:=l) a with⟨h1,h2⟩|⟨r,h1,h2⟩
 ·refine ai<|ak (X' :=[_,_]) (S' :=[]) (fun _ m=>m)<|ag<|ah<|aj<|hy (fun _=>aa rfl)<|hy (fun _=>aI rfl qz (by decide))<|hy (fun m=>av rfl kL (aB (m.aT 0 rfl) (i:=0) rfl))<|hy (fun m=>yV (iG (enc:=SV) rfl rfl Tryz.underlying174 qK (j3 Tryz.underlying9) (m.mF 1 rfl)) ((show gN true (.slice none 0 0) (bX (dW l) a)= .tuple #[.slice none 0 0,.bool false] by rw[h2];rfl)))<|hy (fun _=>aa rfl)<|hy (fun _=>ao rfl rfl)<|hy (fun _=>ao rfl rfl)<|hy (fun _=>ab rfl)<|hy (fun _=>ab rfl)<|ai<|al (ρ' :=[(5,_),(4,_),(2,_),(0,_),(1,_)]) ⟨rfl,rfl,rfl,rfl,rfl,trivial⟩<|ag<|ah<|aj<|hy (fun _=>aa rfl)<|ai<|ag<| ?_
  refine dx rfl (rfl) ?_
  refine aC<| ?_
  have e:rm l (.renamed a c)=l:=by rw[rm,h1]
  rw[e]
  exact gH trivial rfl [1] rfl [] rfl ⟨rfl,rfl,rfl⟩
 ·refine ai<|ag<|ah<|aj<|hy (fun _=>aa rfl)<|hy (fun _=>aI rfl qz (by decide))<|hy (fun m=>av rfl kL (aB (m.aT 0 rfl) rfl))<|hy (fun m=>yV (iG (enc:=SV) rfl rfl Tryz.underlying174 qK (j3 Tryz.underlying9) (m.mF 1 rfl)) ((show gN true (.slice none 0 0) (bX (dW l) a)= .tuple #[r.val,.bool true] by rw[h2];rfl)))<|hy (fun _=>aa rfl)<|hy (fun _=>ao rfl rfl)<|hy (fun _=>ao rfl rfl)<|hy (fun _=>ab rfl)<|hy (fun _=>ab rfl)<|ai<|al (ρ' :=[(5,_),(4,_),(2,_),(0,_),(1,_)]) ⟨rfl,rfl,rfl,rfl,rfl,trivial⟩<|ag<|ah<|aj<|hy (fun _=>aa rfl)<|ai<|ag<| ?_
  refine fe rfl (rfl) ?_
  refine ah<|aj<|hy (fun _=>aa rfl)<|hy (fun _=>aI rfl qz (by decide))<|hy (fun m=>av rfl kL (aB (m.aT 0 rfl) (i:=0) rfl))<| ?_
  refine cN (vv (enc:=SV) 1 rfl rfl rfl Tryz.underlying174 (j3 Tryz.underlying9) ?_)
  refine ai<|al (ρ' :=[(13,_),(5,_),(4,_),(2,_),(0,_),(1,_)]) ⟨rfl,rfl,rfl,rfl,rfl,rfl,trivial⟩<|ak (X' :=[_,_]) (S' :=[]) (fun _ m=>m)<|ag<|aj<|hy (fun _=>aa rfl)<|hy (fun _=>aI rfl zz (by decide))<|hy (fun m=>av rfl kL (aB (m.aT 1 rfl) (i:=1) rfl))<|hy (fun _=>aa rfl)<| ?_
  refine cN (oW (enc:=SV) 0 rfl rfl rfl rfl Tryz.underlying174 (j3 Tryz.underlying9) ?_)
  refine ai<|al (ρ' :=[(13,_),(5,_),(4,_),(2,_),(0,_),(1,_)]) ⟨rfl,rfl,rfl,rfl,rfl,rfl,trivial⟩<|ak (X' :=[_,_]) (S' :=[]) (fun _ m=>m)<| ?_
  have e:cC (fa (dW l) a) c r.val=dW (rm l (.renamed a c)):=by rw[rm,h1,r8,oa]
  refine ak (fun w m=>m.bQ 0 rfl (show _=dR SV g (dW (rm l (.renamed a c)))from congrArg (dR SV g) e)) ?_
  exact gH trivial rfl [0] rfl [] rfl ⟨rfl,rfl,rfl⟩
def c7.kK(st:c7)(c:iZ)(A:Option Addr)(k:Nat):c7:={st.fk with seen:=rm st.seen c,waits:=st.waits++[c],wA:=A,wc:=k}
theorem mK{l:dM}{p:List UInt8}{x:ej}(h:x∈(fa l p).map (·.2)):x∈l.map (·.2):=by
 induction l with
 |nil=>exact h
 |cons a q ih=>
  obtain⟨k,u⟩:=a
  simp only[fa]at h
  split at h
  ·exact List.mem_cons_of_mem _ h
  ·simp only[List.map_cons,List.mem_cons]at h ⊢
   rcases h with rfl|h
   ·exact .inl rfl
   ·exact .inr (ih h)
theorem wB{l:dM}{c:iZ}(hc:c.row=none){x:ej}(h:x∈(rm l c).map (·.2)):x∈l.map (·.2):=by
 cases c with
 |written p r=>cases hc
 |renamed a b=>
  simp only[rm]at h
  split at h
  ·exact h
  ·rename_i r hr
   rcases mj h with h|h
   ·exact mK h
   ·exact h▸List.mem_map.2 ⟨_,jg hr,rfl⟩
 |removed p=>exact mK h
theorem AM(l:dM)(c:iZ):(rm l c).length≤l.length+1:=by
 cases c with
 |written p r=>exact oy l p r
 |renamed a b=>
  simp only[rm]
  split
  ·omega
  ·rename_i r hr
   have h1:=oy (fa l a) b r
   have h2:=rY l a
   omega
 |removed p=>have h2:=rY l p;show(fa l p).length≤_;omega
theorem rE{st:c7}{c:iZ}{A:Option Addr}{k:Nat}(hc:c.row=none):∀x∈rowsOf (st.kK c A k),x∈rowsOf st:=by
 intro x hx
 unfold rowsOf c7.kK at hx
 simp only[c7.fk,List.mem_append,List.filterMap_append]at hx
 unfold rowsOf
 simp only[List.mem_append]
 rcases hx with(h|h)|h|h
 ·exact .inl (.inl (wB hc h))
 ·exact .inl (.inr h)
 ·exact .inr h
 ·simp[hc]at h
theorem nO.kK{st:c7}{k:Nat}(h:nO st k){c:iZ}(hc:c.row=none)(A:Option Addr)(j:Nat):nO (st.kK c A j) (k+1):=by
 refine⟨jU h.cA,h.room, ?_, ?_,fun x hx=>h.small x (rE hc x hx)⟩
 ·have:=AM st.seen c
  have:=h.seen
  show(rm st.seen c).length≤k+1
  omega
 ·have:=h.rest
  show st.dS.length+(st.waits++[c]).length≤k+1
  simp only[List.length_append,List.length_cons,List.length_nil]
  omega
theorem EG{g:Nat}{st:c7}{a c:List UInt8}(hp:st.cA≤1000000000000)(hw:st.waits.length≤1000000):cj Tryz.prog 116 [.pointer (some ⟨g,0,none⟩),(iZ.renamed a c).val] [bM g st] [] (fun v_ X_ S_=>∃A k,v_=(.tuple #[])∧X_=[bM g (st.kK (.renamed a c) A k)]∧S_=[]):=by
 have hsw:st.fk.waits.length=st.waits.length:=rfl
 refine aU (N:=25) Tryz.func116 rfl rfl (by simp) fun b=> ?_
 refine ah<|aj<|hy (fun _=>aa rfl)<| ?_
 refine hx (aq rfl Tryz.call181 (s5 (by omega)) [0] rfl [] rfl ?_)
 rintro _ _ _ ⟨rfl,rfl,rfl⟩
 refine aV (fun w m=>(m.perm (az [0] _ [_] _ rfl)).unpack) ?_
 refine ai<|al (ρ' :=[(0,_),(1,_)]) ⟨rfl,rfl,trivial⟩<|ak (X' :=[_,_,_,_,_]) (S' :=[]) (fun _ m=>m)<|ag<|ah<|cV [8] [(0,some 0),(1,some 0),(2,some 0),(3,some 0),(4,some 0),(5,some 0),(6,some 0),(7,some 0),(8,none)] (by kernel_rfl) (by kernel_rfl) rfl 0<|an (aa rfl)<|an (aa rfl)<|an (bx rfl)<|an (aI rfl iB (by decide))<|cn (fun m=>av rfl mP (aB (m.aT 0 rfl) rfl))<|an (j1 rfl rfl)<|an (xK rfl (by kernel_rfl))<|an (aa rfl)<| ?_
 refine eK (ye rfl rfl (fun w=>by kernel_rfl) Tryz.call337 (CM) [1] rfl [] rfl ?_)
 rintro _ _ _ ⟨rfl,rfl,rfl⟩
 refine⟨(fun h=>absurd h (by decide)), ?_⟩
 refine bE<|al (ρ' :=[(0,_),(1,_)]) ⟨rfl,rfl,trivial⟩<|ak (X' :=[_,_,_,_,_]) (S' :=[]) (fun _ m=>m)<|ag<|aj<|hy (fun _=>aa rfl)<|hy (fun _=>aa rfl)<|hy (fun _=>bx rfl)<|hy (fun _=>aI rfl l0 (by decide))<|hy (fun m=>av rfl Bb (aB (m.aT 1 rfl) rfl))<|hy (fun _=>aa rfl)<| ?_
 refine hx (cg Tryz.underlying175 uF rfl rfl rfl (by simp[Value.cells,iZ.val]) (by decide) (by decide) (fun g21=> ?_))
 have hA_b21:0<1→(some (⟨g21,0,none⟩:Addr))≠none:=fun _ h=>by cases h
 refine aV (fun w m=>m.bQ 0 rfl (show _=aF 232 1 (.slice (some ⟨g21,0,none⟩) 1 1) 1 [((iZ.renamed a c)).val]from rfl)) ?_
 refine hx (bu 4 rfl rfl rfl Tryz.underlying175 Tryz.underlying175 (by exact .inl rfl) uF rfl (fun m=>Src.bN (m.ord 0 rfl)) (by simp[iZ.val,Value.oneCell']) (by unfold maxLen;omega) (by omega) (fun u=> ?_))
 refine aw (fun m=>(m.own 0 rfl).slice) ?_
 rintro⟨A_d3,c_d3,rfl,hc_d3⟩
 refine aw (fun m=>(m.ord 0 rfl).2.1) fun hA_d3=> ?_
 refine hy (fun _=>bx rfl)<|hy (fun _=>aI rfl l0 (by decide))<| ?_
 refine cN (ct 3 rfl rfl rfl xd rfl (by first|exact Nat.le_of_ble_eq_true rfl|simp) ?_)
 refine ai<|al (ρ' :=[(0,_),(1,_)]) ⟨rfl,rfl,trivial⟩<|ak (X' :=[_,_,_,_,_,_]) (S' :=[]) (fun _ m=>m)<| ?_
 refine ak (fun w m=>m.bQ 0 rfl (show _=aH g 177 (ln (st.kK ((iZ.renamed a c)) A_d3 c_d3))from by simp[ln,c7.kK,c7.fk])) ?_
 refine ak (fun w m=>m.bQ 3 rfl (show _=dR SV st.gs (dW (st.kK ((iZ.renamed a c)) A_d3 c_d3).seen)from rfl)) ?_
 refine ak (fun w m=>m.bQ 2 rfl (show _=aF 232 1 (.slice A_d3 (st.kK ((iZ.renamed a c)) A_d3 c_d3).waits.length c_d3) (st.kK ((iZ.renamed a c)) A_d3 c_d3).waits.length ((st.kK ((iZ.renamed a c)) A_d3 c_d3).waits.map iZ.val)from by simp[c7.kK,c7.fk])) ?_
 refine ak (X' :=ik (rowsOf (st.kK ((iZ.renamed a c)) A_d3 c_d3))::_) (fun w m=>(m.perm (az [5] _ [_] _ rfl)).yi ((rE rfl))) ?_
 refine ak (X' :=bM g (st.kK ((iZ.renamed a c)) A_d3 c_d3)::_) (fun w m=>(m.perm (az [3,2,3,1,0] _ [_,_,_,_,_] _ rfl)).pack) ?_
 exact gH trivial rfl [0] rfl [] rfl ⟨_,_,rfl,rfl,rfl⟩
def cw(st:c7)(a c:List UInt8):Int:=if¬jH c then 1 else er st a
theorem Ab{g:Nat}{st:c7}{a c:List UInt8}{k:Nat}(ok:nO st k)(hk:k≤100000):cj Tryz.prog 108 [.pointer (some ⟨g,0,none⟩),.string (strOf a),.string (strOf c)] [bM g st] [] (fun v_ X_ S_=>∃st1 A j,v_=(.int .i64 (cw st a c))∧X_=[bM g st1]∧S_=[]∧((cw st a c≠0∧st1=st)∨(cw st a c=0∧st1=st.kK (.renamed a c) A j))):=by
 have hp:=ok.cA
 have hw:st.waits.length≤1000000:=by have:=ok.rest;omega
 refine aU (N:=23) Tryz.func108 rfl rfl (by simp) fun b=> ?_
 refine ah<|aj<|hy (fun _=>ab rfl)<|ai<|ag<|ah<|ah<|aj<|hy (fun _=>aa rfl)<| ?_
 refine hx (aq rfl Tryz.call115 (yd) [] rfl [] rfl ?_)
 rintro _ _ _ ⟨rfl,rfl,rfl⟩
 refine hy (fun _=>dT rfl)<|ai<|al (ρ' :=[(10,_),(6,_),(0,_),(1,_),(2,_)]) ⟨rfl,rfl,rfl,rfl,rfl,trivial⟩<|ak (X' :=[_]) (S' :=[]) (fun _ m=>m)<|ag<| ?_
 refine cI rfl (fun h1=> ?_) (fun h1=> ?_)
 ·have e:cw st a c=1:=by rw[cw,if_pos h1]
  rw[e]
  refine ah<|aj<|hy (fun _=>ab rfl)<|ai<|ag<|aQ<|ay<| ?_
  exact bd trivial rfl rfl [0] rfl [] rfl ⟨_,none,0,rfl,rfl,rfl,.inl ⟨by decide,rfl⟩⟩
 ·have e:cw st a c=er st a:=by rw[cw,if_neg h1]
  rw[e]
  refine aC<|ag<|ah<|ah<|aj<|hy (fun _=>aa rfl)<|hy (fun _=>aa rfl)<| ?_
  refine hx (aq rfl Tryz.call158 (wz) [0] rfl [] rfl ?_)
  rintro _ _ _ ⟨rfl,rfl,rfl⟩
  refine hy (fun _=>ab rfl)<|ai<|al (ρ' :=[(7,_),(10,_),(6,_),(0,_),(1,_),(2,_)]) ⟨rfl,rfl,rfl,rfl,rfl,rfl,trivial⟩<|ak (X' :=[_]) (S' :=[]) (fun _ m=>m)<|ag<|ah<|aj<|hy (fun _=>aa rfl)<|hy (fun _=>cM rfl rfl)<|ai<|al (ρ' :=[(15,_),(7,_),(10,_),(6,_),(0,_),(1,_),(2,_)]) ⟨rfl,rfl,rfl,rfl,rfl,rfl,rfl,trivial⟩<|ag<| ?_
  refine cI rfl (fun h2=> ?_) (fun h2=> ?_)
  ·refine ah<|aj<|hy (fun _=>aa rfl)<|hy (fun _=>ab rfl)<|ai<|al (ρ' :=[(6,_),(15,_),(7,_),(10,_),(0,_),(1,_),(2,_)]) ⟨rfl,rfl,rfl,rfl,rfl,rfl,rfl,trivial⟩<|ag<|aQ<|ay<| ?_
   exact bd trivial rfl rfl [0] rfl [] rfl ⟨_,none,0,rfl,rfl,rfl,.inl ⟨h2,rfl⟩⟩
  ·have h0:=Decidable.not_not.1 h2
   rw[h0]
   refine aC<|ag<|ah<|aj<|hy (fun _=>aa rfl)<|hy (fun _=>aa rfl)<|hy (fun _=>aa rfl)<|hy (fun _=>yV (cD Eb rfl rfl (by kernel_rfl) (.cons (o:=0) (sz:=1) (by kernel_rfl) rfl rfl (Nat.le_of_ble_eq_true rfl) (.cons (o:=1) (sz:=1) (by kernel_rfl) rfl rfl (Nat.le_of_ble_eq_true rfl) .nil))) ((rfl:_=Value.agg [SV a,SV c].toArray)))<|hy (fun _=>yV (kS rfl Tryz.underlying257 (fun _ h=>by cases h)) ((rfl:_=(iZ.renamed a c).val)))<| ?_
   refine hx (aq rfl Tryz.call116 (EG (by omega) (by omega)) [0] rfl [] rfl ?_)
   rintro _ _ _ ⟨A,k2,rfl,rfl,rfl⟩
   refine ai<|al (ρ' :=[(15,_),(7,_),(10,_),(6,_),(0,_),(1,_),(2,_)]) ⟨rfl,rfl,rfl,rfl,rfl,rfl,rfl,trivial⟩<|ak (X' :=[_]) (S' :=[]) (fun _ m=>m)<|ag<|ah<|aj<|hy (fun _=>ab rfl)<|ai<|ag<|aQ<| ?_
   exact bd trivial rfl rfl [0] rfl [] rfl ⟨_,_,_,rfl,rfl,rfl,.inr ⟨rfl,rfl⟩⟩
end Go.Proofs.YtmibdabdlgmafaaGreatDoor
end
section
namespace Go.Proofs.YtmibdabdlgmafaaGreatDoor
open Go.Eng Go.Hx
theorem Bo:∀(x y:List UInt8),Op.bytesLess x y=decide (x<y)
 | [],[]=>by simp[Op.bytesLess]
 |_::_,[]=>by simp[Op.bytesLess]
 | [],_::_=>by simp[Op.bytesLess]
 |a::x,b::y=>by
  rw[Op.bytesLess,Bo x y]
  simp only[List.cons_lt_cons_iff]
  by_cases h1:a<b <;> by_cases h2:a=b <;> by_cases h3:x<y <;> simp[h1,h2,h3]
theorem qe{a b:List UInt8}:lr a b=decide (a<b):=by
 unfold lr
 rw[Bo,Lib.toList_data,Lib.toList_data]
 rfl
def lp:List FP→FP→List FP
 | [],f=>[f]
 |x::r,f=>if x.1<f.1 then x::lp r f else f::(x::r).filter fun y=>decide (y.1≠f.1)
theorem ki(f:FP):∀(l acc:List FP),l.foldl (ij f) (acc,true)=(acc++l.filter (fun y=>decide (y.1≠f.1)),true)
 | [],acc=>by simp
 |x::r,acc=>by
  rw[List.foldl_cons]
  by_cases h:x.1=f.1
  ·have:ij f (acc,true) x=(acc,true):=by simp[ij,h]
   rw[this,ki f r acc];simp[h]
  ·have:ij f (acc,true) x=(acc++[x],true):=by simp[ij,h]
   rw[this,ki f r (acc++[x])];simp[h]
def w9(f:FP)(st:List FP×Bool):List FP:=if st.2 then st.1 else st.1++[f]
theorem n8(f:FP):∀(l acc:List FP),w9 f (l.foldl (ij f) (acc,false))=acc++lp l f
 | [],acc=>by simp[lp,w9]
 |x::r,acc=>by
  rw[List.foldl_cons]
  by_cases h:x.1<f.1
  ·have hne:x.1≠f.1:=fun e=>by rw[e]at h;exact List.lt_irrefl _ h
   have:ij f (acc,false) x=(acc++[x],false):=by simp[ij,qe,h,hne]
   rw[this,n8 f r (acc++[x]),lp,if_pos h];simp
  ·have hs:lr x.1 f.1=false:=by rw[qe];simpa using h
   rw[lp,if_neg h]
   by_cases he:x.1=f.1
   ·have hs' :lr f.1 f.1=false:=he▸hs
    have:ij f (acc,false) x=(acc++[f],true):=by simp[ij,hs',he]
    rw[this,ki];simp[he,w9]
   ·have:ij f (acc,false) x=(acc++[f]++[x],true):=by simp[ij,hs,he]
    rw[this,ki];simp[he,w9]
theorem pE(l:List FP)(f:FP):gI l f=lp l f:=by
 have:=n8 f l []
 rw[List.nil_append]at this
 rw[←this]
 unfold gI zJ w9
 rw[List.take_of_length_le (Nat.le_refl _)]
def lk:List FP→List UInt8→Option (List UInt8)
 | [],_=>none
 |x::r,p=>if x.1=p then some x.2 else lk r p
theorem lF:∀(l:List FP) (p:List UInt8),(l[da l p]?).map (·.2)=lk l p
 | [],p=>rfl
 |x::r,p=>by
  have:=lF r p
  unfold da at this ⊢
  rw[List.findIdx_cons]
  by_cases h:x.1=p
  ·simp[h,lk]
  ·simp[h,lk,this]
theorem mz(q:List UInt8):∀(l:List FP) (p:List UInt8),lk (l.filter fun y=>decide (y.1≠q)) p=if p=q then none else lk l p
 | [],p=>by simp[lk]
 |x::r,p=>by
  have ih:=mz q r p
  by_cases h:x.1=q
  ·rw[List.filter_cons,if_neg (by simp[h]),ih]
   by_cases hp:p=q
   ·simp[hp]
   ·rw[if_neg hp,if_neg hp,lk,if_neg (fun e=>hp (e.symm.trans h))]
  ·rw[List.filter_cons,if_pos (by simp[h]),lk,ih]
   by_cases hp:p=q
   ·rw[if_pos hp,if_pos hp,if_neg (fun e=>h (e.trans hp))]
   ·rw[if_neg hp,if_neg hp,lk]
theorem yK:∀(l:List FP) (f:FP) (p:List UInt8),lk (lp l f) p=if p=f.1 then some f.2 else lk l p
 | [],f,p=>by simp only[lp,lk,eq_comm]
 |x::r,f,p=>by
  unfold lp
  by_cases h:x.1<f.1
  ·rw[if_pos h,lk,yK r f p,lk]
   have hne:x.1≠f.1:=fun e=>by rw[e]at h;exact List.lt_irrefl _ h
   by_cases hp:p=f.1
   ·rw[if_pos hp,if_pos hp,if_neg (fun e=>hne (e.trans hp))]
   ·rw[if_neg hp,if_neg hp]
  ·rw[if_neg h,lk,mz]
   by_cases hp:p=f.1
   ·rw[if_pos hp.symm,if_pos hp]
   ·rw[if_neg (fun e=>hp e.symm),if_neg hp,if_neg hp]
def oJ(l:List FP):Prop:=(l.map (·.1)).Pairwise (· <·)
theorem m8{l:List FP}(q:FP→Bool)(h:oJ l):oJ (l.filter q):=List.Pairwise.sublist (List.Sublist.map _ List.filter_sublist) h
theorem uX{l:List FP}{f y:FP}(h:y∈lp l f):y=f∨y∈l:=by
 induction l with
 |nil=>exact .inl (by simpa[lp]using h)
 |cons x r ih=>
  unfold lp at h
  split at h
  ·rcases List.mem_cons.1 h with h|h
   ·exact .inr (by rw[h];exact List.mem_cons_self ..)
   ·rcases ih h with h|h
    ·exact .inl h
    ·exact .inr (List.mem_cons_of_mem _ h)
  ·rcases List.mem_cons.1 h with h|h
   ·exact .inl h
   ·exact .inr ((List.mem_filter.1 h).1)
theorem yE{l:List FP}{f:FP}(h:oJ l):oJ (lp l f):=by
 induction l with
 |nil=>simp[oJ,lp]
 |cons x r ih=>
  have hx:∀y∈r,x.1<y.1:=by
   intro y hy
   exact(List.pairwise_cons.1 h).1 _ (List.mem_map.2 ⟨y,hy,rfl⟩)
  have hr:oJ r:=(List.pairwise_cons.1 h).2
  unfold lp
  by_cases hlt:x.1<f.1
  ·rw[if_pos hlt]
   refine List.pairwise_cons.2 ⟨?_,ih hr⟩
   intro a ha
   obtain⟨y,hy,rfl⟩:=List.mem_map.1 ha
   rcases uX hy with rfl|hy
   ·exact hlt
   ·exact hx y hy
  ·rw[if_neg hlt]
   refine List.pairwise_cons.2 ⟨?_,m8 _ h⟩
   intro a ha
   obtain⟨y,hy,rfl⟩:=List.mem_map.1 ha
   have hy1:=(List.mem_filter.1 hy).1
   have hy2:y.1≠f.1:=by simpa using(List.mem_filter.1 hy).2
   have hge:¬y.1<f.1:=by
    rcases List.mem_cons.1 hy1 with rfl|h1
    ·exact hlt
    ·exact fun e=>hlt (List.lt_trans (hx y h1) e)
   exact Decidable.byContradiction fun hn=>hy2 (List.le_antisymm (List.not_lt.1 hn) (List.not_lt.1 hge))
structure fO(fs:dM)(l:List FP):Prop where
 ord:oJ l
 nd:(b7 fs).Nodup
 look:∀p,(bX fs p).map (·.l)=lk l p
 len:∀x∈fs,x.2.n=x.2.l.length
theorem fO.nil:fO [] []:=⟨by simp[oJ],by simp[b7],fun p=>rfl,fun x h=>by cases h⟩
theorem Cd{l:List FP}{p:List UInt8}:lk l p≠none↔p∈l.map (·.1):=by
 induction l with
 |nil=>simp[lk]
 |cons x r ih=>
  unfold lk
  by_cases h:x.1=p
  ·simp[h]
  ·rw[if_neg h,ih];simp[Ne.symm h]
theorem fO.keys{fs:dM}{l:List FP}(h:fO fs l):(b7 fs).Perm (l.map (·.1)):=by
 have hn:(l.map (·.1)).Nodup:=List.Pairwise.imp (fun hlt e=>by rw[e]at hlt;exact List.lt_irrefl _ hlt) h.ord
 refine(List.perm_ext_iff_of_nodup h.nd hn).2 fun p=> ?_
 rw[←Cd,←h.look p]
 have:= @je (List UInt8) ej _ fs p
 cases hq:bX fs p with
 |none=>simp[this.1 hq]
 |some r=>simp;exact Decidable.byContradiction fun hm=>by rw[this.2 hm]at hq;cases hq
theorem fO.put{fs:dM}{l:List FP}(h:fO fs l){p:List UInt8}{r:ej}(hr:r.n=r.l.length):fO (cC fs p r) (gI l (p,r.l)):=by
 rw[pE]
 refine⟨yE h.ord,fQ h.nd,fun q=> ?_,fun x hx=> ?_⟩
 ·rw[qd,yK]
  by_cases hq:p=q
  ·rw[if_pos hq,if_pos hq.symm];rfl
  ·rw[if_neg hq,if_neg (fun e=>hq e.symm)];exact h.look q
 ·rcases mj (List.mem_map.2 ⟨x,hx,rfl⟩)with h1|h1
  ·obtain⟨y,hy,e⟩:=List.mem_map.1 h1
   rw[←e];exact h.len y hy
  ·rw[h1];exact hr
theorem wL{a b:List Nat}(h:a.Perm b):a.sum=b.sum:=by
 induction h with
 |nil=>rfl
 |cons x _ ih=>simp[ih]
 |swap x y l=>simp;omega
 |trans _ _ h1 h2=>rw[h1,h2]
theorem zI{l:List FP}(h:oJ l){x:FP}(hx:x∈l):lk l x.1=some x.2:=by
 induction l with
 |nil=>cases hx
 |cons y r ih=>
  unfold lk
  rcases List.mem_cons.1 hx with rfl|h1
  ·rw[if_pos rfl]
  ·have hlt:y.1<x.1:=(List.pairwise_cons.1 h).1 _ (List.mem_map.2 ⟨x,h1,rfl⟩)
   rw[if_neg (fun e=>by rw[e]at hlt;exact List.lt_irrefl _ hlt)]
   exact ih (List.pairwise_cons.1 h).2 h1
theorem fO.m7{fs:dM}{l:List FP}(h:fO fs l):m7 fs=jt l:=by
 let g:List UInt8→Nat:=fun p=>((lk l p).getD []).length
 have h1:fs.map (fun x=>x.2.n)=(b7 fs).map g:=by
  rw[b7,List.map_map]
  refine List.map_congr_left fun x hx=> ?_
  have:=h.look x.1
  rw[np h.nd (show(x.1,x.2)∈fs from hx)]at this
  show x.2.n=((lk l x.1).getD []).length
  rw[←this,h.len x hx];rfl
 have h2:l.map (fun x=>x.2.length)=(l.map (·.1)).map g:=by
  rw[List.map_map]
  refine List.map_congr_left fun x hx=> ?_
  show x.2.length=((lk l x.1).getD []).length
  rw[zI h.ord hx];rfl
 show(fs.map fun x=>x.2.n).sum=(l.map fun x=>x.2.length).sum
 rw[h1,h2]
 exact wL (h.keys.map g)
theorem fO.Cn{fs:dM}{l:List FP}(h:fO fs l):fs.length=l.length:=by
 have:=h.keys.length_eq
 simpa[b7]using this
theorem fO.sz{fs:dM}{l:List FP}(h:fO fs l)(p:List UInt8):((bX fs p).map (·.n)).getD 0=((l[da l p]?).map (·.2.length)).getD 0:=by
 have h1:=h.look p
 rw[←lF]at h1
 cases hq:bX fs p with
 |none=>
  rw[hq]at h1
  cases hl:l[da l p]? with
  |none=>rfl
  |some x=>rw[hl]at h1;cases h1
 |some r=>
  rw[hq]at h1
  cases hl:l[da l p]? with
  |none=>rw[hl]at h1;cases h1
  |some x=>
   rw[hl]at h1
   have e:r.l=x.2:=Option.some.inj h1
   have:=h.len _ (jg hq)
   simp only[Option.map_some,Option.getD_some]
   rw[←e];exact this
structure tC(st:c7)(d:RD):Prop where
 room:st.room=d.room
 cA:st.cA=d.pw
 files:fO st.seen d.seen
 waits:st.waits.length=d.waits.length
theorem tC.bZ{st:c7}{d:RD}(h:tC st d)(p bb:List UInt8):bZ st p bb.length=d.bZ p bb:=by
 have h1:=h.files.sz p
 have h2:=h.files.m7
 unfold Go.Proofs.YtmibdabdlgmafaaGreatDoor.bZ RD.bZ RD.sz
 rw[h.cA,h.room,h1,h2]
 by_cases hn:¬jH p
 ·rw[if_pos hn,if_pos hn]
 ·rw[if_neg hn,if_neg hn]
  by_cases h0:d.pw=0
  ·rw[if_pos h0,if_pos h0]
  ·rw[if_neg h0,if_neg h0]
   by_cases hr:d.room<(jt d.seen:Int)+(bb.length:Nat)-(((d.seen[da d.seen p]?).map (·.2.length)).getD 0:Nat)
   ·rw[if_pos hr,if_pos (by omega)]
   ·rw[if_neg hr,if_neg (by omega)]
theorem tC.ef{st:c7}{d:RD}(h:tC st d)(p:List UInt8):er st p=d.ef p:=by
 have h1:=h.files.look p
 rw[←lF]at h1
 unfold er RD.ef
 rw[h.cA]
 by_cases h0:d.pw=0
 ·rw[if_pos h0,if_pos h0]
 ·rw[if_neg h0,if_neg h0]
  cases ha:bX st.seen p with
  |none=>
   rw[ha]at h1
   cases hb:d.seen[da d.seen p]? with
   |none=>simp
   |some y=>rw[hb]at h1;cases h1
  |some r=>
   rw[ha]at h1
   cases hb:d.seen[da d.seen p]? with
   |none=>rw[hb]at h1;cases h1
   |some y=>simp
theorem tC.cR{st:c7}{d:RD}(h:tC st d)(p:List UInt8):cR st p=d.cR p:=by
 have h1:=h.files.look p
 rw[←lF]at h1
 have h2:=h.ef p
 unfold Go.Proofs.YtmibdabdlgmafaaGreatDoor.cR RD.cR
 rw[h2,←h1]
 unfold RD.ef
 by_cases h0:d.pw=0
 ·rw[if_pos h0,if_pos h0,if_neg (by decide)]
 ·rw[if_neg h0,if_neg h0]
  cases hb:d.seen[da d.seen p]? with
  |none=>
   rw[hb]at h1
   cases ha:bX st.seen p with
   |none=>simp
   |some r=>rw[ha]at h1;cases h1
  |some y=>simp
end Go.Proofs.YtmibdabdlgmafaaGreatDoor
end
section
set_option maxRecDepth 20000
namespace Go.Proofs.YtmibdabdlgmafaaGreatDoor
open Go.Eng Go.Hx
structure RX where
 d:RD
 A:Option Addr
 c:Nat
 Al:Option Addr
 cl:Nat
 A3:Option Addr
 c3:Nat
def RX.cs(x:RX):List Value:=rv x.d x.A x.d.seen.length x.c x.Al x.d.dS.length x.cl x.A3 x.d.waits.length x.c3
abbrev RX.parts(x:RX):List bf:=[dw 2 x.A x.d.seen.length (fc x.d.seen),dw 2 x.Al x.d.dS.length (fc x.d.dS),dw 4 x.A3 x.d.waits.length (sV x.d.waits)]
def cY(x:RX):bf:=rp x.parts
theorem bP{x:RX}:∀u∈x.cs,u.oneCell' =true:=iP
theorem View.zH{x:RX}:View (cY x) (dw 2 x.A x.d.seen.length (fc x.d.seen)):=View.o1 0 rfl
theorem View.C0{x:RX}:View (cY x) (dw 2 x.Al x.d.dS.length (fc x.d.dS)):=View.o1 1 rfl
theorem View.EV{x:RX}:View (cY x) (dw 4 x.A3 x.d.waits.length (sV x.d.waits)):=View.o1 2 rfl
def RD.new(room:Int):RD:=⟨room,[],[],[],-1⟩
def RX.new(room:Int):RX:=⟨RD.new room,none,0,none,0,none,0⟩
theorem uC{y:RX}{S:List bf}(h0:∃t∈S,View t (dw 2 y.A y.d.seen.length (fc y.d.seen)))(h1:∃t∈S,View t (dw 2 y.Al y.d.dS.length (fc y.d.dS)))(h2:∃t∈S,View t (dw 4 y.A3 y.d.waits.length (sV y.d.waits))):qE S [cY y]:=by
 refine qE.cons (fun s hs=> ?_) qE.nil
 simp only[List.mem_cons,List.not_mem_nil,or_false]at hs
 rcases hs with rfl|rfl|rfl
 ·exact h0
 ·exact h1
 ·exact h2
theorem zW{room:Int}:qE [] [cY (RX.new room)]:=by
 intro s hs
 obtain rfl:=List.mem_singleton.1 hs
 refine⟨fun w _ x hx=> ?_,fun k hk=> ?_⟩
 ·simp only[List.mem_cons,List.not_mem_nil,or_false]at hx
  rcases hx with rfl|rfl|rfl <;> exact Rd.nil _ _ _
 ·obtain⟨x,hx,hk⟩:=hk
  simp only[List.mem_cons,List.not_mem_nil,or_false]at hx
  rcases hx with rfl|rfl|rfl <;> exact absurd rfl hk.1
theorem Ex{r:bf}{S:List bf}:∃t∈r::S,View t r:=⟨r,List.mem_cons_self ..,.same⟩
theorem inr{r a:bf}{S:List bf}(h:∃t∈S,View t r):∃t∈a::S,View t r:=by
 obtain⟨t,ht,hv⟩:=h
 exact⟨t,List.mem_cons_of_mem _ ht,hv⟩
theorem inv1{r a:bf}{S:List bf}(h:View a r):∃t∈a::S,View t r:=⟨a,List.mem_cons_self ..,h⟩
theorem Eo{room:Int}:cj Tryz.prog 25 [.int .i64 room] [] [] (fun v_ X_ S_=>∃y,v_=(.agg y.cs.toArray)∧X_=[]∧S_=[cY y]∧(y.d=RD.new room)):=by
 exact cj.tu D8 (fun s hs=>by cases hs) (fun v X S h=>by
  obtain⟨rfl,rfl,rfl⟩:=h
  exact⟨_,⟨RX.new room,rfl,rfl,rfl,rfl⟩,zW⟩)
theorem ym{x:RX}{kk:Nat}{p:List UInt8}(ok:xO x.d kk)(hkk:kk≤100000):cj Tryz.prog 91 [.agg x.cs.toArray,.string (strOf p)] [] [cY x] (fun v_ X_ S_=>v_=(.tuple #[.string (strOf (x.d.cR p)),.int .i64 (x.d.ef p)])∧X_=[]∧S_=[]):=by
 exact cj.tu (Cz rfl ok hkk) (fun s hs=>⟨_,List.mem_singleton_self _,by rw[List.mem_singleton.1 hs];exact View.zH⟩) (fun v X S h=>⟨[],⟨h.1,h.2.1,rfl⟩,qE.nil⟩)
theorem nu(d:RD)(p bb:List UInt8):(d.write p bb).dS=d.dS:=by
 unfold RD.write
 split <;> rfl
theorem uy{x:RX}:∀s∈ [dw 2 x.A x.d.seen.length (fc x.d.seen),dw 4 x.A3 x.d.waits.length (sV x.d.waits)],∃t∈ [cY x],View t s:=by
 intro s hs
 refine⟨_,List.mem_singleton_self _, ?_⟩
 simp only[List.mem_cons,List.not_mem_nil,or_false]at hs
 rcases hs with rfl|rfl
 ·exact View.zH
 ·exact View.EV
theorem dZ{x:RX}{kk:Nat}{p bb:List UInt8}(ok:xO x.d kk)(hkk:kk≤100000)(hpl:p.length≤1000000)(hbb:bb.length≤1000000):cj Tryz.prog 31 [.agg x.cs.toArray,.string (strOf p),.string (strOf bb)] [] [cY x] (fun v_ X_ S_=>∃y,v_=(.tuple #[.agg y.cs.toArray,.int .i64 (x.d.bZ p bb)])∧X_=[]∧S_=[cY y]∧(y.d=x.d.write p bb)):=by
 refine cj.tu (zn rfl rfl ok hkk hpl hbb) uy (fun v X S h=> ?_)
 obtain⟨A1,n1,c1,A2,n2,c2,rfl,rfl,rfl,rfl,rfl⟩:=h
 refine⟨_,⟨⟨x.d.write p bb,A1,c1,x.Al,x.cl,A2,c2⟩,by unfold RX.cs;simp only[nu],rfl,rfl,rfl⟩,uC Ex (inr (inr (inv1 ?_))) (inr Ex)⟩
 simp only[nu]
 exact View.C0
theorem ED{x:RX}{kk:Nat}{k:Int}{p t bb:List UInt8}(ok:xO x.d kk)(hkk:kk≤100000):cj Tryz.prog 114 [.agg x.cs.toArray,.agg (cv k p t bb).toArray] [] [cY x] (fun v_ X_ S_=>∃y,v_=(.agg y.cs.toArray)∧X_=[]∧S_=[cY y]∧(y.d=x.d.kK k p t bb)):=by
 have h1:=ok.seen
 have h2:=ok.waits
 refine cj.tu (Cx rfl (by omega) rfl (by omega) ok.p1 ok.p2) uy (fun v X S h=> ?_)
 obtain⟨A1,n1,c1,A2,n2,c2,rfl,rfl,rfl,rfl,_,rfl⟩:=h
 have e:(x.d.waits++[(k,p,t,bb)]).length=x.d.waits.length+1:=by simp
 refine⟨_,⟨⟨x.d.kK k p t bb,A1,c1,x.Al,x.cl,A2,c2⟩,by unfold RX.cs;simp only[RD.kK,e];rfl,rfl,rfl,rfl⟩,uC Ex (inr (inr (inv1 View.C0))) (inr (inv1 ?_))⟩
 simp only[RD.kK,e]
 exact .same
def RD.cw(d:RD)(a c:List UInt8):Int:=if¬jH c then 1 else d.ef a
def RD.rename(d:RD)(a c:List UInt8):RD:=if d.cw a c=0 then d.kK 1 a c []else d
theorem wR{x:RX}{kk:Nat}{a c:List UInt8}(ok:xO x.d kk)(hkk:kk≤100000)(hcl:c.length≤1000000):cj Tryz.prog 100 [.agg x.cs.toArray,.string (strOf a),.string (strOf c)] [] [cY x] (fun v_ X_ S_=>∃y,v_=(.tuple #[.agg y.cs.toArray,.int .i64 (x.d.cw a c)])∧X_=[]∧S_=[cY y]∧(y.d=x.d.rename a c)):=by
 refine aU (N:=31) Tryz.func100 rfl rfl (by simp) fun b=> ?_
 refine ah<|aj<| ?_
 refine hx (cp rfl (fun g3=> ?_))
 refine aV (fun w m=>m.bQ 0 rfl (show _=aH g3 39 x.cs from congrArg (aH _ _) (bq _))) ?_
 refine hx (aJ fB (fun g6=> ?_))
 refine hy (fun _=>ab rfl)<|ai<|ak (X' :=[_,_]) (S' :=[_]) (fun _ m=>m)<|ag<|ah<|aj<|hy (fun _=>aa rfl)<| ?_
 refine hx (aq rfl Tryz.call112 (tY (by omega)) [] rfl [] rfl ?_)
 rintro _ _ _ ⟨rfl,rfl,rfl⟩
 refine hy (fun _=>ab rfl)<|ai<|al (ρ' :=[(8,_),(7,_),(6,_),(3,_),(0,_),(1,_),(2,_)]) ⟨rfl,rfl,rfl,rfl,rfl,rfl,rfl,trivial⟩<|ak (X' :=[_,_]) (S' :=[_]) (fun _ m=>m)<|ag<|ah<|ah<|aj<|hy (fun _=>aa rfl)<|hy (fun _=>dT rfl)<|ai<|al (ρ' :=[(14,_),(8,_),(7,_),(6,_),(3,_),(0,_),(1,_),(2,_)]) ⟨rfl,rfl,rfl,rfl,rfl,rfl,rfl,rfl,trivial⟩<|ag<| ?_
 refine cI rfl (fun hN=> ?_) (fun hN=> ?_)
 ·have hE:x.d.cw a c=1:=by rw[RD.cw,if_pos hN]
  have hE0:¬(1:Int)=0:=by decide
  have hW:x.d.rename a c=x.d:=by rw[RD.rename,if_neg (by rw[hE];exact hE0)]
  rw[hE,hW]
  refine ah<|aj<|hy (fun m=>yV (aR rfl cz bp rfl ((m.aT 1 rfl).au)) ((rfl:_=Value.agg x.cs.toArray)))<| ?_
  refine cN (aG 0 rfl rfl rfl bp rfl bP rfl ?_)
  refine hy (fun _=>ab rfl)<|ai<|al (ρ' :=[(7,_),(14,_),(8,_),(6,_),(3,_),(0,_),(1,_),(2,_)]) ⟨rfl,rfl,rfl,rfl,rfl,rfl,rfl,rfl,trivial⟩<|ak (X' :=[_,_]) (S' :=[_]) (fun _ m=>m)<|ag<|aQ<|ay<| ?_
  exact c6 trivial rfl rfl rfl cz bp rfl (fun m=>(m.aT 0 rfl).au) [] rfl [0] rfl ⟨x,rfl,rfl,rfl,rfl⟩
 ·have hE:x.d.cw a c=x.d.ef a:=by rw[RD.cw,if_neg hN]
  refine aC<|ag<|ah<|aj<|hy (fun m=>yV (aR rfl cz bp rfl ((m.aT 1 rfl).au)) ((rfl:_=Value.agg x.cs.toArray)))<|hy (fun _=>aa rfl)<| ?_
  refine hx (aq rfl Tryz.call91 (ym (by omega) (by omega)) [] rfl [0] rfl ?_)
  rintro _ _ _ ⟨rfl,rfl,rfl⟩
  refine hy (fun _=>aa rfl)<|hy (fun _=>ao rfl rfl)<|hy (fun _=>ao rfl rfl)<|hy (fun _=>ab rfl)<|hy (fun _=>ab rfl)<|ai<|al (ρ' :=[(10,_),(14,_),(8,_),(7,_),(6,_),(3,_),(0,_),(1,_),(2,_)]) ⟨rfl,rfl,rfl,rfl,rfl,rfl,rfl,rfl,rfl,trivial⟩<|ak (X' :=[_,_]) (S' :=[_]) (fun _ m=>m)<|ag<|ah<|ah<|aj<|hy (fun _=>aa rfl)<|hy (fun _=>cM rfl rfl)<|ai<|al (ρ' :=[(23,_),(10,_),(14,_),(8,_),(7,_),(6,_),(3,_),(0,_),(1,_),(2,_)]) ⟨rfl,rfl,rfl,rfl,rfl,rfl,rfl,rfl,rfl,rfl,trivial⟩<|ag<| ?_
  refine cI rfl (fun hE0=> ?_) (fun hE0=> ?_)
  ·have hW:x.d.rename a c=x.d:=by rw[RD.rename,if_neg (by rw[hE];exact hE0)]
   rw[hE,hW]
   refine ah<|aj<|hy (fun m=>yV (aR rfl cz bp rfl ((m.aT 1 rfl).au)) ((rfl:_=Value.agg x.cs.toArray)))<|hy (fun _=>aa rfl)<| ?_
   refine cN (aG 0 rfl rfl rfl bp rfl bP rfl ?_)
   refine hy (fun _=>ab rfl)<|ai<|al (ρ' :=[(7,_),(23,_),(10,_),(14,_),(8,_),(6,_),(3,_),(0,_),(1,_),(2,_)]) ⟨rfl,rfl,rfl,rfl,rfl,rfl,rfl,rfl,rfl,rfl,trivial⟩<|ak (X' :=[_,_]) (S' :=[_]) (fun _ m=>m)<|ag<|aQ<|ay<| ?_
   exact c6 trivial rfl rfl rfl cz bp rfl (fun m=>(m.aT 0 rfl).au) [] rfl [0] rfl ⟨x,rfl,rfl,rfl,rfl⟩
  ·have hr0:=Decidable.not_not.1 hE0
   have hW:x.d.rename a c=x.d.kK 1 a c []:=by rw[RD.rename,if_pos (by rw[hE];exact hr0)]
   rw[hE,hW,hr0]
   refine aC<|ag<|ah<|aj<|hy (fun m=>yV (aR rfl cz bp rfl ((m.aT 1 rfl).au)) ((rfl:_=Value.agg x.cs.toArray)))<|hy (fun _=>aa rfl)<|hy (fun _=>aa rfl)<|hy (fun _=>yV (cD pV rfl rfl (by kernel_rfl) (.cons (o:=0) (sz:=1) (by kernel_rfl) rfl rfl (Nat.le_of_ble_eq_true rfl) (.cons (o:=1) (sz:=1) (by kernel_rfl) rfl rfl (Nat.le_of_ble_eq_true rfl) (.cons (o:=2) (sz:=1) (by kernel_rfl) rfl rfl (Nat.le_of_ble_eq_true rfl) .nil)))) ((rfl:_=Value.agg (cv 1 a c []).toArray)))<| ?_
   refine hx (aq rfl Tryz.call114 (ED (by omega) (by omega)) [] rfl [0] rfl ?_)
   rintro _ _ _ ⟨y,rfl,rfl,rfl,hp⟩
   refine cN (aG 0 rfl rfl rfl bp rfl bP rfl ?_)
   refine hy (fun _=>ab rfl)<|ai<|al (ρ' :=[(7,_),(23,_),(10,_),(14,_),(8,_),(6,_),(3,_),(0,_),(1,_),(2,_)]) ⟨rfl,rfl,rfl,rfl,rfl,rfl,rfl,rfl,rfl,rfl,trivial⟩<|ak (X' :=[_,_]) (S' :=[_,_]) (fun _ m=>m)<|ag<|aQ<| ?_
   exact c6 trivial rfl rfl rfl cz bp rfl (fun m=>(m.aT 0 rfl).au) [] rfl [0] rfl ⟨y,rfl,rfl,rfl,hp⟩
def RD.ei(d:RD):Int:=if d.pw=0 then 6 else 0
def RD.sync(d:RD):RD:=if d.pw=0 then d else{d with dS:=d.seen,waits:=[],pw:=fK d.pw}
theorem yX{x:RX}{kk:Nat}(ok:xO x.d kk):cj Tryz.prog 99 [.agg x.cs.toArray] [] [cY x] (fun v_ X_ S_=>∃y,v_=(.tuple #[.agg y.cs.toArray,.int .i64 x.d.ei])∧X_=[]∧S_=[cY y]∧(y.d=x.d.sync)):=by
 have hp1:=ok.p1
 have hp2:=ok.p2
 refine aU (N:=20) Tryz.func99 rfl rfl (by simp) fun b=> ?_
 refine ah<|aj<| ?_
 refine hx (cp rfl (fun g1=> ?_))
 refine aV (fun w m=>m.bQ 0 rfl (show _=aH g1 39 x.cs from congrArg (aH _ _) (bq _))) ?_
 refine hx (aJ fB (fun g2=> ?_))
 refine hy (fun _=>ab rfl)<|ai<|ak (X' :=[_,_]) (S' :=[_]) (fun _ m=>m)<|ag<|ah<|ah<|aj<|hy (fun _=>aI rfl jD (by decide))<|hy (fun m=>av rfl dV (aB (m.aT 1 rfl) (i:=4) rfl))<|hy (fun _=>cy rfl rfl)<|ai<|al (ρ' :=[(6,_),(3,_),(2,_),(1,_),(0,_)]) ⟨rfl,rfl,rfl,rfl,rfl,trivial⟩<|ag<| ?_
 refine cI rfl (fun h0=> ?_) (fun h0=> ?_)
 ·have hE:x.d.ei=6:=by rw[RD.ei,if_pos h0]
  have hW:x.d.sync=x.d:=by rw[RD.sync,if_pos h0]
  rw[hE,hW]
  refine ah<|aj<|hy (fun m=>yV (aR rfl cz bp rfl ((m.aT 1 rfl).au)) ((rfl:_=Value.agg x.cs.toArray)))<| ?_
  refine cN (aG 0 rfl rfl rfl bp rfl bP rfl ?_)
  refine hy (fun _=>ab rfl)<|ai<|al (ρ' :=[(3,_),(6,_),(2,_),(1,_),(0,_)]) ⟨rfl,rfl,rfl,rfl,rfl,trivial⟩<|ak (X' :=[_,_]) (S' :=[_]) (fun _ m=>m)<|ag<|aQ<|ay<| ?_
  exact c6 trivial rfl rfl rfl cz bp rfl (fun m=>(m.aT 0 rfl).au) [] rfl [0] rfl ⟨x,rfl,rfl,rfl,rfl⟩
 ·have hE:x.d.ei=0:=by rw[RD.ei,if_neg h0]
  have hW:x.d.sync={x.d with dS:=x.d.seen,waits:=[],pw:=fK x.d.pw}:=by rw[RD.sync,if_neg h0]
  rw[hE]
  refine bD (fun w m=>m.lq 0 rfl View.zH) ?_
  refine ba (fun m=>mX (m.rd 0 rfl)) ?_
  rintro⟨hl_r0,hA_r0⟩
  refine bD (fun w m=>m.oZ (r' :=dw 4 none 0 []) (.refl _ _) (Rd.nil _ _ _) (fun k hk=>absurd rfl hk.1)) ?_
  have hA_z:0<0→(none:Option Addr)≠none:=fun h=>absurd h (by decide)
  refine aC<|ag<|ah<|aj<|hy (fun _=>aI rfl iv (by decide))<|hy (fun m=>av rfl o6 (aB (m.aT 1 rfl) (i:=1) rfl))<|hy (fun _=>aI rfl BN (by decide))<| ?_
  refine cN (ct 1 rfl rfl rfl C5 rfl (by first|exact Nat.le_of_ble_eq_true rfl|simp) ?_)
  refine ai<|al (ρ' :=[(6,_),(3,_),(2,_),(1,_),(0,_)]) ⟨rfl,rfl,rfl,rfl,rfl,trivial⟩<|ak (X' :=[_,_]) (S' :=[_,_,_]) (fun _ m=>m)<|ag<|ah<|aj<|hy (fun _=>aI rfl tf (by decide))<| ?_
  refine cN (ct 0 rfl rfl rfl DX rfl (by first|exact Nat.le_of_ble_eq_true rfl|simp) ?_)
  refine ai<|al (ρ' :=[(6,_),(3,_),(2,_),(1,_),(0,_)]) ⟨rfl,rfl,rfl,rfl,rfl,trivial⟩<|ak (X' :=[_,_]) (S' :=[_,_,_]) (fun _ m=>m)<|ag<|ah<|ah<|aj<|hy (fun _=>aI rfl jD (by decide))<|hy (fun m=>av rfl dV (aB (m.aT 0 rfl) (i:=4) rfl))<|hy (fun _=>cF rfl rfl)<|ai<|al (ρ' :=[(14,_),(6,_),(3,_),(2,_),(1,_),(0,_)]) ⟨rfl,rfl,rfl,rfl,rfl,rfl,trivial⟩<|ag<| ?_
  refine bD (S' :=cY ⟨{x.d with dS:=x.d.seen,waits:=[],pw:=fK x.d.pw},x.A,x.c,x.A,x.c,none,0⟩::_) (fun w m=>m.Ed [1,1,0] rfl) ?_
  refine cI rfl (fun h1=> ?_) (fun h1=> ?_)
  ·refine aj<|hy (fun _=>aI rfl jD (by decide))<|hy (fun m=>av rfl dV (aB (m.aT 0 rfl) (i:=4) rfl))<|hy (fun _=>b6 rfl rfl (bB (by omega) (by omega)))<|hy (fun _=>aI rfl jD (by decide))<| ?_
   refine cN (ct 0 rfl rfl rfl rl rfl (by first|exact Nat.le_of_ble_eq_true rfl|simp) ?_)
   refine ai<|al (ρ' :=[(14,_),(6,_),(3,_),(2,_),(1,_),(0,_)]) ⟨rfl,rfl,rfl,rfl,rfl,rfl,trivial⟩<|ak (X' :=[_,_]) (S' :=[_,_,_,_]) (fun _ m=>m)<|ag<|ah<|aj<| ?_
   refine aV (fun w m=>m.bQ 0 rfl (show _=aH g1 39 (RX.cs ⟨{x.d with dS:=x.d.seen,waits:=[],pw:=fK x.d.pw},x.A,x.c,x.A,x.c,none,0⟩)from by rw[fK,if_pos h1];rfl)) ?_
   refine hy (fun m=>yV (aR rfl cz bp rfl ((m.aT 0 rfl).au)) ((rfl:_=Value.agg (RX.cs ⟨{x.d with dS:=x.d.seen,waits:=[],pw:=fK x.d.pw},x.A,x.c,x.A,x.c,none,0⟩).toArray)))<| ?_
   refine cN (aG 1 rfl rfl rfl bp rfl bP rfl ?_)
   refine hy (fun _=>ab rfl)<|ai<|al (ρ' :=[(3,_),(14,_),(6,_),(2,_),(1,_),(0,_)]) ⟨rfl,rfl,rfl,rfl,rfl,rfl,trivial⟩<|ak (X' :=[_,_]) (S' :=[_,_,_,_]) (fun _ m=>m)<|ag<|aQ<| ?_
   exact c6 trivial rfl rfl rfl cz bp rfl (fun m=>(m.aT 0 rfl).au) [] rfl [0] rfl ⟨_,rfl,rfl,rfl,hW.symm⟩
  ·refine aC<|ag<|ah<|aj<| ?_
   refine aV (fun w m=>m.bQ 0 rfl (show _=aH g1 39 (RX.cs ⟨{x.d with dS:=x.d.seen,waits:=[],pw:=fK x.d.pw},x.A,x.c,x.A,x.c,none,0⟩)from by rw[fK,if_neg h1];rfl)) ?_
   refine hy (fun m=>yV (aR rfl cz bp rfl ((m.aT 0 rfl).au)) ((rfl:_=Value.agg (RX.cs ⟨{x.d with dS:=x.d.seen,waits:=[],pw:=fK x.d.pw},x.A,x.c,x.A,x.c,none,0⟩).toArray)))<| ?_
   refine cN (aG 1 rfl rfl rfl bp rfl bP rfl ?_)
   refine hy (fun _=>ab rfl)<|ai<|al (ρ' :=[(3,_),(14,_),(6,_),(2,_),(1,_),(0,_)]) ⟨rfl,rfl,rfl,rfl,rfl,rfl,trivial⟩<|ak (X' :=[_,_]) (S' :=[_,_,_,_]) (fun _ m=>m)<|ag<|aQ<| ?_
   exact c6 trivial rfl rfl rfl cz bp rfl (fun m=>(m.aT 0 rfl).au) [] rfl [0] rfl ⟨_,rfl,rfl,rfl,hW.symm⟩
end Go.Proofs.YtmibdabdlgmafaaGreatDoor
end
section
set_option maxRecDepth 20000
namespace Go.Proofs.YtmibdabdlgmafaaGreatDoor
open Go.Eng Go.Hx
theorem sh{α:Type}{f:α→List Value}{k:Nat}(hf:∀x,(f x).length=k):∀(l:List α) (i j:Nat) (x:α),l[i]? =some x→j<k→(l.flatMap f)[i*k+j]? =(f x)[j]?
 | [],i,j,x,h,hj=>by simp at h
 |a::r,0,j,x,h,hj=>by
  simp only[List.getElem?_cons_zero,Option.some.injEq]at h
  subst h
  rw[List.flatMap_cons,Nat.zero_mul,Nat.zero_add,List.getElem?_append_left (by rw[hf];exact hj)]
 |a::r,i+1,j,x,h,hj=>by
  rw[List.flatMap_cons,List.getElem?_append_right (by rw[hf,Nat.succ_mul];omega),hf,show(i+1)*k+j-k=i*k+j by rw[Nat.succ_mul];omega]
  exact sh hf r i j x (by simpa using h) hj
theorem s3{α:Type}{f:α→List Value}{k:Nat}{w:World}{A:Option Addr}{n i:Nat}{l:List α}{x:α}(hf:∀x,(f x).length=k)(h:Rd w k A n (l.flatMap f))(hx:l[i]? =some x):∀(j:Nat) (u:Value),(f x)[j]? =some u→w.cell? (((A.getD d0).add (i*k)).add j)=some u:=by
 intro j u hu
 have hj:j<k:=by have:=(List.getElem?_eq_some_iff.1 hu).1;rwa [hf]at this
 exact fh h (by rw[sh hf l i j x hx hj];exact hu)
end Go.Proofs.YtmibdabdlgmafaaGreatDoor
end
section
namespace Go.Proofs.YtmibdabdlgmafaaGreatDoor
open Go.Eng Go.Hx
theorem fO.del{fs:dM}{l:List FP}(h:fO fs l)(p:List UInt8):fO (fa fs p) (eY l p):=by
 refine⟨m8 _ h.ord,kV h.nd,fun q=> ?_,fun x hx=> ?_⟩
 ·rw[vP h.nd]
  have:=mz p l q
  unfold eY
  rw[this]
  by_cases hq:p=q
  ·rw[if_pos hq,if_pos hq.symm];rfl
  ·rw[if_neg hq,if_neg (fun e=>hq e.symm)];exact h.look q
 ·have h1:=mK (List.mem_map.2 ⟨x,hx,rfl⟩)
  obtain⟨y,hy,e⟩:=List.mem_map.1 h1
  rw[←e];exact h.len y hy
theorem fO.at{fs:dM}{l:List FP}(h:fO fs l)(p:List UInt8):(bX fs p=none∧l[da l p]? =none)∨∃r x,bX fs p=some r∧l[da l p]? =some x∧r.l=x.2∧r.n=r.l.length:=by
 have h1:=h.look p
 rw[←lF]at h1
 cases ha:bX fs p with
 |none=>
  rw[ha]at h1
  cases hb:l[da l p]? with
  |none=>exact .inl ⟨rfl,rfl⟩
  |some y=>rw[hb]at h1;cases h1
 |some r=>
  rw[ha]at h1
  cases hb:l[da l p]? with
  |none=>rw[hb]at h1;cases h1
  |some y=>
   rw[hb]at h1
   exact .inr ⟨r,y,rfl,rfl,Option.some.inj h1,h.len _ (jg ha)⟩
def iZ.rc:iZ→RC
 | .written p r=>(0,p,[],r.l)
 | .renamed a c=>(1,a,c,[])
 | .removed p=>(2,p,[],[])
def iZ.wl(c:iZ):Prop:=∀r,c.row=some r→r.n=r.l.length
theorem fO.rm{fs:dM}{l:List FP}(h:fO fs l){c:iZ}(hc:c.wl):fO (rm fs c) (eB l c.rc.1 c.rc.2.1 c.rc.2.2.1 c.rc.2.2.2):=by
 cases c with
 |written p r=>
  rw[eB]
  exact h.put (hc r rfl)
 |renamed a b=>
  rw[eB]
  simp only[iZ.rc,Go.Proofs.YtmibdabdlgmafaaGreatDoor.rm]
  rcases h.at a with⟨h1,h2⟩|⟨r,x,h1,h2,h3,h4⟩
  ·simp only[h1,h2];exact h
  ·simp only[h1,h2]
   rw[←h3]
   exact(h.del a).put h4
 |removed p=>
  rw[eB]
  simp only[iZ.rc,Go.Proofs.YtmibdabdlgmafaaGreatDoor.rm]
  rcases h.at p with⟨h1,h2⟩|⟨r,x,h1,h2,h3,h4⟩
  ·simp only[h2]
   have e:fa fs p=fs:=by
    have hk:¬p∈b7 fs:=je.1 h1
    clear h h2 h1
    induction fs with
    |nil=>rfl
    |cons a q ih=>
     obtain⟨k,u⟩:=a
     simp only[b7,List.map_cons,List.mem_cons,not_or]at hk
     simp only[fa]
     rw[if_neg (fun e=>hk.1 e.symm),ih hk.2]
   rw[if_neg (by decide),e];exact h
  ·simp only[h2]
   rw[if_neg (by decide)]
   exact h.del p
structure DS(st:c7)(d:RD)(k:Nat):Prop where
 pe:tC st d
 ok:nO st k
 low:-1≤d.pw
 dS:fO st.dS d.dS
 waits:st.waits.map iZ.rc=d.waits
 Dv:∀c∈st.waits,c.wl
theorem DS.le{st:c7}{d:RD}{k k' :Nat}(h:DS st d k)(hk:k≤k'):DS st d k' :=⟨h.pe,h.ok.le hk,h.low,h.dS,h.waits,h.Dv⟩
theorem DS.ny{st:c7}{d:RD}{k:Nat}(h:DS st d k):xO d k:=by
 refine⟨?_, ?_, ?_,by have:=h.low;omega, ?_⟩
 ·rw[←h.pe.files.Cn];exact h.ok.seen
 ·rw[←h.pe.waits];have:=h.ok.rest;omega
 ·rw[←h.pe.files.m7];exact h.ok.m7
 ·rw[←h.pe.cA];exact h.ok.cA
theorem DS.init{n:Int}{gs gl:Nat}(h:n≤1048576):DS (lE n gs gl) (RD.new n) 0:=
 ⟨⟨rfl,rfl,fO.nil,rfl⟩,nO.init h,Int.le_refl _,fO.nil,rfl,fun c hc=>by cases hc⟩
theorem pn{p:Int}(h:-1≤p):-1≤fK p:=by
 unfold fK
 split <;> omega
theorem DS.kK{st:c7}{d:RD}{k:Nat}(h:DS st d k){c:iZ}(hc:c.wl){st1:c7}(hs:st1.room=st.room∧st1.dS=st.dS∧st1.cA=st.fk.cA∧st1.seen=rm st.seen c∧st1.waits=st.waits++[c])(ok:nO st1 (k+1)):
  DS st1 (d.kK c.rc.1 c.rc.2.1 c.rc.2.2.1 c.rc.2.2.2) (k+1):=by
 obtain⟨h1,h2,h3,h4,h5⟩:=hs
 refine⟨⟨h1.trans h.pe.room, ?_, ?_, ?_⟩,ok,pn h.low, ?_, ?_,fun x hx=> ?_⟩
 ·rw[h3]
  show(if 0<st.cA then st.cA-1 else st.cA)=fK d.pw
  rw[h.pe.cA];rfl
 ·rw[h4];exact h.pe.files.rm hc
 ·rw[h5,List.length_append,h.pe.waits]
  show _=(d.waits++[_]).length
  rw[List.length_append];rfl
 ·rw[h2];exact h.dS
 ·rw[h5,List.map_append,h.waits];rfl
 ·rw[h5]at hx
  rcases List.mem_append.1 hx with hx|hx
  ·exact h.Dv x hx
  ·rw[List.mem_singleton.1 hx];exact hc
theorem DS.write{st st1:c7}{d:RD}{k n:Nat}(h:DS st d k){p l:List UInt8}{B A:Option Addr}{c1 c2:Nat}(hl:l.length=n)(hn:n≤1048576)
  (hw:(bZ st p n≠0∧st1=st)∨(bZ st p n=0∧st1=st.wrote p ⟨B,n,c1,l⟩ A c2)):DS st1 (d.write p l) (k+1)∧d.bZ p l=bZ st p n:=by
 subst hl
 have e:=h.pe.bZ p l
 refine⟨?_,e.symm⟩
 unfold RD.write
 rw[←e]
 rcases hw with⟨h1,rfl⟩|⟨h1,rfl⟩
 ·rw[if_neg h1];exact h.le (Nat.le_succ _)
 ·rw[if_pos h1]
  exact h.kK (c:=.written p ⟨B,l.length,c1,l⟩) (fun r hr=>by cases hr;rfl) ⟨rfl,rfl,rfl,rfl,rfl⟩ (h.ok.wrote hn A c2)
theorem DS.ef{st:c7}{d:RD}{k:Nat}(h:DS st d k)(p:List UInt8):d.ef p=er st p:=(h.pe.ef p).symm
theorem DS.cR{st:c7}{d:RD}{k:Nat}(h:DS st d k)(p:List UInt8):d.cR p=cR st p:=(h.pe.cR p).symm
theorem DS.rename{st st1:c7}{d:RD}{k:Nat}(h:DS st d k){a c:List UInt8}{A:Option Addr}{j:Nat}
  (hw:(cw st a c≠0∧st1=st)∨(cw st a c=0∧st1=st.kK (.renamed a c) A j)):DS st1 (d.rename a c) (k+1)∧d.cw a c=cw st a c:=by
 have e:d.cw a c=cw st a c:=by
  unfold RD.cw Go.Proofs.YtmibdabdlgmafaaGreatDoor.cw
  rw[h.ef]
 refine⟨?_,e⟩
 unfold RD.rename
 rw[e]
 rcases hw with⟨h1,rfl⟩|⟨h1,rfl⟩
 ·rw[if_neg h1];exact h.le (Nat.le_succ _)
 ·rw[if_pos h1]
  exact h.kK (c:=.renamed a c) (fun r hr=>by cases hr) ⟨rfl,rfl,rfl,rfl,rfl⟩ (h.ok.kK rfl A j)
theorem DS.sync{st st1:c7}{d:RD}{k gl:Nat}(h:DS st d k)(hw:(st.cA=0∧st1=st)∨(st.cA≠0∧st1=st.synced gl)):DS st1 d.sync k∧d.ei=ei st:=by
 have e:d.ei=ei st:=by unfold RD.ei Go.Proofs.YtmibdabdlgmafaaGreatDoor.ei;rw[h.pe.cA]
 refine⟨?_,e⟩
 unfold RD.sync
 rw[←h.pe.cA]
 rcases hw with⟨h1,rfl⟩|⟨h1,rfl⟩
 ·rw[if_pos h1];exact h
 ·rw[if_neg h1]
  refine⟨⟨h.pe.room, ?_,h.pe.files,rfl⟩,h.ok.synced gl, ?_,h.pe.files,rfl,fun c hc=>by cases hc⟩
  ·rfl
  ·rw[h.pe.cA];exact pn h.low
def RD.ok(d:RD)(k:Nat):Prop:=∃st,DS st d k
theorem RD.ok.ny{d:RD}{k:Nat}(h:d.ok k):xO d k:=by obtain⟨st,h⟩:=h;exact h.ny
theorem RD.ok.write{d:RD}{k:Nat}(h:d.ok k){p l:List UInt8}(hl:l.length≤1048576):(d.write p l).ok (k+1):=by
 obtain⟨st,h⟩:=h
 by_cases he:Go.Proofs.YtmibdabdlgmafaaGreatDoor.bZ st p l.length=0
 ·exact⟨_,(h.write (st1:=st.wrote p ⟨none,l.length,0,l⟩ none 0) rfl hl (.inr ⟨he,rfl⟩)).1⟩
 ·exact⟨_,(h.write (B:=none) (A:=none) (c1:=0) (c2:=0) (st1:=st) rfl hl (.inl ⟨he,rfl⟩)).1⟩
theorem RD.ok.rename{d:RD}{k:Nat}(h:d.ok k){a c:List UInt8}:(d.rename a c).ok (k+1):=by
 obtain⟨st,h⟩:=h
 by_cases he:Go.Proofs.YtmibdabdlgmafaaGreatDoor.cw st a c=0
 ·exact⟨_,(h.rename (st1:=st.kK (.renamed a c) none 0) (.inr ⟨he,rfl⟩)).1⟩
 ·exact⟨_,(h.rename (A:=none) (j:=0) (st1:=st) (.inl ⟨he,rfl⟩)).1⟩
theorem RD.ok.sync{d:RD}{k:Nat}(h:d.ok k):d.sync.ok k:=by
 obtain⟨st,h⟩:=h
 by_cases he:st.cA=0
 ·exact⟨_,(h.sync (gl:=0) (st1:=st) (.inl ⟨he,rfl⟩)).1⟩
 ·exact⟨_,(h.sync (st1:=st.synced 0) (.inr ⟨he,rfl⟩)).1⟩
end Go.Proofs.YtmibdabdlgmafaaGreatDoor
end
section
namespace Go.Hx
open Go.Eng
def chunks(k:Nat)(l:List UInt8):List (List UInt8):=(List.range k).map fun i=>(l.drop (32*i)).take 32
theorem lg{k:Nat}{l:List UInt8}(h:32*k≤l.length):Aq (chunks k l):=by
 intro x hx
 simp only[chunks,List.mem_map,List.mem_range]at hx
 obtain⟨i,hi,rfl⟩:=hx
 rw[List.length_take,List.length_drop]
 omega
def kB(l:List UInt8):Nat:=(l.getD 0 0).toNat+256*(l.getD 1 0).toNat+65536*(l.getD 2 0).toNat+16777216*(l.getD 3 0).toNat
theorem rb(l:List UInt8):kB l<4294967296:=by
 have h0:=(l.getD 0 0).toNat_lt
 have h1:=(l.getD 1 0).toNat_lt
 have h2:=(l.getD 2 0).toNat_lt
 have h3:=(l.getD 3 0).toNat_lt
 unfold kB
 omega
theorem yJ{n:Nat}(h:n<4294967296):kB (gx n)=n:=by
 simp only[gx,kB,List.getD_cons_zero,List.getD_cons_succ,UInt8.toNat_ofNat']
 omega
end Go.Hx
end
section
namespace Go.Hx
open Go.Eng
def acc(l:List UInt8):Nat→Nat
 |0=>0
 |j+1=>acc l j*256+(l.getD (3-j) 0).toNat
theorem yI(l:List UInt8):∀j,acc l j<256 ^ j
 |0=>by simp[acc]
 |j+1=>by
  have h1:=yI l j
  have h2:=(l.getD (3-j) 0).toNat_lt
  rw[acc,Nat.pow_succ]
  omega
theorem yx(l:List UInt8){j:Nat}(h:j≤4):acc l j<4294967296:=by
 have h1:=yI l j
 have h2:256 ^ j≤256 ^ 4:=Nat.pow_le_pow_right (by decide) h
 have h3:256 ^ 4=4294967296:=by decide
 omega
theorem Ds(l:List UInt8):acc l 4=kB l:=by
 have e:(3-0=3)∧(3-1=2)∧(3-2=1)∧(3-3=0):=by decide
 simp only[acc,kB,e.1,e.2.1,e.2.2.1,e.2.2.2]
 omega
theorem um(a b:Nat)(ha:a<4294967296)(hb:b<256):bits .or .i64 (a*256:Int) (b:Int)=((a*256+b:Nat):Int):=by
 have h1:(a*256:Int)=((a*256:Nat):Int):=by simp
 have h2:a*256 ||| b=a*256+b:=by rw[Nat.mul_comm a 256,show 256=2 ^ 8 from rfl,Nat.two_pow_add_eq_or_of_lt (by simpa using hb)]
 have e0:∀n:Nat,n<18446744073709551616→(BitVec.ofInt 64 (n:Int)).toNat=n:=fun n hn=>by
  rw[BitVec.toNat_ofInt]
  simp
  omega
 rw[h1]
 show IntKind.i64.wrap ((BitVec.ofInt 64 ((a*256:Nat):Int) ||| BitVec.ofInt 64 (b:Int)).toNat:Int)=_
 rw[BitVec.toNat_or,e0 _ (by omega),e0 _ (by omega),h2]
 exact bB (by omega) (by omega)
end Go.Hx
end
section
namespace Go.Hx
open Go.Eng
def cT(l:List UInt8):Nat×Nat×Nat×Bool:=
 if(l.getD 0 0).toNat<128 then((l.getD 0 0).toNat+2,(l.getD 0 0).toNat+1,0,decide ((l.getD 0 0).toNat+2≤l.length))
 else if l.length<3 then(0,0,0,false)else(3,(l.getD 0 0).toNat-124,1+(l.getD 1 0).toNat+256*(l.getD 2 0).toNat,true)
def again(d:Nat):Nat→List UInt8→List UInt8
 |0,o=>o
 |k+1,o=>again d k (o++[o.getD (o.length-d) 0])
theorem lD(d:Nat):∀(k:Nat) (o:List UInt8),(again d k o).length=o.length+k
 |0,o=>rfl
 |k+1,o=>by rw[again,lD d k];simp;omega
theorem kv{l:List UInt8}(h:(cT l).2.2.2=true):2≤(cT l).1∧(cT l).1≤l.length:=by
 unfold cT at h ⊢
 split at h
 ·rename_i h1
  rw[if_pos h1]
  have:=of_decide_eq_true h
  exact⟨by show 2≤_+2;omega,this⟩
 ·rename_i h1
  rw[if_neg h1]
  split at h
  ·cases h
  ·rename_i h2
   rw[if_neg h2]
   exact⟨by show 2≤3;decide,by show 3≤_;omega⟩
theorem BK(l:List UInt8):(cT l).2.1≤131∧(cT l).2.2.1≤65536:=by
 have h0:=(l.getD 0 0).toNat_lt
 have h1:=(l.getD 1 0).toNat_lt
 have h2:=(l.getD 2 0).toNat_lt
 unfold cT
 split
 ·exact⟨by show _+1≤_;omega,by show 0≤_;omega⟩
 ·split
  ·exact⟨by show 0≤_;omega,by show 0≤_;omega⟩
  ·exact⟨by show _-124≤_;omega,by show 1+_+256*_≤_;omega⟩
def made(l o:List UInt8):List UInt8:=if(cT l).2.2.1=0 then o++(l.drop 1).take ((cT l).1-1)else again (cT l).2.2.1 (cT l).2.1 o
def kq(most:Int)(l o:List UInt8):List UInt8×Int:=
 if h0:l=[]then(o,0)
 else if h1:(cT l).2.2.2=true then
  if o.length<(cT l).2.2.1 then([],2)else if most<(o.length:Int)+((cT l).2.1:Nat)then([],3)else kq most (l.drop (cT l).1) (made l o)
 else([],2)
termination_by l.length
decreasing_by
 obtain⟨h2,h3⟩:=kv h1
 rw[List.length_drop]
 omega
theorem qv(most:Int)(o:List UInt8):kq most [] o=(o,0):=by
 rw[kq]
 rfl
theorem kj{most:Int}{l o:List UInt8}(h0:l≠ [])(h:¬((cT l).2.2.2=true∧(cT l).2.2.1≤o.length)):kq most l o=([],2):=by
 rw[kq,dif_neg h0]
 split
 ·rename_i h1
  rw[if_pos (Nat.lt_of_not_le fun h2=>h ⟨h1,h2⟩)]
 ·rfl
theorem nJ{most:Int}{l o:List UInt8}(h0:l≠ [])(h1:(cT l).2.2.2=true)(h2:(cT l).2.2.1≤o.length)(h3:most<(o.length:Int)+((cT l).2.1:Nat)):kq most l o=([],3):=by
 rw[kq,dif_neg h0,dif_pos h1,if_neg (by omega),if_pos h3]
theorem qI{most:Int}{l o:List UInt8}(h0:l≠ [])(h1:(cT l).2.2.2=true)(h2:(cT l).2.2.1≤o.length)(h3:¬most<(o.length:Int)+((cT l).2.1:Nat)):kq most l o=kq most (l.drop (cT l).1) (made l o):=by
 rw[kq,dif_neg h0,dif_pos h1,if_neg (by omega),if_neg h3]
theorem nc{l o:List UInt8}(h1:(cT l).2.2.2=true):(made l o).length=o.length+(cT l).2.1:=by
 unfold made
 split
 ·rename_i h0
  obtain⟨h2,h3⟩:=kv h1
  have e:(cT l).1-1=(cT l).2.1:=by
   unfold cT at h0 h1 ⊢
   split
   ·show _+2-1=_+1;omega
   ·split
    ·rename_i a1 a2;rw[if_neg a1,if_pos a2]at h1;cases h1
    ·rename_i a1 a2;rw[if_neg a1,if_neg a2]at h0;simp at h0
  rw[List.length_append,List.length_take,List.length_drop,e]
  omega
 ·exact lD _ _ _
end Go.Hx
end
section
namespace Go.Hx
open Go.Eng
def kC(b:List UInt8)(i k:Nat):Nat→Nat→Nat
 |0,n=>n
 |f+1,n=>if i+n<b.length∧b.getD (i+n) 0=b.getD (k+n) 0 then kC b i k f (n+1)else n
def k4(b:List UInt8)(i k:Nat):Nat:=kC b i k 131 0
theorem gu(b:List UInt8)(i k:Nat):∀f n,n≤kC b i k f n∧kC b i k f n≤n+f∧(i+n≤b.length→i+kC b i k f n≤b.length)∧∀j,n≤j→j<kC b i k f n→b.getD (i+j) 0=b.getD (k+j) 0
 |0,n=>⟨Nat.le_refl _,Nat.le_refl _,fun h=>h,fun j h1 h2=>by simp only[kC]at h2;omega⟩
 |f+1,n=>by
  unfold kC
  split
  ·rename_i h
   obtain⟨h1,h2,h3,h4⟩:=gu b i k f (n+1)
   refine⟨by omega,by omega,fun _=>h3 (by omega),fun j hj hj2=> ?_⟩
   rcases Nat.eq_or_lt_of_le hj with e|e
   ·rw[←e];exact h.2
   ·exact h4 j e hj2
  ·exact⟨Nat.le_refl _,by omega,fun h=>h,fun j h1 h2=>by omega⟩
theorem Cj(b:List UInt8)(i k:Nat):k4 b i k≤131:=by have:=(gu b i k 131 0).2.1;unfold k4;omega
theorem xt{b:List UInt8}{i:Nat}(k:Nat)(h:i≤b.length):i+k4 b i k≤b.length:=(gu b i k 131 0).2.2.1 (by omega)
theorem qt{b:List UInt8}{i k j:Nat}(h:j<k4 b i k):b.getD (i+j) 0=b.getD (k+j) 0:=(gu b i k 131 0).2.2.2 j (Nat.zero_le _) h
theorem ku{b:List UInt8}{i k f n:Nat}(h:¬(i+n<b.length∧b.getD (i+n) 0=b.getD (k+n) 0)):kC b i k f n=n:=by
 cases f with
 |zero=>rfl
 |succ f=>rw[kC,if_neg h]
theorem gS{b:List UInt8}{i k f n:Nat}(hf:0<f)(h:i+n<b.length∧b.getD (i+n) 0=b.getD (k+n) 0):kC b i k f n=kC b i k (f-1) (n+1):=by
 cases f with
 |zero=>omega
 |succ f=>rw[kC,if_pos h];rfl
def ek(b:List UInt8)(p:Nat):List UInt8:=(b.drop p).take 4
theorem bK{b:List UInt8}{p:Nat}(h:p+4≤b.length):(ek b p).length=4:=by unfold ek;rw[List.length_take,List.length_drop];omega
theorem Aa{b:List UInt8}{i p:Nat}(hi:i+4≤b.length)(hp:p<i):ek b p=ek b i↔3<k4 b i p:=by
 have e:∀q,q+4≤b.length→ek b q=[b.getD (q+0) 0,b.getD (q+1) 0,b.getD (q+2) 0,b.getD (q+3) 0]:=by
  intro q hq
  apply List.ext_getElem?
  intro j
  unfold ek
  rw[List.getElem?_take,List.getElem?_drop]
  rcases j with _|_|_|_|j
  all_goals simp
  all_goals (try (rw[List.getElem?_eq_getElem (by omega)];rfl))
  all_goals (try (intro h;omega))
 rw[e p (by omega),e i hi]
 constructor
 ·intro h
  simp only[List.cons.injEq,and_true]at h
  have e0:k4 b i p=kC b i p 127 4:=by
   unfold k4
   rw[gS (by decide) ⟨by omega,h.1.symm⟩,gS (by decide) ⟨by omega,h.2.1.symm⟩,gS (by decide) ⟨by omega,h.2.2.1.symm⟩,gS (by decide) ⟨by omega,h.2.2.2.symm⟩]
  rw[e0]
  exact(gu b i p 127 4).1
 ·intro h
  simp only[List.cons.injEq,and_true]
  exact⟨(qt (by omega)).symm,(qt (by omega)).symm,(qt (by omega)).symm,(qt (by omega)).symm⟩
def gp(b:List UInt8)(i:Nat)(s:Nat×Nat)(d:Nat):Nat×Nat:=if 3<k4 b i (i-d)∧s.1<k4 b i (i-d)then(k4 b i (i-d),d)else s
def ck(b:List UInt8)(i k:Nat):Nat×Nat:=(List.range' 1 k).foldl (gp b i) (0,0)
theorem dJ(b:List UInt8)(i k:Nat):ck b i (k+1)=gp b i (ck b i k) (k+1):=by
 unfold ck
 rw[List.range'_concat,List.foldl_append]
 simp[Nat.add_comm]
def a8(b:List UInt8)(i:Nat):Nat×Nat:=ck b i (min i 1024)
def fI(b:List UInt8)(i:Nat)(s:Nat×Nat)(p:Nat):Nat×Nat:=if 1024<i-p then s else if s.1<k4 b i p then(k4 b i p,i-p)else s
def kd(b:List UInt8)(n:Nat)(k:List UInt8):List Nat:=(List.range n).filter fun p=>decide (ek b p=k)
theorem wi(b:List UInt8)(n:Nat)(k:List UInt8):kd b (n+1) k=kd b n k++if ek b n=k then [n]else []:=by
 unfold kd
 rw[List.range_succ,List.filter_append]
 congr 1
 by_cases h:ek b n=k <;> simp[h]
theorem zN{b:List UInt8}{n p:Nat}{k:List UInt8}(h:p∈kd b n k):p<n∧ek b p=k:=by
 unfold kd at h
 simpa using h
theorem nr(b:List UInt8)(n:Nat)(k:List UInt8):(kd b n k).length≤n:=by
 unfold kd
 exact Nat.le_trans (List.length_filter_le _ _) (by simp)
theorem vV(i:Nat):(List.range i).reverse=(List.range' 1 i).map fun d=>i-d:=by
 apply List.ext_getElem
 ·simp
 ·intro j h1 h2
  simp
  omega
theorem jr{α β:Type}(f:β→α→β)(s:β):∀(l:List α),(∀x∈l,∀t,f t x=t)→l.foldl f s=s
 | [],_=>rfl
 |x::l,h=>by
  rw[List.foldl_cons,h x (by simp) s]
  exact jr f s l (fun y hy=>h y (List.mem_cons_of_mem _ hy))
theorem sN{b:List UInt8}{i:Nat}(hi:i+4≤b.length):(kd b i (ek b i)).reverse.foldl (fI b i) (0,0)=a8 b i:=by
 unfold kd a8
 rw[←List.filter_reverse,vV,List.filter_map,List.foldl_map,List.foldl_filter]
 have h1:∀(l:List Nat) (s:Nat×Nat),(∀d∈l,1≤d∧d≤i)→l.foldl (fun s d=>if((fun p=>decide (ek b p=ek b i)) ∘ fun d=>i-d) d=true then fI b i s (i-d)else s) s=l.foldl (fun s d=>if 1024<d then s else gp b i s d) s:=by
  intro l
  induction l with
  |nil=>intro s _;rfl
  |cons d l ih=>
   intro s hd
   simp only[List.foldl_cons]
   rw[ih _ (fun x hx=>hd x (List.mem_cons_of_mem _ hx))]
   congr 1
   obtain⟨hd1,hd2⟩:=hd d (by simp)
   have e:=Aa (p:=i-d) hi (by omega)
   simp only[Function.comp_apply,decide_eq_true_eq]
   unfold fI gp
   rw[show i-(i-d)=d by omega]
   by_cases hk:ek b (i-d)=ek b i
   ·rw[if_pos hk]
    have:=e.1 hk
    split
    ·rfl
    ·by_cases h:s.1<k4 b i (i-d)
     ·rw[if_pos h,if_pos ⟨this,h⟩]
     ·rw[if_neg h,if_neg (fun q=>h q.2)]
   ·rw[if_neg hk]
    split
    ·rfl
    ·rw[if_neg (fun q=>hk (e.2 q.1))]
 rw[h1 _ _ (fun d hd=>by simp at hd;omega)]
 have h2:List.range' 1 i=List.range' 1 (min i 1024)++List.range' (1+min i 1024) (i-min i 1024):=by
  rw[List.range'_append_1]
  congr 1
  omega
 rw[h2,List.foldl_append,jr _ _ (List.range' (1+min i 1024) (i-min i 1024))]
 ·unfold ck
  have h3:∀(l:List Nat) (s:Nat×Nat),(∀d∈l,d≤1024)→l.foldl (fun s d=>if 1024<d then s else gp b i s d) s=l.foldl (gp b i) s:=by
   intro l
   induction l with
   |nil=>intro s _;rfl
   |cons d l ih=>
    intro s hd
    simp only[List.foldl_cons]
    rw[if_neg (by have:=hd d (by simp);omega)]
    exact ih _ (fun x hx=>hd x (List.mem_cons_of_mem _ hx))
  exact h3 _ _ (fun d hd=>by simp at hd;omega)
 ·intro d hd t
  simp at hd
  rw[if_pos (by omega)]
theorem sS(b:List UInt8)(n:Nat)(k:List UInt8):(kd b n k).Pairwise (· <·):=(List.pairwise_lt_range).filter _
theorem vj{b:List UInt8}{i n x:Nat}{k:List UInt8}{pre rest:List Nat}{s:Nat×Nat}(h:(kd b n k).reverse=pre++x::rest)(hx:1024<i-x):(kd b n k).reverse.foldl (fI b i) s=pre.foldl (fI b i) s:=by
 have hs:(pre++x::rest).Pairwise (· >·):=by
  rw[←h,List.pairwise_reverse]
  exact sS b n k
 rw[h,List.foldl_append]
 refine jr _ _ _ fun y hy t=> ?_
 have h1:=(List.pairwise_cons.1 (List.pairwise_append.1 hs).2.1).1
 unfold fI
 rw[if_pos]
 rcases List.mem_cons.1 hy with rfl|hy
 ·exact hx
 ·have:=h1 y hy
  omega
theorem r9{b:List UInt8}{i:Nat}(hi:i≤b.length)(h:b.length<i+4):a8 b i=(0,0):=by
 unfold a8 ck
 refine jr _ _ _ fun d hd t=> ?_
 unfold gp
 rw[if_neg]
 intro q
 have:=xt (i-d) hi
 omega
theorem pI(b:List UInt8)(i:Nat)(hi:i≤b.length):∀k,k≤i→(ck b i k=(0,0))∨(4≤(ck b i k).1∧(ck b i k).1≤131∧1≤(ck b i k).2∧(ck b i k).2≤k∧i+(ck b i k).1≤b.length∧(ck b i k).1=k4 b i (i-(ck b i k).2))
 |0,_=>.inl rfl
 |k+1,hk=>by
  rw[dJ]
  unfold gp
  split
  ·rename_i h
   exact .inr ⟨by show 4≤k4 _ _ _;omega,Cj _ _ _,by show 1≤k+1;omega,Nat.le_refl _,xt _ hi,rfl⟩
  ·rcases pI b i hi k (by omega)with h|h
   ·exact .inl h
   ·exact .inr ⟨h.1,h.2.1,h.2.2.1,by omega,h.2.2.2.2.1,h.2.2.2.2.2⟩
theorem mh{b:List UInt8}{i:Nat}(hi:i≤b.length):(a8 b i=(0,0))∨(4≤(a8 b i).1∧(a8 b i).1≤131∧1≤(a8 b i).2∧(a8 b i).2≤min i 1024∧i+(a8 b i).1≤b.length∧(a8 b i).1=k4 b i (i-(a8 b i).2)):=pI b i hi _ (by omega)
def eV(l:List UInt8):List UInt8:=if h:l=[]then []else UInt8.ofNat (min l.length 128-1)::l.take 128++eV (l.drop 128)
termination_by l.length
decreasing_by
 have:=List.length_pos_iff.2 h
 rw[List.length_drop]
 omega
theorem oF:eV []=[]:=by rw[eV];rfl
theorem mn{l:List UInt8}(h:l≠ []):eV l=UInt8.ofNat (min l.length 128-1)::l.take 128++eV (l.drop 128):=by rw[eV,dif_neg h]
theorem fo(l:List UInt8):(eV l).length≤2*l.length:=by
 by_cases h:l=[]
 ·subst h;rw[oF];simp
 ·have hp:=List.length_pos_iff.2 h
  have hd:(l.drop 128).length=l.length-128:=List.length_drop
  have:=fo (l.drop 128)
  rw[mn h]
  simp only[List.length_append,List.length_cons,List.length_take]
  omega
termination_by l.length
decreasing_by
 rw[List.length_drop]
 have:=List.length_pos_iff.2 h
 omega
def hZ(m:Nat×Nat):List UInt8:=[UInt8.ofNat (124+m.1),UInt8.ofNat (m.2-1),UInt8.ofNat ((m.2-1)/256)]
def gF(b:List UInt8)(i:Nat)(own out:List UInt8):List UInt8:=
 if h:i<b.length then
  if h0:(a8 b i).1=0 then gF b (i+1) (own++[b.getD i 0]) out
  else gF b (i+(a8 b i).1) [] (out++eV own++hZ (a8 b i))
 else out++eV own
termination_by b.length-i
def eD(b:List UInt8):List UInt8:=gF b 0 [] []
theorem me{b own out:List UInt8}{i:Nat}(h:¬i<b.length):gF b i own out=out++eV own:=by rw[gF,dif_neg h]
theorem mH{b own out:List UInt8}{i:Nat}(h:i<b.length)(h0:(a8 b i).1=0):gF b i own out=gF b (i+1) (own++[b.getD i 0]) out:=by rw[gF,dif_pos h,dif_pos h0]
theorem jY{b own out:List UInt8}{i:Nat}(h:i<b.length)(h0:(a8 b i).1≠0):gF b i own out=gF b (i+(a8 b i).1) [] (out++eV own++hZ (a8 b i)):=by rw[gF,dif_pos h,dif_neg h0]
theorem jv:∀(b:List UInt8) (i:Nat) (own out:List UInt8),i≤b.length→out.length+2*own.length≤2*i→(gF b i own out).length≤2*b.length
 |b,i,own,out,hi,h=>by
  by_cases hlt:i<b.length
  ·by_cases h0:(a8 b i).1=0
   ·rw[mH hlt h0]
    exact jv b (i+1) _ _ (by omega) (by simp;omega)
   ·rw[jY hlt h0]
    rcases mh hi with hm|hm
    ·rw[hm]at h0;exact absurd rfl h0
    ·have:=fo own
     exact jv b _ _ _ (by omega) (by simp[hZ];omega)
  ·rw[me hlt,List.length_append]
   have:=fo own
   omega
termination_by b i=>b.length-i
theorem lH(b:List UInt8):(eD b).length≤2*b.length:=jv b 0 [] [] (Nat.zero_le _) (by simp)
end Go.Hx
end
section
namespace Go.Hx
open Go.Eng
def ya(b:List UInt8):Bool:=decide ((eD b).length<b.length)
def nh(b:List UInt8):List UInt8:=if ya b then eD b else b
def b4(b:List UInt8):List UInt8:=[76,if ya b then 1 else 0]++gx b.length++nh b++gx (db b)
theorem qs(b:List UInt8):(nh b).length≤b.length:=by
 unfold nh ya
 split
 ·rename_i h;have:=of_decide_eq_true h;omega
 ·exact Nat.le_refl _
theorem qR(b:List UInt8):(b4 b).length=(nh b).length+10:=by simp[b4,dN];omega
theorem rP(b:List UInt8):10≤(b4 b).length∧(b4 b).length≤b.length+10:=by
 have:=qs b
 rw[qR]
 omega
def ib(f:List UInt8):Option Nat:=if f.length<10∨f.getD 0 0≠76∨1<(f.getD 1 0).toNat then none else some (kB (f.drop 2))
def dH(f:List UInt8):List UInt8:=(f.drop 6).take (f.length-10)
def vY(f:List UInt8)(n:Nat):List UInt8×Int:=if f.getD 1 0=1 then kq n (dH f) []else(dH f,0)
def gn(f:List UInt8)(n:Nat):List UInt8×Int:=
 if(vY f n).2≠0 then([],2)else if(vY f n).1.length≠n then([],2)else if gx (db (vY f n).1)≠f.drop (f.length-4)then([],7)else((vY f n).1,0)
def dg(f:List UInt8)(most:Int):List UInt8×Int:=
 match ib f with
 |none=>([],2)
 |some n=>if most<n then([],3)else gn f n
theorem oL{most:Int}:∀(l o:List UInt8),(o.length:Int)≤most→(((kq most l o).1.length:Int)≤most∨(kq most l o).1=[])∧((kq most l o).2=0∨(kq most l o).2=2∨(kq most l o).2=3)∧((kq most l o).2≠0→(kq most l o).1=[])
 |l,o,hm=>by
  by_cases h0:l=[]
  ·subst h0;rw[qv];exact⟨.inl hm,.inl rfl,fun h=>absurd rfl h⟩
  ·by_cases h1:(cT l).2.2.2=true∧(cT l).2.2.1≤o.length
   ·by_cases h2:most<(o.length:Int)+((cT l).2.1:Nat)
    ·rw[nJ h0 h1.1 h1.2 h2];exact⟨.inr rfl,.inr (.inr rfl),fun _=>rfl⟩
    ·rw[qI h0 h1.1 h1.2 h2]
     exact oL _ _ (by rw[nc h1.1];omega)
   ·rw[kj h0 h1];exact⟨.inr rfl,.inr (.inl rfl),fun _=>rfl⟩
termination_by l=>l.length
decreasing_by
 obtain⟨h2,h3⟩:=kv h1.1
 rw[List.length_drop]
 omega
theorem xg{f:List UInt8}{n:Nat}(h:(gn f n).2=0):(gn f n).1.length=n:=by
 unfold gn at h ⊢
 split at h
 ·cases h
 ·rename_i h1
  rw[if_neg h1]
  split at h
  ·cases h
  ·rename_i h2
   rw[if_neg h2]
   split at h
   ·cases h
   ·rename_i h3
    rw[if_neg h3]
    exact Decidable.not_not.1 h2
theorem v8{f:List UInt8}{n:Nat}(h:(gn f n).2≠0):(gn f n).1=[]:=by
 unfold gn at h ⊢
 split at h
 ·rename_i h1;rw[if_pos h1]
 ·rename_i h1
  rw[if_neg h1]
  split at h
  ·rename_i h2;rw[if_pos h2]
  ·rename_i h2
   rw[if_neg h2]
   split at h
   ·rename_i h3;rw[if_pos h3]
   ·exact absurd rfl h
theorem v7{f:List UInt8}{most:Int}(h:(dg f most).2≠0):(dg f most).1=[]:=by
 unfold dg at h ⊢
 split at h
 ·rfl
 ·rename_i n hn
  split at h
  ·rename_i h1;rw[if_pos h1]
  ·rename_i h1;rw[if_neg h1];exact v8 h
theorem wX{f:List UInt8}{most:Int}(h:(dg f most).2=0):((dg f most).1.length:Int)≤most:=by
 unfold dg at h ⊢
 split at h
 ·cases h
 ·rename_i n hn
  split at h
  ·cases h
  ·rename_i h1;rw[if_neg h1,xg h];omega
theorem mx{f:List UInt8}{most:Int}(hm:0≤most):((dg f most).1.length:Int)≤most:=by
 by_cases h:(dg f most).2=0
 ·exact wX h
 ·rw[v7 h];simpa using hm
end Go.Hx
end
section
namespace Go.Proofs.YtmibdabdlgmafaaGreatDoor
open Go.Eng Go.Hx
def bz(nm:List UInt8):List UInt8:=[99,47]++(b8 nm).take 2++[47]++b8 nm
def cd(nm:List UInt8):List UInt8:=[116,47]++b8 nm
theorem e8{nm:List UInt8}(h:nm.length=32):(bz nm).length=69:=by simp[bz,dI,h]
theorem kM{nm:List UInt8}(h:nm.length=32):(cd nm).length=66:=by simp[cd,dI,h]
theorem sA{nm:List UInt8}(h:nm.length=32):(bz nm).drop 5=b8 nm:=by
 have h2:((b8 nm).take 2).length=2:=by rw[List.length_take,dI,h];rfl
 unfold bz
 rw[List.drop_append_of_le_length (by simp[h2]),List.drop_of_length_le (by simp[h2])]
 rfl
def RD.zR(d:RD)(nm:List UInt8):List UInt8×Int:=dg (d.cR (bz nm)) 4096
def RD.fS(d:RD)(nm:List UInt8):Int:=if d.ef (bz nm)≠0 then d.ef (bz nm)else if(d.zR nm).2≠0∨bF (d.zR nm).1≠nm then 7 else 0
def RD.jd(d:RD)(nm:List UInt8):List UInt8:=if d.fS nm=0 then(d.zR nm).1 else []
theorem ko{d:RD}{nm:List UInt8}(h:d.ef (bz nm)≠0):d.fS nm=d.ef (bz nm):=by unfold RD.fS;rw[if_pos h]
theorem lI{d:RD}{nm:List UInt8}(h:d.ef (bz nm)=0)(h2:(d.zR nm).2≠0∨bF (d.zR nm).1≠nm):d.fS nm=7:=by unfold RD.fS;rw[if_neg (fun q=>q h),if_pos h2]
theorem tZ{d:RD}{nm:List UInt8}(h:d.ef (bz nm)=0)(h2:¬((d.zR nm).2≠0∨bF (d.zR nm).1≠nm)):d.fS nm=0:=by unfold RD.fS;rw[if_neg (fun q=>q h),if_neg h2]
theorem jq{d:RD}{nm:List UInt8}(h:d.fS nm≠0):d.jd nm=[]:=by unfold RD.jd;rw[if_neg h]
theorem nG{d:RD}{nm:List UInt8}(h:d.fS nm=0):d.jd nm=(d.zR nm).1:=by unfold RD.jd;rw[if_pos h]
theorem rC(d:RD)(nm:List UInt8):(d.jd nm).length≤4096:=by
 by_cases h:d.fS nm=0
 ·rw[nG h]
  have:=mx (f:=d.cR (bz nm)) (most:=4096) (by decide)
  unfold RD.zR
  omega
 ·rw[jq h];exact Nat.zero_le _
def iz:List (RD→RD×Int)→RD→RD×Int
 | [],d=>(d,0)
 |f::r,d=>if(f d).2≠0 then f d else iz r (f d).1
def qQ(p b:List UInt8)(d:RD):RD×Int:=(d.write p b,d.bZ p b)
def ld(d:RD):RD×Int:=(d.sync,d.ei)
def qq(a c:List UInt8)(d:RD):RD×Int:=(d.rename a c,d.cw a c)
def dX:List UInt8:=List.replicate 32 0
def RD.jK(d:RD)(b:List UInt8):RD×Int:=iz [qQ (cd (bF b)) (b4 b),ld,qq (cd (bF b)) (bz (bF b)),ld] d
def RD.put(d:RD)(b:List UInt8):RD×List UInt8×Int:=
 if 4096<b.length then(d,dX,3)
 else if d.fS (bF b)=6 then(d,dX,6)
 else if d.fS (bF b)=0 then(d,bF b,0)
 else((d.jK b).1,if(d.jK b).2=0 then bF b else dX,(d.jK b).2)
end Go.Proofs.YtmibdabdlgmafaaGreatDoor
end
section
set_option maxRecDepth 20000
set_option maxHeartbeats 2000000
namespace Go.Proofs.YtmibdabdlgmafaaGreatDoor
open Go.Eng Go.Hx
theorem iJ{a b:List UInt8}(h:a.length+b.length≤1000000):(strOf a).size+(strOf b).size≤9223372036854775807:=by rw[cU,cU];omega
theorem te{nm:List UInt8}(hm:nm.length=32):cj Tryz.prog 94 [.agg (aK nm).toArray] [] [] (fun v_ X_ S_=>v_=(.string (strOf (bz nm)))∧X_=[]∧S_=[]):=by
 have hhl:(b8 nm).length=64:=by rw[dI,hm]
 have h2:((b8 nm).take 2).length=2:=by rw[List.length_take,hhl];rfl
 refine aU (N:=12) Tryz.func94 rfl rfl (by simp) fun b=> ?_
 refine ah<|aj<| ?_
 refine hx (cp rfl (fun g1=> ?_))
 refine aV (fun w m=>m.bQ 0 rfl (show _=aH g1 53 (aK nm)from congrArg (aH _ _) (bq _))) ?_
 refine hy (fun _=>ab rfl)<|ai<|ak (X' :=[_]) (S' :=[]) (fun _ m=>m)<|ag<|ah<|aj<|hy (fun m=>aR rfl b5 bj (by rw[ax];exact hm) ((m.aT 0 rfl).au))<| ?_
 refine hx (aq rfl Tryz.call104 (wH hm) [] rfl [] rfl ?_)
 rintro _ _ _ ⟨rfl,rfl,rfl⟩
 refine hy (fun _=>ab rfl)<|ai<|al (ρ' :=[(3,_),(2,_),(1,_),(0,_)]) ⟨rfl,rfl,rfl,rfl,trivial⟩<|ak (X' :=[_]) (S' :=[]) (fun _ m=>m)<|ag<|ah<|aj<|hy (fun _=>aa rfl)<|hy (fun _=>yV (qP rfl rfl Tryz.underlying9 (show((2:Nat):Int)=2 from rfl) (show 2≤(b8 nm).length by omega)) ((rfl:_=Value.string (strOf ((b8 nm).take 2)))))<|hy (fun _=>yV (iR rfl rfl (iJ (a:=[99,47]) (b:=(b8 nm).take 2) (by simp[h2]))) ((show Value.string (strOf [99,47]++strOf ((b8 nm).take 2))= .string (strOf ([99,47]++(b8 nm).take 2))from congrArg Value.string (dk _ _))))<|hy (fun _=>yV (iR rfl rfl (iJ (a:=[99,47]++(b8 nm).take 2) (b:=[47]) (by simp[h2]))) ((show Value.string (strOf ([99,47]++(b8 nm).take 2)++strOf [47])= .string (strOf ([99,47]++(b8 nm).take 2++[47]))from congrArg Value.string (dk _ _))))<|hy (fun _=>aa rfl)<|hy (fun _=>yV (iR rfl rfl (iJ (a:=[99,47]++(b8 nm).take 2++[47]) (b:=b8 nm) (by simp[h2,hhl]))) ((show Value.string (strOf ([99,47]++(b8 nm).take 2++[47])++strOf (b8 nm))= .string (strOf (bz nm))from congrArg Value.string (dk _ _))))<|hy (fun _=>ab rfl)<|ai<|al (ρ' :=[(2,_),(3,_),(1,_),(0,_)]) ⟨rfl,rfl,rfl,rfl,trivial⟩<|ag<|aQ<| ?_
 exact bd trivial rfl rfl [] rfl [] rfl ⟨rfl,rfl,rfl⟩
theorem nI{nm:List UInt8}(hm:nm.length=32):cj Tryz.prog 29 [.agg (aK nm).toArray] [] [] (fun v_ X_ S_=>v_=(.string (strOf (bz nm)))∧X_=[]∧S_=[]):=by
 have hhl:(b8 nm).length=64:=by rw[dI,hm]
 have h2:((b8 nm).take 2).length=2:=by rw[List.length_take,hhl];rfl
 refine aU (N:=12) Tryz.func29 rfl rfl (by simp) fun b=> ?_
 refine ah<|aj<| ?_
 refine hx (cp rfl (fun g1=> ?_))
 refine aV (fun w m=>m.bQ 0 rfl (show _=aH g1 53 (aK nm)from congrArg (aH _ _) (bq _))) ?_
 refine hy (fun _=>ab rfl)<|ai<|ak (X' :=[_]) (S' :=[]) (fun _ m=>m)<|ag<|ah<|aj<|hy (fun m=>aR rfl b5 bj (by rw[ax];exact hm) ((m.aT 0 rfl).au))<| ?_
 refine hx (aq rfl Tryz.call111 (uH hm) [] rfl [] rfl ?_)
 rintro _ _ _ ⟨rfl,rfl,rfl⟩
 refine hy (fun _=>ab rfl)<|ai<|al (ρ' :=[(3,_),(2,_),(1,_),(0,_)]) ⟨rfl,rfl,rfl,rfl,trivial⟩<|ak (X' :=[_]) (S' :=[]) (fun _ m=>m)<|ag<|ah<|aj<|hy (fun _=>aa rfl)<|hy (fun _=>yV (qP rfl rfl Tryz.underlying9 (show((2:Nat):Int)=2 from rfl) (show 2≤(b8 nm).length by omega)) ((rfl:_=Value.string (strOf ((b8 nm).take 2)))))<|hy (fun _=>yV (iR rfl rfl (iJ (a:=[99,47]) (b:=(b8 nm).take 2) (by simp[h2]))) ((show Value.string (strOf [99,47]++strOf ((b8 nm).take 2))= .string (strOf ([99,47]++(b8 nm).take 2))from congrArg Value.string (dk _ _))))<|hy (fun _=>yV (iR rfl rfl (iJ (a:=[99,47]++(b8 nm).take 2) (b:=[47]) (by simp[h2]))) ((show Value.string (strOf ([99,47]++(b8 nm).take 2)++strOf [47])= .string (strOf ([99,47]++(b8 nm).take 2++[47]))from congrArg Value.string (dk _ _))))<|hy (fun _=>aa rfl)<|hy (fun _=>yV (iR rfl rfl (iJ (a:=[99,47]++(b8 nm).take 2++[47]) (b:=b8 nm) (by simp[h2,hhl]))) ((show Value.string (strOf ([99,47]++(b8 nm).take 2++[47])++strOf (b8 nm))= .string (strOf (bz nm))from congrArg Value.string (dk _ _))))<|hy (fun _=>ab rfl)<|ai<|al (ρ' :=[(2,_),(3,_),(1,_),(0,_)]) ⟨rfl,rfl,rfl,rfl,trivial⟩<|ag<|aQ<| ?_
 exact bd trivial rfl rfl [] rfl [] rfl ⟨rfl,rfl,rfl⟩
end Go.Proofs.YtmibdabdlgmafaaGreatDoor
end
section
set_option maxRecDepth 20000
namespace Go.Proofs.YtmibdabdlgmafaaGreatDoor
open Go.Eng Go.Hx
theorem CK{g:Nat}{st:c7}{d:RD}{kk:Nat}{p:List UInt8}(hD:DS st d kk):cj Tryz.prog 90 [.pointer (some ⟨g,0,none⟩),.string (strOf p)] [bM g st] [] (fun v_ X_ S_=>∃v,v_=(.tuple #[v,.int .i64 (d.ef p)])∧X_=[bM g st,aF 5 1 v (d.cR p).length (aK (d.cR p))]∧S_=[]):=by
 rw[hD.ef,hD.cR]
 exact Ea hD.ok.sm
theorem u0{g:Nat}{st:c7}{d:RD}{kk:Nat}{p:List UInt8}{A:Option Addr}{n c:Nat}{l:List UInt8}(hD:DS st d kk)(hkk:kk≤99000)(hl:l.length=n)(hn:n≤1048576):cj Tryz.prog 33 [.pointer (some ⟨g,0,none⟩),.string (strOf p),.slice A n c] [bM g st] [dw 1 A n (aK l)] (fun v_ X_ S_=>∃st1,v_=(.int .i64 (d.bZ p l))∧X_=[bM g st1]∧S_=[]∧(DS st1 (d.write p l) (kk+1))):=by
 exact cj.mono (Bx hD.ok (by omega) hn) (fun v X S h=>by
  obtain⟨st1,B,c1,A1,c2,h1,h2,h3,hw⟩:=h
  have hW:=hD.write hl hn hw
  exact⟨st1,by rw[hW.2];exact h1,h2,h3,hW.1⟩)
theorem CW{g:Nat}{st:c7}{d:RD}{kk:Nat}(hD:DS st d kk):cj Tryz.prog 110 [.pointer (some ⟨g,0,none⟩)] [bM g st] [] (fun v_ X_ S_=>∃st1,v_=(.int .i64 d.ei)∧X_=[bM g st1]∧S_=[]∧(DS st1 d.sync kk)):=by
 exact cj.mono (DO hD.ok) (fun v X S h=>by
  obtain⟨st1,gl,h1,h2,h3,hw⟩:=h
  have hW:=hD.sync hw
  exact⟨st1,by rw[hW.2];exact h1,h2,h3,hW.1⟩)
theorem xL{g:Nat}{st:c7}{d:RD}{kk:Nat}{a c:List UInt8}(hD:DS st d kk)(hkk:kk≤99000):cj Tryz.prog 108 [.pointer (some ⟨g,0,none⟩),.string (strOf a),.string (strOf c)] [bM g st] [] (fun v_ X_ S_=>∃st1,v_=(.int .i64 (d.cw a c))∧X_=[bM g st1]∧S_=[]∧(DS st1 (d.rename a c) (kk+1))):=by
 exact cj.mono (Ab hD.ok (by omega)) (fun v X S h=>by
  obtain⟨st1,A,j,h1,h2,h3,hw⟩:=h
  have hW:=hD.rename hw
  exact⟨st1,by rw[hW.2];exact h1,h2,h3,hW.1⟩)
theorem DS.tz{st:c7}{d:RD}{kk:Nat}(h:DS st d kk)(p:List UInt8):(d.cR p).length≤1048576:=by
 rw[h.cR]
 by_cases he:er st p=0
 ·obtain⟨r,hr⟩:=si he
  rw[sD he hr]
  have h1:=h.ok.small r (List.mem_append_left _ (List.mem_append_left _ (List.mem_map.2 ⟨_,jg hr,rfl⟩)))
  have h2:r.n=r.l.length:=h.pe.files.len _ (jg hr)
  omega
 ·rw[sn he];exact Nat.zero_le _
end Go.Proofs.YtmibdabdlgmafaaGreatDoor
end
section
set_option maxRecDepth 20000
namespace Go.Proofs.YtmibdabdlgmafaaGreatDoor
open Go.Eng Go.Hx
@[reducible]def mc (k s:Int) (nm:List UInt8) (v:Value):List Value:=.int .i64 k:: .int .i64 s::(aK nm++[v])
theorem bH{k s:Int}{nm:List UInt8}{v:Value}(h:nm.length=32):(mc k s nm v).length=35:=by simp[ax,h]
theorem eu{k s:Int}{nm:List UInt8}{v:Value}(hv:v.oneCell' =true):∀u∈mc k s nm v,u.oneCell' =true:=by
 intro u hu
 rcases List.mem_cons.1 hu with rfl|hu
 ·rfl
 ·rcases List.mem_cons.1 hu with rfl|hu
  ·rfl
  ·exact Dd hv u hu
theorem BZ{k s:Int}{nm:List UInt8}{v:Value}(h:nm.length=32):(mc k s nm v)[34]? =some v:=by
 show(aK nm++[v])[32]? =_
 rw[List.getElem?_append_right (by rw[ax,h];exact Nat.le_refl _),ax,h];rfl
theorem wx{k s:Int}{nm:List UInt8}{u v:Value}(h:nm.length=32):(mc k s nm u).set 34 v=mc k s nm v:=by
 show _::_::(aK nm++[u]).set 32 v=_
 rw[D5 h]
theorem uK{w:World}{g:Nat}{t:TypeId}{k s:Int}{nm:List UInt8}{v:Value}(h:eP w g t (mc k s nm v)):∀(j:Nat) (u:Value),(aK nm)[j]? =some u→w.cell? (((⟨g,0,none⟩:Addr).add 2).add j)=some u:=
 h.part 2 (fun j u hu=>by rw[Nat.add_comm];show(aK nm++[v])[j]? =_;rw[List.getElem?_append_left (List.getElem?_eq_some_iff.1 hu).1];exact hu)
theorem s9{w:World}{g:Nat}{t:TypeId}{k s:Int}{nm:List UInt8}{v:Value}(h:eP w g t (mc k s nm v))(hn:nm.length=32):w.cell? ((⟨g,0,none⟩:Addr).add 34)=some v:=h.lU (BZ hn)
theorem py{k s:Int}{zi nm:List UInt8}{z:Value}(hz:zi.length=32)(hn:nm.length=32):bR (mc k s zi z) 2 (aK nm)=mc k s nm z:=by
 simp only[bR,List.take_succ_cons,List.take_zero,List.cons_append,List.nil_append,ax,hn,mc]
 congr 2
 show aK nm++(aK zi++[z]).drop 32=_
 rw[List.drop_append,List.drop_of_length_le (by rw[ax,hz];omega),ax,hz]
 rfl
theorem EY{P:Program}{pl:Nat→Option (Nat×Nat)}{zi nm:List UInt8}{z:Value}{k0 k s:Int}(h0:pl 0=some (0,1))(h2:pl 2=some (2,32))(hz:zi.length=32)(hn:nm.length=32):sX P pl (mc k0 s zi z) [(0,.int .i64 k),(2,.agg (aK nm).toArray)] (mc k s nm z):=
 .cons h0 rfl rfl (by rw[bH hz];decide) (.cons h2 (bq _) (by rw[ax,hn]) (show 34≤(mc k s zi z).length by rw[bH hz];decide) (by show sX P pl (bR (mc k s zi z) 2 (aK nm)) _ _;rw[py hz hn];exact .nil))
theorem DH{P:Program}{pl:Nat→Option (Nat×Nat)}{zi nm:List UInt8}{z:Value}{k0 s0 k s:Int}(h0:pl 0=some (0,1))(h1:pl 1=some (1,1))(h2:pl 2=some (2,32))(hz:zi.length=32)(hn:nm.length=32):sX P pl (mc k0 s0 zi z) [(0,.int .i64 k),(1,.int .i64 s),(2,.agg (aK nm).toArray)] (mc k s nm z):=
 .cons h0 rfl rfl (by rw[bH hz];decide) (.cons h1 rfl rfl (show 2≤(mc k s0 zi z).length by rw[bH hz];decide) (.cons h2 (bq _) (by rw[ax,hn]) (show 34≤(mc k s zi z).length by rw[bH hz];decide) (by show sX P pl (bR (mc k s zi z) 2 (aK nm)) _ _;rw[py hz hn];exact .nil)))
def gK(k s:Int)(n:Nat):Prop:=(1≤k∧k≤3∧0≤s∧s≤4294967295)∧(n=0∨(k=2∧n≤4106))
instance(k s:Int)(n:Nat):Decidable (gK k s n):=by unfold gK;infer_instance
theorem nB{k s:Int}{nm:List UInt8}{A:Option Addr}{n c:Nat}(hm:nm.length=32):cj Tryz.prog 191 [.agg (mc k s nm (.slice A n c)).toArray] [] [] (fun v_ X_ S_=>v_=(.bool (decide (gK k s n)))∧X_=[]∧S_=[]):=by
 refine aU (N:=36) Tryz.func191 rfl rfl (by simp) fun b=> ?_
 refine ah<|aj<| ?_
 refine hx (cp rfl (fun g1=> ?_))
 refine aV (fun w m=>m.bQ 0 rfl (show _=aH g1 198 (mc k s nm (.slice A n c))from congrArg (aH _ _) (bq _))) ?_
 by_cases h1:k<1
 ·refine hy (fun _=>ab rfl)<|ai<|ak (X' :=[_]) (S' :=[]) (fun _ m=>m)<|ag<|ah<|ah<|aj<|hy (fun _=>aI rfl de (by decide))<|hy (fun m=>av rfl dV (aB (m.aT 0 rfl) rfl))<|hy (fun _=>yT (bk rfl rfl) ((decide_eq_true h1)))<|hy (fun _=>aa rfl)<|a6 rfl rfl rfl (by decide)<|a6 rfl rfl rfl (by decide)<|a6 rfl rfl rfl (by decide)<|hy (fun _=>bo rfl rfl)<|hy (fun _=>aa rfl)<|a6 rfl rfl rfl (by decide)<|a6 rfl rfl rfl (by decide)<|a6 rfl rfl rfl (by decide)<|hy (fun _=>bo rfl rfl)<|hy (fun _=>aa rfl)<|a6 rfl rfl rfl (by decide)<|a6 rfl rfl rfl (by decide)<|a6 rfl rfl rfl (by decide)<|hy (fun _=>bo rfl rfl)<|ai<|al (ρ' :=[(20,_),(2,_),(1,_),(0,_)]) ⟨rfl,rfl,rfl,rfl,trivial⟩<|ag<| ?_
  refine fe rfl (rfl) ?_
  refine ah<|aj<|hy (fun _=>ab rfl)<|ai<|ag<|aQ<|ay<| ?_
  exact bd trivial rfl rfl [] rfl [] rfl ⟨(congrArg Value.bool (decide_eq_false (fun h=>by unfold gK at h;omega)).symm),rfl,rfl⟩
 ·by_cases h2:3<k
  ·refine hy (fun _=>ab rfl)<|ai<|ag<|ah<|ah<|aj<|hy (fun _=>aI rfl de (by decide))<|hy (fun m=>av rfl dV (aB (m.aT 0 rfl) rfl))<|hy (fun _=>yF (bk rfl rfl) ((decide_eq_false h1)))<|hy (fun _=>aa rfl)<|ca (o:=_) rfl rfl rfl (fun _=>aI rfl de (by decide))<|ca (o:=_) rfl rfl rfl (fun m=>av rfl dV (aB (m.aT 0 rfl) rfl))<|ca (o:=_) rfl rfl rfl (fun _=>yT (cF rfl rfl) ((decide_eq_true h2)))<|hy (fun _=>a7 rfl rfl)<|hy (fun _=>aa rfl)<|a6 rfl rfl rfl (by decide)<|a6 rfl rfl rfl (by decide)<|a6 rfl rfl rfl (by decide)<|hy (fun _=>bo rfl rfl)<|hy (fun _=>aa rfl)<|a6 rfl rfl rfl (by decide)<|a6 rfl rfl rfl (by decide)<|a6 rfl rfl rfl (by decide)<|hy (fun _=>bo rfl rfl)<|ai<|al (ρ' :=[(20,_),(2,_),(1,_),(0,_)]) ⟨rfl,rfl,rfl,rfl,trivial⟩<|ag<| ?_
   refine fe rfl (rfl) ?_
   refine ah<|aj<|hy (fun _=>ab rfl)<|ai<|ag<|aQ<|ay<| ?_
   exact bd trivial rfl rfl [] rfl [] rfl ⟨(congrArg Value.bool (decide_eq_false (fun h=>by unfold gK at h;omega)).symm),rfl,rfl⟩
  ·by_cases h3:s<0
   ·refine hy (fun _=>ab rfl)<|ai<|ag<|ah<|ah<|aj<|hy (fun _=>aI rfl de (by decide))<|hy (fun m=>av rfl dV (aB (m.aT 0 rfl) rfl))<|hy (fun _=>yF (bk rfl rfl) ((decide_eq_false h1)))<|hy (fun _=>aa rfl)<|ca (o:=_) rfl rfl rfl (fun _=>aI rfl de (by decide))<|ca (o:=_) rfl rfl rfl (fun m=>av rfl dV (aB (m.aT 0 rfl) rfl))<|ca (o:=_) rfl rfl rfl (fun _=>yF (cF rfl rfl) ((decide_eq_false h2)))<|hy (fun _=>a7 rfl rfl)<|hy (fun _=>aa rfl)<|ca (o:=_) rfl rfl rfl (fun _=>aI rfl gh (by decide))<|ca (o:=_) rfl rfl rfl (fun m=>av rfl dV (aB (m.aT 0 rfl) rfl))<|ca (o:=_) rfl rfl rfl (fun _=>yT (bk rfl rfl) ((decide_eq_true h3)))<|hy (fun _=>a7 rfl rfl)<|hy (fun _=>aa rfl)<|a6 rfl rfl rfl (by decide)<|a6 rfl rfl rfl (by decide)<|a6 rfl rfl rfl (by decide)<|hy (fun _=>bo rfl rfl)<|ai<|al (ρ' :=[(20,_),(2,_),(1,_),(0,_)]) ⟨rfl,rfl,rfl,rfl,trivial⟩<|ag<| ?_
    refine fe rfl (rfl) ?_
    refine ah<|aj<|hy (fun _=>ab rfl)<|ai<|ag<|aQ<|ay<| ?_
    exact bd trivial rfl rfl [] rfl [] rfl ⟨(congrArg Value.bool (decide_eq_false (fun h=>by unfold gK at h;omega)).symm),rfl,rfl⟩
   ·by_cases h4:4294967295<s
    ·refine hy (fun _=>ab rfl)<|ai<|ag<|ah<|ah<|aj<|hy (fun _=>aI rfl de (by decide))<|hy (fun m=>av rfl dV (aB (m.aT 0 rfl) rfl))<|hy (fun _=>yF (bk rfl rfl) ((decide_eq_false h1)))<|hy (fun _=>aa rfl)<|ca (o:=_) rfl rfl rfl (fun _=>aI rfl de (by decide))<|ca (o:=_) rfl rfl rfl (fun m=>av rfl dV (aB (m.aT 0 rfl) rfl))<|ca (o:=_) rfl rfl rfl (fun _=>yF (cF rfl rfl) ((decide_eq_false h2)))<|hy (fun _=>a7 rfl rfl)<|hy (fun _=>aa rfl)<|ca (o:=_) rfl rfl rfl (fun _=>aI rfl gh (by decide))<|ca (o:=_) rfl rfl rfl (fun m=>av rfl dV (aB (m.aT 0 rfl) rfl))<|ca (o:=_) rfl rfl rfl (fun _=>yF (bk rfl rfl) ((decide_eq_false h3)))<|hy (fun _=>a7 rfl rfl)<|hy (fun _=>aa rfl)<|ca (o:=_) rfl rfl rfl (fun _=>aI rfl gh (by decide))<|ca (o:=_) rfl rfl rfl (fun m=>av rfl dV (aB (m.aT 0 rfl) rfl))<|ca (o:=_) rfl rfl rfl (fun _=>yT (cF rfl rfl) ((decide_eq_true h4)))<|hy (fun _=>a7 rfl rfl)<|ai<|al (ρ' :=[(20,_),(2,_),(1,_),(0,_)]) ⟨rfl,rfl,rfl,rfl,trivial⟩<|ag<| ?_
     refine fe rfl (rfl) ?_
     refine ah<|aj<|hy (fun _=>ab rfl)<|ai<|ag<|aQ<|ay<| ?_
     exact bd trivial rfl rfl [] rfl [] rfl ⟨(congrArg Value.bool (decide_eq_false (fun h=>by unfold gK at h;omega)).symm),rfl,rfl⟩
    ·refine hy (fun _=>ab rfl)<|ai<|ag<|ah<|ah<|aj<|hy (fun _=>aI rfl de (by decide))<|hy (fun m=>av rfl dV (aB (m.aT 0 rfl) rfl))<|hy (fun _=>yF (bk rfl rfl) ((decide_eq_false h1)))<|hy (fun _=>aa rfl)<|ca (o:=_) rfl rfl rfl (fun _=>aI rfl de (by decide))<|ca (o:=_) rfl rfl rfl (fun m=>av rfl dV (aB (m.aT 0 rfl) rfl))<|ca (o:=_) rfl rfl rfl (fun _=>yF (cF rfl rfl) ((decide_eq_false h2)))<|hy (fun _=>a7 rfl rfl)<|hy (fun _=>aa rfl)<|ca (o:=_) rfl rfl rfl (fun _=>aI rfl gh (by decide))<|ca (o:=_) rfl rfl rfl (fun m=>av rfl dV (aB (m.aT 0 rfl) rfl))<|ca (o:=_) rfl rfl rfl (fun _=>yF (bk rfl rfl) ((decide_eq_false h3)))<|hy (fun _=>a7 rfl rfl)<|hy (fun _=>aa rfl)<|ca (o:=_) rfl rfl rfl (fun _=>aI rfl gh (by decide))<|ca (o:=_) rfl rfl rfl (fun m=>av rfl dV (aB (m.aT 0 rfl) rfl))<|ca (o:=_) rfl rfl rfl (fun _=>yF (cF rfl rfl) ((decide_eq_false h4)))<|hy (fun _=>a7 rfl rfl)<|ai<|al (ρ' :=[(20,_),(2,_),(1,_),(0,_)]) ⟨rfl,rfl,rfl,rfl,trivial⟩<|ag<| ?_
     refine dx rfl (rfl) ?_
     by_cases h5:n=0
     ·refine aC<|ag<|ah<|aj<|hy (fun _=>aI rfl iK (by decide))<|hy (fun m=>av rfl dO (s9 (m.aT 0 rfl) hm))<|hy (fun _=>aX rfl Tryz.underlying27)<|hy (fun _=>yT (cy rfl rfl) ((decide_eq_true (by omega))))<|hy (fun _=>aa rfl)<|a6 rfl rfl rfl (by decide)<|a6 rfl rfl rfl (by decide)<|a6 rfl rfl rfl (by decide)<|a6 rfl rfl rfl (by decide)<|qA rfl rfl rfl<|qA rfl rfl rfl<|qA rfl rfl rfl<|qA rfl rfl rfl<|a6 rfl rfl rfl (by decide)<|hy (fun _=>bo rfl rfl)<|hy (fun _=>ab rfl)<|ai<|al (ρ' :=[(2,_),(20,_),(1,_),(0,_)]) ⟨rfl,rfl,rfl,rfl,trivial⟩<|ag<|aQ<| ?_
      exact bd trivial rfl rfl [] rfl [] rfl ⟨(congrArg Value.bool (decide_eq_true ⟨by omega,.inl h5⟩).symm),rfl,rfl⟩
     ·by_cases h6:k=2
      ·refine aC<|ag<|ah<|aj<|hy (fun _=>aI rfl iK (by decide))<|hy (fun m=>av rfl dO (s9 (m.aT 0 rfl) hm))<|hy (fun _=>aX rfl Tryz.underlying27)<|hy (fun _=>yF (cy rfl rfl) ((decide_eq_false (by omega))))<|hy (fun _=>aa rfl)<|ca (o:=_) rfl rfl rfl (fun _=>aI rfl de (by decide))<|ca (o:=_) rfl rfl rfl (fun m=>av rfl dV (aB (m.aT 0 rfl) rfl))<|ca (o:=_) rfl rfl rfl (fun _=>yT (cy rfl rfl) ((decide_eq_true h6)))<|ca (o:=_) rfl rfl rfl (fun _=>aa rfl)<|ca (o:=_) rfl rfl rfl (fun _=>aI rfl iK (by decide))<|ca (o:=_) rfl rfl rfl (fun m=>av rfl dO (s9 (m.aT 0 rfl) hm))<|ca (o:=_) rfl rfl rfl (fun _=>aX rfl Tryz.underlying27)<|ca (o:=_) rfl rfl rfl (fun _=>lA rfl rfl)<|ca (o:=_) rfl rfl rfl (fun _=>bo rfl rfl)<|hy (fun _=>a7 rfl rfl)<|hy (fun _=>ab rfl)<|ai<|al (ρ' :=[(2,_),(20,_),(1,_),(0,_)]) ⟨rfl,rfl,rfl,rfl,trivial⟩<|ag<|aQ<| ?_
       exact bd trivial rfl rfl [] rfl [] rfl ⟨(congrArg Value.bool (decide_eq_decide.2 ⟨fun h=>⟨by omega,.inr ⟨h6,by omega⟩⟩,fun h=>by unfold gK at h;omega⟩)),rfl,rfl⟩
      ·refine aC<|ag<|ah<|aj<|hy (fun _=>aI rfl iK (by decide))<|hy (fun m=>av rfl dO (s9 (m.aT 0 rfl) hm))<|hy (fun _=>aX rfl Tryz.underlying27)<|hy (fun _=>yF (cy rfl rfl) ((decide_eq_false (by omega))))<|hy (fun _=>aa rfl)<|ca (o:=_) rfl rfl rfl (fun _=>aI rfl de (by decide))<|ca (o:=_) rfl rfl rfl (fun m=>av rfl dV (aB (m.aT 0 rfl) rfl))<|ca (o:=_) rfl rfl rfl (fun _=>yF (cy rfl rfl) ((decide_eq_false h6)))<|ca (o:=_) rfl rfl rfl (fun _=>aa rfl)<|a6 rfl rfl rfl (by decide)<|a6 rfl rfl rfl (by decide)<|a6 rfl rfl rfl (by decide)<|a6 rfl rfl rfl (by decide)<|ca (o:=_) rfl rfl rfl (fun _=>a7 rfl rfl)<|hy (fun _=>a7 rfl rfl)<|hy (fun _=>ab rfl)<|ai<|al (ρ' :=[(2,_),(20,_),(1,_),(0,_)]) ⟨rfl,rfl,rfl,rfl,trivial⟩<|ag<|aQ<| ?_
       exact bd trivial rfl rfl [] rfl [] rfl ⟨(congrArg Value.bool (decide_eq_false (fun h=>by unfold gK at h;omega)).symm),rfl,rfl⟩
theorem Rd.part{w:World}{a:Addr}{n k m:Nat}{B:List UInt8}(h:Rd w 1 (some a) n (aK B)):∀(j:Nat) (u:Value),(aK ((B.drop k).take m))[j]? =some u→w.cell? ((a.add k).add j)=some u:=by
 intro j u hu
 rw[add_add]
 refine h.cell ?_
 unfold aK at hu ⊢
 rw[List.getElem?_map,List.getElem?_take]at hu
 rw[List.getElem?_map]
 split at hu
 ·rw[List.getElem?_drop]at hu;exact hu
 ·simp at hu
def wj(B:List UInt8):Int:=((B.getD 0 0).toNat:Nat)
def ws(B:List UInt8):Nat:=kB ((B.drop 1).take 4)
def Cf(B:List UInt8):Prop:=37≤B.length∧gK (wj B) (ws B) (B.length-37)
def zm:List UInt8:=List.replicate 32 0
def ReadW(l:List UInt8)(k s:Int)(nm body:List UInt8)(err:Int):Prop:=
 (fJ l≠0∧k=0∧s=0∧nm=zm∧body=[]∧err=fJ l)∨
 (fJ l=0∧Cf (cx l)∧k=wj (cx l)∧s=ws (cx l)∧nm=((cx l).drop 5).take 32∧body=(cx l).drop 37∧err=0)∨
 (fJ l=0∧¬Cf (cx l)∧k=0∧s=0∧nm=zm∧body=[]∧err=2)
theorem xQ{A:Option Addr}{n c:Nat}{l:List UInt8}(hc:n≤c)(hn:n≤1000000):cj Tryz.prog 124 [.slice A n c] [] [dw 1 A n (aK l)] (fun v_ X_ S_=>∃k s nm body v err bn,v_=(.tuple #[.agg (mc k s nm v).toArray,.int .i64 err])∧X_=[aF 5 1 v bn (aK body)]∧S_=[]∧(nm.length=32∧body.length=bn∧ReadW l k s nm body err)):=by
 have z32:zm.length=32:=by simp[zm]
 refine aU (N:=53) Tryz.func124 rfl rfl (by simp) fun b=> ?_
 refine ba (fun m=>fG (m.rd 0 rfl)) ?_
 rintro⟨hl_r,hA_r⟩
 refine ah<|aj<| ?_
 refine hx (aJ fD (fun g2=> ?_))
 refine hy (fun _=>ab rfl)<|ai<|ak (X' :=[_]) (S' :=[_]) (fun _ m=>m)<|ag<|ah<|aj<|hy (fun _=>aa rfl)<| ?_
 refine hx (aq rfl Tryz.call190 (wV (by omega) (by omega)) [] rfl [0] rfl ?_)
 rintro _ _ _ ⟨v,rfl,rfl,rfl⟩
 refine aw (fun m=>(m.own 0 rfl).slice) ?_
 rintro⟨A_x,c_x,rfl,hc_x⟩
 refine aw (fun m=>(m.ord 0 rfl).2.1) fun hA_x=> ?_
 refine hy (fun _=>aa rfl)<|hy (fun _=>ao rfl rfl)<|hy (fun _=>ao rfl rfl)<|hy (fun _=>ab rfl)<|hy (fun _=>ab rfl)<|ai<|al (ρ' :=[(5,_),(4,_),(3,_),(2,_),(0,_)]) ⟨rfl,rfl,rfl,rfl,rfl,trivial⟩<|ak (X' :=[_,_]) (S' :=[_]) (fun _ m=>m)<|ag<|ah<|ah<|aj<|hy (fun _=>aa rfl)<|hy (fun _=>cM rfl rfl)<|ai<|al (ρ' :=[(14,_),(5,_),(4,_),(3,_),(2,_),(0,_)]) ⟨rfl,rfl,rfl,rfl,rfl,rfl,trivial⟩<|ag<| ?_
 refine cI rfl (fun h=> ?_) (fun h=> ?_)
 ·refine ah<|aj<|hy (fun _=>cK fD rfl (by kernel_rfl))<|hy (fun _=>aa rfl)<| ?_
  refine cN (aG 1 rfl rfl rfl cB (bH z32) (eu (v:=.slice none 0 0) rfl) rfl ?_)
  refine hy (fun _=>ab rfl)<|ai<|al (ρ' :=[(3,_),(14,_),(5,_),(4,_),(2,_),(0,_)]) ⟨rfl,rfl,rfl,rfl,rfl,rfl,trivial⟩<|ak (X' :=[_,_]) (S' :=[_]) (fun _ m=>m)<|ag<|aQ<|ay<| ?_
  refine ak (fun w m=>m.cL (r' :=aF 5 1 (.slice none 0 0) 0 []) (.refl _ _) (Own.nil _ _ _ _) (fun k hk=>hk.elim)) ?_
  exact c6 trivial rfl rfl rfl dP cB (bH z32) (fun m=>(m.aT 1 rfl).au) [0] rfl [] rfl ⟨_,_,_,[],_,_,_,rfl,rfl,rfl,⟨z32,rfl,.inl ⟨h,rfl,rfl,rfl,rfl,rfl⟩⟩⟩
 ·have h0:=Decidable.not_not.1 h
  have hn4:4≤n:=by
   rcases Nat.lt_or_ge l.length 4 with hlt|hge
   ·rw[(uV hlt).1]at h0;omega
   ·omega
  have hB:cx l=l.take (l.length-4):=by rw[cx,if_pos h0]
  have hbl:=vI h0
  generalize hBB:cx l=B at hB hbl hc_x hA_x ⊢
  have hbad:¬Cf B→ReadW l 0 0 zm [] 2:=fun hb=>.inr (.inr ⟨h0,by rw[hBB];exact hb,rfl,rfl,rfl,rfl,rfl⟩)
  have hok:Cf B→ReadW l (wj B) (ws B) ((B.drop 5).take 32) (B.drop 37) 0:=fun hb=>.inr (.inl ⟨h0,by rw[hBB];exact hb,by rw[hBB],by rw[hBB],by rw[hBB],by rw[hBB],rfl⟩)
  refine aC<|ag<|ah<|ah<|aj<|hy (fun _=>aa rfl)<|hy (fun _=>aX rfl Tryz.underlying27)<|hy (fun _=>bk rfl rfl)<|ai<|al (ρ' :=[(19,_),(14,_),(5,_),(4,_),(3,_),(2,_),(0,_)]) ⟨rfl,rfl,rfl,rfl,rfl,rfl,rfl,trivial⟩<|ag<| ?_
  refine cI rfl (fun h5=> ?_) (fun h5=> ?_)
  ·refine ah<|aj<|hy (fun _=>cK fD rfl (by kernel_rfl))<| ?_
   refine cN (aG 1 rfl rfl rfl cB (bH z32) (eu (v:=.slice none 0 0) rfl) rfl ?_)
   refine hy (fun _=>ab rfl)<|ai<|al (ρ' :=[(3,_),(19,_),(14,_),(5,_),(4,_),(2,_),(0,_)]) ⟨rfl,rfl,rfl,rfl,rfl,rfl,rfl,trivial⟩<|ak (X' :=[_,_]) (S' :=[_]) (fun _ m=>m)<|ag<|aQ<|ay<| ?_
   refine ak (fun w m=>m.cL (r' :=aF 5 1 (.slice none 0 0) 0 []) (.refl _ _) (Own.nil _ _ _ _) (fun k hk=>hk.elim)) ?_
   exact c6 trivial rfl rfl rfl dP cB (bH z32) (fun m=>(m.aT 1 rfl).au) [0] rfl [] rfl ⟨_,_,_,[],_,_,_,rfl,rfl,rfl,⟨z32,rfl,hbad (fun hb=>by have:=hb.1;omega)⟩⟩
  ·have h37:37≤B.length:=by omega
   have hnl:((B.drop 5).take 32).length=32:=by rw[List.length_take,List.length_drop];omega
   refine ba (fun m=>(m.ord 0 rfl).some (by omega)) fun h_=> ?_
   obtain⟨a,rfl⟩:∃a_,A_x=some a_:=⟨_,h_⟩
   clear h_
   refine aC<|ag<|ah<|cV [9,10] [(0,some 1),(1,some 1),(2,some 1),(3,some 1),(4,some 1),(5,some 1),(6,some 1),(7,some 1),(8,some 1),(9,none),(10,none)] (by kernel_rfl) (by kernel_rfl) rfl 1<|an (aa rfl)<|an (aL rfl rfl Tryz.underlying27 dE hA_x (show((0:Nat):Int)=0 from rfl) (by omega))<|cn (fun m=>av rfl iy ((m.ord 0 rfl).cell (bC (by omega))))<|an (bJ rfl Tryz.underlying5 Tryz.underlying3 (wm _))<|an (aa rfl)<|an (yV (en rfl rfl rfl Tryz.underlying27 dE (show((5:Nat):Int)=5 from rfl) (show((37:Nat):Int)=37 from rfl) (by omega) (by omega)) ((show Value.slice (if c_x=5 then some a else(some a).map (·.add (5*1))) (37-5) (c_x-5)= .slice (some (a.add 5)) 32 (c_x-5) by rw[if_neg (by omega)];rfl)))<|an (lW rfl Tryz.underlying53 (by omega))<|cn (fun m=>yV (aR rfl b5 bj (by rw[ax];exact hnl) (Rd.part (m.ord 0 rfl))) ((rfl:Value.agg _= .agg (aK ((B.drop 5).take 32)).toArray)))<|an (cD fD rfl rfl (by kernel_rfl) (EY (k0:=0) (s:=0) (zi:=zm) (z:=.slice none 0 0) uR u7 z32 hnl))<| ?_
   refine eK (aJ fD (fun g6=>⟨(fun _=>wk [1,1] [0] rfl rfl), ?_⟩))
   refine ja (aG 0 rfl rfl rfl cB (bH hnl) (eu (v:=.slice none 0 0) rfl) rfl ⟨(fun h=>absurd h (by decide)), ?_⟩)
   refine jW (fun w m=>m.bQ 0 rfl (show _=aH g6 198 (mc (wj B) ((acc ((B.drop 1).take 4) 0:Nat):Int) ((B.drop 5).take 32) (.slice none 0 0))from rfl)) ?_
   refine bE<|al (ρ' :=[(6,_),(19,_),(14,_),(5,_),(4,_),(3,_),(2,_),(0,_)]) ⟨rfl,rfl,rfl,rfl,rfl,rfl,rfl,rfl,trivial⟩<|ak (X' :=[_,_,_]) (S' :=[_]) (fun _ m=>m)<|ag<|ah<|ah<|aj<|hy (fun _=>ab rfl)<|ai<|ag<|aN<| ?_
   refine dA (fun j=>4-j) (fun j=>[(7,.int .i64 (4-(j:Int)))]) (fun j=>[aH g6 198 (mc (wj B) ((acc ((B.drop 1).take 4) j:Nat):Int) ((B.drop 5).take 32) (.slice none 0 0))]) (fun j=>[]) (fun j=>j≤4) 0 [(6,_),(19,_),(14,_),(5,_),(4,_),(3,_),(2,_),(0,_)] ⟨rfl,rfl,rfl,rfl,rfl,rfl,rfl,rfl,trivial⟩ [0] rfl [] rfl (Nat.zero_le _) ⟨rfl,trivial⟩ (fun j hI=> ?_)
   refine ah<|ah<|aj<|hy (fun _=>aa rfl)<|hy (fun _=>cF rfl rfl)<|ai<|al (ρ' :=[(31,_),(7,_),(6,_),(19,_),(14,_),(5,_),(4,_),(3,_),(2,_),(0,_)]) ⟨rfl,rfl,rfl,rfl,rfl,rfl,rfl,rfl,rfl,rfl,trivial⟩<|ag<| ?_
   refine cI rfl (fun hj=> ?_) (fun hj=> ?_)
   ·have hl4:((B.drop 1).take 4).length=4:=by rw[List.length_take,List.length_drop];omega
    have hac:=yx ((B.drop 1).take 4) (show j≤4 by omega)
    have hby:(((B.drop 1).take 4).getD (3-j) 0).toNat<256:=UInt8.toNat_lt _
    have hget:B.getD (4-j) 0=((B.drop 1).take 4).getD (3-j) 0:=by
     simp only[List.getD,List.getElem?_take,List.getElem?_drop]
     rw[if_pos (by omega),show 1+(3-j)=4-j by omega]
    refine aC<|ag<|ah<|aN<|cV [10] [(0,some 0),(1,some 0),(2,some 0),(3,some 0),(4,some 0),(5,some 0),(6,some 0),(7,some 0),(8,some 0),(9,some 0),(10,none)] (by kernel_rfl) (by kernel_rfl) rfl 0<|an (aI rfl gh (by decide))<|cn (fun m=>av rfl dV (aB (m.aT 0 rfl) rfl))<|an (qc (p:=256) rfl rfl (by decide) (by decide) (by decide) (bB (by omega) (by omega)))<|an (aa rfl)<|an (aa rfl)<|an (aL rfl rfl Tryz.underlying27 dE hA_x (show((4-j:Nat):Int)=_ by omega) (by omega))<|cn (fun m=>yV (av rfl iy ((m.ord 1 rfl).cell (bC (by omega)))) ((show B8 (B.getD (4-j) 0)=B8 (((B.drop 1).take 4).getD (3-j) 0) by rw[hget])))<|an (bJ rfl Tryz.underlying5 Tryz.underlying3 (wm _))<|an (fX (by simp) rfl rfl (um _ _ hac hby))<|an (aI rfl gh (by decide))<| ?_
    refine ja (ct 0 rfl rfl rfl rl rfl (by first|exact Nat.le_of_ble_eq_true rfl|simp) ⟨(fun h=>absurd h (by decide)), ?_⟩)
    refine bE<|al (ρ' :=[(31,_),(7,_),(6,_),(19,_),(14,_),(5,_),(4,_),(3,_),(2,_),(0,_)]) ⟨rfl,rfl,rfl,rfl,rfl,rfl,rfl,rfl,rfl,rfl,trivial⟩<|ak (X' :=[_,_,_]) (S' :=[_]) (fun _ m=>m)<|aW<|ag<|aj<|hy (fun _=>aa rfl)<|hy (fun _=>yV (b6 rfl rfl (bB (by omega) (by omega))) ((show Value.int .i64 ((4-(j:Int))-1)= .int .i64 (4-((j+1:Nat):Int)) by congr 1;omega)))<|hy (fun _=>ab rfl)<|ai<|al (ρ' :=[(7,_),(31,_),(6,_),(19,_),(14,_),(5,_),(4,_),(3,_),(2,_),(0,_)]) ⟨rfl,rfl,rfl,rfl,rfl,rfl,rfl,rfl,rfl,rfl,trivial⟩<| ?_
    refine cS (j+1) ⟨rfl,rfl,rfl,rfl,rfl,rfl,rfl,rfl,rfl,trivial⟩ [0,0,0] rfl [0] rfl (by omega) (by omega)
   ·obtain rfl:j=4:=by omega
    rw[Ds]
    have hws:(kB ((B.drop 1).take 4):Nat)=ws B:=rfl
    rw[hws]
    have hsl:ws B<4294967296:=rb _
    refine bS<|ar<|ar<|aE<|ag<|ah<|aj<|hy (fun _=>aa rfl)<|hy (fun _=>dm rfl rfl Tryz.underlying27 dE (show((37:Nat):Int)=37 from rfl) (by omega))<| ?_
    refine hx (bT rfl Tryz.call117 (k8 (by omega) (l:=(B.drop 37))) [] rfl (.x 1 rfl (View.trans .own (View.drop hc_x h37)) .nil) ?_)
    rintro _ _ _ ⟨v2,rfl,rfl,rfl⟩
    refine⟨rfl, ?_⟩
    refine aw (fun m=>(m.own 0 rfl).slice) ?_
    rintro⟨A_x2,c_x2,rfl,hc_x2⟩
    refine aw (fun m=>(m.ord 0 rfl).2.1) fun hA_x2=> ?_
    refine hy (fun _=>aI rfl iK (by decide))<| ?_
    refine cN (ct 1 rfl rfl rfl mq rfl (by rw[bH hnl];decide) ?_)
    refine aV (fun w m=>m.bQ 0 rfl (show _=aH g6 198 (mc (wj B) (ws B:Int) ((B.drop 5).take 32) (.slice A_x2 (B.length-37) c_x2))from congrArg (aH _ _) (wx hnl))) ?_
    refine ai<|al (ρ' :=[(31,_),(7,_),(6,_),(19,_),(14,_),(5,_),(4,_),(3,_),(2,_),(0,_)]) ⟨rfl,rfl,rfl,rfl,rfl,rfl,rfl,rfl,rfl,rfl,trivial⟩<|ak (X' :=[_,_,_,_]) (S' :=[_]) (fun _ m=>m)<|ag<|ah<|ah<|aj<|hy (fun m=>aR rfl dP cB (bH hnl) ((m.aT 0 rfl).au))<| ?_
    refine hx (aq rfl Tryz.call191 (nB (by omega)) [] rfl [] rfl ?_)
    rintro _ _ _ ⟨rfl,rfl,rfl⟩
    refine hy (fun _=>dT rfl)<|ai<|al (ρ' :=[(50,_),(31,_),(7,_),(6,_),(19,_),(14,_),(5,_),(4,_),(3,_),(2,_),(0,_)]) ⟨rfl,rfl,rfl,rfl,rfl,rfl,rfl,rfl,rfl,rfl,rfl,trivial⟩<|ak (X' :=[_,_,_,_]) (S' :=[_]) (fun _ m=>m)<|ag<| ?_
    refine cI rfl (fun hW=> ?_) (fun hW=> ?_)
    ·refine ah<|aj<|hy (fun _=>cK fD rfl (by kernel_rfl))<| ?_
     refine cN (aG 3 rfl rfl rfl cB (bH z32) (eu (v:=.slice none 0 0) rfl) rfl ?_)
     refine hy (fun _=>ab rfl)<|ai<|al (ρ' :=[(3,_),(50,_),(31,_),(7,_),(6,_),(19,_),(14,_),(5,_),(4,_),(2,_),(0,_)]) ⟨rfl,rfl,rfl,rfl,rfl,rfl,rfl,rfl,rfl,rfl,rfl,trivial⟩<|ak (X' :=[_,_,_,_]) (S' :=[_]) (fun _ m=>m)<|ag<|aQ<|ay<| ?_
     refine ak (fun w m=>m.cL (r' :=aF 5 1 (.slice none 0 0) 0 []) (.refl _ _) (Own.nil _ _ _ _) (fun k hk=>hk.elim)) ?_
     exact c6 trivial rfl rfl rfl dP cB (bH z32) (fun m=>(m.aT 1 rfl).au) [0] rfl [] rfl ⟨_,_,_,[],_,_,_,rfl,rfl,rfl,⟨z32,rfl,hbad (fun hb=>hW hb.2)⟩⟩
    ·have hW:=Decidable.not_not.1 hW
     refine aC<|ag<|ah<|aj<|hy (fun m=>aR rfl dP cB (bH hnl) ((m.aT 0 rfl).au))<| ?_
     refine cN (aG 3 rfl rfl rfl cB (bH hnl) (eu rfl) rfl ?_)
     refine hy (fun _=>ab rfl)<|ai<|al (ρ' :=[(3,_),(50,_),(31,_),(7,_),(6,_),(19,_),(14,_),(5,_),(4,_),(2,_),(0,_)]) ⟨rfl,rfl,rfl,rfl,rfl,rfl,rfl,rfl,rfl,rfl,rfl,trivial⟩<|ak (X' :=[_,_,_,_]) (S' :=[_]) (fun _ m=>m)<|ag<|aQ<| ?_
     exact c6 trivial rfl rfl rfl dP cB (bH hnl) (fun m=>(m.aT 0 rfl).au) [2] rfl [] rfl ⟨_,_,_,B.drop 37,_,_,_,rfl,rfl,rfl,⟨hnl,List.length_drop,hok ⟨h37,hW⟩⟩⟩
def eo(k s:Nat)(nm body:List UInt8):List UInt8:=[UInt8.ofNat k]++gx s++nm++body
theorem fu{k s:Nat}{nm body:List UInt8}(h:nm.length=32):(eo k s nm body).length=37+body.length:=by simp[eo,dN,h];omega
theorem xC{k s:Nat}{nm body:List UInt8}(hk:k<256)(hs:s<4294967296)(hm:nm.length=32)(hb:body.length≤1000000):cj Tryz.prog 123 [.agg (mc k s nm (.string (strOf body))).toArray] [] [] (fun v_ X_ S_=>∃v,v_=v∧X_=[aF 5 1 v (37+body.length+4) (aK (gy (eo k s nm body)))]∧S_=[]):=by
 refine aU (N:=25) Tryz.func123 rfl rfl (by simp) fun b=> ?_
 refine ah<|aj<| ?_
 refine hx (cp rfl (fun g1=> ?_))
 refine aV (fun w m=>m.bQ 0 rfl (show _=aH g1 196 (mc k s nm (.string (strOf body)))from congrArg (aH _ _) (bq _))) ?_
 refine hy (fun _=>ab rfl)<|ai<|ak (X' :=[_]) (S' :=[]) (fun _ m=>m)<|ag<|ah<|aj<|hy (fun _=>aI rfl zt (by decide))<|hy (fun m=>av rfl dV (aB (m.aT 0 rfl) rfl))<|hy (fun _=>yV (bJ rfl Tryz.underlying3 Tryz.underlying5 (fl k)) ((rfl:Value.int .u8 _=B8 (UInt8.ofNat k))))<| ?_
 refine hx (cg Tryz.underlying27 ey rfl rfl rfl (by simp[Value.cells,B8]) (by decide) (by decide) (fun g7=> ?_))
 have hA_b7:0<1→(some (⟨g7,0,none⟩:Addr))≠none:=fun _ h=>by cases h
 refine aV (fun w m=>m.bQ 0 rfl (show _=aF 5 1 (.slice (some ⟨g7,0,none⟩) 1 1) 1 (aK [UInt8.ofNat k])from rfl)) ?_
 refine hy (fun _=>ab rfl)<|ai<|al (ρ' :=[(3,_),(2,_),(1,_),(0,_)]) ⟨rfl,rfl,rfl,rfl,trivial⟩<|ak (X' :=[_,_]) (S' :=[]) (fun _ m=>m)<|ag<|ah<|aj<|hy (fun _=>aa rfl)<|hy (fun _=>aI rfl AR (by decide))<|hy (fun m=>av rfl dV (aB (m.aT 1 rfl) rfl))<| ?_
 refine hx (aq rfl Tryz.call160 (vd (by omega)) [] rfl [] rfl ?_)
 rintro _ _ _ ⟨v,rfl,rfl,rfl⟩
 refine aw (fun m=>(m.own 0 rfl).slice) ?_
 rintro⟨A_x,c_x,rfl,hc_x⟩
 refine aw (fun m=>(m.ord 0 rfl).2.1) fun hA_x=> ?_
 refine hx (bu 1 rfl rfl rfl Tryz.underlying27 Tryz.underlying27 (by exact .inl rfl) ey rfl (fun m=>Src.bN (m.ord 0 rfl)) aS (by unfold maxLen;omega) (by omega) (fun u=> ?_))
 refine aw (fun m=>(m.own 0 rfl).slice) ?_
 rintro⟨A_b7,c_b7,rfl,hc_b7⟩
 refine aw (fun m=>(m.ord 0 rfl).2.1) fun hA_b7=> ?_
 refine aV (fun w m=>m.bQ 0 rfl (show _=aF 5 1 (.slice A_b7 5 c_b7) 5 (aK ([UInt8.ofNat k]++gx s))from congrArg (aF _ _ _ _) (bm ..).symm)) ?_
 refine hy (fun _=>ab rfl)<|ai<|al (ρ' :=[(3,_),(2,_),(1,_),(0,_)]) ⟨rfl,rfl,rfl,rfl,trivial⟩<|ak (X' :=[_,_,_]) (S' :=[]) (fun _ m=>m)<|ag<|ah<|aj<|hy (fun _=>aa rfl)<|hy (fun _=>aI rfl zG (by decide))<|hy (fun m=>aR rfl b5 bj (by rw[ax];exact hm) (uK (m.aT 2 rfl)))<| ?_
 refine hx (aq rfl Tryz.call183 (Cs (by omega)) [] rfl [] rfl ?_)
 rintro _ _ _ ⟨v2,rfl,rfl,rfl⟩
 refine aw (fun m=>(m.own 0 rfl).slice) ?_
 rintro⟨A_x2,c_x2,rfl,hc_x2⟩
 refine aw (fun m=>(m.ord 0 rfl).2.1) fun hA_x2=> ?_
 refine hx (bu 1 rfl rfl rfl Tryz.underlying27 Tryz.underlying27 (by exact .inl rfl) ey rfl (fun m=>Src.bN (m.ord 0 rfl)) aS (by unfold maxLen;omega) (by omega) (fun u2=> ?_))
 refine aw (fun m=>(m.own 0 rfl).slice) ?_
 rintro⟨A_b72,c_b72,rfl,hc_b7⟩
 refine aw (fun m=>(m.ord 0 rfl).2.1) fun hA_b7=> ?_
 refine aV (fun w m=>m.bQ 0 rfl (show _=aF 5 1 (.slice A_b72 37 c_b72) 37 (aK ([UInt8.ofNat k]++gx s++nm))from congrArg (aF _ _ _ _) (bm ..).symm)) ?_
 have hbs:(bytesOf (strOf body)).length=body.length:=rfl
 refine hy (fun _=>ab rfl)<|ai<|al (ρ' :=[(3,_),(2,_),(1,_),(0,_)]) ⟨rfl,rfl,rfl,rfl,trivial⟩<|ak (X' :=[_,_,_,_]) (S' :=[]) (fun _ m=>m)<|ag<|ah<|aj<|hy (fun _=>aa rfl)<|hy (fun _=>aI rfl zV (by decide))<|hy (fun m=>av rfl kL (s9 (m.aT 3 rfl) hm))<| ?_
 refine hx (tk rfl Tryz.underlying9 Tryz.underlying27 Tryz.underlying5 (show body.length≤maxLen by unfold maxLen;omega) (fun v21=> ?_))
 refine aw (fun m=>(m.own 0 rfl).slice) ?_
 rintro⟨A_b21,c_b21,rfl,hc_b21⟩
 refine aw (fun m=>(m.ord 0 rfl).2.1) fun hA_b21=> ?_
 refine aV (fun w m=>m.bQ 0 rfl (show _=aF 5 1 (.slice A_b21 body.length c_b21) body.length (aK body)from rfl)) ?_
 refine hx (bu 1 rfl rfl rfl Tryz.underlying27 Tryz.underlying27 (by exact .inl rfl) ey rfl (fun m=>Src.bN (m.ord 0 rfl)) aS (show 37+body.length≤maxLen by unfold maxLen;omega) (show(37+body.length)*1≤140737488355328 by omega) (fun u3=> ?_))
 refine aw (fun m=>(m.own 0 rfl).slice) ?_
 rintro⟨A_b73,c_b73,rfl,hc_b7⟩
 refine aw (fun m=>(m.ord 0 rfl).2.1) fun hA_b7=> ?_
 refine aV (fun w m=>m.bQ 0 rfl (show _=aF 5 1 (.slice A_b73 (37+body.length) c_b73) (37+body.length) (aK (eo k s nm body))from congrArg (aF _ _ _ _) (bm ..).symm)) ?_
 refine hy (fun _=>ab rfl)<|ai<|al (ρ' :=[(3,_),(2,_),(1,_),(0,_)]) ⟨rfl,rfl,rfl,rfl,trivial⟩<|ak (X' :=[_,_,_,_,_]) (S' :=[]) (fun _ m=>m)<|ag<|ah<|aj<|hy (fun _=>aa rfl)<| ?_
 refine hx (bT rfl Tryz.call189 (rB (by omega)) [] rfl (.x 0 rfl .own .nil) ?_)
 rintro _ _ _ ⟨v3,rfl,rfl,rfl⟩
 refine⟨rfl, ?_⟩
 refine aw (fun m=>(m.own 0 rfl).slice) ?_
 rintro⟨A_x3,c_x3,rfl,hc_x3⟩
 refine aw (fun m=>(m.ord 0 rfl).2.1) fun hA_x3=> ?_
 refine hy (fun _=>ab rfl)<|ai<|al (ρ' :=[(2,_),(3,_),(1,_),(0,_)]) ⟨rfl,rfl,rfl,rfl,trivial⟩<|ak (X' :=[_,_,_,_,_,_]) (S' :=[]) (fun _ m=>m)<|ag<|aQ<| ?_
 exact bd trivial rfl rfl [0] rfl [] rfl ⟨_,rfl,rfl,rfl⟩
end Go.Proofs.YtmibdabdlgmafaaGreatDoor
end
section
namespace Go.Eng
open Go.RowKit
abbrev C1(v:Value):List PanicEntry:=[{v,recovered:=false}]
def RE(b:cG)(R Rp:Value→List bf→List bf→Prop):Ending→World→Prop:=fun e w' =>
 (∃v X' S',e= .returned v∧R v X' S' ∧Mem b X' S' w')∨(∃v X' S',e= .panicked (C1 v)∧Rp v X' S' ∧Mem b X' S' w')
def Cv(P:Program)(f:Nat)(args:List Value)(X0 S0:List bf)(R Rp:Value→List bf→List bf→Prop):Prop:=
 ∀w,Mem ⟨w,dz X0,dz S0⟩ X0 S0 w→Calls P f args.toArray w (RE ⟨w,dz X0,dz S0⟩ R Rp)
section
variable{P:Program}{Q:Exit→Act→World→Prop}{N:Nat}{D:List Deferred}{ρ:Env}{b:cG}{X X' X0 Xr S S' S0:List bf}{ty:TypeId}{x:Operand}{K:Value→List bf→List bf→Prop}
theorem zT{w:World}{K:Value→World→Prop}{f:Nat}{l:List Operand}{vs:List Value}{tys:Array TypeId}{R:Ending→World→Prop}(hv:nv ρ l=some vs)(hf:∀args w,(callFunc f args).run P w= .ok (.enter f args) w)
  (hc:Calls P f vs.toArray w R) (hR:∀e w',R e w' →(∃v,e= .returned v∧K v w')∨∃c,e= .panicked c∧WQ Q N D (.panic c) ρ w'):XW P Q N D ρ w (.call ⟨.value (.func f),l.toArray,tys⟩) ty K:=by
 intro a dst pos af g ha
 unfold Oper.wp
 have:(execOp a.eval ⟨dst,.call ⟨.value (.func f),l.toArray,tys⟩,ty,pos,af,g⟩).run P w= .ok (.enter f vs.toArray) w:=by
  simp[execOp,resolve,Deferred.ofValue,Act.eval,invoke,ha.iL hv,hf]
 rw[this]
 refine Calls.mono hc ?_
 intro e w' he
 rcases hR e w' he with⟨v,rfl,hk⟩|⟨c,rfl,hk⟩
 ·exact⟨v,rfl,hk⟩
 ·exact hk a ha
theorem gq{f:Nat}{l:List Operand}{vs:List Value}{tys:Array TypeId}{R Rp:Value→List bf→List bf→Prop}(hv:nv ρ l=some vs)(hf:∀args w,(callFunc f args).run P w= .ok (.enter f args) w)
  (hc:Cv P f vs X0 S0 R Rp) (is:List Nat) (hX:bO is X=some (X0,Xr)) (js:List Nat) (hS:dB js S=some S0)
  (kp:∀v X' S',Rp v X' S' →HQ Q N D (.panic (C1 v)) ρ b (X' ++Xr) (S' ++S)) (k:∀v X' S',R v X' S' →K v (X' ++Xr) (S' ++S)):XH P Q N D ρ b X S (.call ⟨.value (.func f),l.toArray,tys⟩) ty K:=fun w m=>by
 have m1:=m.perm (az _ _ _ _ hX)
 refine zT hv hf (hc w (m1.part (cm _ _ _ hS))) ?_
 rintro e w' (⟨v,X',S',rfl,hR,m'⟩|⟨v,X',S',rfl,hR,m'⟩)
 ·exact .inl ⟨v,rfl,_,_,m1.frame (cm _ _ _ hS) m',k v X' S' hR⟩
 ·exact .inr ⟨_,rfl,kp v X' S' hR w' (m1.frame (cm _ _ _ hS) m')⟩
theorem eh{K:Act→World→Prop}{c:List PanicEntry}(h:HQ Q N D (.panic c) ρ b X S):HQ (Exit.then K Q) N D (.panic c) ρ b X S:=h
end
theorem An{P:Program}{f:Nat}{fn:Func}{c:Code}{vs:List Value}{R Rp:Value→List bf→List bf→Prop}{N:Nat}{X0 S0:List bf}(hf:P.funcs[f]? =some fn)(hb:fn.body=some c)(hN:fn.ntmps=N)(hl:vs.length≤N)
  (h:∀b,HC P (bodyPost P fn (RE b R Rp)) N [] c (fZ vs 0) b X0 S0):Cv P f vs X0 S0 R Rp:=fun w m=>enter hf hb hN hl (h _ w m)
section
variable{P:Program}{fn:Func}{R Rp:Value→List bf→List bf→Prop}{N:Nat}{D:List Deferred}{ρ:Env}{b:cG}{X X' Xz Xr X0 S S' S0:List bf}{e:Exit}{u:FrameMode}
theorem o3{R1 R2:Ending→World→Prop}(h:∀e w,R1 e w→R2 e w):∀e a w,bodyPost P fn R1 e a w→bodyPost P fn R2 e a w
 | .normal,a,w,⟨h1,v,h2,h3⟩=>⟨h1,v,h2,h _ _ h3⟩
 | .ret,a,w,⟨h1,v,h2,h3⟩=>⟨h1,v,h2,h _ _ h3⟩
 | .panic c,a,w,⟨h1,h2⟩=>⟨h1,h _ _ h2⟩
 | .outgrown,a,w,h1=>h _ _ h1
 | .exit _,a,w,h1=>h1.elim
 | .goto _,a,w,h1=>h1.elim
theorem Dq(h:HQ (bodyPost P fn (RB b R)) N D e ρ b X S):HQ (bodyPost P fn (RE b R Rp)) N D e ρ b X S:=fun w m a ha=>
 o3 (fun e w h=>by obtain⟨v,X',S',h1,h2,h3⟩:=h;exact .inl ⟨v,X',S',h1,h2,h3⟩) _ _ _ (h w m a ha)
theorem DT{v:Value}(is:List Nat)(hX:bO is X=some (X',Xz))(js:List Nat)(hS:dB js S=some S')(hR:Rp v X' S'):HQ (bodyPost P fn (RE b R Rp)) N [] (.panic (C1 v)) ρ b X S:=fun w m a ha=>
 ⟨ha.df,.inr ⟨v,X',S',rfl,hR,m.out is hX js hS⟩⟩
def BY(P:Program)(fn:Func)(b:cG)(R:Value→List bf→List bf→Prop)(N:Nat)(D:List Deferred)(ρ:Env)(X S:List bf)(u:FrameMode):Prop:=∀w,Mem b X S w→∀tmps:Array Value,(∀t v,get ρ t=some v→tmps[t]? =some v)→Go.Leaves P fn tmps (RB b R) D u w
theorem uT(he:Leaves e)(h:BY P fn b R N D ρ X S .returning):HQ (bodyPostD P fn (RB b R)) N D e ρ b X S:=q9 he h
theorem iI{c:List PanicEntry}(h:BY P fn b R N D ρ X S (.panicking c)):HQ (bodyPostD P fn (RB b R)) N D (.panic c) ρ b X S:=fun w m a ha=>by
 have:=h w m a.tmps ha.gt
 show Go.Leaves P fn a.tmps (RB b R) a.defers (.panicking c) w
 rw[ha.df]
 exact this
def zC(P:Program)(f:Nat)(args:List Value)(u:FrameMode)(X0 S0:List bf)(R:FrameMode→List bf→List bf→Prop):Prop:=
 ∀w,Mem ⟨w,dz X0,dz S0⟩ X0 S0 w→CallsD P f args.toArray u w fun e u' w' =>e= .returned (.tuple #[])∧∃X' S',R (settle u') X' S' ∧Mem ⟨w,dz X0,dz S0⟩ X' S' w'
theorem l8{f:Nat}{vs cap:List Value}{Rd:FrameMode→List bf→List bf→Prop}(hu:u≠ .run)(hcall:∀args w,(callFunc f args).run P w= .ok (.enter f args) w)(hc:zC P f (vs++cap) u X0 S0 Rd)(is:List Nat)(hX:bO is X=some (X0,Xr))(js:List Nat)(hS:dB js S=some S0)
  (k:∀u' X' S',Rd u' X' S' →BY P fn b R N D ρ (X' ++Xr) (S' ++S) u'):BY P fn b R N (⟨.fn (.func f) cap.toArray,vs.toArray⟩::D) ρ X S u:=fun w m tmps ht=>by
 have m1:=m.perm (az _ _ _ _ hX)
 refine leaves_cons (f:=f) (args:=(vs++cap).toArray) hu ?_ ?_
 ·simp[invoke,hcall]
 ·refine CallsD.mono (hc w (m1.part (cm _ _ _ hS))) ?_
  rintro e u' w' ⟨rfl,X',S',hR,m'⟩
  exact k _ _ _ hR w' (m1.frame (cm _ _ _ hS) m') tmps ht
end
section
variable{P:Program}{ops:Array Oper}{fn:Func}{N:Nat}{D:List Deferred}{ρ ρ' :Env}{w:World}{c₀:Frame}{cs:List Frame}{R:Ending→FrameMode→World→Prop}{Q:Exit→Act→List Frame→World→Prop}{op:Op}{ty:TypeId}{pos:String}{af:Array Edge}{d:Nat}{v:Value}{rest:List Nat}{u:FrameMode}
def SL(P:Program)(ops:Array Oper)(Q:Exit→Act→List Frame→World→Prop)(N:Nat)(D:List Deferred)(l:List Nat)(ρ:Env)(cs:List Frame)(w:World):Prop:=∀a,Ag N D ρ a→wpOpsS P ops Q l a cs w
theorem EZ{i:Nat}(ho:ops[i]? =some ⟨some d,op,ty,pos,af,none⟩)(h:Yl P N D ρ w op ty v)(k:SL P ops Q N D rest ((d,v)::ρ) cs w)(hd:d<N:=by decide):SL P ops Q N D (i::rest) ρ cs w:=fun a ha=>by
 simp only[wpOpsS,ho]
 rw[if_pos (by simp[Region.wanted]),h a (some d) pos af none ha]
 exact k _ (ha.put hd)
theorem Cl{i:Nat}{tys:Array TypeId}{pv:Value}{older:List PanicEntry}(ho:ops[i]? =some ⟨some d,.call ⟨.builtin .recover, #[],tys⟩,ty,pos,af,none⟩)(hu:c₀.mode= .panicking ({v:=pv,recovered:=false}::older))
  (k:SL P ops Q N D rest ((d,pv)::ρ) ({c₀ with mode:=.panicking ({v:=pv,recovered:=true}::older)}::cs) w) (hd:d<N:=by decide):SL P ops Q N D (i::rest) ρ (c₀::cs) w:=fun a ha=>by
 have hr:(execOp a.eval ⟨some d,.call ⟨.builtin .recover, #[],tys⟩,ty,pos,af,none⟩).run P w= .ok .recover w:=by
  simp[execOp,resolve,invoke,builtin]
 have h2:recoverD (c₀::cs)=some (pv,{c₀ with mode:=.panicking ({v:=pv,recovered:=true}::older)}::cs):=by simp[recoverD,hu]
 simp only[wpOpsS,ho]
 rw[if_pos (by simp[Region.wanted]),hr]
 simp only[h2]
 exact k _ (ha.put hd)
theorem AA{i:Nat}{tys:Array TypeId}(ho:ops[i]? =some ⟨some d,.call ⟨.builtin .recover, #[],tys⟩,ty,pos,af,none⟩)(hu:c₀.mode= .returning)
  (k:SL P ops Q N D rest ((d,.nilIface)::ρ) (c₀::cs) w) (hd:d<N:=by decide):SL P ops Q N D (i::rest) ρ (c₀::cs) w:=fun a ha=>by
 have hr:(execOp a.eval ⟨some d,.call ⟨.builtin .recover, #[],tys⟩,ty,pos,af,none⟩).run P w= .ok .recover w:=by
  simp[execOp,resolve,invoke,builtin]
 have h2:recoverD (c₀::cs)=none:=by simp[recoverD,hu]
 simp only[wpOpsS,ho]
 rw[if_pos (by simp[Region.wanted]),hr]
 simp only[h2]
 exact k _ (ha.put hd)
theorem B6{c:Code}{a:Act}{b:cG}{X S:List bf}{R0:Ending→World→Prop}(m:Mem b X S w)(h:HC P (bodyPost P fn R0) N [] c ρ b X S)(ha:Ag N [] ρ a)(hR:∀e w',R0 e w' →∃v,e= .returned v∧R (.returned v) u w'):c.wpS P (bodyPostS P fn c₀ cs R) a ({c₀ with mode:=u}::cs) w:=by
 refine wpS_of_wp (wp_mono (h w m a ha) ?_)
 intro e a' w' hb
 cases e with
 |normal=>
  obtain⟨h1,v,h2,h3⟩:=hb
  obtain⟨v',hv,h4⟩:=hR _ _ h3
  cases hv
  exact⟨h1,u,rfl,v,h2,h4⟩
 |ret=>
  obtain⟨h1,v,h2,h3⟩:=hb
  obtain⟨v',hv,h4⟩:=hR _ _ h3
  cases hv
  exact⟨h1,u,rfl,v,h2,h4⟩
 |panic c=>
  obtain⟨h1,h2⟩:=hb
  obtain⟨v',hv,h4⟩:=hR _ _ h2
  cases hv
 |outgrown=>
  obtain⟨v',hv,h4⟩:=hR _ _ hb
  cases hv
 |exit id=>exact hb.elim
 |goto l=>exact hb.elim
end
end Go.Eng
end
section
namespace Go.Eng
open Go.RowKit
def pK(ds:List Nat)(a a' :Act):Prop:=a'.defers=a.defers∧a'.tmps.size=a.tmps.size∧∀t:Nat,t∉ds→a'.tmps[t]? =a.tmps[t]?
theorem pK.refl(ds:List Nat)(a:Act):pK ds a a:=⟨rfl,rfl,fun _ _=>rfl⟩
theorem pK.put{ds:List Nat}{a a' :Act}{d:Nat}{v:Value}(hd:d∈ds)(h:pK ds a a'):pK ds (a.put (some d) v) a' :=by
 obtain⟨h1,h2,h3⟩:=h
 refine⟨h1,by rw[h2];simp[Act.put],fun t ht=> ?_⟩
 rw[h3 t ht]
 have hne:d≠t:=fun e=>ht (e▸hd)
 simp only[Act.put]
 rw[Array.getElem?_setIfInBounds_ne hne]
def wJ(ds:List Nat)(Q:Exit→Act→World→Prop):Exit→Act→World→Prop
 | .panic c,a,w=>∀a',pK ds a a' →Q (.panic c) a' w
 | .outgrown,_,_=>False
 |e,a,w=>Q e a w
section
variable{P:Program}{ops:Array Oper}{Q:Exit→Act→World→Prop}
theorem iE{T:Nat→World→Prop}{X:List Nat}(hs:Region.noSelect ops=true)(hQ:∀(i:Nat) (o:Oper),ops[i]? =some o→∀c a v w,Q (.panic c) (a.put o.dst v) w→Q (.panic c) a w):∀(L:List (Nat×Option Nat)) (sq:List (Option Nat×Oper)) (l:Array Bool) (a:Act) (w:World) (n k:Nat),
  ix ops L=some sq→ew ops X L l=true→L.length≤n→Kept ops l→iU X l=k→T k w→fg P ops Q T k sq a w→zX P ops Q (fun l w=>T (iU X l) w) n l a w
 | [],sq,l,a,w,n,k,hp,hk,_,_,_,_,h=>by
  simp only[ix,Option.some.injEq]at hp
  subst hp
  have hr:Region.ready .any ops l=[]:=by simpa[ew]using hk
  cases n with
  |zero=>exact⟨hr,h⟩
  |succ n=>exact⟨fun _=>h,by rw[hr];simp⟩
 |(i,x)::r,sq,l,a,w,0,k,hp,hk,hf,_,_,_,h=>by simp at hf
 |(i,x)::r,sq,l,a,w,n+1,k,hp,hk,hf,hK,hc,hT,h=>by
  unfold ix at hp
  split at hp
  ·rename_i o l' ho hl'
   cases hp
   have hf' :r.length≤n:=by simp at hf;omega
   cases x with
   |none=>
    simp only[ew,Bool.and_eq_true,beq_iff_eq]at hk
    obtain⟨⟨hrd,hct⟩,hk⟩:=hk
    have hmem:i∈Region.ready .any ops l:=by rw[hrd];simp
    have hcs:iU X (l.setIfInBounds i true)=k+1:=by rw[qp (mem_ready.1 hmem).1,hct,hc]
    have hK' :=hK.set hmem
    refine⟨fun h0=>(by rw[h0]at hmem;cases hmem),fun j hj=> ?_⟩
    have hji:j=i:=by rw[hrd]at hj;simpa using hj
    subst hji
    unfold wpOp
    simp only[ho]
    simp only[fg]at h
    split at h
    ·rename_i hw
     rw[if_pos hw]
     refine .inl (Oper.wp_mono ?_ h)
     rintro a' w' ⟨hS',h'⟩
     exact⟨by rw[hcs];exact hS',iE hs hQ r l' _ a' w' n (k+1) hl' hk hf' hK' hcs hS' h'⟩
    ·rename_i hw
     rw[if_neg hw]
     exact⟨by rw[hcs];exact h.1,iE hs hQ r l' _ _ w n (k+1) hl' hk hf' hK' hcs h.1 h.2⟩
   |some m=>
    simp only[ew,Bool.and_eq_true,Bool.not_eq_true']at hk
    obtain⟨⟨⟨⟨hfree,hcon⟩,hX⟩,hcap⟩,hk⟩:=hk
    obtain⟨v,hy,h'⟩:=h
    have hmem:i∈Region.ready .any ops l:=by simpa using hcon
    have hcs:iU X (l.setIfInBounds i true)=k:=by rw[ma hX,hc]
    refine mf ho (Region.noSelect_spec hs) (fun c a w=>hQ i o ho c a _ w) (fun l' =>Kept ops l' ∧∀q,l.getD q false=true→l'.getD q false=true) (fun l' j hR hj=>⟨hR.1.set hj,fun q hq=>getD_set_true (hR.2 q hq)⟩)
     (fun l' w' =>by rw[ma hX]) n l a w (Region.free_spec ho hfree) hmem ?_ ⟨hK,fun q hq=>hq⟩ (by rw[hc];exact hT) (iE hs hQ r l' _ _ w n k hl' hk hf' (hK.set hmem) hcs hT h')
    rcases hy with⟨hw,hv⟩|hy
    ·refine .inl ⟨hw,fun w' hw' =>hv w' ?_⟩
     obtain⟨l2,⟨hK2,al⟩,hun,hT2⟩:=hw'
     exact⟨iU X l2,by rw[←hc];exact n9 al,rh hK2 hun hcap,hT2⟩
    ·exact .inr hy
  ·cases hp
theorem n5{T:Nat→World→Prop}{X ds:List Nat}{id:Nat}{a:Act}{w:World}{sq:List (Option Nat×Oper)}(L:List (Nat×Option Nat))(hds:ops.all (fun o=>match o.dst with|some d=>ds.contains d|none=>true)=true)(hm:P.follows .mixedOrders=true)(hs:Region.noSelect ops=true)(hk:ew ops X L (Array.replicate ops.size false)=true)(hn:L.length≤ops.size)
  (hp:ix ops L=some sq) (hT:T 0 w.drew) (h:fg P ops (wJ ds Q) T 0 sq a w.drew):(Code.region id ops true).wp P Q a w:=by
 refine Code.wp_mono (Q:=wJ ds Q) (fun e a w q=>by cases e <;> first|exact q|exact q.elim|exact q a (.refl _ _)) ?_
 refine wp_region_any hm (eI _ _ _ _ (iE (X:=X) hs (fun i o ho c a v w q a' ha' => ?_) L sq _ a _ _ 0 hp hk hn ?_ ?_ hT h))
 ·have hmem:o∈ops:=by
   obtain⟨hi,he⟩:=Array.getElem?_eq_some_iff.1 ho
   exact he▸Array.getElem_mem hi
  have:=Array.all_eq_true_iff_forall_mem.1 hds o hmem
  cases hd:o.dst with
  |none=>rw[hd]at q;exact q a' ha'
  |some d=>
   rw[hd]at this q
   exact q a' (ha'.put (by simpa using this))
 ·intro j hj
  simp[Array.getElem?_replicate]at hj
  split at hj <;> cases hj
 ·unfold iU
  rw[List.countP_eq_zero]
  intro x _
  simp[Array.getElem?_replicate]
  split <;> rfl
end
def Ak(ds:List Nat)(ρ:Env):Env:=ρ.filter fun p=> !ds.contains p.1
theorem ob{ds:List Nat}:∀{ρ:Env} {t:Nat} {v:Value},get (Ak ds ρ) t=some v→t∉ds∧get ρ t=some v
 | [],t,v,h=>by simp[Ak,get]at h
 |(t0,v0)::ρ,t,v,h=>by
  unfold Ak at h
  rw[List.filter_cons]at h
  by_cases hc:ds.contains t0=true
  ·rw[if_neg (by simpa using hc)]at h
   obtain⟨h1,h2⟩:=ob (ρ:=ρ) h
   refine⟨h1, ?_⟩
   have hne:t0≠t:=fun e=>h1 (by rw[←e];simpa using hc)
   simp only[get]
   have hbf:Nat.beq t0 t=false:=by
    cases hb:Nat.beq t0 t with
    |true=>exact absurd (Nat.eq_of_beq_eq_true hb) hne
    |false=>rfl
   rw[hbf]
   exact h2
  ·rw[if_pos (by simpa using hc)]at h
   simp only[get]at h ⊢
   cases hb:Nat.beq t0 t with
   |true=>
    rw[hb]at h
    have:t0=t:=Nat.eq_of_beq_eq_true hb
    subst this
    exact⟨by simpa using hc,h⟩
   |false=>
    rw[hb]at h
    exact ob (ρ:=ρ) h
section
variable{P:Program}{ops:Array Oper}{Q:Exit→Act→World→Prop}{N:Nat}{D:List Deferred}{ρ ρ' :Env}{b:cG}{X X' X0 Xr S S' S0 X1 S1:List bf}{k c:Nat}{ds:List Nat}
theorem x9{id:Nat}{l:List (Option Nat×Oper)}(ds:List Nat)(is js:List Nat)(hX:bO is X=some (X1,Xr))(hS:dB js S=some S1)(Xs:List Nat)(L:List (Nat×Option Nat))(hm:P.follows .mixedOrders=true)
  (hk:(Region.noSelect ops && ew ops Xs L (Array.replicate ops.size false) && decide (L.length≤ops.size))=true) (hds:ops.all (fun o=>match o.dst with|some d=>ds.contains d|none=>true)=true)
  (hp:ix ops L=some l) (c:Nat) (h:HT P ops (wJ ds Q) (TT b X1 S1 c) N D 0 l ρ b X S):HC P Q N D (.region id ops true) ρ b X S:=fun w m a ha=>by
 simp only[Bool.and_eq_true,decide_eq_true_eq]at hk
 exact n5 (X:=Xs) L hds hm hk.1.1 hk.1.2 hk.2 hp (fun _=>(wk is js hX hS).mem (m.lift (Fr.drew w))) (h _ (m.lift (Fr.drew w)) a ha)
theorem xH{T:Nat→World→Prop}(h:HQ Q N D .normal ρ b X S):HT P ops (wJ ds Q) T N D k [] ρ b X S:=fun w m a ha=>h w m a ha
theorem Bh{e:List PanicEntry}(h:HQ Q N D (.panic e) (Ak ds ρ) b X S):HQ (wJ ds Q) N D (.panic e) ρ b X S:=fun w m a ha a' hag=>by
 obtain⟨h1,h2,h3⟩:=hag
 refine h w m a' ⟨by rw[h2];exact ha.sz,by rw[h1];exact ha.df,fun t v ht=> ?_⟩
 obtain⟨h4,h5⟩:=ob ht
 rw[h3 t h4]
 exact ha.gt t v h5
end
section
variable{P:Program}{ops:Array Oper}{fn:Func}{Q:Exit→Act→List Frame→World→Prop}{N:Nat}{D:List Deferred}{ρ:Env}{b:cG}{X X' S S' :List bf}{cs:List Frame}{c₀:Frame}{rest:List Nat}{op:Op}{ty:TypeId}{pos:String}{af:Array Edge}{d i:Nat}{v:Value}
def sW(P:Program)(ops:Array Oper)(Q:Exit→Act→List Frame→World→Prop)(N:Nat)(D:List Deferred)(l:List Nat)(ρ:Env)(cs:List Frame)(b:cG)(X S:List bf):Prop:=∀w,Mem b X S w→SL P ops Q N D l ρ cs w
theorem mZ{o:Oper}{a:Act}{w:World}(ho:ops[i]? =some o)(hw:Region.wanted o (yielded ops a.tmps)=true)(h:o.wp P a w (fun a' w' =>wpOpsS P ops Q rest a' cs w') (fun e a' w' =>Q e a' cs w')):wpOpsS P ops Q (i::rest) a cs w:=by
 simp only[wpOpsS,ho]
 rw[if_pos hw]
 unfold Oper.wp at h
 split
 ·rename_i w' hr
  rw[hr]at h
  exact h.elim
 ·exact h
theorem kQ(ho:ops[i]? =some ⟨some d,op,ty,pos,af,none⟩)(h:∀{w},Mem b X S w→Yl P N D ρ w op ty v)(k:sW P ops Q N D rest ((d,v)::ρ) cs b X S)(hd:d<N:=by decide):sW P ops Q N D (i::rest) ρ cs b X S:=fun w m=>EZ ho (h m) (k w m) hd
theorem Bc(ho:ops[i]? =some ⟨some d,op,ty,pos,af,none⟩)(h:XH P (fun e a w=>Q e a cs w) N D ρ b X S op ty fun v X' S' =>sW P ops Q N D rest ((d,v)::ρ) cs b X' S')(hd:d<N:=by decide):sW P ops Q N D (i::rest) ρ cs b X S:=fun w m a ha=>by
 refine mZ ho (by simp[Region.wanted]) (Oper.wp_mono ?_ (h w m a (some d) pos af none ha))
 rintro a' w' ⟨v,rfl,X',S',m',hk⟩
 exact hk w' m' _ (ha.put hd)
theorem yl(ho:ops[i]? =some ⟨none,op,ty,pos,af,none⟩)(h:XH P (fun e a w=>Q e a cs w) N D ρ b X S op ty fun _ X' S' =>sW P ops Q N D rest ρ cs b X' S'):sW P ops Q N D (i::rest) ρ cs b X S:=fun w m a ha=>by
 refine mZ ho (by simp[Region.wanted]) (Oper.wp_mono ?_ (h w m a none pos af none ha))
 rintro a' w' ⟨v,rfl,X',S',m',hk⟩
 exact hk w' m' _ ha
theorem zS{tys:Array TypeId}{pv:Value}{older:List PanicEntry}(ho:ops[i]? =some ⟨some d,.call ⟨.builtin .recover, #[],tys⟩,ty,pos,af,none⟩)(hu:c₀.mode= .panicking ({v:=pv,recovered:=false}::older))
  (k:sW P ops Q N D rest ((d,pv)::ρ) ({c₀ with mode:=.panicking ({v:=pv,recovered:=true}::older)}::cs) b X S) (hd:d<N:=by decide):sW P ops Q N D (i::rest) ρ (c₀::cs) b X S:=fun w m=>Cl ho hu (k w m) hd
theorem yL{tys:Array TypeId}(ho:ops[i]? =some ⟨some d,.call ⟨.builtin .recover, #[],tys⟩,ty,pos,af,none⟩)(hu:c₀.mode= .returning)(k:sW P ops Q N D rest ((d,.nilIface)::ρ) ({c₀ with mode:=.returning}::cs) b X S)(hd:d<N:=by decide):sW P ops Q N D (i::rest) ρ (c₀::cs) b X S:=fun w m=>
 AA ho hu (by have:=k w m;rwa [show({c₀ with mode:=FrameMode.returning}:Frame)=c₀ by cases c₀;simp_all]at this) hd
theorem B7{l:List Nat}(h:∀w,Mem b X S w→Mem b X' S' w)(k:sW P ops Q N D l ρ cs b X' S'):sW P ops Q N D l ρ cs b X S:=fun w m=>k w (h w m)
def E5(b:cG)(R:FrameMode→List bf→List bf→Prop):Ending→FrameMode→World→Prop:=fun e u' w' =>e= .returned (.tuple #[])∧∃X' S',R (settle u') X' S' ∧Mem b X' S' w'
def QD(P:Program)(fn:Func)(c₀:Frame)(cs:List Frame)(b:cG)(R:FrameMode→List bf→List bf→Prop)(c2:Code):Exit→Act→List Frame→World→Prop:=Exit.thenS (fun a cs' w=>c2.wpS P (bodyPostS P fn c₀ cs (E5 b R)) a cs' w) (bodyPostS P fn c₀ cs (E5 b R))
theorem sg{R:FrameMode→List bf→List bf→Prop}{c2:Code}{u2:FrameMode}(h:HC P (bodyPost P fn (RB b fun v X S=>v= .tuple #[]∧R (settle u2) X S)) N [] c2 ρ b X S):sW P ops (QD P fn c₀ cs b R c2) N [] [] ρ ({c₀ with mode:=u2}::cs) b X S:=fun w m a ha=>by
 refine B6 m h ha ?_
 rintro e w' ⟨v,X',S',rfl,⟨rfl,hR⟩,m'⟩
 exact⟨_,rfl,rfl,X',S',hR,m'⟩
end
theorem tU{P:Program}{f:Nat}{fn:Func}{id:Nat}{ops:Array Oper}{c2:Code}{vs:List Value}{u:FrameMode}{N:Nat}{X0 S0:List bf}{R:FrameMode→List bf→List bf→Prop}(hf:P.funcs[f]? =some fn)(hb:fn.body=some (.seq (.region id ops false) c2))(hN:fn.ntmps=N)(hl:vs.length≤N)
  (h:∀(b:cG) (c₀:Frame) (cs:List Frame),c₀.mode=u→sW P ops (QD P fn c₀ cs b R c2) N [] (List.range ops.size) (fZ vs 0) (c₀::cs) b X0 S0):zC P f vs u X0 S0 R:=fun w m=>by
 refine callsD_of_wpS hf hb fun c₀ cs hu=> ?_
 refine wpS_seq (wpS_region ?_)
 refine h _ c₀ cs hu w m _ ⟨?_,rfl,fun t v ht=> ?_⟩
 ·simp[hN];omega
 ·obtain⟨_,h2⟩:=gv vs 0 t v ht
  have hlt:=(List.getElem?_eq_some_iff.1 h2).1
  rw[Array.getElem?_append_left (by simpa using hlt)]
  simpa using h2
section
variable{P:Program}{Q:Exit→Act→World→Prop}{N:Nat}{D:List Deferred}{ρ:Env}{b:cG}{X S:List bf}{ty t:TypeId}{x:Operand}{v:Value}{K:Value→List bf→List bf→Prop}
theorem wG(hx:ev ρ x=some (.iface t v))(h:HQ Q N D (.panic (C1 (.iface t v))) ρ b X S):XH P Q N D ρ b X S (.panic x) ty K:=fun w m a dst pos af g ha=>by
 unfold Oper.wp
 have:(execOp a.eval ⟨dst,.panic x,ty,pos,af,g⟩).run P w= .halt (.panic (.iface t v)) w:=by
  simp[execOp,ha.eval hx,Instr.panic,goPanic]
 rw[this]
 exact h w m a ha
theorem yB{fs:Array Field}{xT:TypeId}{w:World}(ht:P.underlying t=some (.struct fs)):(Instr.typeAssert (.iface t v) xT t true).run P w= .ok (.tuple #[v,.bool true]) w:=by
 simp[Instr.typeAssert,run_underlying ht]
theorem wy{fs:Array Field}{xT:TypeId}{w:World}{z:Value}{sz bytes:Nat}(ht:P.underlying t=some (.struct fs))(hT:TI P t z sz bytes):(Instr.typeAssert .nilIface xT t true).run P w= .ok (.tuple #[z,.bool false]) w:=by
 simp[Instr.typeAssert,run_underlying ht,oO hT]
end
section
variable{P:Program}{fn:Func}{R:Value→List bf→List bf→Prop}{N:Nat}{ρ:Env}{b:cG}{X X' Xz S S' :List bf}{w:World}
theorem p5{t:TypeId}{p:Addr}{v:Value}(ha:dG P t=some false)(hc:w.cell? p=some v):(loadVar t p).run P w= .ok v w:=by
 simp[loadVar,jf ha,hc]
theorem gL{t t' :Nat}{ty ty' :TypeId}{p p' :Addr}{v v' :Value}(hr:fn.results= #[.cell t ty,.cell t' ty'])(hv:get ρ t=some (.pointer (some p)))(hv' :get ρ t' =some (.pointer (some p')))(ha:dG P ty=some false)(ha' :dG P ty' =some false)
  (hc:∀{w},Mem b X S w→w.cell? p=some v) (hc' :∀{w},Mem b X S w→w.cell? p' =some v') (is:List Nat) (hX:bO is X=some (X',Xz)) (js:List Nat) (hS:dB js S=some S') (hR:R (.tuple #[v,v']) X' S'):BY P fn b R N [] ρ X S .returning:=fun w m tmps h=>
 ⟨.tuple #[v,v'],by have h1:=fN h hv;have h2:=fN h hv';simp at h1 h2;simp[results,hr,h1,h2,asAddr,p5 ha (hc m),p5 ha' (hc' m)],_,_,_,rfl,hR,m.out is hX js hS⟩
theorem yn{e:Exit}{t1 t2 t3 t4:Nat}{v1 v2 v3 v4:Value}(he:Leaves e)(hr:fn.results= #[.tmp t1,.tmp t2,.tmp t3,.tmp t4])(h1:get ρ t1=some v1)(h2:get ρ t2=some v2)(h3:get ρ t3=some v3)(h4:get ρ t4=some v4)(is:List Nat)(hX:bO is X=some (X',Xz))(js:List Nat)(hS:dB js S=some S')(hR:R (.tuple #[v1,v2,v3,v4]) X' S'):HQ (bodyPost P fn (RB b R)) N [] e ρ b X S:=
 fun w m=>gW he (fun a hA=>by have g1:=hA.getD h1;have g2:=hA.getD h2;have g3:=hA.getD h3;have g4:=hA.getD h4;simp at g1 g2 g3 g4;simp[results,hr,g1,g2,g3,g4]) ⟨_,_,_,rfl,hR,m.out is hX js hS⟩
theorem nU{u:FrameMode}{D:List Deferred}(h:∀w,Mem b X S w→Mem b X' S' w)(k:BY P fn b R N D ρ X' S' u):BY P fn b R N D ρ X S u:=fun w m=>k w (h w m)
end
end Go.Eng
end
section
namespace Go.Eng
open Go.RowKit
section
variable{P:Program}{Q:Exit→Act→World→Prop}{N:Nat}{D:List Deferred}{c:Code}{ρ:Env}{b:cG}{X S:List bf}
theorem qS{α β:Type}(R:α→β→Env)(X1 S1:α→β→List bf)(I:α→β→Prop)(ρk:Env)(hk:eT ρk ρ)(is:List Nat){Xt Xr:List bf}(hX:bO is X=some (Xt,Xr))
  (h:HC P (rU N D (fun i:α×β=>R i.1 i.2++ρk) fun i w=>Mem b (X1 i.1 i.2++Xr) (S1 i.1 i.2++S) w∧I i.1 i.2) N D c ρ b X S) (k:∀x y,I x y→HQ Q N D .normal (R x y++ρk) b (X1 x y++Xr) (S1 x y++S)):HC P Q N D c ρ b X S:=
 DB (fun i:α×β=>R i.1 i.2++ρk) (fun i=>X1 i.1 i.2++Xr) (fun i=>S1 i.1 i.2++S) (fun i=>I i.1 i.2) h fun i hi=>k (i.1) (i.2) hi
theorem cq{α β:Type}{R:α→β→Env}{X1 S1:α→β→List bf}{I:α→β→Prop}{ρ0:Env}{Xr Sr:List bf}(x:α)(y:β)(hs:eT (R x y++ρ0) ρ)(is:List Nat){Xz:List bf}(hX:bO is X=some (X1 x y++Xr,Xz))(js:List Nat)(hS:dB js S=some (S1 x y++Sr))(hI:I x y):
  HQ (rU N D (fun i:α×β=>R i.1 i.2++ρ0) fun i w=>Mem b (X1 i.1 i.2++Xr) (S1 i.1 i.2++Sr) w∧I i.1 i.2) N D .normal ρ b X S:=
 Bu (i:=(x,y)) hs is hX js hS hI
theorem CH{α β γ δ:Type}(R:α→β→γ→δ→Env)(X1 S1:α→β→γ→δ→List bf)(I:α→β→γ→δ→Prop)(ρk:Env)(hk:eT ρk ρ)(is:List Nat){Xt Xr:List bf}(hX:bO is X=some (Xt,Xr))
  (h:HC P (rU N D (fun i:α×β×γ×δ=>R i.1 i.2.1 i.2.2.1 i.2.2.2++ρk) fun i w=>Mem b (X1 i.1 i.2.1 i.2.2.1 i.2.2.2++Xr) (S1 i.1 i.2.1 i.2.2.1 i.2.2.2++S) w∧I i.1 i.2.1 i.2.2.1 i.2.2.2) N D c ρ b X S) (k:∀x y z u,I x y z u→HQ Q N D .normal (R x y z u++ρk) b (X1 x y z u++Xr) (S1 x y z u++S)):HC P Q N D c ρ b X S:=
 DB (fun i:α×β×γ×δ=>R i.1 i.2.1 i.2.2.1 i.2.2.2++ρk) (fun i=>X1 i.1 i.2.1 i.2.2.1 i.2.2.2++Xr) (fun i=>S1 i.1 i.2.1 i.2.2.1 i.2.2.2++S) (fun i=>I i.1 i.2.1 i.2.2.1 i.2.2.2) h fun i hi=>k (i.1) (i.2.1) (i.2.2.1) (i.2.2.2) hi
theorem vg{α β γ δ:Type}{R:α→β→γ→δ→Env}{X1 S1:α→β→γ→δ→List bf}{I:α→β→γ→δ→Prop}{ρ0:Env}{Xr Sr:List bf}(x:α)(y:β)(z:γ)(u:δ)(hs:eT (R x y z u++ρ0) ρ)(is:List Nat){Xz:List bf}(hX:bO is X=some (X1 x y z u++Xr,Xz))(js:List Nat)(hS:dB js S=some (S1 x y z u++Sr))(hI:I x y z u):
  HQ (rU N D (fun i:α×β×γ×δ=>R i.1 i.2.1 i.2.2.1 i.2.2.2++ρ0) fun i w=>Mem b (X1 i.1 i.2.1 i.2.2.1 i.2.2.2++Xr) (S1 i.1 i.2.1 i.2.2.1 i.2.2.2++Sr) w∧I i.1 i.2.1 i.2.2.1 i.2.2.2) N D .normal ρ b X S:=
 Bu (i:=(x,y,z,u)) hs is hX js hS hI
end
end Go.Eng
end
section
namespace Go.Eng
open Go.RowKit
open Go.ChangeMaps (setBlock)
section
variable{b:cG}{X S Xp Xq:List bf}{w:World}{r:bf}
theorem Mem.l7(m:Mem b (eX Xp::X) S w)(h:Xp.Perm Xq):Mem b (eX Xq::X) S w:=((m.unpack).perm (h.append_right X)).pack
theorem Mem.sQ(m:Mem b (eX Xp::X) S w)(i:Nat)(h:Xp[i]? =some r):Mem b (r::eX (Xp.eraseIdx i)::X) S w:=by
 obtain⟨hlt,rfl⟩:=List.getElem?_eq_some_iff.1 h
 have m1:=(m.l7 (gj Xp i hlt).symm).unpack
 rw[List.cons_append]at m1
 have m2:Mem b (Xp.eraseIdx i++(Xp[i]::X)) S w:=m1.perm (List.perm_middle.symm)
 exact(m2.pack).perm (List.Perm.swap ..)
theorem Mem.ql(m:Mem b (r::eX Xp::X) S w):Mem b (eX (r::Xp)::X) S w:=by
 have m1:Mem b (eX Xp::r::X) S w:=m.perm (List.Perm.swap ..)
 have m2:=m1.unpack
 have m3:Mem b ((r::Xp)++X) S w:=m2.perm (List.perm_middle)
 exact m3.pack
theorem Mem.AG(m:Mem b X S w):Mem b (eX []::X) S w:=Mem.pack (Xp:=[]) m
end
abbrev Bn(n:Nat):={l:List UInt8//l.length=n}
def KN{n:Nat}(d:Bn n):Value:=DV d.1
theorem xW{P:Program}{kt e:TypeId}{n:Nat}(ht:P.underlying kt=some (.array n e))(he:P.underlying e=some (.int .u8))(hs:P.cellsOf kt=n)(hse:P.cellsOf e=1)(hk:P.keyTypeAt 2 kt=true):nC P kt (KN (n:=n))where
 inj a b h:=Subtype.ext (rf h)
 check w em d:=by
  have h1:(KN d).formed P kt=true:=by simp[Value.formed,KN,DV,ht,ax,d.2,hs]
  have h2:=fi (P:=P) (D:=0) (l:=d.1) ht he hs hse d.2
  exact run_checkKey_deep em 9998 2 kt hk w 2 (KN d) _ h1 (by simpa[KN,DV,Value.cells]using h2)
 find w k es h:=by
  have hag:dG P kt=some true:=by simp[dG,ht]
  have heq:∀q:Bn n,(Op.equal kt (KN k) (KN q)).run P w= .ok (decide (k=q)) w:=fun q=>by
   have h2:=fi (P:=P) (D:=0) (l:=k.1) ht he hs hse k.2
   have h3:=fi (P:=P) (D:=0) (l:=q.1) ht he hs hse q.2
   exact lJ (m:=2) (p:=k=q) (by decide) hk hag (by rw[ax,hs];exact k.2) (by rw[ax,hs];exact q.2) h2 h3 (by rw[iC];exact⟨fun e=>Subtype.ext e,fun e=>by rw[e]⟩)
  have hnow:∀(es:List MapEntry) (i:Nat),es≠ []→Instr.findNow (.array n e) (KN k) es i=none:=fun es i hne=>by
   cases es with
   |nil=>exact absurd rfl hne
   |cons x r=>rfl
  have hask:∀(es:List MapEntry) (i:Nat),(∀x∈es,∃q:Bn n,x.key=KN q)→(∃j x,es[j]? =some x∧x.key=KN k∧(Instr.findAsking kt (KN k) es i).run P w= .ok (some (i+j,x.val)) w)∨((∀x∈es,x.key≠KN k)∧(Instr.findAsking kt (KN k) es i).run P w= .ok none w):=by
   intro es
   induction es with
   |nil=>intro i _;exact .inr ⟨by simp,rfl⟩
   |cons x r ih=>
    intro i h
    obtain⟨q,hq⟩:=h x (by simp)
    have hx:=heq q
    rw[←hq]at hx
    by_cases hkq:k=q
    ·rw[decide_eq_true hkq]at hx
     exact .inl ⟨0,x,rfl,by rw[hq,hkq],by simp[Instr.findAsking,hx]⟩
    ·rw[decide_eq_false hkq]at hx
     rcases ih (i+1) (fun y hy=>h y (by simp[hy]))with⟨j,y,hj,hy,hf⟩|⟨hall,hf⟩
     ·refine .inl ⟨j+1,y,by simpa using hj,hy, ?_⟩
      simp[Instr.findAsking,hx,hf]
      omega
     ·refine .inr ⟨fun y hy=> ?_,by simp[Instr.findAsking,hx,hf]⟩
      rcases List.mem_cons.1 hy with rfl|hy
      ·rw[hq];exact fun e=>hkq (Subtype.ext (rf e)).symm
      ·exact hall y hy
  cases es with
  |nil=>exact .inr ⟨by simp,by simp[Instr.findKey,run_underlying ht,Instr.findNow]⟩
  |cons x r=>
   have h0:=hnow (x::r) 0 (by simp)
   rcases hask (x::r) 0 h with⟨j,y,hj,hy,hf⟩|⟨hall,hf⟩
   ·refine .inl ⟨j,y,hj,hy, ?_⟩
    simp[Instr.findKey,run_underlying ht,h0,hf]
   ·exact .inr ⟨hall,by simp[Instr.findKey,run_underlying ht,h0,hf]⟩
 stays w k:=by
  have:Instr.sameBits 10000 (KN k) (KN k)=true:=by
   show((aK k.1).toArray.size == (aK k.1).toArray.size && ((aK k.1).toArray.toList.zip (aK k.1).toArray.toList).all fun(x,y)=>Instr.sameBits 9999 x y)=true
   simp only[beq_self_eq_true,Bool.true_and]
   exact oD 9999 k.1
  simp[Instr.keyThatStays,this]
section
variable{κ:Type}[DecidableEq κ]{enc:κ→Value}
def uE(enc:κ→Value)(w:World)(b:Nat)(l:List (κ×Value))(k:κ)(st:Nat):Prop:=
 ∃es clock,w.heap[b]? =some (.map es clock)∧es.toList.map (fun e=>(e.key,e.val))=l.map (fun p=>(enc p.1,p.2))∧(b7 l).Nodup∧(∀e∈es.toList,e.born<clock)∧(es.toList.map (·.born)).Nodup∧∃(i:Nat) (x:MapEntry) (u:Value),es.toList[i]? =some x∧x.born=st∧l[i]? =some (k,u)
def AH(enc:κ→Value)(b:Nat)(l:List (κ×Value))(k:κ)(st:Nat):bf where
 dj i:=i=b
 holds w:=uE enc w b l k st
 ia f h m:=by
  obtain⟨es,clock,hb,rest⟩:=m
  exact⟨es,clock,(f.block b (cZ hb) (h b rfl)).trans hb,rest⟩
 low m hk:=by
  obtain⟨es,clock,hb,rest⟩:=m
  exact hk▸cZ hb
theorem p9{l:List (κ×Value)}{k:κ}{u v:Value}:cC (cC l k u) k v=cC l k v:=by
 induction l with
 |nil=>simp[cC]
 |cons p r ih=>
  obtain⟨q,x⟩:=p
  by_cases h:q=k
  ·simp[cC,h]
  ·simp[cC,h,ih]
theorem th{P:Program}{w:World}{t kt et:TypeId}{b:Nat}{l:List (κ×Value)}{z:Value}{sz bytes:Nat}(ht:P.underlying t=some (.map kt et))(hT:TI P et z sz bytes)(K:nC P kt enc)(h:fy enc w b l)(k:κ):
  ∃(st:Nat) (w' :World),(Instr.mapEntry t (.map (some b)) (enc k)).run P w= .ok (.tuple #[(bX l k).getD z,.int .i64 (st:Nat)]) w' ∧uE enc w' b (cC l k ((bX l k).getD z)) k st∧Fr (fun i=>i=b) w w' :=by
 have hn:=h.keys
 obtain⟨es,clock,hb,hl,hborn,hnb,hf⟩:=h.found K k
 have hg:(getObj b).run P w= .ok (.map es clock) w:=by simp[getObj,Sem.run,hb]
 have hc:=K.check w false k
 rcases hf with⟨i,x,hi,hp,ha,hx,hf⟩|⟨ha,hf⟩
 ·have hst:=K.stays w k
  have hxi:es[i]? =some x:=by simpa using hi
  have hsame:es.modify i (fun e=>{e with key:=enc k})=es:=by
   apply Array.ext'
   apply List.ext_getElem?
   intro j
   rw[Array.toList_modify,List.getElem?_modify]
   by_cases hij:i=j
   ·subst hij
    rw[hi]
    show some (if i=i then({x with key:=enc k}:MapEntry)else x)=some x
    rw[if_pos rfl,←hx]
   ·simp[hij]
  refine⟨x.born,setBlock w b (.map es clock), ?_,⟨es,clock,eg hb, ?_,fQ hn,hborn,hnb,i,x,x.val,hi,rfl, ?_⟩,dU⟩
  ·rw[ha]
   simp[Instr.mapEntry,run_underlying ht,hg,hc,hf,hxi,hx,hst,hsame,eE hb,goInt]
  ·rw[ha,nP hn hp,hl]
   congr 1
   apply List.ext_getElem?
   intro j
   rw[List.getElem?_set]
   by_cases hij:i=j
   ·subst hij
    rw[if_pos rfl,if_pos (List.getElem?_eq_some_iff.1 hp).1,hp]
    rfl
   ·rw[if_neg hij]
  ·rw[ha,nP hn hp,List.getElem?_set,if_pos rfl,if_pos (List.getElem?_eq_some_iff.1 hp).1]
   rfl
 ·have hlen:es.toList.length=l.length:=by have:=congrArg List.length hl;simpa using this
  refine⟨clock,setBlock w b (.map (es.push {key:=enc k,val:=z,born:=clock}) (clock+1)), ?_,⟨_,_,eg hb, ?_,fQ hn, ?_, ?_,es.toList.length,{key:=enc k,val:=z,born:=clock},z,by simp,rfl, ?_⟩,dU⟩
  ·rw[ha]
   simp[Instr.mapEntry,run_underlying ht,hg,hc,hf,oO hT,eE hb,goInt]
  ·rw[ha,oG ha,Array.toList_push,List.map_append,hl]
   simp
  ·intro e he
   rw[Array.toList_push]at he
   rcases List.mem_append.1 he with he|he
   ·have:=hborn e he;omega
   ·rcases List.mem_singleton.1 he with rfl
    exact Nat.lt_succ_self _
  ·rw[Array.toList_push,List.map_append]
   refine kZ hnb (fun hm=> ?_)
   obtain⟨e,he,hk⟩:=List.mem_map.1 hm
   have:=hborn e he
   simp only at hk
   omega
  ·rw[ha,oG ha,hlen]
   simp
theorem sM{P:Program}{w:World}{t:TypeId}{b:Nat}{l:List (κ×Value)}{k:κ}{st:Nat}(h:uE enc w b l k st)(v:Value):
  ∃w',(Instr.entryStore t (.map (some b)) (.int .i64 (st:Nat)) v).run P w= .ok () w' ∧fy enc w' b (cC l k v)∧Fr (fun i=>i=b) w w' :=by
 obtain⟨es,clock,hb,hl,hn,hborn,hnb,i,x,u,hi,rfl,hp⟩:=h
 have hg:(getObj b).run P w= .ok (.map es clock) w:=by simp[getObj,Sem.run,hb]
 have hidx:es.findIdx? (fun e=>((e.born:Nat):Int) == ((x.born:Nat):Int))=some i:=by
  rw[WideElems.findIdx_arr]
  exact WideElems.findIdx_born hnb hi
 refine⟨setBlock w b (.map (es.modify i fun e=>{e with val:=v}) clock), ?_,⟨_,clock,eg hb, ?_,fQ hn, ?_, ?_⟩,dU⟩
 ·simp[Instr.entryStore,hg,asInt,asIntOf,hidx,eE hb]
 ·rw[nP hn hp,Array.toList_modify]
  apply List.ext_getElem?
  intro j
  have hj:=congrArg (fun q:List (Value×Value)=>q[j]?) hl
  simp only[List.getElem?_map]at hj
  simp only[List.getElem?_map,List.getElem?_modify,List.getElem?_set]
  by_cases hij:i=j
  ·subst hij
   have hlt:=(List.getElem?_eq_some_iff.1 hp).1
   rw[hi,hp]at hj
   simp only[Option.map_some,Option.some.injEq,Prod.mk.injEq]at hj
   simp[hi,hlt,hj.1]
  ·simp only[hij,if_false]
   simpa using hj
 ·intro e he
  rw[Array.toList_modify]at he
  obtain⟨j,hj⟩:=List.mem_iff_getElem?.1 he
  rw[List.getElem?_modify]at hj
  cases hej:es.toList[j]? with
  |none=>rw[hej]at hj;simp at hj
  |some e0=>
   have:=hborn e0 (List.mem_of_getElem? hej)
   rw[hej]at hj
   simp only[Option.map_eq_map,Option.map_some,Option.some.injEq]at hj
   subst hj
   split <;> exact this
 ·have:(es.modify i fun e=>{e with val:=v}).toList.map (·.born)=es.toList.map (·.born):=by
   apply List.ext_getElem?
   intro j
   rw[Array.toList_modify]
   simp only[List.getElem?_map,List.getElem?_modify]
   cases es.toList[j]? with
   |none=>rfl
   |some e0=>simp only[Option.map_eq_map,Option.map_some];split <;> rfl
  rw[this]
  exact hnb
section
variable{P:Program}{Q:Exit→Act→World→Prop}{N:Nat}{D:List Deferred}{ρ:Env}{b:cG}{X S:List bf}{ty t kt et:TypeId}{x y q:Operand}{K:Value→List bf→List bf→Prop}{g:Nat}{l:List (κ×Value)}
theorem xb{k:κ}{z:Value}{sz bytes:Nat}(i:Nat)(hi:X[i]? =some (dR enc g l))(hx:ev ρ x=some (.map (some g)))(hy:ev ρ y=some (enc k))(ht:P.underlying t=some (.map kt et))(hT:TI P et z sz bytes)(hK:nC P kt enc)
  (kk:∀st:Nat,K (.tuple #[(bX l k).getD z,.int .i64 (st:Nat)]) (AH enc g (cC l k ((bX l k).getD z)) k st::X.eraseIdx i) S):XH P Q N D ρ b X S (.mapEntry t x y) ty K:=fun w m=>by
 obtain⟨st,w',hrun,hE,hf⟩:=th ht hT hK (m.mF i hi) k
 refine dh (v' :=.tuple #[(bX l k).getD z,.int .i64 (st:Nat)]) (w' :=w') (fun a _ _ _ _ ha=>by simp[execOp,ha.eval hx,ha.eval hy,hrun]) ⟨_,_, ?_,kk st⟩
 have m' :=m.perm (az [i] X [dR enc g l] (X.eraseIdx i) (by simp[bO,hi]))
 exact m'.change (r' :=AH enc g (cC l k ((bX l k).getD z)) k st) hf hE (fun k hk=>.inl hk)
theorem pH{k:κ}{st:Nat}{v:Value}(i:Nat)(hi:X[i]? =some (AH enc g l k st))(hx:ev ρ x=some (.map (some g)))(hy:ev ρ y=some (.int .i64 (st:Nat)))(hq:ev ρ q=some v)
  (kk:K undef (dR enc g (cC l k v)::X.eraseIdx i) S):XH P Q N D ρ b X S (.entryStore t x y q) ty K:=fun w m=>by
 have hE:uE enc w g l k st:=m.hx _ (List.mem_of_getElem? hi)
 obtain⟨w',hrun,hM,hf⟩:=sM (P:=P) (t:=t) hE v
 refine jy (w' :=w') (fun a _ _ _ _ ha=>by simp[execOp,ha.eval hx,ha.eval hy,ha.eval hq,hrun]) ⟨_,_, ?_,kk⟩
 have m' :=m.perm (az [i] X [AH enc g l k st] (X.eraseIdx i) (by simp[bO,hi]))
 exact m'.change (r' :=dR enc g (cC l k v)) hf hM (fun k hk=>.inl hk)
end
end
end Go.Eng
end
section
set_option maxRecDepth 20000
set_option maxHeartbeats 2000000
namespace Go.Proofs.YtmibdabdlgmafaaGreatDoor
open Go.Eng Go.Hx
theorem Bi{A:Option Addr}{n c i k:Nat}{l:List UInt8}(hn:n≤1000000000)(hl:l.length=n)(hi:i≤n)(hk:k≤i):cj Tryz.prog 272 [.slice A n c,.int .i64 (i:Nat),.int .i64 (k:Nat)] [] [dw 1 A n (aK l)] (fun v_ X_ S_=>v_=(.int .i64 (k4 l i k:Nat))∧X_=[]∧S_=[]):=by
 refine aU (N:=36) Tryz.func272 rfl rfl (by simp) fun b=> ?_
 refine ba (fun m=>fG (m.rd 0 rfl)) ?_
 rintro⟨hl_r,hA_r⟩
 refine ah<|aj<|hy (fun _=>ab rfl)<|ai<|ag<|ah<|aj<|hy (fun _=>ab rfl)<|ai<|ag<|ah<|aN<| ?_
 refine dA (fun m=>131-m) (fun m=>[(7,.int .i64 (m:Nat))]) (fun m=>[]) (fun m=>[]) (fun m=>m≤131∧i+m≤n∧kC l i k (131-m) m=k4 l i k) 0 [(6,_),(0,_),(1,_),(2,_)] ⟨rfl,rfl,rfl,rfl,trivial⟩ [] rfl [] rfl (⟨by decide,hi,rfl⟩) ⟨rfl,trivial⟩ (fun m ⟨hm,him,hL⟩=> ?_)
 refine ah<|ah<|cV [] [(0,some 0),(1,some 0),(2,some 0),(3,some 0),(4,some 0),(5,some 0),(6,some 0),(7,some 0),(8,some 0),(9,some 0),(10,some 0),(11,some 0),(12,some 0),(13,some 0),(14,some 0),(15,some 0),(16,some 0),(17,some 0),(18,some 0),(19,some 0),(20,some 0),(21,some 0),(22,some 0),(23,some 0),(24,some 0)] (by kernel_rfl) (by kernel_rfl) rfl 99<|an (aa rfl)<|an (bk rfl rfl)<|an (aa rfl)<| ?_
 refine gJ 10 rfl (fun h1=> ?_) (fun h1=> ?_)
 ·refine bI (o:=_) rfl rfl rfl (aa rfl)<|bI (o:=_) rfl rfl rfl (aa rfl)<|bI (o:=_) rfl rfl rfl (aM rfl rfl (bB (by omega) (by omega)))<|bI (o:=_) rfl rfl rfl (aa rfl)<|bI (o:=_) rfl rfl rfl (aX rfl Tryz.underlying27)<|bI (o:=_) rfl rfl rfl (bk rfl rfl)<|an (bo rfl rfl)<|an (aa rfl)<| ?_
  refine gJ 18 rfl (fun h2=> ?_) (fun h2=> ?_)
  ·refine bI (o:=_) rfl rfl rfl (aa rfl)<|bI (o:=_) rfl rfl rfl (aa rfl)<|bI (o:=_) rfl rfl rfl (aa rfl)<|bI (o:=_) rfl rfl rfl (aM rfl rfl (bB (by omega) (by omega)))<|bI (o:=_) rfl rfl rfl (aL rfl rfl Tryz.underlying27 dE hA_r (show((i+m:Nat):Int)=_ by omega) (by omega))<|jQ (o:=_) rfl rfl rfl (fun m=>av rfl iy ((m.rd 0 rfl).cell (bC (by omega))))<|bI (o:=_) rfl rfl rfl (aa rfl)<|bI (o:=_) rfl rfl rfl (aa rfl)<|bI (o:=_) rfl rfl rfl (aa rfl)<|bI (o:=_) rfl rfl rfl (aM rfl rfl (bB (by omega) (by omega)))<|bI (o:=_) rfl rfl rfl (aL rfl rfl Tryz.underlying27 dE hA_r (show((k+m:Nat):Int)=_ by omega) (by omega))<|jQ (o:=_) rfl rfl rfl (fun m=>av rfl iy ((m.rd 0 rfl).cell (bC (by omega))))<|bI (o:=_) rfl rfl rfl (cy rfl rfl)<|an (bo rfl rfl)<|bE<|al (ρ' :=[(32,_),(7,_),(6,_),(0,_),(1,_),(2,_)]) ⟨rfl,rfl,rfl,rfl,rfl,rfl,trivial⟩<|ag<| ?_
   refine cI rfl (fun h3=> ?_) (fun h3=> ?_)
   ·have e3:l.getD (i+m) 0=l.getD (k+m) 0:=UInt8.toNat_inj.1 (by omega)
    rw[gS (by omega) ⟨by omega,e3⟩]at hL
    refine aC<|ag<|aN<|aj<|hy (fun _=>aa rfl)<|hy (fun _=>aM rfl rfl (bB (by omega) (by omega)))<|hy (fun _=>ab rfl)<|ai<|al (ρ' :=[(7,_),(32,_),(6,_),(0,_),(1,_),(2,_)]) ⟨rfl,rfl,rfl,rfl,rfl,rfl,trivial⟩<|aW<| ?_
    refine cS (m+1) ⟨rfl,rfl,rfl,rfl,rfl,trivial⟩ [] rfl [0] rfl (⟨by omega,by omega,by rw[←hL];rfl⟩) (by omega)
   ·rw[ku (fun q=>h3 (by rw[q.2]))]at hL
    rw[←hL]
    refine bS<|ar<|ar<|aE<|ag<|ah<|aj<|hy (fun _=>aa rfl)<|hy (fun _=>ab rfl)<|ai<|al (ρ' :=[(6,_),(32,_),(7,_),(0,_),(1,_),(2,_)]) ⟨rfl,rfl,rfl,rfl,rfl,rfl,trivial⟩<|ag<|aQ<| ?_
    exact bd trivial rfl rfl [] rfl [] rfl ⟨rfl,rfl,rfl⟩
  ·rw[ku (fun q=>h2 (by omega))]at hL
   rw[←hL]
   refine aO rfl rfl rfl (by decide)<|aO rfl rfl rfl (by decide)<|aO rfl rfl rfl (by decide)<|aO rfl rfl rfl (by decide)<|aO rfl rfl rfl (by decide)<|aO rfl rfl rfl (by decide)<|aO rfl rfl rfl (by decide)<|aO rfl rfl rfl (by decide)<|aO rfl rfl rfl (by decide)<|aO rfl rfl rfl (by decide)<|aO rfl rfl rfl (by decide)<|aO rfl rfl rfl (by decide)<|aO rfl rfl rfl (by decide)<|an (a7 rfl rfl)<|bE<|al (ρ' :=[(32,_),(7,_),(6,_),(0,_),(1,_),(2,_)]) ⟨rfl,rfl,rfl,rfl,rfl,rfl,trivial⟩<|ag<| ?_
   refine dx rfl (rfl) ?_
   refine bS<|ar<|ar<|aE<|ag<|ah<|aj<|hy (fun _=>aa rfl)<|hy (fun _=>ab rfl)<|ai<|al (ρ' :=[(6,_),(32,_),(7,_),(0,_),(1,_),(2,_)]) ⟨rfl,rfl,rfl,rfl,rfl,rfl,trivial⟩<|ag<|aQ<| ?_
   exact bd trivial rfl rfl [] rfl [] rfl ⟨rfl,rfl,rfl⟩
 ·obtain rfl:m=131:=by omega
  have hL:131=k4 l i k:=hL
  rw[←hL]
  refine aO rfl rfl rfl (by decide)<|aO rfl rfl rfl (by decide)<|aO rfl rfl rfl (by decide)<|aO rfl rfl rfl (by decide)<|aO rfl rfl rfl (by decide)<|aO rfl rfl rfl (by decide)<|an (a7 rfl rfl)<|an (aa rfl)<| ?_
  refine aO rfl rfl rfl (by decide)<|aO rfl rfl rfl (by decide)<|aO rfl rfl rfl (by decide)<|aO rfl rfl rfl (by decide)<|aO rfl rfl rfl (by decide)<|aO rfl rfl rfl (by decide)<|aO rfl rfl rfl (by decide)<|aO rfl rfl rfl (by decide)<|aO rfl rfl rfl (by decide)<|aO rfl rfl rfl (by decide)<|aO rfl rfl rfl (by decide)<|aO rfl rfl rfl (by decide)<|aO rfl rfl rfl (by decide)<|an (a7 rfl rfl)<|bE<|al (ρ' :=[(32,_),(7,_),(6,_),(0,_),(1,_),(2,_)]) ⟨rfl,rfl,rfl,rfl,rfl,rfl,trivial⟩<|ag<| ?_
  refine dx rfl (rfl) ?_
  refine bS<|ar<|ar<|aE<|ag<|ah<|aj<|hy (fun _=>aa rfl)<|hy (fun _=>ab rfl)<|ai<|al (ρ' :=[(6,_),(32,_),(7,_),(0,_),(1,_),(2,_)]) ⟨rfl,rfl,rfl,rfl,rfl,rfl,trivial⟩<|ag<|aQ<| ?_
  exact bd trivial rfl rfl [] rfl [] rfl ⟨rfl,rfl,rfl⟩
structure jT where
 A:Option Addr
 c:Nat
 l:List Nat
def jT.val(r:jT):Value:=.slice r.A r.l.length r.c
def ze(l:List Nat):List Value:=l.map fun n=>Value.int .i64 (n:Nat)
theorem u5{l:List Nat}:∀u∈ze l,u.oneCell' =true:=by
 intro u hu
 obtain⟨n,_,rfl⟩:=List.mem_map.1 hu
 rfl
def jT.res(r:jT):bf:=aF 3 1 (.slice r.A r.l.length r.c) r.l.length (ze r.l)
abbrev sY:=List (Bn 4×jT)
def ji(es:sY):List (Bn 4×Value):=es.map fun x=>(x.1,x.2.val)
def fH(es:sY):List bf:=es.map fun x=>x.2.res
abbrev mB(g gm:Nat)(A:Option Addr)(n c m:Nat)(es:sY):bf:=eX [aH g 359 [.slice A n c,.map (some gm),.int .i64 (m:Nat)],dR (KN (n:=4)) gm (ji es),eX (fH es)]
def wo(l:List UInt8)(m:Nat)(es:sY):Prop:=∀k:Bn 4,((bX es k).map jT.l).getD []=kd l m k.1
theorem kx(k:Bn 4):∀es:sY,bX (ji es) k=(bX es k).map jT.val
 | []=>rfl
 |(q,r)::t=>by
  have ih:=kx k t
  unfold ji at ih ⊢
  simp only[List.map_cons,bX]
  split
  ·rfl
  ·exact ih
theorem mM(k:Bn 4)(r:jT):∀es:sY,cC (ji es) k r.val=ji (cC es k r)
 | []=>rfl
 |(q,x)::t=>by
  have ih:=mM k r t
  unfold ji at ih ⊢
  simp only[List.map_cons,cC]
  split
  ·rfl
  ·rw[ih];rfl
theorem oz{k:Bn 4}(r:jT):∀{es:sY},bX es k=none→fH (cC es k r)=fH es++[r.res]
 | [],_=>rfl
 |(q,x)::t,h=>by
  simp only[bX]at h
  split at h
  ·cases h
  ·rename_i hq
   have ih:=oz r h
   unfold fH at ih ⊢
   simp only[cC,if_neg hq,List.map_cons,ih,List.cons_append]
theorem kf{k:Bn 4}:∀{es:sY} {x:jT},bX es k=some x→∃i,(fH es)[i]? =some x.res∧∀r:jT,fH (cC es k r)=(fH es).set i r.res
 | [],_,h=>by cases h
 |(q,y)::t,x,h=>by
  simp only[bX]at h
  split at h
  ·rename_i hq
   cases h
   exact⟨0,rfl,fun r=>by simp[fH,cC,hq]⟩
  ·rename_i hq
   obtain⟨i,h1,h2⟩:=kf h
   refine⟨i+1,by simpa[fH]using h1,fun r=> ?_⟩
   have h2:=h2 r
   unfold fH at h2 ⊢
   simp only[cC,if_neg hq,List.map_cons,h2,List.set_cons_succ]
theorem set_perm{α:Type}:∀(l:List α) (i:Nat) (x:α),i<l.length→(l.set i x).Perm (x::l.eraseIdx i)
 | [],i,x,h=>by simp at h
 |a::t,0,x,h=>by simp
 |a::t,i+1,x,h=>by
  have:=set_perm t i x (by simpa using h)
  simp only[List.set_cons_succ,List.eraseIdx_cons_succ]
  exact(this.cons a).trans (List.Perm.swap ..)
theorem vc{l:List UInt8}{m:Nat}{es:sY}{A:Option Addr}{c:Nat}(h:wo l m es)(hm:m+4≤l.length):wo l (m+1) (cC es ⟨ek l m,bK hm⟩ ⟨A,c,kd l m (ek l m)++[m]⟩):=by
 intro k
 rw[qd,wi]
 by_cases hk:ek l m=k.1
 ·rw[if_pos (Subtype.ext hk),if_pos hk,←hk];rfl
 ·rw[if_neg (fun e=>hk (congrArg Subtype.val e)),if_neg hk,List.append_nil]
  exact h k
theorem AI(l:List UInt8):wo l 0 []:=fun k=>rfl
theorem sy{es:sY}{l:List UInt8}{m:Nat}{k:Bn 4}{r:jT}(h:wo l m es)(hr:bX es k=some r):r.l=kd l m k.1:=by
 have:=h k
 rw[hr]at this
 exact this
theorem qg{es:sY}{l:List UInt8}{m:Nat}{k:Bn 4}(h:wo l m es)(hr:bX es k=none):kd l m k.1=[]:=by
 have:=h k
 rw[hr]at this
 exact this.symm
theorem Ej{g gm:Nat}{A:Option Addr}{n c p i:Nat}{l:List UInt8}{es:sY}(hc:n≤c)(hn:n≤1000000000)(hl:l.length=n)(hpi:p≤i)(hi:i+4≤n)(hF:wo l p es):cj Tryz.prog 270 [.pointer (some ⟨g,0,none⟩),.int .i64 (i:Nat)] [mB g gm A n c p es] [dw 1 A n (aK l)] (fun v_ X_ S_=>∃es1,v_=(.tuple #[])∧X_=[mB g gm A n c i es1]∧S_=[]∧(wo l i es1)):=by
 refine aU (N:=61) Tryz.func270 rfl rfl (by simp) fun b=> ?_
 refine ba (fun m=>fG (m.rd 0 rfl)) ?_
 rintro⟨hl_r,hA_r⟩
 refine bD (fun w m=>(m.perm (az [0] _ [_] _ rfl)).unpack) ?_
 refine aN<| ?_
 refine tm (fun p es=>i-p) (fun p es=>[]) (fun p es=>[aH g 359 [.slice A n c,.map (some gm),.int .i64 (p:Nat)],dR (KN (n:=4)) gm (ji es),eX (fH es)]) (fun p es=>[]) (fun p es=>p≤i∧wo l p es) p es [(0,_),(1,_)] ⟨rfl,rfl,trivial⟩ [0,0,0] rfl [] rfl (⟨hpi,hF⟩) trivial (fun p es ⟨hpi,hF⟩=> ?_)
 refine ah<|ah<|cV [] [(0,some 0),(1,some 0),(2,some 0),(3,some 0),(4,some 0),(5,some 0),(6,some 0),(7,some 0),(8,some 0),(9,some 0),(10,some 0),(11,some 0),(12,some 0),(13,some 0),(14,some 0),(15,some 0),(16,some 0),(17,some 0),(18,some 0)] (by kernel_rfl) (by kernel_rfl) rfl 99<|an (aa rfl)<|an (bx rfl)<|an (aI rfl gM (by decide))<|cn (fun m=>av rfl dV (aB (m.aT 0 rfl) rfl))<|an (aa rfl)<|an (bk rfl rfl)<|an (aa rfl)<| ?_
 refine gJ 11 rfl (fun h1=> ?_) (fun h1=> ?_)
 ·refine bI (o:=_) rfl rfl rfl (aa rfl)<|bI (o:=_) rfl rfl rfl (bx rfl)<|bI (o:=_) rfl rfl rfl (aI rfl gM (by decide))<|jQ (o:=_) rfl rfl rfl (fun m=>av rfl dV (aB (m.aT 0 rfl) rfl))<|bI (o:=_) rfl rfl rfl (aM rfl rfl (bB (by omega) (by omega)))<|bI (o:=_) rfl rfl rfl (aa rfl)<|bI (o:=_) rfl rfl rfl (bx rfl)<|bI (o:=_) rfl rfl rfl (aI rfl jo (by decide))<|jQ (o:=_) rfl rfl rfl (fun m=>av rfl dO (aB (m.aT 0 rfl) rfl))<|bI (o:=_) rfl rfl rfl (aX rfl Tryz.underlying27)<|bI (o:=_) rfl rfl rfl (lA rfl rfl)<|an (bo rfl rfl)<|bE<|al (ρ' :=[(23,_),(0,_),(1,_)]) ⟨rfl,rfl,rfl,trivial⟩<|ag<| ?_
  refine fe rfl ((decide_eq_true (by omega))) ?_
  refine ba (fun m=>(m.rd 0 rfl).some (by omega)) fun h_=> ?_
  obtain⟨a,rfl⟩:∃a_,A=some a_:=⟨_,h_⟩
  clear h_
  refine aC<|ag<|ah<|aN<|ah<|cV [16,17] [(0,some 1),(1,some 1),(2,some 1),(3,some 1),(4,some 1),(5,some 1),(6,some 1),(7,some 1),(8,some 1),(9,some 1),(10,some 1),(11,some 1),(12,some 1),(13,some 1),(14,some 1),(15,some 1),(16,none),(17,none)] (by kernel_rfl) (by kernel_rfl) rfl 1<|an (aa rfl)<|an (bx rfl)<|an (aI rfl jo (by decide))<|cn (fun m=>av rfl dO (aB (m.aT 0 rfl) rfl))<|an (aa rfl)<|an (bx rfl)<|an (aI rfl gM (by decide))<|cn (fun m=>av rfl dV (aB (m.aT 0 rfl) rfl))<|an (aa rfl)<|an (bx rfl)<|an (aI rfl gM (by decide))<|cn (fun m=>av rfl dV (aB (m.aT 0 rfl) rfl))<|an (aM rfl rfl (bB (by omega) (by omega)))<|an (yV (en rfl rfl rfl Tryz.underlying27 dE rfl (show((p+4:Nat):Int)=_ by omega) (by omega) (by omega)) ((show Value.slice (if c=p then some a else(some a).map (·.add (p*1))) (p+4-p) (c-p)= .slice (some (a.add p)) 4 (c-p) by rw[if_neg (by omega),Nat.mul_one,Nat.add_sub_cancel_left];rfl)))<|an (lW rfl Tryz.underlying364 (by omega))<|cn (fun m=>yV (aR rfl ux r5 (by rw[ax];exact bK (by omega)) (Rd.part (m.rd 0 rfl))) ((rfl:Value.agg _= .agg (aK (ek l p)).toArray)))<| ?_
  refine eK (aJ DM (fun g4=>⟨(fun _=>wk [1,1,1] [0] rfl rfl), ?_⟩))
  refine ja (aG 0 rfl rfl rfl r5 (by rw[ax];exact bK (by omega)) aS rfl ⟨(fun h=>absurd h (by decide)), ?_⟩)
  refine bE<|al (ρ' :=[(4,_),(23,_),(0,_),(1,_)]) ⟨rfl,rfl,rfl,rfl,trivial⟩<|ak (X' :=[_,_,_,_]) (S' :=[_]) (fun _ m=>m)<|ag<| ?_
  refine cV [9,10,12,14] [(0,some 1),(1,some 1),(2,some 1),(3,some 1),(4,some 1),(5,some 0),(6,some 0),(7,some 0),(8,some 0),(9,none),(10,none),(11,some 2),(13,some 3),(12,none),(14,none)] (by kernel_rfl) (by kernel_rfl) rfl 1<|an (aa rfl)<|an (bx rfl)<|an (aI rfl qo (by decide))<|cn (fun m=>av rfl xD (aB (m.aT 1 rfl) rfl))<|cn (fun m=>yV (aR rfl ux r5 (by rw[ax];exact bK (by omega)) ((m.aT 0 rfl).au)) ((rfl:Value.agg _=KN ⟨ek l p,bK (by omega)⟩)))<|an (aa rfl)<|an (bx rfl)<|an (aI rfl gM (by decide))<|cn (fun m=>av rfl dV (aB (m.aT 1 rfl) rfl))<| ?_
  refine eK (cg Tryz.underlying44 Ee rfl rfl rfl (by simp[Value.cells,B8]) (by decide) (by decide) (fun g57=>⟨(fun _=>wk [1,1,1,1] [0] rfl rfl), ?_⟩))
  have hA_b57:0<1→(some (⟨g57,0,none⟩:Addr))≠none:=fun _ h=>by cases h
  refine jW (fun w m=>m.bQ 0 rfl (show _=aF 3 1 (.slice (some ⟨g57,0,none⟩) 1 1) 1 (ze [p])from rfl)) ?_
  refine eK (xb (enc:=(KN (n:=4))) (k:=⟨ek l p,bK (by omega)⟩) 3 rfl rfl rfl Tryz.underlying357 BQ (xW Tryz.underlying364 Tryz.underlying5 (by kernel_rfl) (by kernel_rfl) (by kernel_rfl)) (fun st58=>⟨(fun h=>absurd h (by decide)), ?_⟩))
  rw[kx]
  rcases hq:bX es ⟨ek l p,bK (by omega)⟩with _|x
  ·have e0:=qg hF hq
   refine jW (fun w m=>m.cL (r' :=aF 3 1 (.slice none 0 0) 0 []) (.refl _ _) (Own.nil _ _ _ _) (fun k hk=>hk.elim)) ?_
   refine an (ao rfl rfl)<|an (ao rfl rfl)<| ?_
   refine eK (bu 0 rfl rfl rfl Tryz.underlying44 Tryz.underlying44 (by exact .inl rfl) Ee rfl (fun m=>Src.bN (m.ord 2 rfl)) (u5 (l:=[p])) (by unfold maxLen;omega) (by omega) (fun u=>⟨(fun h=>absurd h (by decide)), ?_⟩))
   refine cP (fun m=>(m.own 0 rfl).slice) ?_
   rintro⟨A_x,c_x,rfl,hc_x⟩
   refine cP (fun m=>(m.ord 0 rfl).2.1) fun hA_x=> ?_
   refine ja (pH (enc:=(KN (n:=4))) 1 rfl rfl rfl rfl ⟨(fun h=>absurd h (by decide)), ?_⟩)
   refine bE<|al (ρ' :=[(4,_),(23,_),(0,_),(1,_)]) ⟨rfl,rfl,rfl,rfl,trivial⟩<|ak (X' :=[_,_,_,_,_,_]) (S' :=[_]) (fun _ m=>m)<|aW<|ag<|aj<|hy (fun _=>aa rfl)<|hy (fun _=>bx rfl)<|hy (fun _=>aI rfl gM (by decide))<|hy (fun m=>av rfl dV (aB (m.aT 4 rfl) rfl))<|hy (fun _=>aM rfl rfl (bB (by omega) (by omega)))<|hy (fun _=>bx rfl)<|hy (fun _=>aI rfl gM (by decide))<| ?_
   refine cN (ct 4 rfl rfl rfl rl rfl (by first|exact Nat.le_of_ble_eq_true rfl|simp) ?_)
   refine ai<|al (ρ' :=[(4,_),(23,_),(0,_),(1,_)]) ⟨rfl,rfl,rfl,rfl,trivial⟩<|ak (X' :=[_,_,_,_,_,_]) (S' :=[_]) (fun _ m=>m)<| ?_
   refine ak (fun w m=>m.bQ 0 rfl (show _=aH g 359 [.slice (some a) n c,.map (some gm),.int .i64 ((p+1:Nat):Int)]from rfl)) ?_
   refine ak (fun w m=>m.bQ 1 rfl (show _=dR (KN (n:=4)) gm (ji (cC es ⟨ek l p,bK (by omega)⟩ ⟨A_x,c_x,[p]⟩))from congrArg (dR _ _) (p9.trans (mM _ ⟨A_x,c_x,[p]⟩ es)))) ?_
   refine ak (X' :=eX (fH (cC es ⟨ek l p,bK (by omega)⟩ ⟨A_x,c_x,[p]⟩))::_) (fun w m=>(Mem.ql (m.perm (az [2,4] _ [_,_] _ rfl))).l7 (by rw[oz _ hq];exact(List.perm_append_singleton _ _).symm)) ?_
   refine oR (p+1) (cC es ⟨ek l p,bK (by omega)⟩ ⟨A_x,c_x,[p]⟩) ⟨rfl,rfl,trivial⟩ [2,1,0] rfl [0] rfl (⟨by omega,by have:=vc (A:=A_x) (c:=c_x) hF (by omega);rw[e0]at this;exact this⟩) (by omega)
  ·obtain⟨j,hj1,hj2⟩:=kf hq
   have e0:=sy hF hq
   have hxl:x.l.length≤n:=by rw[e0];exact Nat.le_trans (nr _ _ _) (by omega)
   refine jW (X' :=aF 3 1 (.slice x.A x.l.length x.c) x.l.length (ze x.l)::_) (fun w m=>(m.perm (az [4] _ [_] _ rfl)).sQ j hj1) ?_
   refine an (ao rfl rfl)<|an (ao rfl rfl)<| ?_
   refine eK (bu 0 rfl rfl rfl Tryz.underlying44 Tryz.underlying44 (by exact .inl rfl) Ee rfl (fun m=>Src.bN (m.ord 3 rfl)) (u5 (l:=[p])) (by unfold maxLen;omega) (by omega) (fun u=>⟨(fun h=>absurd h (by decide)), ?_⟩))
   refine cP (fun m=>(m.own 0 rfl).slice) ?_
   rintro⟨A_y,c_y,rfl,hc_y⟩
   refine cP (fun m=>(m.ord 0 rfl).2.1) fun hA_y=> ?_
   refine ja (pH (enc:=(KN (n:=4))) 2 rfl rfl rfl rfl ⟨(fun h=>absurd h (by decide)), ?_⟩)
   refine bE<|al (ρ' :=[(4,_),(23,_),(0,_),(1,_)]) ⟨rfl,rfl,rfl,rfl,trivial⟩<|ak (X' :=[_,_,_,_,_,_]) (S' :=[_]) (fun _ m=>m)<|aW<|ag<|aj<|hy (fun _=>aa rfl)<|hy (fun _=>bx rfl)<|hy (fun _=>aI rfl gM (by decide))<|hy (fun m=>av rfl dV (aB (m.aT 5 rfl) rfl))<|hy (fun _=>aM rfl rfl (bB (by omega) (by omega)))<|hy (fun _=>bx rfl)<|hy (fun _=>aI rfl gM (by decide))<| ?_
   refine cN (ct 5 rfl rfl rfl rl rfl (by first|exact Nat.le_of_ble_eq_true rfl|simp) ?_)
   refine ai<|al (ρ' :=[(4,_),(23,_),(0,_),(1,_)]) ⟨rfl,rfl,rfl,rfl,trivial⟩<|ak (X' :=[_,_,_,_,_,_]) (S' :=[_]) (fun _ m=>m)<| ?_
   refine ak (fun w m=>m.bQ 0 rfl (show _=aH g 359 [.slice (some a) n c,.map (some gm),.int .i64 ((p+1:Nat):Int)]from rfl)) ?_
   have h1e:cC (ji es) ⟨ek l p,bK (by omega)⟩ (.slice A_y (x.l.length+1) c_y)=ji (cC es ⟨ek l p,bK (by omega)⟩ ⟨A_y,c_y,x.l++[p]⟩):=by rw[←mM];simp[jT.val]
   refine ak (fun w m=>m.bQ 1 rfl (show _=dR (KN (n:=4)) gm (ji (cC es ⟨ek l p,bK (by omega)⟩ ⟨A_y,c_y,x.l++[p]⟩))from congrArg (dR _ _) (p9.trans h1e))) ?_
   have h2e:aF 3 1 (.slice A_y (x.l.length+1) c_y) (x.l.length+1) (ze x.l++ze [p])=(⟨A_y,c_y,x.l++[p]⟩:jT).res:=by simp[jT.res,ze]
   refine ak (fun w m=>m.bQ 2 rfl (show _=(⟨A_y,c_y,x.l++[p]⟩:jT).res from h2e)) ?_
   have hjl:=(List.getElem?_eq_some_iff.1 hj1).1
   refine ak (X' :=eX (fH (cC es ⟨ek l p,bK (by omega)⟩ ⟨A_y,c_y,x.l++[p]⟩))::_) (fun w m=>(Mem.ql (m.perm (az [0,2] _ [_,_] _ rfl))).l7 (by rw[hj2];exact(set_perm _ _ _ hjl).symm)) ?_
   refine oR (p+1) (cC es ⟨ek l p,bK (by omega)⟩ ⟨A_y,c_y,x.l++[p]⟩) ⟨rfl,rfl,trivial⟩ [2,1,0] rfl [0] rfl (⟨by omega,by have:=vc (A:=A_y) (c:=c_y) hF (by omega);rw[←e0]at this;exact this⟩) (by omega)
 ·obtain rfl:p=i:=by omega
  refine aO rfl rfl rfl (by decide)<|aO rfl rfl rfl (by decide)<|aO rfl rfl rfl (by decide)<|aO rfl rfl rfl (by decide)<|aO rfl rfl rfl (by decide)<|aO rfl rfl rfl (by decide)<|aO rfl rfl rfl (by decide)<|aO rfl rfl rfl (by decide)<|aO rfl rfl rfl (by decide)<|aO rfl rfl rfl (by decide)<|aO rfl rfl rfl (by decide)<|an (a7 rfl rfl)<|bE<|al (ρ' :=[(23,_),(0,_),(1,_)]) ⟨rfl,rfl,rfl,trivial⟩<|ag<| ?_
  refine dx rfl (rfl) ?_
  refine bS<|ar<|ar<|aE<| ?_
  refine ak (X' :=mB g gm A n c p es::_) (fun w m=>(m.perm (az [0,0,0] _ [_,_,_] _ rfl)).pack) ?_
  exact gH trivial rfl [0] rfl [] rfl ⟨es,rfl,rfl,rfl,hF⟩
end Go.Proofs.YtmibdabdlgmafaaGreatDoor
end
