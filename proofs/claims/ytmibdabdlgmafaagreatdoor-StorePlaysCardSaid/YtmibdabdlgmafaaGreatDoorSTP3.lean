/- Part. -/
import Derived.Test.YtmibdabdlgmafaaGreatDoorSTP2
import Derived.Laws.BitsAllLaws
import Derived.Recover
set_option linter.all false
section
set_option maxRecDepth 20000
namespace Go.Proofs.YtmibdabdlgmafaaGreatDoor
open Go.Eng Go.Hx
theorem A5{P:Program}{N:Nat}{D:List Deferred}{ρ:Env}{w:World}{x y:Operand}{ty t t' :TypeId}{a b:ByteArray}(hx:ev ρ x=some (.string a))(hy:ev ρ y=some (.string b)):Yl P N D ρ w (.binOp .geq t x y t') ty (.bool (!Op.bytesLess a.toList b.toList)):=
 fun _ _ _ _ _ ha=>by simp[execOp,ha.eval hx,ha.eval hy,eqGuard,binOp,Op.stringOp]
abbrev FP:=List UInt8×List UInt8
def fc(l:List FP):List Value:=l.flatMap fun x=>[SV x.1,SV x.2]
theorem iq(a b:List FP):fc (a++b)=fc a++fc b:=by simp[fc]
theorem gQ:∀(l:List FP) (i:Nat) (x:FP),l[i]? =some x→(fc l)[i*2]? =some (SV x.1)∧(fc l)[i*2+1]? =some (SV x.2)
 | [],i,x,h=>by simp at h
 |a::r,0,x,h=>by
  simp only[List.getElem?_cons_zero,Option.some.injEq]at h
  subst h
  exact⟨rfl,rfl⟩
 |a::r,i+1,x,h=>by
  have ih:=gQ r i x (by simpa using h)
  have e:fc (a::r)=SV a.1::SV a.2::fc r:=by simp[fc]
  rw[e,show(i+1)*2=i*2+2 by omega]
  exact ih
theorem l7{w:World}{A:Option Addr}{n i:Nat}{l:List FP}{x:FP}(h:Rd w 2 A n (fc l))(hx:l[i]? =some x):∀(j:Nat) (u:Value),[SV x.1,SV x.2][j]? =some u→w.cell? (((A.getD d0).add (i*2)).add j)=some u:=by
 obtain⟨g0,g1⟩:=gQ l i x hx
 intro j u hu
 match j,hu with
 |0,hu=>cases hu;exact dm h g0
 |1,hu=>cases hu;exact dm h g1
 |j+2,hu=>simp at hu
theorem mQ{l:List FP}:∀u∈fc l,u.oneCell' =true:=by
 intro u hu
 obtain⟨x,_,h⟩:=List.mem_flatMap.1 hu
 simp only[List.mem_cons,List.not_mem_nil,or_false]at h
 rcases h with rfl|rfl <;> rfl
theorem uP{p:List UInt8}(hp:p.length≤1000000000):cj Tryz.prog 112 [.string (strOf p)] [] [] (fun v_ X_ S_=>v_=(.bool (decide (fT p)))∧X_=[]∧S_=[]):=by
 have hsz:=cr p
 refine aO (N:=22) Tryz.func112 rfl rfl (by simp) fun b=> ?_
 refine ah<|aj<|hy (fun _=>ab rfl)<|ai<|ag<|ah<|ah<|aj<|hy (fun _=>ab rfl)<|ai<|ag<|aN<| ?_
 refine dR (fun i=>p.length-i) (fun i=>[(3,.int .i64 (i:Nat))]) (fun i=>[]) (fun i=>[]) (fun i=>i≤p.length∧¬(0:UInt8)∈p.take i) 0 [(0,_)] ⟨rfl,trivial⟩ [] rfl [] rfl (⟨Nat.zero_le _,by simp⟩) ⟨rfl,trivial⟩ (fun i hI=> ?_)
 obtain⟨hip,hno⟩:=hI
 refine ah<|ah<|aj<|hy (fun _=>aa rfl)<|hy (fun _=>aa rfl)<|hy (fun _=>cp rfl Tryz.underlying9)<|hy (fun _=>br rfl rfl)<|ai<|al (ρ' :=[(7,_),(3,_),(0,_)]) ⟨rfl,rfl,rfl,trivial⟩<|ag<| ?_
 refine cL rfl (fun h=> ?_) (fun h=> ?_)
 ·have hil:i<p.length:=by omega
  refine aB<|ag<|ah<|aN<|ah<|aj<|hy (fun _=>aa rfl)<|hy (fun _=>aa rfl)<|hy (fun _=>eM rfl rfl Tryz.underlying9 rfl (iz hil))<|hy (fun _=>b7 rfl rfl)<|ai<|al (ρ' :=[(13,_),(7,_),(3,_),(0,_)]) ⟨rfl,rfl,rfl,rfl,trivial⟩<|ag<| ?_
  refine cL rfl (fun h0=> ?_) (fun h0=> ?_)
  ·have h00:p.getD i 0=0:=UInt8.toNat_inj.1 (by simpa using h0)
   refine ah<|aj<|hy (fun _=>ab rfl)<|ai<|ag<|aU<|aV<|aw<|aw<|aV<|aw<| ?_
   exact bc trivial rfl rfl [] rfl [] rfl ⟨(congrArg Value.bool (decide_eq_false (fun hN=>hN.2.2 (by rw[←h00];rw[List.getD,List.getElem?_eq_getElem hil];exact List.getElem_mem hil))).symm),rfl,rfl⟩
  ·have hno2:¬(0:UInt8)∈p.take (i+1):=fun hm=>by
    rw[List.take_succ_eq_append_getElem hil]at hm
    rcases List.mem_append.1 hm with h1|h1
    ·exact hno h1
    ·apply h0
     have:=List.mem_singleton.1 h1
     rw[List.getD,List.getElem?_eq_getElem hil]
     simp[←this]
   refine aB<|aQ<|ag<|aj<|hy (fun _=>aa rfl)<|hy (fun _=>aJ rfl rfl (bA (by omega) (by omega)))<|hy (fun _=>ab rfl)<|ai<|al (ρ' :=[(3,_),(13,_),(7,_),(0,_)]) ⟨rfl,rfl,rfl,rfl,trivial⟩<| ?_
   refine cZ (i+1) ⟨rfl,rfl,trivial⟩ [] rfl [] rfl (⟨by omega,hno2⟩) (by omega)
 ·obtain rfl:i=p.length:=by omega
  rw[List.take_of_length_le (Nat.le_refl _)]at hno
  by_cases h1:0<p.length
  ·refine bP<|au<|au<|aC<|ag<|ah<|aj<|hy (fun _=>aa rfl)<|hy (fun _=>cp rfl Tryz.underlying9)<|hy (fun _=>yT (cW rfl rfl) ((decide_eq_true (by omega))))<|hy (fun _=>aa rfl)<|cx (o:=_) rfl rfl rfl (fun _=>aa rfl)<|cx (o:=_) rfl rfl rfl (fun _=>cp rfl Tryz.underlying9)<|cx (o:=_) rfl rfl rfl (fun _=>br rfl rfl)<|hy (fun _=>bE rfl rfl)<|hy (fun _=>ab rfl)<|ai<|al (ρ' :=[(2,_),(7,_),(3,_),(0,_)]) ⟨rfl,rfl,rfl,rfl,trivial⟩<|ag<|aU<| ?_
   exact bc trivial rfl rfl [] rfl [] rfl ⟨(congrArg Value.bool (decide_eq_decide.2 ⟨fun h=>⟨fun e=>by rw[e]at h1;exact absurd h1 (by decide),by omega,hno⟩,fun h=>by have:=h.2.1;omega⟩)),rfl,rfl⟩
  ·refine bP<|au<|au<|aC<|ag<|ah<|aj<|hy (fun _=>aa rfl)<|hy (fun _=>cp rfl Tryz.underlying9)<|hy (fun _=>yF (cW rfl rfl) ((decide_eq_false (by omega))))<|hy (fun _=>aa rfl)<|bg rfl rfl rfl (by decide)<|bg rfl rfl rfl (by decide)<|bg rfl rfl rfl (by decide)<|hy (fun _=>bp rfl rfl)<|hy (fun _=>ab rfl)<|ai<|al (ρ' :=[(2,_),(7,_),(3,_),(0,_)]) ⟨rfl,rfl,rfl,rfl,trivial⟩<|ag<|aU<| ?_
   exact bc trivial rfl rfl [] rfl [] rfl ⟨(congrArg Value.bool (decide_eq_false (fun hN=>hN.1 (List.eq_nil_of_length_eq_zero (by omega)))).symm),rfl,rfl⟩
def cS(l:List FP)(p:List UInt8):Nat:=l.findIdx (fun x=>decide (x.1=p))
def ke(l:List FP)(p:List UInt8):Int:=if cS l p<l.length then(cS l p:Nat)else-1
theorem wK{l:List FP}{p:List UInt8}{i:Nat}{x:FP}(hx:l[i]? =some x)(h:x.1=p)(hno:∀j,j<i→∀y,l[j]? =some y→y.1≠p):cS l p=i:=by
 obtain⟨hi,rfl⟩:=List.getElem?_eq_some_iff.1 hx
 unfold cS
 rw[List.findIdx_eq hi]
 exact⟨by simpa using h,fun j hj=>by simpa using hno j hj _ (List.getElem?_eq_getElem (by omega))⟩
theorem wY{l:List FP}{p:List UInt8}(hno:∀j,j<l.length→∀y,l[j]? =some y→y.1≠p):¬cS l p<l.length:=by
 intro h
 have h1:=List.findIdx_getElem (w:=h)
 exact hno _ h _ (List.getElem?_eq_getElem h) (of_decide_eq_true h1)
theorem tJ{A:Option Addr}{n c:Nat}{l:List FP}{p:List UInt8}(hl:l.length=n)(hn:n≤1000000000):cj Tryz.prog 113 [.slice A n c,.string (strOf p)] [] [dr 2 A n (fc l)] (fun v_ X_ S_=>v_=(.int .i64 (ke l p))∧X_=[]∧S_=[]):=by
 refine aO (N:=20) Tryz.func113 rfl rfl (by simp) fun b=> ?_
 refine ba (fun m=>ik (m.rd 0 rfl)) ?_
 rintro⟨hl_r,hA_r⟩
 refine ah<|aj<|hy (fun _=>ab rfl)<|ai<|ag<|ah<|ah<|aj<|hy (fun _=>ab rfl)<|ai<|ag<|aN<| ?_
 refine dR (fun i=>n-i) (fun i=>[(5,.int .i64 (i:Nat))]) (fun i=>[]) (fun i=>[]) (fun i=>i≤n∧∀j,j<i→∀y,l[j]? =some y→y.1≠p) 0 [(0,_),(1,_)] ⟨rfl,rfl,trivial⟩ [] rfl [] rfl (⟨Nat.zero_le _,fun j hj=>absurd hj (Nat.not_lt_zero j)⟩) ⟨rfl,trivial⟩ (fun i hI=> ?_)
 obtain⟨hin,hno⟩:=hI
 refine ah<|ah<|aj<|hy (fun _=>aa rfl)<|hy (fun _=>aa rfl)<|hy (fun _=>aR rfl Tryz.underlying36)<|hy (fun _=>br rfl rfl)<|ai<|al (ρ' :=[(9,_),(5,_),(0,_),(1,_)]) ⟨rfl,rfl,rfl,rfl,trivial⟩<|ag<| ?_
 refine cL rfl (fun h=> ?_) (fun h=> ?_)
 ·have hil:i<l.length:=by omega
  obtain⟨x,hx⟩:∃x,l[i]? =some x:=⟨_,List.getElem?_eq_getElem hil⟩
  obtain⟨g0,g1⟩:=gQ l i x hx
  refine aB<|ag<|ah<|aN<|ah<|aj<|hy (fun _=>aa rfl)<|hy (fun _=>aa rfl)<|hy (fun _=>cU rfl rfl Tryz.underlying36 dZ hA_r rfl (by omega))<|hy (fun _=>aD rfl dB (by decide))<|hy (fun m=>yV (ar rfl gU (dm (m.rd 0 rfl) g0)) ((rfl:_=Value.string (strOf x.1))))<|hy (fun _=>aa rfl)<|hy (fun _=>me rfl rfl)<|ai<|al (ρ' :=[(18,_),(9,_),(5,_),(0,_),(1,_)]) ⟨rfl,rfl,rfl,rfl,rfl,trivial⟩<|ag<| ?_
  refine cL rfl (fun h0=> ?_) (fun h0=> ?_)
  ·have he:x.1=p:=cD.1 h0
   have hN:=wK hx he hno
   refine ah<|aj<|hy (fun _=>aa rfl)<|hy (fun _=>ab rfl)<|ai<|al (ρ' :=[(4,_),(18,_),(9,_),(5,_),(0,_),(1,_)]) ⟨rfl,rfl,rfl,rfl,rfl,rfl,trivial⟩<|ag<|aU<|aV<|aw<|aw<|aV<|aw<| ?_
   exact bc trivial rfl rfl [] rfl [] rfl ⟨(by rw[ke,hN,if_pos hil]),rfl,rfl⟩
  ·have he:x.1≠p:=fun e=>h0 (cD.2 e)
   have hno2:∀j,j<i+1→∀y,l[j]? =some y→y.1≠p:=fun j hj y hy=>by
    rcases Nat.lt_succ_iff_lt_or_eq.1 hj with h1|h1
    ·exact hno j h1 y hy
    ·rw[h1,hx]at hy;cases hy;exact he
   refine aB<|aQ<|ag<|aj<|hy (fun _=>aa rfl)<|hy (fun _=>aJ rfl rfl (bA (by omega) (by omega)))<|hy (fun _=>ab rfl)<|ai<|al (ρ' :=[(5,_),(18,_),(9,_),(0,_),(1,_)]) ⟨rfl,rfl,rfl,rfl,rfl,trivial⟩<| ?_
   refine cZ (i+1) ⟨rfl,rfl,rfl,trivial⟩ [] rfl [0] rfl (⟨by omega,hno2⟩) (by omega)
 ·obtain rfl:i=n:=by omega
  refine bP<|au<|au<|aC<|ag<|ah<|aj<|hy (fun _=>ab rfl)<|ai<|ag<|aU<| ?_
  exact bc trivial rfl rfl [] rfl [] rfl ⟨(by rw[ke,if_neg (wY (fun j hj=>hno j (by omega)))]),rfl,rfl⟩
def dE(l:List FP):Nat:=(l.map fun x=>x.2.length).sum
theorem pO{l:List FP}{i:Nat}{x:FP}(h:l[i]? =some x):dE (l.take (i+1))=dE (l.take i)+x.2.length:=by
 obtain⟨hi,rfl⟩:=List.getElem?_eq_some_iff.1 h
 rw[List.take_succ_eq_append_getElem hi]
 unfold dE
 rw[List.map_append,List.sum_append]
 simp
theorem vc(l:List FP)(i:Nat):dE (l.take i)≤dE l:=by
 have:dE l=dE (l.take i)+dE (l.drop i):=by
  conv=>lhs;rw[←List.take_append_drop i l]
  simp only[dE,List.map_append,List.sum_append]
 omega
def dv(room:Int)(s l w:Value)(pw:Int):List Value:=[.int .i64 room,s,l,w,.int .i64 pw]
theorem wN{room pw:Int}{vl vw:Value}{A:Option Addr}{n c:Nat}{l:List FP}(hl:l.length=n)(hn:n≤1000000000)(ht:dE l≤1000000000000):cj Tryz.prog 89 [.agg (dv room (.slice A n c) vl vw pw).toArray] [] [dr 2 A n (fc l)] (fun v_ X_ S_=>v_=(.int .i64 (dE l:Nat))∧X_=[]∧S_=[]):=by
 refine aO (N:=22) Tryz.func89 rfl rfl (by simp) fun b=> ?_
 refine ba (fun m=>ik (m.rd 0 rfl)) ?_
 rintro⟨hl_r,hA_r⟩
 refine ah<|aj<| ?_
 refine hx (cz rfl (fun g1=> ?_))
 refine aL (fun w m=>m.bM 0 rfl (show _=aG g1 39 (dv room (.slice A n c) vl vw pw)from congrArg (aG _ _) (bG _))) ?_
 refine hy (fun _=>ab rfl)<|ai<|ak (X' :=[_]) (S' :=[_]) (fun _ m=>m)<|ag<|ah<|aj<|hy (fun _=>ab rfl)<|ai<|ag<|ah<|ah<|aj<|hy (fun _=>ab rfl)<|ai<|ag<|aN<| ?_
 refine dR (fun i=>n-i) (fun i=>[(3,.int .i64 (dE (l.take i):Nat)),(4,.int .i64 (i:Nat))]) (fun i=>[aG g1 39 (dv room (.slice A n c) vl vw pw)]) (fun i=>[]) (fun i=>i≤n) 0 [(2,_),(1,_),(0,_)] ⟨rfl,rfl,rfl,trivial⟩ [0] rfl [] rfl (Nat.zero_le _) ⟨rfl,rfl,trivial⟩ (fun i hI=> ?_)
 refine ah<|ah<|aj<|hy (fun _=>aa rfl)<|hy (fun _=>aD rfl fl (by decide))<|hy (fun m=>ar rfl j1 (ax (m.aT 0 rfl) rfl))<|hy (fun _=>aR rfl Tryz.underlying36)<|hy (fun _=>br rfl rfl)<|ai<|al (ρ' :=[(9,_),(3,_),(4,_),(2,_),(1,_),(0,_)]) ⟨rfl,rfl,rfl,rfl,rfl,rfl,trivial⟩<|ag<| ?_
 refine cL rfl (fun h=> ?_) (fun h=> ?_)
 ·have hil:i<l.length:=by omega
  obtain⟨x,hx⟩:∃x,l[i]? =some x:=⟨_,List.getElem?_eq_getElem hil⟩
  obtain⟨g0,g2⟩:=gQ l i x hx
  have h1:=pO hx
  have h2:=vc l (i+1)
  have hsz:=cr x.2
  refine aB<|ag<|ah<|aN<|aj<|hy (fun _=>aa rfl)<|hy (fun _=>aD rfl fl (by decide))<|hy (fun m=>ar rfl j1 (ax (m.aT 0 rfl) (i:=1) rfl))<|hy (fun _=>aa rfl)<|hy (fun _=>cU rfl rfl Tryz.underlying36 dZ hA_r rfl (by omega))<|hy (fun _=>aD rfl nX (by decide))<|hy (fun m=>yV (ar rfl gU (dm (m.rd 0 rfl) g2)) ((rfl:_=Value.string (strOf x.2))))<|hy (fun _=>cp rfl Tryz.underlying9)<|hy (fun _=>yV (aJ rfl rfl (bA (by omega) (by omega))) ((show Value.int .i64 ((dE (l.take i):Nat)+((strOf x.2).size:Nat))= .int .i64 (dE (l.take (i+1)):Nat) by rw[hsz,h1];rfl)))<|hy (fun _=>ab rfl)<|ai<|al (ρ' :=[(3,_),(9,_),(4,_),(2,_),(1,_),(0,_)]) ⟨rfl,rfl,rfl,rfl,rfl,rfl,trivial⟩<|aQ<|ag<|aj<|hy (fun _=>aa rfl)<|hy (fun _=>aJ rfl rfl (bA (by omega) (by omega)))<|hy (fun _=>ab rfl)<|ai<|al (ρ' :=[(4,_),(3,_),(9,_),(2,_),(1,_),(0,_)]) ⟨rfl,rfl,rfl,rfl,rfl,rfl,trivial⟩<| ?_
  refine cZ (i+1) ⟨rfl,rfl,rfl,rfl,rfl,trivial⟩ [0] rfl [0] rfl (by omega) (by omega)
 ·obtain rfl:i=n:=by omega
  refine bP<|au<|au<|aC<|ag<|ah<|aj<|hy (fun _=>aa rfl)<|hy (fun _=>ab rfl)<|ai<|al (ρ' :=[(2,_),(9,_),(3,_),(4,_),(1,_),(0,_)]) ⟨rfl,rfl,rfl,rfl,rfl,rfl,trivial⟩<|ag<|aU<| ?_
  exact bc trivial rfl rfl [] rfl [] rfl ⟨(by rw[←hl,List.take_of_length_le (Nat.le_refl _)]),rfl,rfl⟩
theorem pY{A:Option Addr}{n c:Nat}{l:List FP}{p:List UInt8}(hl:l.length=n)(hn:n≤1000000):cj Tryz.prog 221 [.slice A n c,.string (strOf p)] [] [dr 2 A n (fc l)] (fun v_ X_ S_=>∃v k,v_=v∧X_=[aH 156 2 v k (fc (l.filter fun x=>decide (x.1≠p)))]∧S_=[]∧(k=(l.filter fun x=>decide (x.1≠p)).length)):=by
 refine aO (N:=28) Tryz.func221 rfl rfl (by simp) fun b=> ?_
 refine ba (fun m=>ik (m.rd 0 rfl)) ?_
 rintro⟨hl_r,hA_r⟩
 refine ah<|aj<|hy (fun _=>ab rfl)<|ai<|ag<|ah<|aj<|hy (fun _=>ab rfl)<|ai<|ag<|ah<|ah<|aj<|hy (fun _=>ab rfl)<|ai<|ag<|aN<| ?_
 refine bu (fun w m=>m.dx (r' :=aH 156 2 (.slice none 0 0) 0 []) (.refl _ _) (Own.nil _ _ _ _) (fun k hk=>hk.elim)) ?_
 refine lH (fun i A1 k c1=>n-i) (fun i A1 k c1=>[(5,.slice A1 k c1),(6,.int .i64 (i:Nat))]) (fun i A1 k c1=>[aH 156 2 (.slice A1 k c1) k (fc ((l.take i).filter fun x=>decide (x.1≠p)))]) (fun i A1 k c1=>[]) (fun i A1 k c1=>i≤n∧k=((l.take i).filter fun x=>decide (x.1≠p)).length) 0 none 0 0 [(4,_),(0,_),(1,_)] ⟨rfl,rfl,rfl,trivial⟩ [0] rfl [] rfl (⟨Nat.zero_le _,rfl⟩) ⟨rfl,rfl,trivial⟩ (fun i A1 k c1 hI=> ?_)
 obtain⟨hin,hk⟩:=hI
 have hkl:((l.take i).filter fun x=>decide (x.1≠p)).length≤i:=Nat.le_trans (List.length_filter_le ..) (by rw[List.length_take];omega)
 refine ah<|ah<|aj<|hy (fun _=>aa rfl)<|hy (fun _=>aa rfl)<|hy (fun _=>aR rfl Tryz.underlying36)<|hy (fun _=>br rfl rfl)<|ai<|al (ρ' :=[(10,_),(5,_),(6,_),(4,_),(0,_),(1,_)]) ⟨rfl,rfl,rfl,rfl,rfl,rfl,trivial⟩<|ag<| ?_
 refine cL rfl (fun h=> ?_) (fun h=> ?_)
 ·have hil:i<l.length:=by omega
  obtain⟨x,hgx⟩:∃x,l[i]? =some x:=⟨_,List.getElem?_eq_getElem hil⟩
  obtain⟨g0,g2⟩:=gQ l i x hgx
  have Ct:(l.take (i+1)).filter (fun x=>decide (x.1≠p))=(l.take i).filter (fun x=>decide (x.1≠p))++[x].filter (fun x=>decide (x.1≠p)):=by
   obtain⟨hi,rfl⟩:=List.getElem?_eq_some_iff.1 hgx
   rw[List.take_succ_eq_append_getElem hi,List.filter_append]
  refine aB<|ag<|ah<|aN<|ah<|aj<|hy (fun _=>aa rfl)<|hy (fun _=>aa rfl)<|hy (fun _=>cU rfl rfl Tryz.underlying36 dZ hA_r rfl (by omega))<|hy (fun _=>aD rfl dB (by decide))<|hy (fun m=>yV (ar rfl gU (dm (m.rd 0 rfl) g0)) ((rfl:_=Value.string (strOf x.1))))<|hy (fun _=>aa rfl)<|hy (fun _=>kn rfl rfl)<|ai<|al (ρ' :=[(19,_),(10,_),(5,_),(6,_),(4,_),(0,_),(1,_)]) ⟨rfl,rfl,rfl,rfl,rfl,rfl,rfl,trivial⟩<|ag<| ?_
  refine cL rfl (fun h0=> ?_) (fun h0=> ?_)
  ·have hF:(l.take i).filter (fun x=>decide (x.1≠p))++[x]=(l.take (i+1)).filter (fun x=>decide (x.1≠p)):=by
    have hne:x.1≠p:=fun e=>h0 (cD.2 e)
    rw[Ct];simp[hne]
   refine aj<|hy (fun _=>aa rfl)<|hy (fun _=>aa rfl)<|hy (fun _=>aa rfl)<|hy (fun _=>cU rfl rfl Tryz.underlying36 dZ hA_r rfl (by omega))<|hy (fun m=>yV (aX rfl p4 dZ rfl (l7 (m.rd 0 rfl) hgx)) ((rfl:_=Value.agg [SV x.1,SV x.2].toArray)))<| ?_
   refine hx (b8 Tryz.underlying36 iY rfl rfl rfl (by simp[Value.cells,B8]) (by decide) (by decide) (fun g25=> ?_))
   have hA_b25:0<1→(some (⟨g25,0,none⟩:Addr))≠none:=fun _ h=>by cases h
   refine aL (fun w m=>m.bM 0 rfl (show _=aH 156 2 (.slice (some ⟨g25,0,none⟩) 1 1) 1 (fc [x])from rfl)) ?_
   refine hx (bB 1 rfl rfl rfl Tryz.underlying36 Tryz.underlying36 (by exact .inl rfl) iY rfl (fun m=>Src.bT (m.ord 0 rfl)) mQ (by unfold maxLen;omega) (by omega) (fun u=> ?_))
   refine az (fun m=>(m.own 0 rfl).slice) ?_
   rintro⟨A_o,c_o,rfl,hc_o⟩
   refine az (fun m=>(m.ord 0 rfl).2.1) fun hA_o=> ?_
   refine aL (fun w m=>m.bM 0 rfl (show _=aH 156 2 (.slice A_o (k+1) c_o) (k+1) (fc ((l.take (i+1)).filter fun x=>decide (x.1≠p)))from congrArg (aH _ _ _ _) ((iq ..).symm.trans (congrArg fc hF)))) ?_
   refine hy (fun _=>ab rfl)<|ai<|al (ρ' :=[(5,_),(19,_),(10,_),(6,_),(4,_),(0,_),(1,_)]) ⟨rfl,rfl,rfl,rfl,rfl,rfl,rfl,trivial⟩<|ak (X' :=[_,_]) (S' :=[_]) (fun _ m=>m)<|aQ<|ag<|aj<|hy (fun _=>aa rfl)<|hy (fun _=>aJ rfl rfl (bA (by omega) (by omega)))<|hy (fun _=>ab rfl)<|ai<|al (ρ' :=[(6,_),(5,_),(19,_),(10,_),(4,_),(0,_),(1,_)]) ⟨rfl,rfl,rfl,rfl,rfl,rfl,rfl,trivial⟩<| ?_
   refine fZ (i+1) A_o (k+1) c_o ⟨rfl,rfl,rfl,rfl,rfl,trivial⟩ [0] rfl [0] rfl (⟨by omega,by rw[←hF,hk,List.length_append];rfl⟩) (by omega)
  ·have hF:(l.take (i+1)).filter (fun x=>decide (x.1≠p))=(l.take i).filter (fun x=>decide (x.1≠p)):=by
    have hne:x.1=p:=cD.1 (Decidable.not_not.1 h0)
    rw[Ct];simp[hne]
   refine bu (fun w m=>m.bM 0 rfl (show _=aH 156 2 (.slice A1 k c1) k (fc ((l.take (i+1)).filter fun x=>decide (x.1≠p)))from by rw[hF])) ?_
   refine aB<|aQ<|ag<|aj<|hy (fun _=>aa rfl)<|hy (fun _=>aJ rfl rfl (bA (by omega) (by omega)))<|hy (fun _=>ab rfl)<|ai<|al (ρ' :=[(6,_),(19,_),(10,_),(5,_),(4,_),(0,_),(1,_)]) ⟨rfl,rfl,rfl,rfl,rfl,rfl,rfl,trivial⟩<| ?_
   refine fZ (i+1) A1 k c1 ⟨rfl,rfl,rfl,rfl,rfl,trivial⟩ [0] rfl [0] rfl (⟨by omega,by rw[hF];exact hk⟩) (by omega)
 ·obtain rfl:i=n:=by omega
  rw[←hl,List.take_of_length_le (Nat.le_refl _)]at hk
  refine bu (fun w m=>m.bM 0 rfl (show _=aH 156 2 (.slice A1 k c1) k (fc (l.filter fun x=>decide (x.1≠p)))from by rw[←hl,List.take_of_length_le (Nat.le_refl _)])) ?_
  refine bP<|au<|au<|aC<|ag<|ah<|aj<|hy (fun _=>aa rfl)<|hy (fun _=>ab rfl)<|ai<|al (ρ' :=[(4,_),(10,_),(5,_),(6,_),(0,_),(1,_)]) ⟨rfl,rfl,rfl,rfl,rfl,rfl,trivial⟩<|ag<|aU<| ?_
  exact bc trivial rfl rfl [0] rfl [] rfl ⟨_,_,rfl,rfl,rfl,hk⟩
end Go.Proofs.YtmibdabdlgmafaaGreatDoor
end
section
set_option maxRecDepth 20000
namespace Go.Proofs.YtmibdabdlgmafaaGreatDoor
open Go.Eng Go.Hx
def mh(a b:List UInt8):Bool:=Op.bytesLess (strOf a).toList (strOf b).toList
def iA(f:FP)(st:List FP×Bool)(x:FP):List FP×Bool:=
 let s1:=if st.2=false∧mh x.1 f.1=false then(st.1++[f],true)else st
 (if x.1≠f.1 then s1.1++[x]else s1.1,s1.2)
def Aa(f:FP)(l:List FP)(i:Nat):List FP×Bool:=(l.take i).foldl (iA f) ([],false)
theorem ya{f:FP}{l:List FP}{i:Nat}{x:FP}(h:l[i]? =some x):Aa f l (i+1)=iA f (Aa f l i) x:=by
 obtain⟨hi,rfl⟩:=List.getElem?_eq_some_iff.1 h
 unfold Aa
 rw[List.take_succ_eq_append_getElem hi,List.foldl_append]
 rfl
def gG(l:List FP)(f:FP):List FP:=if(Aa f l l.length).2 then(Aa f l l.length).1 else(Aa f l l.length).1++[f]
theorem yd{A:Option Addr}{n c:Nat}{l:List FP}{f:FP}(hl:l.length=n)(hn:n≤1000000):cj Tryz.prog 220 [.slice A n c,.agg [SV f.1,SV f.2].toArray] [] [dr 2 A n (fc l)] (fun v_ X_ S_=>∃v k,v_=v∧X_=[aH 156 2 v k (fc (gG l f))]∧S_=[]∧(k=(gG l f).length∧k≤n+1)):=by
 refine aO (N:=52) Tryz.func220 rfl rfl (by simp) fun b=> ?_
 refine ba (fun m=>ik (m.rd 0 rfl)) ?_
 rintro⟨hl_r,hA_r⟩
 refine ah<|aj<| ?_
 refine hx (cz rfl (fun g3=> ?_))
 refine aL (fun w m=>m.bM 0 rfl (show _=aG g3 156 [SV f.1,SV f.2]from congrArg (aG _ _) (bG _))) ?_
 refine hy (fun _=>ab rfl)<|ai<|ak (X' :=[_]) (S' :=[_]) (fun _ m=>m)<|ag<|ah<|aj<|hy (fun _=>ab rfl)<|ai<|ag<|ah<|aj<|hy (fun _=>ab rfl)<|ai<|ag<|ah<|ah<|aj<|hy (fun _=>ab rfl)<|ai<|ag<|aN<| ?_
 refine bu (fun w m=>m.dx (r' :=aH 156 2 (.slice none 0 0) 0 []) (.refl _ _) (Own.nil _ _ _ _) (fun k hk=>hk.elim)) ?_
 refine o1 (fun i A1 k c1 out pt=>n-i) (fun i A1 k c1 out pt=>[(5,.slice A1 k c1),(6,.bool pt),(7,.int .i64 (i:Nat))]) (fun i A1 k c1 out pt=>[aH 156 2 (.slice A1 k c1) k (fc out),aG g3 156 [SV f.1,SV f.2]]) (fun i A1 k c1 out pt=>[]) (fun i A1 k c1 out pt=>i≤n∧Aa f l i=(out,pt)∧k=out.length∧k≤i+pt.toNat) 0 none 0 0 [] false [(4,_),(3,_),(0,_),(1,_)] ⟨rfl,rfl,rfl,rfl,trivial⟩ [0,0] rfl [] rfl (⟨Nat.zero_le _,rfl,rfl,Nat.le_refl _⟩) ⟨rfl,rfl,rfl,trivial⟩ (fun i A1 k c1 out pt ⟨hin,hw,hk,hki⟩=> ?_)
 have hpt:pt.toNat≤1:=by cases pt <;> decide
 refine ah<|ah<|aj<|hy (fun _=>aa rfl)<|hy (fun _=>aa rfl)<|hy (fun _=>aR rfl Tryz.underlying36)<|hy (fun _=>br rfl rfl)<|ai<|al (ρ' :=[(11,_),(5,_),(6,_),(7,_),(4,_),(3,_),(0,_),(1,_)]) ⟨rfl,rfl,rfl,rfl,rfl,rfl,rfl,rfl,trivial⟩<|ag<| ?_
 refine cL rfl (fun h=> ?_) (fun h=> ?_)
 ·have hil:i<l.length:=by omega
  obtain⟨x,hgx⟩:∃x,l[i]? =some x:=⟨_,List.getElem?_eq_getElem hil⟩
  obtain⟨g0,g2⟩:=gQ l i x hgx
  have hs:=ya (f:=f) hgx
  rw[hw]at hs
  unfold iA at hs
  by_cases hp:pt=true
  ·subst hp
   simp only[Bool.true_eq_false,false_and,if_false]at hs
   refine aB<|ag<|ah<|aN<|ah<|ah<|cK [] [(0,some 0),(1,some 0),(2,some 0),(3,some 0),(4,some 0),(5,some 0),(6,some 0),(7,some 0),(8,some 0),(9,some 0),(10,some 0),(11,some 0)] (by kernel_rfl) (by kernel_rfl) rfl 99<|an (aa rfl)<|an ((fw rfl))<|an (aa rfl)<|aP rfl rfl rfl (by decide)<|aP rfl rfl rfl (by decide)<|aP rfl rfl rfl (by decide)<|aP rfl rfl rfl (by decide)<|aP rfl rfl rfl (by decide)<|aP rfl rfl rfl (by decide)<|aP rfl rfl rfl (by decide)<|aP rfl rfl rfl (by decide)<|an (bp rfl rfl)<|bq<|al (ρ' :=[(25,_),(11,_),(5,_),(6,_),(7,_),(4,_),(3,_),(0,_),(1,_)]) ⟨rfl,rfl,rfl,rfl,rfl,rfl,rfl,rfl,rfl,trivial⟩<|ag<| ?_
   refine di rfl (rfl) ?_
   refine aB<|ag<|ah<|cK [] [(0,some 0),(1,some 0),(2,some 0),(3,some 0),(4,some 0),(5,some 0),(6,some 0),(7,some 0)] (by kernel_rfl) (by kernel_rfl) rfl 99<|an (aa rfl)<|an (aa rfl)<|an (cU rfl rfl Tryz.underlying36 dZ hA_r rfl (by omega))<|an (aD rfl dB (by decide))<|cd (fun m=>yV (ar rfl gU (dm (m.rd 0 rfl) g0)) ((rfl:_=Value.string (strOf x.1))))<|an (aD rfl dB (by decide))<|cd (fun m=>yV (ar rfl gU (ax (m.aT 1 rfl) (i:=0) rfl)) ((rfl:_=Value.string (strOf f.1))))<|an (kn rfl rfl)<|bq<|al (ρ' :=[(37,_),(25,_),(11,_),(5,_),(6,_),(7,_),(4,_),(3,_),(0,_),(1,_)]) ⟨rfl,rfl,rfl,rfl,rfl,rfl,rfl,rfl,rfl,rfl,trivial⟩<|ag<| ?_
   refine cL rfl (fun h1=> ?_) (fun h1=> ?_)
   ·have hne:x.1≠f.1:=fun e=>h1 (cD.2 e)
    refine aj<|hy (fun _=>aa rfl)<|hy (fun _=>aa rfl)<|hy (fun _=>aa rfl)<|hy (fun _=>cU rfl rfl Tryz.underlying36 dZ hA_r rfl (by omega))<|hy (fun m=>yV (aX rfl p4 dZ rfl (l7 (m.rd 0 rfl) hgx)) ((rfl:_=Value.agg [SV x.1,SV x.2].toArray)))<| ?_
    refine hx (b8 Tryz.underlying36 iY rfl rfl rfl (by simp[Value.cells,B8]) (by decide) (by decide) (fun g43=> ?_))
    have hA_b43:0<1→(some (⟨g43,0,none⟩:Addr))≠none:=fun _ h=>by cases h
    refine aL (fun w m=>m.bM 0 rfl (show _=aH 156 2 (.slice (some ⟨g43,0,none⟩) 1 1) 1 (fc [x])from rfl)) ?_
    refine hx (bB 1 rfl rfl rfl Tryz.underlying36 Tryz.underlying36 (by exact .inl rfl) iY rfl (fun m=>Src.bT (m.ord 0 rfl)) mQ (by unfold maxLen;omega) (by omega) (fun u=> ?_))
    refine az (fun m=>(m.own 0 rfl).slice) ?_
    rintro⟨A_o,c_o,rfl,hc_o⟩
    refine az (fun m=>(m.ord 0 rfl).2.1) fun hA_o=> ?_
    refine aL (fun w m=>m.bM 0 rfl (show _=aH 156 2 (.slice A_o (k+1) c_o) (k+1) (fc (out++[x]))from congrArg (aH _ _ _ _) (iq ..).symm)) ?_
    refine hy (fun _=>ab rfl)<|ai<|al (ρ' :=[(5,_),(37,_),(25,_),(11,_),(6,_),(7,_),(4,_),(3,_),(0,_),(1,_)]) ⟨rfl,rfl,rfl,rfl,rfl,rfl,rfl,rfl,rfl,rfl,trivial⟩<|ak (X' :=[_,_,_]) (S' :=[_]) (fun _ m=>m)<|aQ<|ag<|aj<|hy (fun _=>aa rfl)<|hy (fun _=>aJ rfl rfl (bA (by omega) (by omega)))<|hy (fun _=>ab rfl)<|ai<|al (ρ' :=[(7,_),(5,_),(37,_),(25,_),(11,_),(6,_),(4,_),(3,_),(0,_),(1,_)]) ⟨rfl,rfl,rfl,rfl,rfl,rfl,rfl,rfl,rfl,rfl,trivial⟩<| ?_
    refine eW (i+1) A_o (k+1) c_o (out++[x]) true ⟨rfl,rfl,rfl,rfl,rfl,rfl,rfl,trivial⟩ [0,1] rfl [0] rfl (⟨by omega,by rw[hs,if_pos hne],by rw[List.length_append,hk.symm];rfl,by simp at hki ⊢;omega⟩) (by omega)
   ·have hne:¬x.1≠f.1:=fun e=>h1 (fun h=>e (cD.1 h))
    refine aB<|aQ<|ag<|aj<|hy (fun _=>aa rfl)<|hy (fun _=>aJ rfl rfl (bA (by omega) (by omega)))<|hy (fun _=>ab rfl)<|ai<|al (ρ' :=[(7,_),(37,_),(25,_),(11,_),(5,_),(6,_),(4,_),(3,_),(0,_),(1,_)]) ⟨rfl,rfl,rfl,rfl,rfl,rfl,rfl,rfl,rfl,rfl,trivial⟩<| ?_
    refine eW (i+1) A1 (k) c1 (out) true ⟨rfl,rfl,rfl,rfl,rfl,rfl,rfl,trivial⟩ [0,0] rfl [0] rfl (⟨by omega,by rw[hs,if_neg hne],hk.symm.symm,by simp at hki ⊢;omega⟩) (by omega)
  ·obtain rfl:pt=false:=by simpa using hp
   by_cases hge:mh x.1 f.1=false
   ·simp only[hge,and_self,if_true]at hs
    refine aB<|ag<|ah<|aN<|ah<|ah<|cK [] [(0,some 0),(1,some 0),(2,some 0),(3,some 0),(4,some 0),(5,some 0),(6,some 0),(7,some 0),(8,some 0),(9,some 0),(10,some 0),(11,some 0)] (by kernel_rfl) (by kernel_rfl) rfl 99<|an (aa rfl)<|an ((fw rfl))<|an (aa rfl)<|bj (o:=_) rfl rfl rfl (aa rfl)<|bj (o:=_) rfl rfl rfl (aa rfl)<|bj (o:=_) rfl rfl rfl (cU rfl rfl Tryz.underlying36 dZ hA_r rfl (by omega))<|bj (o:=_) rfl rfl rfl (aD rfl dB (by decide))<|iJ (o:=_) rfl rfl rfl (fun m=>yV (ar rfl gU (dm (m.rd 0 rfl) g0)) ((rfl:_=Value.string (strOf x.1))))<|bj (o:=_) rfl rfl rfl (aD rfl dB (by decide))<|iJ (o:=_) rfl rfl rfl (fun m=>yV (ar rfl gU (ax (m.aT 1 rfl) (i:=0) rfl)) ((rfl:_=Value.string (strOf f.1))))<|bj (o:=_) rfl rfl rfl (yT (A5 rfl rfl) ((by show(!mh x.1 f.1)=true;rw[hge];rfl)))<|an (bE rfl rfl)<|bq<|al (ρ' :=[(25,_),(11,_),(5,_),(6,_),(7,_),(4,_),(3,_),(0,_),(1,_)]) ⟨rfl,rfl,rfl,rfl,rfl,rfl,rfl,rfl,rfl,trivial⟩<|ag<| ?_
    refine fE rfl (rfl) ?_
    refine ah<|aj<|hy (fun _=>aa rfl)<|hy (fun m=>yV (aX rfl p4 dZ rfl ((m.aT 1 rfl).ay)) ((rfl:_=Value.agg [SV f.1,SV f.2].toArray)))<| ?_
    refine hx (b8 Tryz.underlying36 iY rfl rfl rfl (by simp[Value.cells,B8]) (by decide) (by decide) (fun g28=> ?_))
    have hA_b28:0<1→(some (⟨g28,0,none⟩:Addr))≠none:=fun _ h=>by cases h
    refine aL (fun w m=>m.bM 0 rfl (show _=aH 156 2 (.slice (some ⟨g28,0,none⟩) 1 1) 1 (fc [f])from rfl)) ?_
    refine hx (bB 1 rfl rfl rfl Tryz.underlying36 Tryz.underlying36 (by exact .inl rfl) iY rfl (fun m=>Src.bT (m.ord 0 rfl)) mQ (by unfold maxLen;omega) (by omega) (fun u=> ?_))
    refine az (fun m=>(m.own 0 rfl).slice) ?_
    rintro⟨A_o,c_o,rfl,hc_o⟩
    refine az (fun m=>(m.ord 0 rfl).2.1) fun hA_o=> ?_
    refine aL (fun w m=>m.bM 0 rfl (show _=aH 156 2 (.slice A_o (k+1) c_o) (k+1) (fc (out++[f]))from congrArg (aH _ _ _ _) (iq ..).symm)) ?_
    have hk1:(out++[f]).length=k+1:=by rw[List.length_append,hk];rfl
    refine hy (fun _=>ab rfl)<|ai<|al (ρ' :=[(5,_),(25,_),(11,_),(6,_),(7,_),(4,_),(3,_),(0,_),(1,_)]) ⟨rfl,rfl,rfl,rfl,rfl,rfl,rfl,rfl,rfl,trivial⟩<|ak (X' :=[_,_,_]) (S' :=[_]) (fun _ m=>m)<|ag<|aj<|hy (fun _=>ab rfl)<|ai<|ag<|ah<|cK [] [(0,some 0),(1,some 0),(2,some 0),(3,some 0),(4,some 0),(5,some 0),(6,some 0),(7,some 0)] (by kernel_rfl) (by kernel_rfl) rfl 99<|an (aa rfl)<|an (aa rfl)<|an (cU rfl rfl Tryz.underlying36 dZ hA_r rfl (by omega))<|an (aD rfl dB (by decide))<|cd (fun m=>yV (ar rfl gU (dm (m.rd 0 rfl) g0)) ((rfl:_=Value.string (strOf x.1))))<|an (aD rfl dB (by decide))<|cd (fun m=>yV (ar rfl gU (ax (m.aT 2 rfl) (i:=0) rfl)) ((rfl:_=Value.string (strOf f.1))))<|an (kn rfl rfl)<|bq<|al (ρ' :=[(37,_),(6,_),(5,_),(25,_),(11,_),(7,_),(4,_),(3,_),(0,_),(1,_)]) ⟨rfl,rfl,rfl,rfl,rfl,rfl,rfl,rfl,rfl,rfl,trivial⟩<|ag<| ?_
    refine cL rfl (fun h1=> ?_) (fun h1=> ?_)
    ·have hne:x.1≠f.1:=fun e=>h1 (cD.2 e)
     refine aj<|hy (fun _=>aa rfl)<|hy (fun _=>aa rfl)<|hy (fun _=>aa rfl)<|hy (fun _=>cU rfl rfl Tryz.underlying36 dZ hA_r rfl (by omega))<|hy (fun m=>yV (aX rfl p4 dZ rfl (l7 (m.rd 0 rfl) hgx)) ((rfl:_=Value.agg [SV x.1,SV x.2].toArray)))<| ?_
     refine hx (b8 Tryz.underlying36 iY rfl rfl rfl (by simp[Value.cells,B8]) (by decide) (by decide) (fun g43=> ?_))
     have hA_b43:0<1→(some (⟨g43,0,none⟩:Addr))≠none:=fun _ h=>by cases h
     refine aL (fun w m=>m.bM 0 rfl (show _=aH 156 2 (.slice (some ⟨g43,0,none⟩) 1 1) 1 (fc [x])from rfl)) ?_
     refine hx (bB 1 rfl rfl rfl Tryz.underlying36 Tryz.underlying36 (by exact .inl rfl) iY rfl (fun m=>Src.bT (m.ord 0 rfl)) mQ (by unfold maxLen;omega) (by omega) (fun u2=> ?_))
     refine az (fun m=>(m.own 0 rfl).slice) ?_
     rintro⟨A_o2,c_o2,rfl,hc_o⟩
     refine az (fun m=>(m.ord 0 rfl).2.1) fun hA_o=> ?_
     refine aL (fun w m=>m.bM 0 rfl (show _=aH 156 2 (.slice A_o2 (k+1+1) c_o2) (k+1+1) (fc ((out++[f])++[x]))from congrArg (aH _ _ _ _) (iq ..).symm)) ?_
     refine hy (fun _=>ab rfl)<|ai<|al (ρ' :=[(5,_),(37,_),(6,_),(25,_),(11,_),(7,_),(4,_),(3,_),(0,_),(1,_)]) ⟨rfl,rfl,rfl,rfl,rfl,rfl,rfl,rfl,rfl,rfl,trivial⟩<|ak (X' :=[_,_,_,_]) (S' :=[_]) (fun _ m=>m)<|aQ<|ag<|aj<|hy (fun _=>aa rfl)<|hy (fun _=>aJ rfl rfl (bA (by omega) (by omega)))<|hy (fun _=>ab rfl)<|ai<|al (ρ' :=[(7,_),(5,_),(37,_),(6,_),(25,_),(11,_),(4,_),(3,_),(0,_),(1,_)]) ⟨rfl,rfl,rfl,rfl,rfl,rfl,rfl,rfl,rfl,rfl,trivial⟩<| ?_
     refine eW (i+1) A_o2 (k+1+1) c_o2 ((out++[f])++[x]) true ⟨rfl,rfl,rfl,rfl,rfl,rfl,rfl,trivial⟩ [0,2] rfl [0] rfl (⟨by omega,by rw[hs,if_pos hne],by rw[List.length_append,hk1];rfl,by simp at hki ⊢;omega⟩) (by omega)
    ·have hne:¬x.1≠f.1:=fun e=>h1 (fun h=>e (cD.1 h))
     refine aB<|aQ<|ag<|aj<|hy (fun _=>aa rfl)<|hy (fun _=>aJ rfl rfl (bA (by omega) (by omega)))<|hy (fun _=>ab rfl)<|ai<|al (ρ' :=[(7,_),(37,_),(6,_),(5,_),(25,_),(11,_),(4,_),(3,_),(0,_),(1,_)]) ⟨rfl,rfl,rfl,rfl,rfl,rfl,rfl,rfl,rfl,rfl,trivial⟩<| ?_
     refine eW (i+1) A_o (k+1) c_o ((out++[f])) true ⟨rfl,rfl,rfl,rfl,rfl,rfl,rfl,trivial⟩ [0,1] rfl [0] rfl (⟨by omega,by rw[hs,if_neg hne],hk1.symm,by simp at hki ⊢;omega⟩) (by omega)
   ·have hlt:mh x.1 f.1=true:=by simpa using hge
    simp only[hlt,Bool.true_eq_false,and_false,if_false]at hs
    refine aB<|ag<|ah<|aN<|ah<|ah<|cK [] [(0,some 0),(1,some 0),(2,some 0),(3,some 0),(4,some 0),(5,some 0),(6,some 0),(7,some 0),(8,some 0),(9,some 0),(10,some 0),(11,some 0)] (by kernel_rfl) (by kernel_rfl) rfl 99<|an (aa rfl)<|an ((fw rfl))<|an (aa rfl)<|bj (o:=_) rfl rfl rfl (aa rfl)<|bj (o:=_) rfl rfl rfl (aa rfl)<|bj (o:=_) rfl rfl rfl (cU rfl rfl Tryz.underlying36 dZ hA_r rfl (by omega))<|bj (o:=_) rfl rfl rfl (aD rfl dB (by decide))<|iJ (o:=_) rfl rfl rfl (fun m=>yV (ar rfl gU (dm (m.rd 0 rfl) g0)) ((rfl:_=Value.string (strOf x.1))))<|bj (o:=_) rfl rfl rfl (aD rfl dB (by decide))<|iJ (o:=_) rfl rfl rfl (fun m=>yV (ar rfl gU (ax (m.aT 1 rfl) (i:=0) rfl)) ((rfl:_=Value.string (strOf f.1))))<|bj (o:=_) rfl rfl rfl (yF (A5 rfl rfl) ((by show(!mh x.1 f.1)=false;rw[hlt];rfl)))<|an (bE rfl rfl)<|bq<|al (ρ' :=[(25,_),(11,_),(5,_),(6,_),(7,_),(4,_),(3,_),(0,_),(1,_)]) ⟨rfl,rfl,rfl,rfl,rfl,rfl,rfl,rfl,rfl,trivial⟩<|ag<| ?_
    refine di rfl (rfl) ?_
    refine aB<|ag<|ah<|cK [] [(0,some 0),(1,some 0),(2,some 0),(3,some 0),(4,some 0),(5,some 0),(6,some 0),(7,some 0)] (by kernel_rfl) (by kernel_rfl) rfl 99<|an (aa rfl)<|an (aa rfl)<|an (cU rfl rfl Tryz.underlying36 dZ hA_r rfl (by omega))<|an (aD rfl dB (by decide))<|cd (fun m=>yV (ar rfl gU (dm (m.rd 0 rfl) g0)) ((rfl:_=Value.string (strOf x.1))))<|an (aD rfl dB (by decide))<|cd (fun m=>yV (ar rfl gU (ax (m.aT 1 rfl) (i:=0) rfl)) ((rfl:_=Value.string (strOf f.1))))<|an (kn rfl rfl)<|bq<|al (ρ' :=[(37,_),(25,_),(11,_),(5,_),(6,_),(7,_),(4,_),(3,_),(0,_),(1,_)]) ⟨rfl,rfl,rfl,rfl,rfl,rfl,rfl,rfl,rfl,rfl,trivial⟩<|ag<| ?_
    refine cL rfl (fun h1=> ?_) (fun h1=> ?_)
    ·have hne:x.1≠f.1:=fun e=>h1 (cD.2 e)
     refine aj<|hy (fun _=>aa rfl)<|hy (fun _=>aa rfl)<|hy (fun _=>aa rfl)<|hy (fun _=>cU rfl rfl Tryz.underlying36 dZ hA_r rfl (by omega))<|hy (fun m=>yV (aX rfl p4 dZ rfl (l7 (m.rd 0 rfl) hgx)) ((rfl:_=Value.agg [SV x.1,SV x.2].toArray)))<| ?_
     refine hx (b8 Tryz.underlying36 iY rfl rfl rfl (by simp[Value.cells,B8]) (by decide) (by decide) (fun g43=> ?_))
     have hA_b43:0<1→(some (⟨g43,0,none⟩:Addr))≠none:=fun _ h=>by cases h
     refine aL (fun w m=>m.bM 0 rfl (show _=aH 156 2 (.slice (some ⟨g43,0,none⟩) 1 1) 1 (fc [x])from rfl)) ?_
     refine hx (bB 1 rfl rfl rfl Tryz.underlying36 Tryz.underlying36 (by exact .inl rfl) iY rfl (fun m=>Src.bT (m.ord 0 rfl)) mQ (by unfold maxLen;omega) (by omega) (fun u=> ?_))
     refine az (fun m=>(m.own 0 rfl).slice) ?_
     rintro⟨A_o,c_o,rfl,hc_o⟩
     refine az (fun m=>(m.ord 0 rfl).2.1) fun hA_o=> ?_
     refine aL (fun w m=>m.bM 0 rfl (show _=aH 156 2 (.slice A_o (k+1) c_o) (k+1) (fc (out++[x]))from congrArg (aH _ _ _ _) (iq ..).symm)) ?_
     refine hy (fun _=>ab rfl)<|ai<|al (ρ' :=[(5,_),(37,_),(25,_),(11,_),(6,_),(7,_),(4,_),(3,_),(0,_),(1,_)]) ⟨rfl,rfl,rfl,rfl,rfl,rfl,rfl,rfl,rfl,rfl,trivial⟩<|ak (X' :=[_,_,_]) (S' :=[_]) (fun _ m=>m)<|aQ<|ag<|aj<|hy (fun _=>aa rfl)<|hy (fun _=>aJ rfl rfl (bA (by omega) (by omega)))<|hy (fun _=>ab rfl)<|ai<|al (ρ' :=[(7,_),(5,_),(37,_),(25,_),(11,_),(6,_),(4,_),(3,_),(0,_),(1,_)]) ⟨rfl,rfl,rfl,rfl,rfl,rfl,rfl,rfl,rfl,rfl,trivial⟩<| ?_
     refine eW (i+1) A_o (k+1) c_o (out++[x]) false ⟨rfl,rfl,rfl,rfl,rfl,rfl,rfl,trivial⟩ [0,1] rfl [0] rfl (⟨by omega,by rw[hs,if_pos hne],by rw[List.length_append,hk.symm];rfl,by simp at hki ⊢;omega⟩) (by omega)
    ·have hne:¬x.1≠f.1:=fun e=>h1 (fun h=>e (cD.1 h))
     refine aB<|aQ<|ag<|aj<|hy (fun _=>aa rfl)<|hy (fun _=>aJ rfl rfl (bA (by omega) (by omega)))<|hy (fun _=>ab rfl)<|ai<|al (ρ' :=[(7,_),(37,_),(25,_),(11,_),(5,_),(6,_),(4,_),(3,_),(0,_),(1,_)]) ⟨rfl,rfl,rfl,rfl,rfl,rfl,rfl,rfl,rfl,rfl,trivial⟩<| ?_
     refine eW (i+1) A1 (k) c1 (out) false ⟨rfl,rfl,rfl,rfl,rfl,rfl,rfl,trivial⟩ [0,0] rfl [0] rfl (⟨by omega,by rw[hs,if_neg hne],hk.symm.symm,by simp at hki ⊢;omega⟩) (by omega)
 ·obtain rfl:i=n:=by omega
  have hww:Aa f l l.length=(out,pt):=by rw[hl];exact hw
  by_cases hp:pt=true
  ·subst hp
   have hW:gG l f=out:=by rw[gG,hww];rfl
   refine bP<|au<|au<|aC<|ag<|ah<|ah<|aj<|hy (fun _=>aa rfl)<|hy (fun _=>(fw rfl))<|ai<|al (ρ' :=[(46,_),(11,_),(5,_),(6,_),(7,_),(4,_),(3,_),(0,_),(1,_)]) ⟨rfl,rfl,rfl,rfl,rfl,rfl,rfl,rfl,rfl,trivial⟩<|ag<| ?_
   refine di rfl (rfl) ?_
   refine aB<|ag<|ah<|aj<|hy (fun _=>aa rfl)<|hy (fun _=>ab rfl)<|ai<|al (ρ' :=[(4,_),(46,_),(11,_),(5,_),(6,_),(7,_),(3,_),(0,_),(1,_)]) ⟨rfl,rfl,rfl,rfl,rfl,rfl,rfl,rfl,rfl,trivial⟩<|ag<|aU<| ?_
   refine ak (fun w m=>m.bM 0 rfl (show _=aH 156 2 (.slice A1 k c1) k (fc (gG l f))from by rw[hW])) ?_
   exact bc trivial rfl rfl [0] rfl [] rfl ⟨_,_,rfl,rfl,rfl,⟨by rw[hW];exact hk,by simp at hki;omega⟩⟩
  ·obtain rfl:pt=false:=by simpa using hp
   have hW:gG l f=out++[f]:=by rw[gG,hww];rfl
   refine bP<|au<|au<|aC<|ag<|ah<|ah<|aj<|hy (fun _=>aa rfl)<|hy (fun _=>(fw rfl))<|ai<|al (ρ' :=[(46,_),(11,_),(5,_),(6,_),(7,_),(4,_),(3,_),(0,_),(1,_)]) ⟨rfl,rfl,rfl,rfl,rfl,rfl,rfl,rfl,rfl,trivial⟩<|ag<| ?_
   refine fE rfl (rfl) ?_
   refine aj<|hy (fun _=>aa rfl)<|hy (fun m=>yV (aX rfl p4 dZ rfl ((m.aT 1 rfl).ay)) ((rfl:_=Value.agg [SV f.1,SV f.2].toArray)))<| ?_
   refine hx (b8 Tryz.underlying36 iY rfl rfl rfl (by simp[Value.cells,B8]) (by decide) (by decide) (fun g49=> ?_))
   have hA_b49:0<1→(some (⟨g49,0,none⟩:Addr))≠none:=fun _ h=>by cases h
   refine aL (fun w m=>m.bM 0 rfl (show _=aH 156 2 (.slice (some ⟨g49,0,none⟩) 1 1) 1 (fc [f])from rfl)) ?_
   refine hx (bB 1 rfl rfl rfl Tryz.underlying36 Tryz.underlying36 (by exact .inl rfl) iY rfl (fun m=>Src.bT (m.ord 0 rfl)) mQ (by unfold maxLen;omega) (by omega) (fun u=> ?_))
   refine az (fun m=>(m.own 0 rfl).slice) ?_
   rintro⟨A_o,c_o,rfl,hc_o⟩
   refine az (fun m=>(m.ord 0 rfl).2.1) fun hA_o=> ?_
   refine aL (fun w m=>m.bM 0 rfl (show _=aH 156 2 (.slice A_o (k+1) c_o) (k+1) (fc (gG l f))from(congrArg (aH _ _ _ _) ((iq ..).symm.trans (congrArg fc hW.symm))))) ?_
   refine hy (fun _=>ab rfl)<|ai<|al (ρ' :=[(5,_),(46,_),(11,_),(6,_),(7,_),(4,_),(3,_),(0,_),(1,_)]) ⟨rfl,rfl,rfl,rfl,rfl,rfl,rfl,rfl,rfl,trivial⟩<|ak (X' :=[_,_,_]) (S' :=[_]) (fun _ m=>m)<|ag<|ah<|aj<|hy (fun _=>aa rfl)<|hy (fun _=>ab rfl)<|ai<|al (ρ' :=[(4,_),(5,_),(46,_),(11,_),(6,_),(7,_),(3,_),(0,_),(1,_)]) ⟨rfl,rfl,rfl,rfl,rfl,rfl,rfl,rfl,rfl,trivial⟩<|ag<|aU<| ?_
   exact bc trivial rfl rfl [0] rfl [] rfl ⟨_,_,rfl,rfl,rfl,⟨by rw[hW,List.length_append,hk];rfl,by simp at hki;omega⟩⟩
end Go.Proofs.YtmibdabdlgmafaaGreatDoor
end
section
set_option maxRecDepth 20000
namespace Go.Proofs.YtmibdabdlgmafaaGreatDoor
open Go.Eng Go.Hx
def ec(l:List FP)(p:List UInt8):List FP:=l.filter fun x=>decide (x.1≠p)
def cv(k:Int)(p t b:List UInt8):List Value:=[.int .i64 k,SV p,SV t,SV b]
def cY(l:List FP)(k:Int)(p t b:List UInt8):List FP:=
 if k=0 then gG l (p,b)else match l[cS l p]? with
  |none=>l
  |some x=>if k=2 then ec l p else gG (ec l p) (t,x.2)
theorem ir{l:List FP}{p:List UInt8}:ke l p<0↔l[cS l p]? =none:=by
 unfold ke
 by_cases h:cS l p<l.length
 ·rw[if_pos h,List.getElem?_eq_getElem h];simp
 ·rw[if_neg h,List.getElem?_eq_none (by omega)];simp
theorem pz{A:Option Addr}{n c:Nat}{l:List FP}{k:Int}{p t bb:List UInt8}(hl:l.length=n)(hn:n≤900000):cj Tryz.prog 162 [.slice A n c,.agg (cv k p t bb).toArray] [] [dr 2 A n (fc l)] (fun v_ X_ S_=>∃A1 n1 c1,v_=(.slice A1 n1 c1)∧X_=[]∧S_=[dr 2 A1 n1 (fc (cY l k p t bb))]∧(n1=(cY l k p t bb).length∧n1≤n+1)):=by
 refine aO (N:=43) Tryz.func162 rfl rfl (by simp) fun b=> ?_
 refine ba (fun m=>ik (m.rd 0 rfl)) ?_
 rintro⟨hl_r,hA_r⟩
 refine ah<|aj<| ?_
 refine hx (cz rfl (fun g3=> ?_))
 refine aL (fun w m=>m.bM 0 rfl (show _=aG g3 186 (cv k p t bb)from congrArg (aG _ _) (bG _))) ?_
 refine hy (fun _=>ab rfl)<|ai<|ak (X' :=[_]) (S' :=[_]) (fun _ m=>m)<|ag<|ah<|ah<|aj<|hy (fun _=>aD rfl qW (by decide))<|hy (fun m=>ar rfl eY (ax (m.aT 0 rfl) (i:=0) rfl))<|hy (fun _=>b7 rfl rfl)<|ai<|al (ρ' :=[(8,_),(4,_),(3,_),(0,_),(1,_)]) ⟨rfl,rfl,rfl,rfl,rfl,trivial⟩<|ag<| ?_
 refine cL rfl (fun h0=> ?_) (fun h0=> ?_)
 ·have hM:cY l k p t bb=gG l (p,bb):=by rw[cY,if_pos h0]
  refine ah<|aj<|hy (fun _=>aa rfl)<|hy (fun _=>aD rfl nY (by decide))<|hy (fun m=>yV (ar rfl gU (ax (m.aT 0 rfl) (i:=1) rfl)) ((rfl:_=SV p)))<|hy (fun _=>aD rfl jL (by decide))<|hy (fun m=>yV (ar rfl gU (ax (m.aT 0 rfl) (i:=3) rfl)) ((rfl:_=SV bb)))<|hy (fun _=>yV (cM iY rfl rfl (by kernel_rfl) (.cons (o:=0) (sz:=1) (by kernel_rfl) rfl rfl (Nat.le_of_ble_eq_true rfl) (.cons (o:=1) (sz:=1) (by kernel_rfl) rfl rfl (Nat.le_of_ble_eq_true rfl) .nil))) ((rfl:_=Value.agg [SV p,SV bb].toArray)))<| ?_
  refine hx (ao rfl Tryz.call220 (yd (by omega) (by omega) (f:=(p,bb))) [] rfl [0] rfl ?_)
  rintro _ _ _ ⟨v,k2,rfl,rfl,rfl,hp⟩
  refine az (fun m=>(m.own 0 rfl).slice) ?_
  rintro⟨A_x,c_x,rfl,hc_x⟩
  refine az (fun m=>(m.ord 0 rfl).2.1) fun hA_x=> ?_
  refine hy (fun _=>ab rfl)<|ai<|al (ρ' :=[(4,_),(8,_),(3,_),(0,_),(1,_)]) ⟨rfl,rfl,rfl,rfl,rfl,trivial⟩<|ak (X' :=[_,_]) (S' :=[_]) (fun _ m=>m)<|ag<|aU<|aw<| ?_
  rw[←hM]at hp
  refine ak (fun w m=>m.bM 0 rfl (show _=aH 156 2 (.slice A_x k2 c_x) k2 (fc (cY l k p t bb))from by rw[hM])) ?_
  refine ak (fun w m=>(m.perm (av [0] _ [_] _ rfl)).freeze) ?_
  refine ak (fun w m=>m.gX 0 rfl .own) ?_
  refine rh (fun m=>ik (m.rd 0 rfl)) ?_
  rintro⟨hl_xr,hA_xr⟩
  exact bc trivial rfl rfl [] rfl [0] rfl ⟨_,_,_,rfl,rfl,rfl,hp⟩
 ·refine aB<|ag<|ah<|aj<|hy (fun _=>aa rfl)<|hy (fun _=>aD rfl nY (by decide))<|hy (fun m=>yV (ar rfl gU (ax (m.aT 0 rfl) (i:=1) rfl)) ((rfl:_=SV p)))<| ?_
  refine hx (ao rfl Tryz.call113 (tJ (by omega) (by omega)) [] rfl [0] rfl ?_)
  rintro _ _ _ ⟨rfl,rfl,rfl⟩
  refine hy (fun _=>ab rfl)<|ai<|al (ρ' :=[(5,_),(8,_),(4,_),(3,_),(0,_),(1,_)]) ⟨rfl,rfl,rfl,rfl,rfl,rfl,trivial⟩<|ak (X' :=[_]) (S' :=[_]) (fun _ m=>m)<|ag<|ah<|ah<|aj<|hy (fun _=>aa rfl)<|hy (fun _=>br rfl rfl)<|ai<|al (ρ' :=[(21,_),(5,_),(8,_),(4,_),(3,_),(0,_),(1,_)]) ⟨rfl,rfl,rfl,rfl,rfl,rfl,rfl,trivial⟩<|ag<| ?_
  refine cL rfl (fun h1=> ?_) (fun h1=> ?_)
  ·have hM:cY l k p t bb=l:=by rw[cY,if_neg h0,ir.1 h1]
   refine ah<|aj<|hy (fun _=>aa rfl)<|hy (fun _=>ab rfl)<|ai<|al (ρ' :=[(4,_),(21,_),(5,_),(8,_),(3,_),(0,_),(1,_)]) ⟨rfl,rfl,rfl,rfl,rfl,rfl,rfl,trivial⟩<|ag<|aU<|aw<| ?_
   rw[hM]
   exact bc trivial rfl rfl [] rfl [0] rfl ⟨_,_,_,rfl,rfl,rfl,⟨hl.symm,by omega⟩⟩
  ·obtain⟨x0,cI⟩:∃x0,l[cS l p]? =some x0:=by
    cases hq:l[cS l p]? with
    |none=>exact absurd (ir.2 hq) h1
    |some x0=>exact⟨x0,rfl⟩
   have hfl:cS l p<l.length:=(List.getElem?_eq_some_iff.1 cI).1
   obtain⟨f0,f1⟩:=gQ l _ x0 cI
   have hfi:ke l p=(cS l p:Nat):=by rw[ke,if_pos hfl]
   have hwl:(ec l p).length≤l.length:=List.length_filter_le ..
   refine aB<|ag<|ah<|ah<|aj<|hy (fun _=>aD rfl qW (by decide))<|hy (fun m=>ar rfl eY (ax (m.aT 0 rfl) (i:=0) rfl))<|hy (fun _=>b7 rfl rfl)<|ai<|al (ρ' :=[(25,_),(21,_),(5,_),(8,_),(4,_),(3,_),(0,_),(1,_)]) ⟨rfl,rfl,rfl,rfl,rfl,rfl,rfl,rfl,trivial⟩<|ag<| ?_
   refine cL rfl (fun h2=> ?_) (fun h2=> ?_)
   ·have hM:cY l k p t bb=ec l p:=by rw[cY,if_neg h0,cI];simp only[if_pos h2]
    refine ah<|aj<|hy (fun _=>aa rfl)<|hy (fun _=>aD rfl nY (by decide))<|hy (fun m=>yV (ar rfl gU (ax (m.aT 0 rfl) (i:=1) rfl)) ((rfl:_=SV p)))<| ?_
    refine hx (ao rfl Tryz.call221 (pY (by omega) (by omega)) [] rfl [0] rfl ?_)
    rintro _ _ _ ⟨v,k2,rfl,rfl,rfl,hp⟩
    refine az (fun m=>(m.own 0 rfl).slice) ?_
    rintro⟨A_x,c_x,rfl,hc_x⟩
    refine az (fun m=>(m.ord 0 rfl).2.1) fun hA_x=> ?_
    refine hy (fun _=>ab rfl)<|ai<|al (ρ' :=[(4,_),(25,_),(21,_),(5,_),(8,_),(3,_),(0,_),(1,_)]) ⟨rfl,rfl,rfl,rfl,rfl,rfl,rfl,rfl,trivial⟩<|ak (X' :=[_,_]) (S' :=[_]) (fun _ m=>m)<|ag<|aU<|aw<| ?_
    refine ak (fun w m=>m.bM 0 rfl (show _=aH 156 2 (.slice A_x k2 c_x) k2 (fc (cY l k p t bb))from by rw[hM];rfl)) ?_
    refine ak (fun w m=>(m.perm (av [0] _ [_] _ rfl)).freeze) ?_
    refine ak (fun w m=>m.gX 0 rfl .own) ?_
    refine rh (fun m=>ik (m.rd 0 rfl)) ?_
    rintro⟨hl_xr,hA_xr⟩
    exact bc trivial rfl rfl [] rfl [0] rfl ⟨_,_,_,rfl,rfl,rfl,⟨hp.trans (congrArg List.length hM.symm),by rw[hp];show(ec l p).length≤_;omega⟩⟩
   ·have hM:cY l k p t bb=gG (ec l p) (t,x0.2):=by rw[cY,if_neg h0,cI];simp only[if_neg h2]
    refine aB<|ag<|ah<|cK [3,12] [(0,some 0),(1,some 0),(2,some 0),(4,some 1),(5,some 1),(6,some 2),(7,some 2),(8,some 1),(9,some 1),(10,some 1),(11,some 1),(3,none),(12,none),(13,some 2)] (by kernel_rfl) (by kernel_rfl) rfl 99<|an (aa rfl)<|an (aD rfl nY (by decide))<|cd (fun m=>yV (ar rfl gU (ax (m.aT 0 rfl) (i:=1) rfl)) ((rfl:_=SV p)))<|an (aD rfl zD (by decide))<|cd (fun m=>yV (ar rfl gU (ax (m.aT 0 rfl) (i:=2) rfl)) ((rfl:_=SV t)))<|an (aa rfl)<|an (aa rfl)<|an (cU rfl rfl Tryz.underlying36 dZ hA_r hfi.symm (by omega))<|an (aD rfl nX (by decide))<|cd (fun m=>yV (ar rfl gU (dm (m.rd 0 rfl) f1)) ((rfl:_=SV x0.2)))<|an (yV (cM iY rfl rfl (by kernel_rfl) (.cons (o:=0) (sz:=1) (by kernel_rfl) rfl rfl (Nat.le_of_ble_eq_true rfl) (.cons (o:=1) (sz:=1) (by kernel_rfl) rfl rfl (Nat.le_of_ble_eq_true rfl) .nil))) ((rfl:_=Value.agg [SV t,SV x0.2].toArray)))<| ?_
    refine ee (ao rfl Tryz.call221 (pY (by omega) (by omega)) [] rfl [0] rfl ?_)
    rintro _ _ _ ⟨v,k2,rfl,rfl,rfl,hp⟩
    refine⟨(fun _=>wk [1] [0] rfl rfl), ?_⟩
    refine cf (fun m=>(m.own 0 rfl).slice) ?_
    rintro⟨A_x,c_x,rfl,hc_x⟩
    refine cf (fun m=>(m.ord 0 rfl).2.1) fun hA_x=> ?_
    have hk2:k2=(ec l p).length:=hp
    clear hp
    refine ee (cF rfl Tryz.call220 (yd (by omega) (by omega) (l:=(ec l p)) (f:=(t,x0.2))) [] rfl (.x 0 rfl .own .nil) ?_)
    rintro _ _ _ ⟨v2,k3,rfl,rfl,rfl,hp2⟩
    refine⟨rfl, ?_⟩
    refine⟨(fun _=>wk [2] [0] rfl rfl), ?_⟩
    refine cf (fun m=>(m.own 0 rfl).slice) ?_
    rintro⟨A_x2,c_x2,rfl,hc_x2⟩
    refine cf (fun m=>(m.ord 0 rfl).2.1) fun hA_x2=> ?_
    refine an (ab rfl)<|bq<|al (ρ' :=[(4,_),(25,_),(21,_),(5,_),(8,_),(3,_),(0,_),(1,_)]) ⟨rfl,rfl,rfl,rfl,rfl,rfl,rfl,rfl,trivial⟩<|ak (X' :=[_,_,_]) (S' :=[_]) (fun _ m=>m)<|ag<|aU<| ?_
    rw[hM]
    refine ak (fun w m=>(m.perm (av [0] _ [_] _ rfl)).freeze) ?_
    refine ak (fun w m=>m.gX 0 rfl .own) ?_
    refine rh (fun m=>ik (m.rd 0 rfl)) ?_
    rintro⟨hl_x2r,hA_x2r⟩
    exact bc trivial rfl rfl [] rfl [0] rfl ⟨_,_,_,rfl,rfl,rfl,⟨hp2.1,by omega⟩⟩
abbrev RC:=Int×List UInt8×List UInt8×List UInt8
def sH(l:List RC):List Value:=l.flatMap fun x=>cv x.1 x.2.1 x.2.2.1 x.2.2.2
theorem ti(a b:List RC):sH (a++b)=sH a++sH b:=by simp[sH]
theorem q8{l:List RC}:∀u∈sH l,u.oneCell' =true:=by
 intro u hu
 obtain⟨x,_,h⟩:=List.mem_flatMap.1 hu
 simp only[cv,List.mem_cons,List.not_mem_nil,or_false]at h
 rcases h with rfl|rfl|rfl|rfl <;> rfl
theorem ja{room pw:Int}{A A2 A3:Option Addr}{n c n2 c2 n3 c3:Nat}:∀u∈dv room (.slice A n c) (.slice A2 n2 c2) (.slice A3 n3 c3) pw,u.oneCell' =true:=by
 intro u hu
 simp only[dv,List.mem_cons,List.not_mem_nil,or_false]at hu
 rcases hu with rfl|rfl|rfl|rfl|rfl <;> rfl
def eL(pw:Int):Int:=if 0<pw then pw-1 else pw
theorem Cq{room pw:Int}{A Al A3:Option Addr}{n c nl cl n3 c3:Nat}{l:List FP}{wl:List RC}{k:Int}{p t bb:List UInt8}(hl:l.length=n)(hn:n≤900000)(hw:wl.length=n3)(hn3:n3≤900000)(hp1:-10≤pw)(hp2:pw≤1000000000000):cj Tryz.prog 114 [.agg (dv room (.slice A n c) (.slice Al nl cl) (.slice A3 n3 c3) pw).toArray,.agg (cv k p t bb).toArray] [] [dr 2 A n (fc l),dr 4 A3 n3 (sH wl)] (fun v_ X_ S_=>∃A1 n1 c1 A2 n2 c2,v_=(.agg (dv room (.slice A1 n1 c1) (.slice Al nl cl) (.slice A2 n2 c2) (eL pw)).toArray)∧X_=[]∧S_=[dr 2 A1 n1 (fc (cY l k p t bb)),dr 4 A2 n2 (sH (wl++[(k,p,t,bb)]))]∧(n1=(cY l k p t bb).length∧n1≤n+1∧n2=n3+1)):=by
 refine aO (N:=28) Tryz.func114 rfl rfl (by simp) fun b=> ?_
 refine ba (fun m=>ik (m.rd 0 rfl)) ?_
 rintro⟨hl_r,hA_r⟩
 refine ba (fun m=>ik (m.rd 1 rfl)) ?_
 rintro⟨hl_w,hA_w⟩
 refine ah<|aj<| ?_
 refine hx (cz rfl (fun g2=> ?_))
 refine aL (fun w m=>m.bM 0 rfl (show _=aG g2 39 (dv room (.slice A n c) (.slice Al nl cl) (.slice A3 n3 c3) pw)from congrArg (aG _ _) (bG _))) ?_
 refine hx (cz rfl (fun g3=> ?_))
 refine aL (fun w m=>m.bM 0 rfl (show _=aG g3 186 (cv k p t bb)from congrArg (aG _ _) (bG _))) ?_
 refine hx (aM fN (fun g4=> ?_))
 refine ai<|ak (X' :=[_,_,_]) (S' :=[_,_]) (fun _ m=>m)<|ag<|ah<|aj<|hy (fun _=>aD rfl fl (by decide))<|hy (fun m=>ar rfl j1 (ax (m.aT 2 rfl) (i:=1) rfl))<|hy (fun m=>yV (aX rfl pg lU rfl ((m.aT 1 rfl).ay)) ((rfl:_=Value.agg (cv k p t bb).toArray)))<| ?_
 refine hx (ao rfl Tryz.call162 (pz (by omega) (by omega)) [] rfl [0] rfl ?_)
 rintro _ _ _ ⟨A1,n1,c1,rfl,rfl,rfl,hp⟩
 refine az (fun m=>ik (m.rd 0 rfl)) ?_
 rintro⟨hl_q,hA_q⟩
 refine hy (fun _=>aD rfl fl (by decide))<| ?_
 refine cI (bR 2 rfl rfl rfl tX rfl (by first|exact Nat.le_of_ble_eq_true rfl|simp) ?_)
 refine ai<|al (ρ' :=[(4,_),(3,_),(2,_),(0,_),(1,_)]) ⟨rfl,rfl,rfl,rfl,rfl,trivial⟩<|ak (X' :=[_,_,_]) (S' :=[_,_,_]) (fun _ m=>m)<|ag<|ah<|aj<|hy (fun _=>ab rfl)<|ai<|ag<|ah<|aj<|hy (fun _=>aa rfl)<|hy (fun _=>aD rfl lL (by decide))<|hy (fun m=>ar rfl AI (ax (m.aT 0 rfl) rfl))<| ?_
 refine aL (fun w m=>m.dx (r' :=aH 186 4 (.slice none 0 0) 0 []) (.refl _ _) (Own.nil _ _ _ _) (fun k hk=>hk.elim)) ?_
 refine hx (bB 0 rfl rfl rfl Tryz.underlying37 Tryz.underlying37 (by exact .inl rfl) nH rfl (fun m=>Src.bT (m.rd 2 rfl)) q8 (by unfold maxLen;omega) (by omega) (fun u=> ?_))
 refine az (fun m=>(m.own 0 rfl).slice) ?_
 rintro⟨A_o,c_o,rfl,hc_o⟩
 refine az (fun m=>(m.ord 0 rfl).2.1) fun hA_o=> ?_
 rw[Nat.zero_add]
 refine aL (fun w m=>m.bM 0 rfl (show _=aH 186 4 (.slice A_o n3 c_o) n3 (sH wl)from rfl)) ?_
 refine hy (fun _=>ab rfl)<|ai<|al (ρ' :=[(5,_),(4,_),(3,_),(2,_),(0,_),(1,_)]) ⟨rfl,rfl,rfl,rfl,rfl,rfl,trivial⟩<|ak (X' :=[_,_,_,_]) (S' :=[_,_,_]) (fun _ m=>m)<|ag<|ah<|aj<|hy (fun _=>aa rfl)<|hy (fun m=>yV (aX rfl pg lU rfl ((m.aT 3 rfl).ay)) ((rfl:_=Value.agg (cv k p t bb).toArray)))<| ?_
 refine hx (b8 Tryz.underlying37 nH rfl rfl rfl (by simp[Value.cells,cv]) (by decide) (by decide) (fun g17=> ?_))
 have hA_b17:0<1→(some (⟨g17,0,none⟩:Addr))≠none:=fun _ h=>by cases h
 refine aL (fun w m=>m.bM 0 rfl (show _=aH 186 4 (.slice (some ⟨g17,0,none⟩) 1 1) 1 (sH [(k,p,t,bb)])from rfl)) ?_
 refine hx (bB 1 rfl rfl rfl Tryz.underlying37 Tryz.underlying37 (by exact .inl rfl) nH rfl (fun m=>Src.bT (m.ord 0 rfl)) q8 (by unfold maxLen;omega) (by omega) (fun u2=> ?_))
 refine az (fun m=>(m.own 0 rfl).slice) ?_
 rintro⟨A_o2,c_o2,rfl,hc_o⟩
 refine az (fun m=>(m.ord 0 rfl).2.1) fun hA_o=> ?_
 refine aL (fun w m=>m.bM 0 rfl (show _=aH 186 4 (.slice A_o2 (n3+1) c_o2) (n3+1) (sH (wl++[(k,p,t,bb)]))from congrArg (aH _ _ _ _) (ti ..).symm)) ?_
 refine hy (fun _=>aD rfl lL (by decide))<| ?_
 refine cI (bR 2 rfl rfl rfl BC rfl (by first|exact Nat.le_of_ble_eq_true rfl|simp) ?_)
 refine aL (fun w m=>m.bM 0 rfl (show _=aG g2 39 (dv room (.slice A1 n1 c1) (.slice Al nl cl) (.slice A_o2 (n3+1) c_o2) pw)from rfl)) ?_
 refine ai<|al (ρ' :=[(5,_),(4,_),(3,_),(2,_),(0,_),(1,_)]) ⟨rfl,rfl,rfl,rfl,rfl,rfl,trivial⟩<|ak (X' :=[_,_,_,_,_]) (S' :=[_,_,_]) (fun _ m=>m)<|ag<|ah<|ah<|aj<|hy (fun _=>aD rfl gL (by decide))<|hy (fun m=>ar rfl eY (ax (m.aT 0 rfl) (i:=4) rfl))<|hy (fun _=>cW rfl rfl)<|ai<|al (ρ' :=[(22,_),(5,_),(4,_),(3,_),(2,_),(0,_),(1,_)]) ⟨rfl,rfl,rfl,rfl,rfl,rfl,rfl,trivial⟩<|ag<| ?_
 refine bu (fun w m=>(m.perm (av [1] _ [_] _ rfl)).freeze) ?_
 refine bu (fun w m=>m.gX 0 rfl .own) ?_
 refine cL rfl (fun h=> ?_) (fun h=> ?_)
 ·refine aj<|hy (fun _=>aD rfl gL (by decide))<|hy (fun m=>ar rfl eY (ax (m.aT 0 rfl) (i:=4) rfl))<|hy (fun _=>cm rfl rfl (bA (by omega) (by omega)))<|hy (fun _=>aD rfl gL (by decide))<| ?_
  refine cI (bR 0 rfl rfl rfl tf rfl (by first|exact Nat.le_of_ble_eq_true rfl|simp) ?_)
  refine aL (fun w m=>m.bM 0 rfl (show _=aG g2 39 (dv room (.slice A1 n1 c1) (.slice Al nl cl) (.slice A_o2 (n3+1) c_o2) (eL pw))from by rw[eL,if_pos h];rfl)) ?_
  refine ai<|al (ρ' :=[(22,_),(5,_),(4,_),(3,_),(2,_),(0,_),(1,_)]) ⟨rfl,rfl,rfl,rfl,rfl,rfl,rfl,trivial⟩<|ak (X' :=[_,_,_,_]) (S' :=[_,_,_,_,_]) (fun _ m=>m)<|ag<|ah<|aj<|hy (fun m=>aX rfl ca bf rfl ((m.aT 0 rfl).ay))<| ?_
  refine cI (aI 2 rfl rfl rfl bf rfl ja rfl ?_)
  refine ai<|al (ρ' :=[(22,_),(5,_),(4,_),(3,_),(2,_),(0,_),(1,_)]) ⟨rfl,rfl,rfl,rfl,rfl,rfl,rfl,trivial⟩<|ak (X' :=[_,_,_,_]) (S' :=[_,_,_,_,_]) (fun _ m=>m)<|ag<|aU<| ?_
  exact fC trivial rfl rfl ca bf rfl (fun m=>(m.aT 0 rfl).ay) [] rfl [2,0] rfl ⟨_,_,_,_,_,_,rfl,rfl,rfl,⟨hp.1,hp.2,rfl⟩⟩
 ·refine bu (fun w m=>m.bM 0 rfl (show _=aG g2 39 (dv room (.slice A1 n1 c1) (.slice Al nl cl) (.slice A_o2 (n3+1) c_o2) (eL pw))from by rw[eL,if_neg h])) ?_
  refine aB<|ag<|ah<|aj<|hy (fun m=>aX rfl ca bf rfl ((m.aT 0 rfl).ay))<| ?_
  refine cI (aI 2 rfl rfl rfl bf rfl ja rfl ?_)
  refine ai<|al (ρ' :=[(22,_),(5,_),(4,_),(3,_),(2,_),(0,_),(1,_)]) ⟨rfl,rfl,rfl,rfl,rfl,rfl,rfl,trivial⟩<|ak (X' :=[_,_,_,_]) (S' :=[_,_,_,_,_]) (fun _ m=>m)<|ag<|aU<| ?_
  exact fC trivial rfl rfl ca bf rfl (fun m=>(m.aT 0 rfl).ay) [] rfl [2,0] rfl ⟨_,_,_,_,_,_,rfl,rfl,rfl,⟨hp.1,hp.2,rfl⟩⟩
end Go.Proofs.YtmibdabdlgmafaaGreatDoor
end
section
set_option maxRecDepth 20000
namespace Go.Proofs.YtmibdabdlgmafaaGreatDoor
open Go.Eng Go.Hx
structure RD where
 room:Int
 seen:List FP
 b4:List FP
 waits:List RC
 pw:Int
def RD.sz(d:RD)(p:List UInt8):Nat:=((d.seen[cS d.seen p]?).map (·.2.length)).getD 0
def RD.bH(d:RD)(p bb:List UInt8):Int:=if¬fT p then 1 else if d.pw=0 then 6 else if d.room<(dE d.seen:Int)+(bb.length:Nat)-(d.sz p:Nat)then 5 else 0
def RD.gi(d:RD)(k:Int)(p t bb:List UInt8):RD:={d with seen:=cY d.seen k p t bb,waits:=d.waits++[(k,p,t,bb)],pw:=eL d.pw}
def RD.write(d:RD)(p bb:List UInt8):RD:=if d.bH p bb=0 then d.gi 0 p [] bb else d
structure vi(d:RD)(k:Nat):Prop where
 seen:d.seen.length≤k
 waits:d.waits.length≤k
 ka:dE d.seen≤k*1048576
 p1:-10≤d.pw
 p2:d.pw≤1000000000000
theorem DJ(d:RD)(p:List UInt8):d.sz p≤dE d.seen:=by
 unfold RD.sz
 cases h:d.seen[cS d.seen p]? with
 |none=>simp
 |some x=>
  have h1:=pO h
  have h2:=vc d.seen (cS d.seen p+1)
  simp only[Option.map_some,Option.getD_some]
  omega
def rv(d:RD)(A:Option Addr)(n c:Nat)(Al:Option Addr)(nl cl:Nat)(A3:Option Addr)(n3 c3:Nat):List Value:=dv d.room (.slice A n c) (.slice Al nl cl) (.slice A3 n3 c3) d.pw
theorem Da{room:Int}:cj Tryz.prog 25 [.int .i64 room] [] [] (fun v_ X_ S_=>v_=(.agg (dv room (.slice none 0 0) (.slice none 0 0) (.slice none 0 0) (-1)).toArray)∧X_=[]∧S_=[]):=by
 refine aO (N:=5) Tryz.func25 rfl rfl (by simp) fun b=> ?_
 refine ah<|aj<| ?_
 refine hx (aM fN (fun g2=> ?_))
 refine ai<|ak (X' :=[_]) (S' :=[]) (fun _ m=>m)<|ag<|ah<|aj<|hy (fun _=>aa rfl)<|hy (fun _=>yV (cM fN rfl rfl (by kernel_rfl) (.cons (o:=0) (sz:=1) (by kernel_rfl) rfl rfl (Nat.le_of_ble_eq_true rfl) (.cons (o:=4) (sz:=1) (by kernel_rfl) rfl rfl (Nat.le_of_ble_eq_true rfl) .nil))) ((rfl:_=Value.agg (dv room (.slice none 0 0) (.slice none 0 0) (.slice none 0 0) (-1)).toArray)))<| ?_
 refine cI (aI 0 rfl rfl rfl bf rfl ja rfl ?_)
 refine ai<|al (ρ' :=[(2,_),(0,_)]) ⟨rfl,rfl,trivial⟩<|ak (X' :=[_]) (S' :=[]) (fun _ m=>m)<|ag<|aU<| ?_
 exact fC trivial rfl rfl ca bf rfl (fun m=>(m.aT 0 rfl).ay) [] rfl [] rfl ⟨rfl,rfl,rfl⟩
theorem zA{d:RD}{kk:Nat}{A Al A3:Option Addr}{n c nl cl n3 c3:Nat}{p bb:List UInt8}(hl:d.seen.length=n)(hw:d.waits.length=n3)(ok:vi d kk)(hkk:kk≤100000)(hpl:p.length≤1000000)(hbb:bb.length≤1000000):cj Tryz.prog 31 [.agg (rv d A n c Al nl cl A3 n3 c3).toArray,.string (strOf p),.string (strOf bb)] [] [dr 2 A n (fc d.seen),dr 4 A3 n3 (sH d.waits)] (fun v_ X_ S_=>∃A1 n1 c1 A2 n2 c2,v_=(.tuple #[.agg (rv (d.write p bb) A1 n1 c1 Al nl cl A2 n2 c2).toArray,.int .i64 (d.bH p bb)])∧X_=[]∧S_=[dr 2 A1 n1 (fc (d.write p bb).seen),dr 4 A2 n2 (sH (d.write p bb).waits)]∧((d.write p bb).seen.length=n1∧(d.write p bb).waits.length=n2)):=by
 have hk1:=ok.seen
 have hk2:=ok.waits
 have hk3:=ok.ka
 have hk4:=ok.p1
 have hk5:=ok.p2
 have hsz:=DJ d p
 refine aO (N:=50) Tryz.func31 rfl rfl (by simp) fun b=> ?_
 refine ba (fun m=>ik (m.rd 0 rfl)) ?_
 rintro⟨hl_r,hA_r⟩
 refine ba (fun m=>ik (m.rd 1 rfl)) ?_
 rintro⟨hl_w,hA_w⟩
 refine ah<|aj<| ?_
 refine hx (cz rfl (fun g3=> ?_))
 refine aL (fun w m=>m.bM 0 rfl (show _=aG g3 39 (rv d A n c Al nl cl A3 n3 c3)from congrArg (aG _ _) (bG _))) ?_
 refine hx (aM fN (fun g6=> ?_))
 refine hy (fun _=>ab rfl)<|ai<|ak (X' :=[_,_]) (S' :=[_,_]) (fun _ m=>m)<|ag<|ah<|aj<|hy (fun _=>aa rfl)<| ?_
 refine hx (ao rfl Tryz.call112 (uP (by omega)) [] rfl [] rfl ?_)
 rintro _ _ _ ⟨rfl,rfl,rfl⟩
 refine hy (fun _=>ab rfl)<|ai<|al (ρ' :=[(8,_),(7,_),(6,_),(3,_),(0,_),(1,_),(2,_)]) ⟨rfl,rfl,rfl,rfl,rfl,rfl,rfl,trivial⟩<|ak (X' :=[_,_]) (S' :=[_,_]) (fun _ m=>m)<|ag<|ah<|ah<|aj<|hy (fun _=>aa rfl)<|hy (fun _=>jM rfl)<|ai<|al (ρ' :=[(14,_),(8,_),(7,_),(6,_),(3,_),(0,_),(1,_),(2,_)]) ⟨rfl,rfl,rfl,rfl,rfl,rfl,rfl,rfl,trivial⟩<|ag<| ?_
 refine cL rfl (fun hN=> ?_) (fun hN=> ?_)
 ·have hE:d.bH p bb=1:=by rw[RD.bH,if_pos hN]
  have hW:d.write p bb=d:=by rw[RD.write,if_neg (by rw[hE];decide)]
  rw[hE,hW]
  refine ah<|aj<|hy (fun m=>yV (aX rfl ca bf rfl ((m.aT 1 rfl).ay)) ((rfl:_=Value.agg (rv d A n c Al nl cl A3 n3 c3).toArray)))<| ?_
  refine cI (aI 0 rfl rfl rfl bf rfl ja rfl ?_)
  refine hy (fun _=>ab rfl)<|ai<|al (ρ' :=[(7,_),(14,_),(8,_),(6,_),(3,_),(0,_),(1,_),(2,_)]) ⟨rfl,rfl,rfl,rfl,rfl,rfl,rfl,rfl,trivial⟩<|ak (X' :=[_,_]) (S' :=[_,_]) (fun _ m=>m)<|ag<|aU<|aw<| ?_
  exact dV trivial rfl rfl rfl ca bf rfl (fun m=>(m.aT 0 rfl).ay) [] rfl [0,1] rfl ⟨_,_,_,_,_,_,rfl,rfl,rfl,⟨hl,hw⟩⟩
 ·refine aB<|ag<|ah<|ah<|aj<|hy (fun _=>aD rfl gL (by decide))<|hy (fun m=>ar rfl eY (ax (m.aT 1 rfl) (i:=4) rfl))<|hy (fun _=>b7 rfl rfl)<|ai<|al (ρ' :=[(18,_),(14,_),(8,_),(7,_),(6,_),(3,_),(0,_),(1,_),(2,_)]) ⟨rfl,rfl,rfl,rfl,rfl,rfl,rfl,rfl,rfl,trivial⟩<|ag<| ?_
  refine cL rfl (fun h0=> ?_) (fun h0=> ?_)
  ·have hE:d.bH p bb=6:=by rw[RD.bH,if_neg hN,if_pos h0]
   have hW:d.write p bb=d:=by rw[RD.write,if_neg (by rw[hE];decide)]
   rw[hE,hW]
   refine ah<|aj<|hy (fun m=>yV (aX rfl ca bf rfl ((m.aT 1 rfl).ay)) ((rfl:_=Value.agg (rv d A n c Al nl cl A3 n3 c3).toArray)))<| ?_
   refine cI (aI 0 rfl rfl rfl bf rfl ja rfl ?_)
   refine hy (fun _=>ab rfl)<|ai<|al (ρ' :=[(7,_),(18,_),(14,_),(8,_),(6,_),(3,_),(0,_),(1,_),(2,_)]) ⟨rfl,rfl,rfl,rfl,rfl,rfl,rfl,rfl,rfl,trivial⟩<|ak (X' :=[_,_]) (S' :=[_,_]) (fun _ m=>m)<|ag<|aU<|aw<| ?_
   exact dV trivial rfl rfl rfl ca bf rfl (fun m=>(m.aT 0 rfl).ay) [] rfl [0,1] rfl ⟨_,_,_,_,_,_,rfl,rfl,rfl,⟨hl,hw⟩⟩
  ·have hsb:=cr bb
   refine aB<|ag<|ah<|aj<|hy (fun m=>yV (aX rfl ca bf rfl ((m.aT 1 rfl).ay)) ((rfl:_=Value.agg (rv d A n c Al nl cl A3 n3 c3).toArray)))<| ?_
   refine hx (ao rfl Tryz.call89 (wN (by omega) (by omega) (by omega)) [] rfl [0] rfl ?_)
   rintro _ _ _ ⟨rfl,rfl,rfl⟩
   refine hy (fun _=>aa rfl)<|hy (fun _=>cp rfl Tryz.underlying9)<|hy (fun _=>aJ rfl rfl (bA (by omega) (by omega)))<|hy (fun _=>ab rfl)<|ai<|al (ρ' :=[(9,_),(18,_),(14,_),(8,_),(7,_),(6,_),(3,_),(0,_),(1,_),(2,_)]) ⟨rfl,rfl,rfl,rfl,rfl,rfl,rfl,rfl,rfl,rfl,trivial⟩<|ak (X' :=[_,_]) (S' :=[_,_]) (fun _ m=>m)<|ag<|ah<|aj<|hy (fun _=>aD rfl fl (by decide))<|hy (fun m=>ar rfl j1 (ax (m.aT 1 rfl) (i:=1) rfl))<|hy (fun _=>aa rfl)<| ?_
   refine hx (ao rfl Tryz.call113 (tJ (by omega) (by omega)) [] rfl [0] rfl ?_)
   rintro _ _ _ ⟨rfl,rfl,rfl⟩
   refine hy (fun _=>ab rfl)<|ai<|al (ρ' :=[(10,_),(9,_),(18,_),(14,_),(8,_),(7,_),(6,_),(3,_),(0,_),(1,_),(2,_)]) ⟨rfl,rfl,rfl,rfl,rfl,rfl,rfl,rfl,rfl,rfl,rfl,trivial⟩<|ak (X' :=[_,_]) (S' :=[_,_]) (fun _ m=>m)<|ag<|ah<|ah<|aj<|hy (fun _=>aa rfl)<|hy (fun _=>iD rfl rfl)<|ai<|al (ρ' :=[(30,_),(10,_),(9,_),(18,_),(14,_),(8,_),(7,_),(6,_),(3,_),(0,_),(1,_),(2,_)]) ⟨rfl,rfl,rfl,rfl,rfl,rfl,rfl,rfl,rfl,rfl,rfl,rfl,trivial⟩<|ag<| ?_
   refine cL rfl (fun hf=> ?_) (fun hf=> ?_)
   ·obtain⟨x0,hfx⟩:∃x0,d.seen[cS d.seen p]? =some x0:=by
     cases hq:d.seen[cS d.seen p]? with
     |none=>exact absurd (ir.2 hq) (by omega)
     |some x0=>exact⟨x0,rfl⟩
    have hfl:cS d.seen p<d.seen.length:=(List.getElem?_eq_some_iff.1 hfx).1
    obtain⟨f0,f1⟩:=gQ d.seen _ x0 hfx
    have hfi:ke d.seen p=(cS d.seen p:Nat):=by rw[ke,if_pos hfl]
    have hsx:=cr x0.2
    have hs0:d.sz p=x0.2.length:=by unfold RD.sz;rw[hfx];rfl
    refine aj<|hy (fun _=>aa rfl)<|hy (fun _=>aD rfl fl (by decide))<|hy (fun m=>ar rfl j1 (ax (m.aT 1 rfl) (i:=1) rfl))<|hy (fun _=>aa rfl)<|hy (fun _=>cU rfl rfl Tryz.underlying36 dZ hA_r hfi.symm (by omega))<|hy (fun _=>aD rfl nX (by decide))<|hy (fun m=>yV (ar rfl gU (dm (m.rd 0 rfl) f1)) ((rfl:_=Value.string (strOf x0.2))))<|hy (fun _=>cp rfl Tryz.underlying9)<|hy (fun _=>cm rfl rfl (bA (by omega) (by omega)))<|hy (fun _=>ab rfl)<|ai<|al (ρ' :=[(9,_),(30,_),(10,_),(18,_),(14,_),(8,_),(7,_),(6,_),(3,_),(0,_),(1,_),(2,_)]) ⟨rfl,rfl,rfl,rfl,rfl,rfl,rfl,rfl,rfl,rfl,rfl,rfl,trivial⟩<|ag<|ah<|ah<|aj<|hy (fun _=>aa rfl)<|hy (fun _=>aD rfl xO (by decide))<|hy (fun m=>ar rfl eY (ax (m.aT 1 rfl) (i:=0) rfl))<|hy (fun _=>cW rfl rfl)<|ai<|al (ρ' :=[(43,_),(9,_),(30,_),(10,_),(18,_),(14,_),(8,_),(7,_),(6,_),(3,_),(0,_),(1,_),(2,_)]) ⟨rfl,rfl,rfl,rfl,rfl,rfl,rfl,rfl,rfl,rfl,rfl,rfl,rfl,trivial⟩<|ag<| ?_
    refine cL rfl (fun hR=> ?_) (fun hR=> ?_)
    ·have hE:d.bH p bb=5:=by rw[RD.bH,if_neg hN,if_neg h0,if_pos (by omega)]
     have hW:d.write p bb=d:=by rw[RD.write,if_neg (by rw[hE];decide)]
     rw[hE,hW]
     refine ah<|aj<|hy (fun m=>yV (aX rfl ca bf rfl ((m.aT 1 rfl).ay)) ((rfl:_=Value.agg (rv d A n c Al nl cl A3 n3 c3).toArray)))<| ?_
     refine cI (aI 0 rfl rfl rfl bf rfl ja rfl ?_)
     refine hy (fun _=>ab rfl)<|ai<|al (ρ' :=[(7,_),(43,_),(9,_),(30,_),(10,_),(18,_),(14,_),(8,_),(6,_),(3,_),(0,_),(1,_),(2,_)]) ⟨rfl,rfl,rfl,rfl,rfl,rfl,rfl,rfl,rfl,rfl,rfl,rfl,rfl,trivial⟩<|ak (X' :=[_,_]) (S' :=[_,_]) (fun _ m=>m)<|ag<|aU<|aw<| ?_
     exact dV trivial rfl rfl rfl ca bf rfl (fun m=>(m.aT 0 rfl).ay) [] rfl [0,1] rfl ⟨_,_,_,_,_,_,rfl,rfl,rfl,⟨hl,hw⟩⟩
    ·have hE:d.bH p bb=0:=by rw[RD.bH,if_neg hN,if_neg h0,if_neg (by omega)]
     have hW:d.write p bb=d.gi 0 p [] bb:=by rw[RD.write,if_pos hE]
     rw[hE,hW]
     refine aB<|ag<|ah<|aj<|hy (fun m=>yV (aX rfl ca bf rfl ((m.aT 1 rfl).ay)) ((rfl:_=Value.agg (dv d.room (.slice A n c) (.slice Al nl cl) (.slice A3 n3 c3) d.pw).toArray)))<|hy (fun _=>aa rfl)<|hy (fun _=>aa rfl)<|hy (fun _=>yV (cM nH rfl rfl (by kernel_rfl) (.cons (o:=1) (sz:=1) (by kernel_rfl) rfl rfl (Nat.le_of_ble_eq_true rfl) (.cons (o:=3) (sz:=1) (by kernel_rfl) rfl rfl (Nat.le_of_ble_eq_true rfl) .nil))) ((rfl:_=Value.agg (cv 0 p [] bb).toArray)))<| ?_
     refine hx (ao rfl Tryz.call114 (Cq (by omega) (by omega) (by omega) (by omega) (by omega) (by omega)) [] rfl [0,1] rfl ?_)
     rintro _ _ _ ⟨A1,n1,c1,A2,n2,c2,rfl,rfl,rfl,hp⟩
     refine az (fun m=>ik (m.rd 0 rfl)) ?_
     rintro⟨hl_q,hA_q⟩
     refine az (fun m=>ik (m.rd 1 rfl)) ?_
     rintro⟨hl_u,hA_u⟩
     refine cI (aI 0 rfl rfl rfl bf rfl ja rfl ?_)
     refine hy (fun _=>ab rfl)<|ai<|al (ρ' :=[(7,_),(43,_),(9,_),(30,_),(10,_),(18,_),(14,_),(8,_),(6,_),(3,_),(0,_),(1,_),(2,_)]) ⟨rfl,rfl,rfl,rfl,rfl,rfl,rfl,rfl,rfl,rfl,rfl,rfl,rfl,trivial⟩<|ak (X' :=[_,_]) (S' :=[_,_,_,_]) (fun _ m=>m)<|ag<|aU<| ?_
     exact dV trivial rfl rfl rfl ca bf rfl (fun m=>(m.aT 0 rfl).ay) [] rfl [0,1] rfl ⟨_,_,_,_,_,_,rfl,rfl,rfl,⟨hp.1.symm,by rw[hp.2.2,←hw];exact List.length_append⟩⟩
   ·have hs0:d.sz p=0:=by
     unfold RD.sz
     rw[ir.1 (by omega)];rfl
    refine aB<|ag<|ah<|ah<|aj<|hy (fun _=>aa rfl)<|hy (fun _=>aD rfl xO (by decide))<|hy (fun m=>ar rfl eY (ax (m.aT 1 rfl) (i:=0) rfl))<|hy (fun _=>cW rfl rfl)<|ai<|al (ρ' :=[(43,_),(30,_),(10,_),(9,_),(18,_),(14,_),(8,_),(7,_),(6,_),(3,_),(0,_),(1,_),(2,_)]) ⟨rfl,rfl,rfl,rfl,rfl,rfl,rfl,rfl,rfl,rfl,rfl,rfl,rfl,trivial⟩<|ag<| ?_
    refine cL rfl (fun hR=> ?_) (fun hR=> ?_)
    ·have hE:d.bH p bb=5:=by rw[RD.bH,if_neg hN,if_neg h0,if_pos (by omega)]
     have hW:d.write p bb=d:=by rw[RD.write,if_neg (by rw[hE];decide)]
     rw[hE,hW]
     refine ah<|aj<|hy (fun m=>yV (aX rfl ca bf rfl ((m.aT 1 rfl).ay)) ((rfl:_=Value.agg (rv d A n c Al nl cl A3 n3 c3).toArray)))<| ?_
     refine cI (aI 0 rfl rfl rfl bf rfl ja rfl ?_)
     refine hy (fun _=>ab rfl)<|ai<|al (ρ' :=[(7,_),(43,_),(30,_),(10,_),(9,_),(18,_),(14,_),(8,_),(6,_),(3,_),(0,_),(1,_),(2,_)]) ⟨rfl,rfl,rfl,rfl,rfl,rfl,rfl,rfl,rfl,rfl,rfl,rfl,rfl,trivial⟩<|ak (X' :=[_,_]) (S' :=[_,_]) (fun _ m=>m)<|ag<|aU<|aw<| ?_
     exact dV trivial rfl rfl rfl ca bf rfl (fun m=>(m.aT 0 rfl).ay) [] rfl [0,1] rfl ⟨_,_,_,_,_,_,rfl,rfl,rfl,⟨hl,hw⟩⟩
    ·have hE:d.bH p bb=0:=by rw[RD.bH,if_neg hN,if_neg h0,if_neg (by omega)]
     have hW:d.write p bb=d.gi 0 p [] bb:=by rw[RD.write,if_pos hE]
     rw[hE,hW]
     refine aB<|ag<|ah<|aj<|hy (fun m=>yV (aX rfl ca bf rfl ((m.aT 1 rfl).ay)) ((rfl:_=Value.agg (dv d.room (.slice A n c) (.slice Al nl cl) (.slice A3 n3 c3) d.pw).toArray)))<|hy (fun _=>aa rfl)<|hy (fun _=>aa rfl)<|hy (fun _=>yV (cM nH rfl rfl (by kernel_rfl) (.cons (o:=1) (sz:=1) (by kernel_rfl) rfl rfl (Nat.le_of_ble_eq_true rfl) (.cons (o:=3) (sz:=1) (by kernel_rfl) rfl rfl (Nat.le_of_ble_eq_true rfl) .nil))) ((rfl:_=Value.agg (cv 0 p [] bb).toArray)))<| ?_
     refine hx (ao rfl Tryz.call114 (Cq (by omega) (by omega) (by omega) (by omega) (by omega) (by omega)) [] rfl [0,1] rfl ?_)
     rintro _ _ _ ⟨A1,n1,c1,A2,n2,c2,rfl,rfl,rfl,hp⟩
     refine az (fun m=>ik (m.rd 0 rfl)) ?_
     rintro⟨hl_q,hA_q⟩
     refine az (fun m=>ik (m.rd 1 rfl)) ?_
     rintro⟨hl_u,hA_u⟩
     refine cI (aI 0 rfl rfl rfl bf rfl ja rfl ?_)
     refine hy (fun _=>ab rfl)<|ai<|al (ρ' :=[(7,_),(43,_),(30,_),(10,_),(9,_),(18,_),(14,_),(8,_),(6,_),(3,_),(0,_),(1,_),(2,_)]) ⟨rfl,rfl,rfl,rfl,rfl,rfl,rfl,rfl,rfl,rfl,rfl,rfl,rfl,trivial⟩<|ak (X' :=[_,_]) (S' :=[_,_,_,_]) (fun _ m=>m)<|ag<|aU<| ?_
     exact dV trivial rfl rfl rfl ca bf rfl (fun m=>(m.aT 0 rfl).ay) [] rfl [0,1] rfl ⟨_,_,_,_,_,_,rfl,rfl,rfl,⟨hp.1.symm,by rw[hp.2.2,←hw];exact List.length_append⟩⟩
def RD.cC(d:RD)(p:List UInt8):Int:=if d.pw=0 then 6 else if d.seen[cS d.seen p]? =none then 4 else 0
def RD.cJ(d:RD)(p:List UInt8):List UInt8:=if d.pw=0 then []else((d.seen[cS d.seen p]?).map (·.2)).getD []
theorem Cs{d:RD}{kk:Nat}{A Al A3:Option Addr}{n c nl cl n3 c3:Nat}{p:List UInt8}(hl:d.seen.length=n)(ok:vi d kk)(hkk:kk≤100000):cj Tryz.prog 91 [.agg (rv d A n c Al nl cl A3 n3 c3).toArray,.string (strOf p)] [] [dr 2 A n (fc d.seen)] (fun v_ X_ S_=>v_=(.tuple #[.string (strOf (d.cJ p)),.int .i64 (d.cC p)])∧X_=[]∧S_=[]):=by
 have hk1:=ok.seen
 refine aO (N:=22) Tryz.func91 rfl rfl (by simp) fun b=> ?_
 refine ba (fun m=>ik (m.rd 0 rfl)) ?_
 rintro⟨hl_r,hA_r⟩
 refine ah<|aj<| ?_
 refine hx (cz rfl (fun g2=> ?_))
 refine aL (fun w m=>m.bM 0 rfl (show _=aG g2 39 (rv d A n c Al nl cl A3 n3 c3)from congrArg (aG _ _) (bG _))) ?_
 refine hy (fun _=>ab rfl)<|hy (fun _=>ab rfl)<|ai<|ak (X' :=[_]) (S' :=[_]) (fun _ m=>m)<|ag<|ah<|aj<|hy (fun _=>aD rfl fl (by decide))<|hy (fun m=>ar rfl j1 (ax (m.aT 0 rfl) (i:=1) rfl))<|hy (fun _=>aa rfl)<| ?_
 refine hx (ao rfl Tryz.call113 (tJ (by omega) (by omega)) [] rfl [0] rfl ?_)
 rintro _ _ _ ⟨rfl,rfl,rfl⟩
 refine hy (fun _=>ab rfl)<|ai<|al (ρ' :=[(6,_),(5,_),(4,_),(2,_),(0,_),(1,_)]) ⟨rfl,rfl,rfl,rfl,rfl,rfl,trivial⟩<|ak (X' :=[_]) (S' :=[_]) (fun _ m=>m)<|ag<|ah<|ah<|aj<|hy (fun _=>aD rfl gL (by decide))<|hy (fun m=>ar rfl eY (ax (m.aT 0 rfl) (i:=4) rfl))<|hy (fun _=>b7 rfl rfl)<|ai<|al (ρ' :=[(13,_),(6,_),(5,_),(4,_),(2,_),(0,_),(1,_)]) ⟨rfl,rfl,rfl,rfl,rfl,rfl,rfl,trivial⟩<|ag<| ?_
 refine cL rfl (fun h0=> ?_) (fun h0=> ?_)
 ·have hE:d.cC p=6:=by rw[RD.cC,if_pos h0]
  have hB:d.cJ p=[]:=by rw[RD.cJ,if_pos h0]
  rw[hE,hB]
  refine ah<|aj<|hy (fun _=>ab rfl)<|hy (fun _=>ab rfl)<|ai<|ag<|aU<|aw<| ?_
  exact dO trivial rfl rfl rfl [] rfl [] rfl ⟨rfl,rfl,rfl⟩
 ·refine aB<|ag<|ah<|ah<|aj<|hy (fun _=>aa rfl)<|hy (fun _=>br rfl rfl)<|ai<|al (ρ' :=[(15,_),(13,_),(6,_),(5,_),(4,_),(2,_),(0,_),(1,_)]) ⟨rfl,rfl,rfl,rfl,rfl,rfl,rfl,rfl,trivial⟩<|ag<| ?_
  refine cL rfl (fun h1=> ?_) (fun h1=> ?_)
  ·have hq:=ir.1 h1
   have hE:d.cC p=4:=by rw[RD.cC,if_neg h0,if_pos hq]
   have hB:d.cJ p=[]:=by rw[RD.cJ,if_neg h0,hq];rfl
   rw[hE,hB]
   refine ah<|aj<|hy (fun _=>ab rfl)<|hy (fun _=>ab rfl)<|ai<|ag<|aU<|aw<| ?_
   exact dO trivial rfl rfl rfl [] rfl [] rfl ⟨rfl,rfl,rfl⟩
  ·obtain⟨x0,hfx⟩:∃x0,d.seen[cS d.seen p]? =some x0:=by
    cases hq:d.seen[cS d.seen p]? with
    |none=>exact absurd (ir.2 hq) h1
    |some x0=>exact⟨x0,rfl⟩
   have hfl:cS d.seen p<d.seen.length:=(List.getElem?_eq_some_iff.1 hfx).1
   obtain⟨f0,f1⟩:=gQ d.seen _ x0 hfx
   have hfi:ke d.seen p=(cS d.seen p:Nat):=by rw[ke,if_pos hfl]
   have hE:d.cC p=0:=by rw[RD.cC,if_neg h0,if_neg (by rw[hfx];exact fun e=>by cases e)]
   have hB:d.cJ p=x0.2:=by rw[RD.cJ,if_neg h0,hfx];rfl
   rw[hE,hB]
   refine aB<|ag<|ah<|aj<|hy (fun _=>aD rfl fl (by decide))<|hy (fun m=>ar rfl j1 (ax (m.aT 0 rfl) (i:=1) rfl))<|hy (fun _=>aa rfl)<|hy (fun _=>cU rfl rfl Tryz.underlying36 dZ hA_r hfi.symm (by omega))<|hy (fun _=>aD rfl nX (by decide))<|hy (fun m=>yV (ar rfl gU (dm (m.rd 0 rfl) f1)) ((rfl:_=Value.string (strOf x0.2))))<|hy (fun _=>ab rfl)<|hy (fun _=>ab rfl)<|ai<|al (ρ' :=[(5,_),(4,_),(15,_),(13,_),(6,_),(2,_),(0,_),(1,_)]) ⟨rfl,rfl,rfl,rfl,rfl,rfl,rfl,rfl,trivial⟩<|ag<|aU<| ?_
   exact dO trivial rfl rfl rfl [] rfl [] rfl ⟨rfl,rfl,rfl⟩
end Go.Proofs.YtmibdabdlgmafaaGreatDoor
end
section
set_option maxRecDepth 20000
namespace Go.Proofs.YtmibdabdlgmafaaGreatDoor
open Go.Eng Go.Hx
def cH.mo(st:cH)(n:Int):cH:={st with bS:=max n (-1)}
theorem BZ{g:Nat}{st:cH}{n:Int}:cj Tryz.prog 57 [.pointer (some ⟨g,0,none⟩),.int .i64 n] [bm g st] [] (fun v_ X_ S_=>v_=(.tuple #[])∧X_=[bm g (st.mo n)]∧S_=[]):=by
 refine aO (N:=9) Tryz.func57 rfl rfl (by simp) fun b=> ?_
 refine bu (fun w m=>(m.perm (av [0] _ [_] _ rfl)).unpack) ?_
 refine aj<|hy (fun _=>aa rfl)<|hy (fun _=>aa rfl)<|hy (fun _=>pP rfl rfl)<|hy (fun _=>aW rfl)<|hy (fun _=>aD rfl kN (by decide))<| ?_
 refine cI (bR 0 rfl rfl rfl tf rfl (by first|exact Nat.le_of_ble_eq_true rfl|simp) ?_)
 refine ai<|al (ρ' :=[(0,_),(1,_)]) ⟨rfl,rfl,trivial⟩<|ak (X' :=[_,_,_,_,_]) (S' :=[]) (fun _ m=>m)<| ?_
 refine ak (fun w m=>m.bM 0 rfl (show _=aG g 177 (gM (st.mo n))from by simp[gM,cH.mo])) ?_
 refine ak (X' :=bm g (st.mo n)::_) (fun w m=>(m.perm (av [0,0,0,0,0] _ [_,_,_,_,_] _ rfl)).pack) ?_
 exact fv trivial rfl [0] rfl [] rfl ⟨rfl,rfl,rfl⟩
theorem xu{g:Nat}{st:cH}:cj Tryz.prog 60 [.pointer (some ⟨g,0,none⟩)] [bm g st] [] (fun v_ X_ S_=>v_=(.int .i64 (st.waits.length:Nat))∧X_=[bm g st]∧S_=[]):=by
 refine aO (N:=8) Tryz.func60 rfl rfl (by simp) fun b=> ?_
 refine bu (fun w m=>(m.perm (av [0] _ [_] _ rfl)).unpack) ?_
 refine ah<|aj<|hy (fun _=>ab rfl)<|ai<|ag<|ah<|aj<|hy (fun _=>aa rfl)<|hy (fun _=>aW rfl)<|hy (fun _=>aD rfl gy (by decide))<|hy (fun m=>ar rfl r3 (ax (m.aT 0 rfl) rfl))<|hy (fun _=>aR rfl Tryz.underlying175)<|hy (fun _=>ab rfl)<|ai<|al (ρ' :=[(2,_),(0,_)]) ⟨rfl,rfl,trivial⟩<|ag<|aU<| ?_
 refine ak (X' :=bm g st::_) (fun w m=>(m.perm (av [0,0,0,0,0] _ [_,_,_,_,_] _ rfl)).pack) ?_
 exact bc trivial rfl rfl [0] rfl [] rfl ⟨rfl,rfl,rfl⟩
theorem BB:cj Tryz.prog 258 [.slice none 0 0,.int .i64 0,.int .i64 0] [] [] (fun v_ X_ S_=>v_=(.tuple #[])∧X_=[]∧S_=[]):=by
 refine aO (N:=49) Tryz.func258 rfl rfl (by simp) fun b=> ?_
 refine ah<|aj<|hy (fun _=>aa rfl)<|hy (fun _=>aJ rfl rfl (bA (by omega) (by omega)))<|hy (fun _=>ab rfl)<|ai<|al (ρ' :=[(6,_),(0,_),(1,_),(2,_)]) ⟨rfl,rfl,rfl,rfl,trivial⟩<|ag<|aN<| ?_
 refine dR (fun u=>0) (fun u=>[(6,.int .i64 1)]) (fun u=>[]) (fun u=>[]) (fun u=>u=0) 0 [(0,_),(1,_),(2,_)] ⟨rfl,rfl,rfl,trivial⟩ [] rfl [] rfl (rfl) ⟨rfl,trivial⟩ (fun u hI=> ?_)
 refine ah<|ah<|aj<|hy (fun _=>aa rfl)<|hy (fun _=>aa rfl)<|hy (fun _=>br rfl rfl)<|ai<|al (ρ' :=[(12,_),(6,_),(0,_),(1,_),(2,_)]) ⟨rfl,rfl,rfl,rfl,rfl,trivial⟩<|ag<| ?_
 refine di rfl (rfl) ?_
 refine bP<|au<|au<|aC<| ?_
 exact fv trivial rfl [] rfl [] rfl ⟨rfl,rfl,rfl⟩
theorem yX:cj Tryz.prog 255 [.int .u64 0] [] [] (fun v_ X_ S_=>v_=(.int .i64 0)∧X_=[]∧S_=[]):=by
 refine aO (N:=25) Tryz.func255 rfl rfl (by simp) fun b=> ?_
 refine ah<|aj<|hy (fun _=>ab rfl)<|ai<|ag<|ah<|ah<|aj<|hy (fun _=>aa rfl)<|hy (fun _=>iD rfl rfl)<|ai<|al (ρ' :=[(4,_),(2,_),(0,_)]) ⟨rfl,rfl,rfl,trivial⟩<|ag<| ?_
 refine di rfl (rfl) ?_
 refine aB<|ag<|ah<|ah<|aj<|hy (fun _=>aa rfl)<|hy (fun _=>iD rfl rfl)<|ai<|al (ρ' :=[(8,_),(4,_),(2,_),(0,_)]) ⟨rfl,rfl,rfl,rfl,trivial⟩<|ag<| ?_
 refine di rfl (rfl) ?_
 refine aB<|ag<|ah<|ah<|aj<|hy (fun _=>aa rfl)<|hy (fun _=>iD rfl rfl)<|ai<|al (ρ' :=[(14,_),(8,_),(4,_),(2,_),(0,_)]) ⟨rfl,rfl,rfl,rfl,rfl,trivial⟩<|ag<| ?_
 refine di rfl (rfl) ?_
 refine aB<|ag<|ah<|aj<|hy (fun _=>aa rfl)<|hy (fun _=>aa rfl)<|hy (fun _=>bU rfl Tryz.underlying310 Tryz.underlying5 (show IntKind.u8.wrap 0=0 from rfl))<|hy (fun _=>eM rfl rfl Tryz.underlying9 (show((0:Nat):Int)=0 from rfl) (show _=some (0:UInt8)from rfl))<|hy (fun _=>bU rfl Tryz.underlying5 Tryz.underlying3 (show IntKind.i64.wrap ((0:UInt8).toNat:Int)=0 from rfl))<|hy (fun _=>aJ rfl rfl (bA (by omega) (by omega)))<|hy (fun _=>ab rfl)<|ai<|al (ρ' :=[(2,_),(14,_),(8,_),(4,_),(0,_)]) ⟨rfl,rfl,rfl,rfl,rfl,trivial⟩<|ag<|aU<| ?_
 exact bc trivial rfl rfl [] rfl [] rfl ⟨rfl,rfl,rfl⟩
theorem Cw:cj Tryz.prog 207 [.int .u64 0] [] [] (fun v_ X_ S_=>v_=(.int .i64 0)∧X_=[]∧S_=[]):=by
 refine aO (N:=8) Tryz.func207 rfl rfl (by simp) fun b=> ?_
 refine ah<|aj<|hy (fun _=>ab rfl)<|ai<|ag<|ah<| ?_
 refine di rfl (rfl) ?_
 refine aB<|ag<|ah<|aj<|hy (fun _=>aa rfl)<| ?_
 refine hx (ao rfl Tryz.call255 (yX) [] rfl [] rfl ?_)
 rintro _ _ _ ⟨rfl,rfl,rfl⟩
 refine hy (fun _=>ab rfl)<|ai<|al (ρ' :=[(2,_),(0,_)]) ⟨rfl,rfl,trivial⟩<|ak (X' :=[]) (S' :=[]) (fun _ m=>m)<|ag<|aU<| ?_
 exact bc trivial rfl rfl [] rfl [] rfl ⟨rfl,rfl,rfl⟩
theorem BK:cj Tryz.prog 223 [.slice none 0 0,.int .i64 0,.int .i64 0,.int .i64 0] [] [] (fun v_ X_ S_=>v_=(.tuple #[])∧X_=[]∧S_=[]):=by
 refine aO (N:=134) Tryz.func223 rfl rfl (by simp) fun b=> ?_
 refine ah<|aj<|hy (fun _=>ab rfl)<|ai<|ag<|ah<|aj<|hy (fun _=>ab rfl)<|ai<|ag<|aN<| ?_
 refine dR (fun u=>0) (fun u=>[(1,.int .i64 0),(2,.int .i64 0)]) (fun u=>[]) (fun u=>[]) (fun u=>u=0) 0 [(0,_)] ⟨rfl,trivial⟩ [] rfl [] rfl (rfl) ⟨rfl,rfl,trivial⟩ (fun u hI=> ?_)
 refine aN<|ah<|aj<|hy (fun _=>aa rfl)<|hy (fun _=>aa rfl)<|hy (fun _=>cm rfl rfl (bA (by omega) (by omega)))<|hy (fun _=>ab rfl)<|ai<|al (ρ' :=[(10,_),(1,_),(2,_),(0,_)]) ⟨rfl,rfl,rfl,rfl,trivial⟩<|ag<|ah<|ah<|aj<|hy (fun _=>aa rfl)<|hy (fun _=>nj rfl rfl)<|ai<|al (ρ' :=[(23,_),(10,_),(1,_),(2,_),(0,_)]) ⟨rfl,rfl,rfl,rfl,rfl,trivial⟩<|ag<| ?_
 refine fE rfl (rfl) ?_
 refine ah<|aj<|hy (fun _=>aa rfl)<|hy (fun _=>aa rfl)<|hy (fun _=>aa rfl)<| ?_
 refine hx (ao rfl Tryz.call258 (BB) [] rfl [] rfl ?_)
 rintro _ _ _ ⟨rfl,rfl,rfl⟩
 refine ai<|al (ρ' :=[(23,_),(10,_),(1,_),(2,_),(0,_)]) ⟨rfl,rfl,rfl,rfl,rfl,trivial⟩<|ak (X' :=[]) (S' :=[]) (fun _ m=>m)<|ag<|aU<|aw<|aV<|aw<|aV<| ?_
 exact fv trivial rfl [] rfl [] rfl ⟨rfl,rfl,rfl⟩
theorem Aw:cj Tryz.prog 165 [.slice none 0 0] [] [] (fun v_ X_ S_=>v_=(.tuple #[])∧X_=[]∧S_=[]):=by
 refine aO (N:=11) Tryz.func165 rfl rfl (by simp) fun b=> ?_
 refine ah<|aj<|hy (fun _=>aa rfl)<|hy (fun _=>aR rfl Tryz.underlying152)<|hy (fun _=>ab rfl)<|ai<|al (ρ' :=[(2,_),(0,_)]) ⟨rfl,rfl,trivial⟩<|ag<|aj<|hy (fun _=>aa rfl)<|hy (fun _=>aa rfl)<|hy (fun _=>aa rfl)<|hy (fun _=>bU rfl Tryz.underlying3 Tryz.underlying263 rfl)<| ?_
 refine hx (ao rfl Tryz.call207 (Cw) [] rfl [] rfl ?_)
 rintro _ _ _ ⟨rfl,rfl,rfl⟩
 refine hx (ao rfl Tryz.call223 (BK) [] rfl [] rfl ?_)
 rintro _ _ _ ⟨rfl,rfl,rfl⟩
 refine ai<|al (ρ' :=[(2,_),(0,_)]) ⟨rfl,rfl,trivial⟩<|ak (X' :=[]) (S' :=[]) (fun _ m=>m)<| ?_
 exact fv trivial rfl [] rfl [] rfl ⟨rfl,rfl,rfl⟩
end Go.Proofs.YtmibdabdlgmafaaGreatDoor
end
section
set_option maxRecDepth 20000
namespace Go.Proofs.YtmibdabdlgmafaaGreatDoor
open Go.Eng Go.Hx
def nP(l:dg):fj→dg
 | .written p r=>cN l p r
 | .renamed a c=>match cn l a with
  |none=>l
  |some r=>cN (eA l a) c r
 | .removed p=>eA l p
theorem yb{g:Nat}{l:dg}{a c:List UInt8}:cj Tryz.prog 337 [.agg [SV a,SV c].toArray,.map (some g)] [dw SV g (dF l)] [] (fun v_ X_ S_=>v_=(.tuple #[])∧X_=[dw SV g (dF (nP l (.renamed a c)))]∧S_=[]):=by
 refine aO (N:=21) Tryz.func337 rfl rfl (by simp) fun b=> ?_
 refine ah<|aj<| ?_
 refine hx (cz rfl (fun g2=> ?_))
 refine aL (fun w m=>m.bM 0 rfl (show _=aG g2 257 [SV a,SV c]from congrArg (aG _ _) (bG _))) ?_
 rcases o9 (l:=l) a with⟨h1,h2⟩|⟨r,h1,h2⟩
 ·refine ai<|ak (X' :=[_,_]) (S' :=[]) (fun _ m=>m)<|ag<|ah<|aj<|hy (fun _=>aa rfl)<|hy (fun _=>aD rfl qz (by decide))<|hy (fun m=>ar rfl gU (ax (m.aT 0 rfl) (i:=0) rfl))<|hy (fun m=>yV (jF (enc:=SV) rfl rfl Tryz.underlying174 rH (jJ Tryz.underlying9) (m.ot 1 rfl)) ((show ig true (.slice none 0 0) (cn (dF l) a)= .tuple #[.slice none 0 0,.bool false] by rw[h2];rfl)))<|hy (fun _=>aa rfl)<|hy (fun _=>aq rfl rfl)<|hy (fun _=>aq rfl rfl)<|hy (fun _=>ab rfl)<|hy (fun _=>ab rfl)<|ai<|al (ρ' :=[(5,_),(4,_),(2,_),(0,_),(1,_)]) ⟨rfl,rfl,rfl,rfl,rfl,trivial⟩<|ag<|ah<|aj<|hy (fun _=>aa rfl)<|ai<|ag<| ?_
  refine di rfl (rfl) ?_
  refine aB<| ?_
  have e:nP l (.renamed a c)=l:=by rw[nP,h1]
  rw[e]
  exact fv trivial rfl [1] rfl [] rfl ⟨rfl,rfl,rfl⟩
 ·refine ai<|ag<|ah<|aj<|hy (fun _=>aa rfl)<|hy (fun _=>aD rfl qz (by decide))<|hy (fun m=>ar rfl gU (ax (m.aT 0 rfl) rfl))<|hy (fun m=>yV (jF (enc:=SV) rfl rfl Tryz.underlying174 rH (jJ Tryz.underlying9) (m.ot 1 rfl)) ((show ig true (.slice none 0 0) (cn (dF l) a)= .tuple #[r.val,.bool true] by rw[h2];rfl)))<|hy (fun _=>aa rfl)<|hy (fun _=>aq rfl rfl)<|hy (fun _=>aq rfl rfl)<|hy (fun _=>ab rfl)<|hy (fun _=>ab rfl)<|ai<|al (ρ' :=[(5,_),(4,_),(2,_),(0,_),(1,_)]) ⟨rfl,rfl,rfl,rfl,rfl,trivial⟩<|ag<|ah<|aj<|hy (fun _=>aa rfl)<|ai<|ag<| ?_
  refine fE rfl (rfl) ?_
  refine ah<|aj<|hy (fun _=>aa rfl)<|hy (fun _=>aD rfl qz (by decide))<|hy (fun m=>ar rfl gU (ax (m.aT 0 rfl) (i:=0) rfl))<| ?_
  refine cI (p6 (enc:=SV) 1 rfl rfl rfl Tryz.underlying174 (jJ Tryz.underlying9) ?_)
  refine ai<|al (ρ' :=[(13,_),(5,_),(4,_),(2,_),(0,_),(1,_)]) ⟨rfl,rfl,rfl,rfl,rfl,rfl,trivial⟩<|ak (X' :=[_,_]) (S' :=[]) (fun _ m=>m)<|ag<|aj<|hy (fun _=>aa rfl)<|hy (fun _=>aD rfl zr (by decide))<|hy (fun m=>ar rfl gU (ax (m.aT 1 rfl) (i:=1) rfl))<|hy (fun _=>aa rfl)<| ?_
  refine cI (sf (enc:=SV) 0 rfl rfl rfl rfl Tryz.underlying174 (jJ Tryz.underlying9) ?_)
  refine ai<|al (ρ' :=[(13,_),(5,_),(4,_),(2,_),(0,_),(1,_)]) ⟨rfl,rfl,rfl,rfl,rfl,rfl,trivial⟩<|ak (X' :=[_,_]) (S' :=[]) (fun _ m=>m)<| ?_
  have e:cN (eA (dF l) a) c r.val=dF (nP l (.renamed a c)):=by rw[nP,h1,pB,ki]
  refine ak (fun w m=>m.bM 0 rfl (show _=dw SV g (dF (nP l (.renamed a c)))from congrArg (dw SV g) e)) ?_
  exact fv trivial rfl [0] rfl [] rfl ⟨rfl,rfl,rfl⟩
theorem xb{g:Nat}{l:dg}{p:List UInt8}:cj Tryz.prog 335 [.agg [SV p].toArray,.map (some g)] [dw SV g (dF l)] [] (fun v_ X_ S_=>v_=(.tuple #[])∧X_=[dw SV g (dF (nP l (.removed p)))]∧S_=[]):=by
 refine aO (N:=7) Tryz.func335 rfl rfl (by simp) fun b=> ?_
 refine ah<|aj<| ?_
 refine hx (cz rfl (fun g2=> ?_))
 refine aL (fun w m=>m.bM 0 rfl (show _=aG g2 237 [SV p]from congrArg (aG _ _) (bG _))) ?_
 refine ai<|ak (X' :=[_,_]) (S' :=[]) (fun _ m=>m)<|ag<|aj<|hy (fun _=>aa rfl)<|hy (fun _=>aD rfl y9 (by decide))<|hy (fun m=>ar rfl gU (ax (m.aT 0 rfl) (i:=0) rfl))<| ?_
 refine cI (p6 (enc:=SV) 1 rfl rfl rfl Tryz.underlying174 (jJ Tryz.underlying9) ?_)
 refine ai<|al (ρ' :=[(2,_),(0,_),(1,_)]) ⟨rfl,rfl,rfl,trivial⟩<|ak (X' :=[_,_]) (S' :=[]) (fun _ m=>m)<| ?_
 rw[pB]
 exact fv trivial rfl [0] rfl [] rfl ⟨rfl,rfl,rfl⟩
def cH.gi(st:cH)(c:fj)(A:Option Addr)(k:Nat):cH:={st.eI with seen:=nP st.seen c,waits:=st.waits++[c],wA:=A,wc:=k}
theorem iw{l:dg}{p:List UInt8}{x:ej}(h:x∈(eA l p).map (·.2)):x∈l.map (·.2):=by
 induction l with
 |nil=>exact h
 |cons a q ih=>
  obtain⟨k,u⟩:=a
  simp only[eA]at h
  split at h
  ·exact List.mem_cons_of_mem _ h
  ·simp only[List.map_cons,List.mem_cons]at h ⊢
   rcases h with rfl|h
   ·exact .inl rfl
   ·exact .inr (ih h)
theorem ym{l:dg}{c:fj}(hc:c.row=none){x:ej}(h:x∈(nP l c).map (·.2)):x∈l.map (·.2):=by
 cases c with
 |written p r=>cases hc
 |renamed a b=>
  simp only[nP]at h
  split at h
  ·exact h
  ·rename_i r hr
   rcases jv h with h|h
   ·exact iw h
   ·exact h▸List.mem_map.2 ⟨_,iB hr,rfl⟩
 |removed p=>exact iw h
theorem zB(l:dg)(c:fj):(nP l c).length≤l.length+1:=by
 cases c with
 |written p r=>exact kf l p r
 |renamed a b=>
  simp only[nP]
  split
  ·omega
  ·rename_i r hr
   have h1:=kf (eA l a) b r
   have h2:=mw l a
   omega
 |removed p=>have h2:=mw l p;show(eA l p).length≤_;omega
theorem ow{st:cH}{c:fj}{A:Option Addr}{k:Nat}(hc:c.row=none):∀x∈rowsOf (st.gi c A k),x∈rowsOf st:=by
 intro x hx
 unfold rowsOf cH.gi at hx
 simp only[cH.eI,List.mem_append,List.filterMap_append]at hx
 unfold rowsOf
 simp only[List.mem_append]
 rcases hx with(h|h)|h|h
 ·exact .inl (.inl (ym hc h))
 ·exact .inl (.inr h)
 ·exact .inr h
 ·simp[hc]at h
theorem mF.gi{st:cH}{k:Nat}(h:mF st k){c:fj}(hc:c.row=none)(A:Option Addr)(j:Nat):mF (st.gi c A j) (k+1):=by
 refine⟨kC h.bS,h.room, ?_, ?_,fun x hx=>h.small x (ow hc x hx)⟩
 ·have:=zB st.seen c
  have:=h.seen
  show(nP st.seen c).length≤k+1
  omega
 ·have:=h.rest
  show st.b4.length+(st.waits++[c]).length≤k+1
  simp only[List.length_append,List.length_cons,List.length_nil]
  omega
theorem En{g:Nat}{st:cH}{a c:List UInt8}(hp:st.bS≤1000000000000)(hw:st.waits.length≤1000000):cj Tryz.prog 116 [.pointer (some ⟨g,0,none⟩),(fj.renamed a c).val] [bm g st] [] (fun v_ X_ S_=>∃A k,v_=(.tuple #[])∧X_=[bm g (st.gi (.renamed a c) A k)]∧S_=[]):=by
 have hsw:st.eI.waits.length=st.waits.length:=rfl
 refine aO (N:=25) Tryz.func116 rfl rfl (by simp) fun b=> ?_
 refine ah<|aj<|hy (fun _=>aa rfl)<| ?_
 refine hx (ao rfl Tryz.call181 (qK (by omega)) [0] rfl [] rfl ?_)
 rintro _ _ _ ⟨rfl,rfl,rfl⟩
 refine aL (fun w m=>(m.perm (av [0] _ [_] _ rfl)).unpack) ?_
 refine ai<|al (ρ' :=[(0,_),(1,_)]) ⟨rfl,rfl,trivial⟩<|ak (X' :=[_,_,_,_,_]) (S' :=[]) (fun _ m=>m)<|ag<|ah<|cK [8] [(0,some 0),(1,some 0),(2,some 0),(3,some 0),(4,some 0),(5,some 0),(6,some 0),(7,some 0),(8,none)] (by kernel_rfl) (by kernel_rfl) rfl 0<|an (aa rfl)<|an (aa rfl)<|an (aW rfl)<|an (aD rfl gp (by decide))<|cd (fun m=>ar rfl iU (ax (m.aT 0 rfl) rfl))<|an (gA rfl rfl)<|an (oD rfl (by kernel_rfl))<|an (aa rfl)<| ?_
 refine ee (ov rfl rfl (fun w=>by kernel_rfl) Tryz.call337 (yb) [1] rfl [] rfl ?_)
 rintro _ _ _ ⟨rfl,rfl,rfl⟩
 refine⟨(fun h=>absurd h (by decide)), ?_⟩
 refine bq<|al (ρ' :=[(0,_),(1,_)]) ⟨rfl,rfl,trivial⟩<|ak (X' :=[_,_,_,_,_]) (S' :=[]) (fun _ m=>m)<|ag<|aj<|hy (fun _=>aa rfl)<|hy (fun _=>aa rfl)<|hy (fun _=>aW rfl)<|hy (fun _=>aD rfl gy (by decide))<|hy (fun m=>ar rfl r3 (ax (m.aT 1 rfl) rfl))<|hy (fun _=>aa rfl)<| ?_
 refine hx (b8 Tryz.underlying175 qf rfl rfl rfl (by simp[Value.cells,fj.val]) (by decide) (by decide) (fun g21=> ?_))
 have hA_b21:0<1→(some (⟨g21,0,none⟩:Addr))≠none:=fun _ h=>by cases h
 refine aL (fun w m=>m.bM 0 rfl (show _=aH 232 1 (.slice (some ⟨g21,0,none⟩) 1 1) 1 [((fj.renamed a c)).val]from rfl)) ?_
 refine hx (bB 4 rfl rfl rfl Tryz.underlying175 Tryz.underlying175 (by exact .inl rfl) qf rfl (fun m=>Src.bT (m.ord 0 rfl)) (by simp[fj.val,Value.oneCell']) (by unfold maxLen;omega) (by omega) (fun u=> ?_))
 refine az (fun m=>(m.own 0 rfl).slice) ?_
 rintro⟨A_d3,c_d3,rfl,hc_d3⟩
 refine az (fun m=>(m.ord 0 rfl).2.1) fun hA_d3=> ?_
 refine hy (fun _=>aW rfl)<|hy (fun _=>aD rfl gy (by decide))<| ?_
 refine cI (bR 3 rfl rfl rfl rF rfl (by first|exact Nat.le_of_ble_eq_true rfl|simp) ?_)
 refine ai<|al (ρ' :=[(0,_),(1,_)]) ⟨rfl,rfl,trivial⟩<|ak (X' :=[_,_,_,_,_,_]) (S' :=[]) (fun _ m=>m)<| ?_
 refine ak (fun w m=>m.bM 0 rfl (show _=aG g 177 (gM (st.gi ((fj.renamed a c)) A_d3 c_d3))from by simp[gM,cH.gi,cH.eI])) ?_
 refine ak (fun w m=>m.bM 3 rfl (show _=dw SV st.gs (dF (st.gi ((fj.renamed a c)) A_d3 c_d3).seen)from rfl)) ?_
 refine ak (fun w m=>m.bM 2 rfl (show _=aH 232 1 (.slice A_d3 (st.gi ((fj.renamed a c)) A_d3 c_d3).waits.length c_d3) (st.gi ((fj.renamed a c)) A_d3 c_d3).waits.length ((st.gi ((fj.renamed a c)) A_d3 c_d3).waits.map fj.val)from by simp[cH.gi,cH.eI])) ?_
 refine ak (X' :=fK (rowsOf (st.gi ((fj.renamed a c)) A_d3 c_d3))::_) (fun w m=>(m.perm (av [5] _ [_] _ rfl)).tA ((ow rfl))) ?_
 refine ak (X' :=bm g (st.gi ((fj.renamed a c)) A_d3 c_d3)::_) (fun w m=>(m.perm (av [3,2,3,1,0] _ [_,_,_,_,_] _ rfl)).pack) ?_
 exact fv trivial rfl [0] rfl [] rfl ⟨_,_,rfl,rfl,rfl⟩
theorem Ez{g:Nat}{st:cH}{p:List UInt8}(hp:st.bS≤1000000000000)(hw:st.waits.length≤1000000):cj Tryz.prog 116 [.pointer (some ⟨g,0,none⟩),(fj.removed p).val] [bm g st] [] (fun v_ X_ S_=>∃A k,v_=(.tuple #[])∧X_=[bm g (st.gi (.removed p) A k)]∧S_=[]):=by
 have hsw:st.eI.waits.length=st.waits.length:=rfl
 refine aO (N:=25) Tryz.func116 rfl rfl (by simp) fun b=> ?_
 refine ah<|aj<|hy (fun _=>aa rfl)<| ?_
 refine hx (ao rfl Tryz.call181 (qK (by omega)) [0] rfl [] rfl ?_)
 rintro _ _ _ ⟨rfl,rfl,rfl⟩
 refine aL (fun w m=>(m.perm (av [0] _ [_] _ rfl)).unpack) ?_
 refine ai<|al (ρ' :=[(0,_),(1,_)]) ⟨rfl,rfl,trivial⟩<|ak (X' :=[_,_,_,_,_]) (S' :=[]) (fun _ m=>m)<|ag<|ah<|cK [8] [(0,some 0),(1,some 0),(2,some 0),(3,some 0),(4,some 0),(5,some 0),(6,some 0),(7,some 0),(8,none)] (by kernel_rfl) (by kernel_rfl) rfl 0<|an (aa rfl)<|an (aa rfl)<|an (aW rfl)<|an (aD rfl gp (by decide))<|cd (fun m=>ar rfl iU (ax (m.aT 0 rfl) rfl))<|an (gA rfl rfl)<|an (oD rfl (by kernel_rfl))<|an (aa rfl)<| ?_
 refine ee (ov rfl rfl (fun w=>by kernel_rfl) Tryz.call335 (xb) [1] rfl [] rfl ?_)
 rintro _ _ _ ⟨rfl,rfl,rfl⟩
 refine⟨(fun h=>absurd h (by decide)), ?_⟩
 refine bq<|al (ρ' :=[(0,_),(1,_)]) ⟨rfl,rfl,trivial⟩<|ak (X' :=[_,_,_,_,_]) (S' :=[]) (fun _ m=>m)<|ag<|aj<|hy (fun _=>aa rfl)<|hy (fun _=>aa rfl)<|hy (fun _=>aW rfl)<|hy (fun _=>aD rfl gy (by decide))<|hy (fun m=>ar rfl r3 (ax (m.aT 1 rfl) rfl))<|hy (fun _=>aa rfl)<| ?_
 refine hx (b8 Tryz.underlying175 qf rfl rfl rfl (by simp[Value.cells,fj.val]) (by decide) (by decide) (fun g21=> ?_))
 have hA_b21:0<1→(some (⟨g21,0,none⟩:Addr))≠none:=fun _ h=>by cases h
 refine aL (fun w m=>m.bM 0 rfl (show _=aH 232 1 (.slice (some ⟨g21,0,none⟩) 1 1) 1 [((fj.removed p)).val]from rfl)) ?_
 refine hx (bB 4 rfl rfl rfl Tryz.underlying175 Tryz.underlying175 (by exact .inl rfl) qf rfl (fun m=>Src.bT (m.ord 0 rfl)) (by simp[fj.val,Value.oneCell']) (by unfold maxLen;omega) (by omega) (fun u=> ?_))
 refine az (fun m=>(m.own 0 rfl).slice) ?_
 rintro⟨A_d3,c_d3,rfl,hc_d3⟩
 refine az (fun m=>(m.ord 0 rfl).2.1) fun hA_d3=> ?_
 refine hy (fun _=>aW rfl)<|hy (fun _=>aD rfl gy (by decide))<| ?_
 refine cI (bR 3 rfl rfl rfl rF rfl (by first|exact Nat.le_of_ble_eq_true rfl|simp) ?_)
 refine ai<|al (ρ' :=[(0,_),(1,_)]) ⟨rfl,rfl,trivial⟩<|ak (X' :=[_,_,_,_,_,_]) (S' :=[]) (fun _ m=>m)<| ?_
 refine ak (fun w m=>m.bM 0 rfl (show _=aG g 177 (gM (st.gi ((fj.removed p)) A_d3 c_d3))from by simp[gM,cH.gi,cH.eI])) ?_
 refine ak (fun w m=>m.bM 3 rfl (show _=dw SV st.gs (dF (st.gi ((fj.removed p)) A_d3 c_d3).seen)from rfl)) ?_
 refine ak (fun w m=>m.bM 2 rfl (show _=aH 232 1 (.slice A_d3 (st.gi ((fj.removed p)) A_d3 c_d3).waits.length c_d3) (st.gi ((fj.removed p)) A_d3 c_d3).waits.length ((st.gi ((fj.removed p)) A_d3 c_d3).waits.map fj.val)from by simp[cH.gi,cH.eI])) ?_
 refine ak (X' :=fK (rowsOf (st.gi ((fj.removed p)) A_d3 c_d3))::_) (fun w m=>(m.perm (av [5] _ [_] _ rfl)).tA ((ow rfl))) ?_
 refine ak (X' :=bm g (st.gi ((fj.removed p)) A_d3 c_d3)::_) (fun w m=>(m.perm (av [3,2,3,1,0] _ [_,_,_,_,_] _ rfl)).pack) ?_
 exact fv trivial rfl [0] rfl [] rfl ⟨_,_,rfl,rfl,rfl⟩
def bZ(st:cH)(a c:List UInt8):Int:=if¬fT c then 1 else dH st a
theorem AE{g:Nat}{st:cH}{a c:List UInt8}{k:Nat}(ok:mF st k)(hk:k≤100000):cj Tryz.prog 108 [.pointer (some ⟨g,0,none⟩),.string (strOf a),.string (strOf c)] [bm g st] [] (fun v_ X_ S_=>∃st1 A j,v_=(.int .i64 (bZ st a c))∧X_=[bm g st1]∧S_=[]∧((bZ st a c≠0∧st1=st)∨(bZ st a c=0∧st1=st.gi (.renamed a c) A j))):=by
 have hp:=ok.bS
 have hw:st.waits.length≤1000000:=by have:=ok.rest;omega
 refine aO (N:=23) Tryz.func108 rfl rfl (by simp) fun b=> ?_
 refine ah<|aj<|hy (fun _=>ab rfl)<|ai<|ag<|ah<|ah<|aj<|hy (fun _=>aa rfl)<| ?_
 refine hx (ao rfl Tryz.call115 (yg) [] rfl [] rfl ?_)
 rintro _ _ _ ⟨rfl,rfl,rfl⟩
 refine hy (fun _=>jM rfl)<|ai<|al (ρ' :=[(10,_),(6,_),(0,_),(1,_),(2,_)]) ⟨rfl,rfl,rfl,rfl,rfl,trivial⟩<|ak (X' :=[_]) (S' :=[]) (fun _ m=>m)<|ag<| ?_
 refine cL rfl (fun h1=> ?_) (fun h1=> ?_)
 ·have e:bZ st a c=1:=by rw[bZ,if_pos h1]
  rw[e]
  refine ah<|aj<|hy (fun _=>ab rfl)<|ai<|ag<|aU<|aw<| ?_
  exact bc trivial rfl rfl [0] rfl [] rfl ⟨_,none,0,rfl,rfl,rfl,.inl ⟨by decide,rfl⟩⟩
 ·have e:bZ st a c=dH st a:=by rw[bZ,if_neg h1]
  rw[e]
  refine aB<|ag<|ah<|ah<|aj<|hy (fun _=>aa rfl)<|hy (fun _=>aa rfl)<| ?_
  refine hx (ao rfl Tryz.call158 (tD) [0] rfl [] rfl ?_)
  rintro _ _ _ ⟨rfl,rfl,rfl⟩
  refine hy (fun _=>ab rfl)<|ai<|al (ρ' :=[(7,_),(10,_),(6,_),(0,_),(1,_),(2,_)]) ⟨rfl,rfl,rfl,rfl,rfl,rfl,trivial⟩<|ak (X' :=[_]) (S' :=[]) (fun _ m=>m)<|ag<|ah<|aj<|hy (fun _=>aa rfl)<|hy (fun _=>de rfl rfl)<|ai<|al (ρ' :=[(15,_),(7,_),(10,_),(6,_),(0,_),(1,_),(2,_)]) ⟨rfl,rfl,rfl,rfl,rfl,rfl,rfl,trivial⟩<|ag<| ?_
  refine cL rfl (fun h2=> ?_) (fun h2=> ?_)
  ·refine ah<|aj<|hy (fun _=>aa rfl)<|hy (fun _=>ab rfl)<|ai<|al (ρ' :=[(6,_),(15,_),(7,_),(10,_),(0,_),(1,_),(2,_)]) ⟨rfl,rfl,rfl,rfl,rfl,rfl,rfl,trivial⟩<|ag<|aU<|aw<| ?_
   exact bc trivial rfl rfl [0] rfl [] rfl ⟨_,none,0,rfl,rfl,rfl,.inl ⟨h2,rfl⟩⟩
  ·have h0:=Decidable.not_not.1 h2
   rw[h0]
   refine aB<|ag<|ah<|aj<|hy (fun _=>aa rfl)<|hy (fun _=>aa rfl)<|hy (fun _=>aa rfl)<|hy (fun _=>yV (cM C6 rfl rfl (by kernel_rfl) (.cons (o:=0) (sz:=1) (by kernel_rfl) rfl rfl (Nat.le_of_ble_eq_true rfl) (.cons (o:=1) (sz:=1) (by kernel_rfl) rfl rfl (Nat.le_of_ble_eq_true rfl) .nil))) ((rfl:_=Value.agg [SV a,SV c].toArray)))<|hy (fun _=>yV (kd rfl Tryz.underlying257 (fun _ h=>by cases h)) ((rfl:_=(fj.renamed a c).val)))<| ?_
   refine hx (ao rfl Tryz.call116 (En (by omega) (by omega)) [0] rfl [] rfl ?_)
   rintro _ _ _ ⟨A,k2,rfl,rfl,rfl⟩
   refine ai<|al (ρ' :=[(15,_),(7,_),(10,_),(6,_),(0,_),(1,_),(2,_)]) ⟨rfl,rfl,rfl,rfl,rfl,rfl,rfl,trivial⟩<|ak (X' :=[_]) (S' :=[]) (fun _ m=>m)<|ag<|ah<|aj<|hy (fun _=>ab rfl)<|ai<|ag<|aU<| ?_
   exact bc trivial rfl rfl [0] rfl [] rfl ⟨_,_,_,rfl,rfl,rfl,.inr ⟨rfl,rfl⟩⟩
theorem zX{g:Nat}{st:cH}{p:List UInt8}{k:Nat}(ok:mF st k)(hk:k≤100000):cj Tryz.prog 79 [.pointer (some ⟨g,0,none⟩),.string (strOf p)] [bm g st] [] (fun v_ X_ S_=>∃st1 A j,v_=(.int .i64 (dH st p))∧X_=[bm g st1]∧S_=[]∧((dH st p≠0∧st1=st)∨(dH st p=0∧st1=st.gi (.removed p) A j))):=by
 have hp:=ok.bS
 have hw:st.waits.length≤1000000:=by have:=ok.rest;omega
 refine aO (N:=17) Tryz.func79 rfl rfl (by simp) fun b=> ?_
 refine ah<|aj<|hy (fun _=>ab rfl)<|ai<|ag<|ah<|ah<|aj<|hy (fun _=>aa rfl)<|hy (fun _=>aa rfl)<| ?_
 refine hx (ao rfl Tryz.call158 (tD) [0] rfl [] rfl ?_)
 rintro _ _ _ ⟨rfl,rfl,rfl⟩
 refine hy (fun _=>ab rfl)<|ai<|al (ρ' :=[(5,_),(4,_),(0,_),(1,_)]) ⟨rfl,rfl,rfl,rfl,trivial⟩<|ak (X' :=[_]) (S' :=[]) (fun _ m=>m)<|ag<|ah<|aj<|hy (fun _=>aa rfl)<|hy (fun _=>de rfl rfl)<|ai<|al (ρ' :=[(10,_),(5,_),(4,_),(0,_),(1,_)]) ⟨rfl,rfl,rfl,rfl,rfl,trivial⟩<|ag<| ?_
 refine cL rfl (fun h2=> ?_) (fun h2=> ?_)
 ·refine ah<|aj<|hy (fun _=>aa rfl)<|hy (fun _=>ab rfl)<|ai<|al (ρ' :=[(4,_),(10,_),(5,_),(0,_),(1,_)]) ⟨rfl,rfl,rfl,rfl,rfl,trivial⟩<|ag<|aU<|aw<| ?_
  exact bc trivial rfl rfl [0] rfl [] rfl ⟨_,none,0,rfl,rfl,rfl,.inl ⟨h2,rfl⟩⟩
 ·have h0:=Decidable.not_not.1 h2
  rw[h0]
  refine aB<|ag<|ah<|aj<|hy (fun _=>aa rfl)<|hy (fun _=>aa rfl)<|hy (fun _=>yV (cM Di rfl rfl (by kernel_rfl) (.cons (o:=0) (sz:=1) (by kernel_rfl) rfl rfl (Nat.le_of_ble_eq_true rfl) .nil)) ((rfl:_=Value.agg [SV p].toArray)))<|hy (fun _=>yV (kd rfl Tryz.underlying237 (fun _ h=>by cases h)) ((rfl:_=(fj.removed p).val)))<| ?_
  refine hx (ao rfl Tryz.call116 (Ez (by omega) (by omega)) [0] rfl [] rfl ?_)
  rintro _ _ _ ⟨A,k2,rfl,rfl,rfl⟩
  refine ai<|al (ρ' :=[(10,_),(5,_),(4,_),(0,_),(1,_)]) ⟨rfl,rfl,rfl,rfl,rfl,trivial⟩<|ak (X' :=[_]) (S' :=[]) (fun _ m=>m)<|ag<|ah<|aj<|hy (fun _=>ab rfl)<|ai<|ag<|aU<| ?_
  exact bc trivial rfl rfl [0] rfl [] rfl ⟨_,_,_,rfl,rfl,rfl,.inr ⟨rfl,rfl⟩⟩
theorem wv{g:Nat}{st:cH}{A:Option Addr}{n c:Nat}{bs:List Bool}(hc:n≤c)(hs:Small st)(hw:st.waits.length≤1000000):cj Tryz.prog 72 [.pointer (some ⟨g,0,none⟩),.slice A n c] [bm g st] [dr 1 A n (fR bs)] (fun v_ X_ S_=>∃gs,v_=(.tuple #[])∧X_=[bm g (st.started bs gs)]∧S_=[]):=by
 refine aO (N:=67) Tryz.func72 rfl rfl (by simp) fun b=> ?_
 refine ba (fun m=>ik (m.rd 0 rfl)) ?_
 rintro⟨hl_r,hA_r⟩
 refine bu (fun w m=>(m.perm (av [0] _ [_] _ rfl)).unpack) ?_
 refine ba (fun m=>(m.ord 3 rfl).2.1) fun hwA=> ?_
 refine ah<|aj<| ?_
 refine hx (cz rfl (fun g3=> ?_))
 refine ai<|ak (X' :=[_,_,_,_,_,_]) (S' :=[_]) (fun _ m=>m)<|ag<|ah<|aj<|hy (fun _=>gA rfl rfl)<|hy (fun _=>ab rfl)<|ai<|al (ρ' :=[(4,_),(3,_),(0,_),(1,_)]) ⟨rfl,rfl,rfl,rfl,trivial⟩<|ag<|ah<|ah<|aj<|hy (fun _=>aa rfl)<|hy (fun _=>aW rfl)<|hy (fun _=>aD rfl gy (by decide))<|hy (fun m=>ar rfl r3 (ax (m.aT 1 rfl) rfl))<|hy (fun _=>aR rfl Tryz.underlying175)<|hy (fun _=>aa rfl)<|ai<|al (ρ' :=[(15,_),(14,_),(13,_),(4,_),(3,_),(0,_),(1,_)]) ⟨rfl,rfl,rfl,rfl,rfl,rfl,rfl,trivial⟩<|ag<|aN<| ?_
 refine o1 (fun i ks L A1 n1 c1=>st.waits.length-i) (fun i ks L A1 n1 c1=>[(15,.int .i64 (i:Nat))]) (fun i ks L A1 n1 c1=>[aG g3 28 [.slice A1 n1 c1],dw SV st.gl (dF L)]) (fun i ks L A1 n1 c1=>[dr 1 A1 n1 (fR ks)]) (fun i ks L A1 n1 c1=>n1≤c1∧i≤st.waits.length∧(ks,L)=er bs st i) 0 bs st.b4 A n c [(14,_),(13,_),(4,_),(3,_),(0,_),(1,_)] ⟨rfl,rfl,rfl,rfl,rfl,rfl,trivial⟩ [0,2] rfl [0] rfl (⟨hc,Nat.zero_le _,by simp[er]⟩) ⟨rfl,trivial⟩ (fun i ks L A1 n1 c1 ⟨hc1,hi,hf⟩=> ?_)
 refine ah<|aj<|hy (fun _=>br rfl rfl)<|ai<|ag<|ah<| ?_
 refine cL rfl (fun hlt=> ?_) (fun hlt=> ?_)
 ·obtain⟨cg,hcg⟩:∃cg,st.waits[i]? =some cg:=⟨_,List.getElem?_eq_getElem (by omega)⟩
  have hfs:=lM (keep:=bs) hcg
  rw[←hf]at hfs
  refine aB<|ag<|ah<|aN<|ah<|aj<|hy (fun _=>aK rfl rfl Tryz.underlying175 Eb hwA rfl (by omega))<|hy (fun m=>ar rfl C9 ((m.ord 4 rfl).cell (j:=i) (by rw[List.getElem?_map,hcg];rfl)))<|hy (fun _=>ab rfl)<|ai<|al (ρ' :=[(6,_),(16,_),(15,_),(14,_),(13,_),(4,_),(3,_),(0,_),(1,_)]) ⟨rfl,rfl,rfl,rfl,rfl,rfl,rfl,rfl,rfl,trivial⟩<|ag<|ah<|ah<|aj<|hy (fun _=>aa rfl)<| ?_
  refine hx (kq rfl rfl Tryz.call152 (rU (by omega)) [0] rfl [0] rfl ?_)
  rintro _ _ _ ⟨A12,n12,c12,rfl,rfl,rfl,hp⟩
  refine az (fun m=>ik (m.rd 0 rfl)) ?_
  rintro⟨hl_q,hA_q⟩
  refine hy (fun _=>(fw rfl))<|ai<|al (ρ' :=[(21,_),(6,_),(16,_),(15,_),(14,_),(13,_),(4,_),(3,_),(0,_),(1,_)]) ⟨rfl,rfl,rfl,rfl,rfl,rfl,rfl,rfl,rfl,rfl,trivial⟩<|ak (X' :=[_,_,_,_,_,_]) (S' :=[_,_,_]) (fun _ m=>m)<|ag<| ?_
  refine sv rfl (fun hb=> ?_) (fun hb=> ?_)
  ·have hb' :ks.headD false=false:=by simpa using hb
   refine bP<|au<|aC<|ag<|aj<|hy (fun _=>aJ rfl rfl (bA (by omega) (by omega)))<|hy (fun _=>aa rfl)<|ai<|al (ρ' :=[(15,_),(21,_),(6,_),(16,_),(14,_),(13,_),(4,_),(3,_),(0,_),(1,_)]) ⟨rfl,rfl,rfl,rfl,rfl,rfl,rfl,rfl,rfl,rfl,trivial⟩<| ?_
   refine eW (i+1) ks.tail L A12 n12 c12 ⟨rfl,rfl,rfl,rfl,rfl,rfl,rfl,trivial⟩ [0,0,0,0,0,0] rfl [0,2] rfl (⟨hp,by omega,by rw[hfs];unfold gT;rw[if_neg (by rw[hb'];decide)]⟩) (by omega)
  ·have hb' :ks.headD false=true:=by simpa using hb
   rcases cg with⟨p,r⟩|⟨a,c9⟩|⟨p⟩
   ·have hrm:r∈rowsOf st:=by
     unfold rowsOf
     exact List.mem_append_right _ (List.mem_filterMap.2 ⟨_,List.mem_of_getElem? hcg,rfl⟩)
    have hsr:=hs r hrm
    obtain⟨ri,hri⟩:=List.mem_iff_getElem?.1 hrm
    refine ba (fun m=>zT (m.C7 5 rfl) hri) fun hrc=> ?_
    refine aB<|ag<|ah<|aj<|hy (fun _=>aa rfl)<|ai<|ag<|aN<|ah<|aj<|hy (fun _=>mn rfl (show _=Result.ok (Value.tuple #[.agg [SV p,r.val].toArray,.bool true]) _ by kernel_rfl))<|hy (fun _=>aq rfl rfl)<|hy (fun _=>aq rfl rfl)<|ai<|al (ρ' :=[(34,_),(33,_),(22,_),(21,_),(6,_),(16,_),(15,_),(14,_),(13,_),(4,_),(3,_),(0,_),(1,_)]) ⟨rfl,rfl,rfl,rfl,rfl,rfl,rfl,rfl,rfl,rfl,rfl,rfl,rfl,trivial⟩<|ag<| ?_
    refine fE rfl (rfl) ?_
    refine ah<|aj<| ?_
    refine hx (aM Bk (fun g7=> ?_))
    refine cI (aI 0 rfl rfl rfl xQ rfl (by simp[SV,ej.val,Value.oneCell']) rfl ?_)
    refine ai<|ak (X' :=[_,_,_,_,_,_,_]) (S' :=[_,_,_]) (fun _ m=>m)<|ag<|ah<|ah<|aj<|hy (fun _=>aa rfl)<| ?_
    refine hx (kq rfl rfl Tryz.call152 (rU (by omega)) [1] rfl [0] rfl ?_)
    rintro _ _ _ ⟨A13,n13,c13,rfl,rfl,rfl,hp2⟩
    refine az (fun m=>ik (m.rd 0 rfl)) ?_
    rintro⟨hl_q2,hA_q2⟩
    refine hy (fun _=>(fw rfl))<|ai<|al (ρ' :=[(37,_),(7,_),(34,_),(33,_),(22,_),(21,_),(6,_),(16,_),(15,_),(14,_),(13,_),(4,_),(3,_),(0,_),(1,_)]) ⟨rfl,rfl,rfl,rfl,rfl,rfl,rfl,rfl,rfl,rfl,rfl,rfl,rfl,rfl,rfl,trivial⟩<|ak (X' :=[_,_,_,_,_,_,_]) (S' :=[_,_,_,_]) (fun _ m=>m)<|ag<| ?_
    refine sv rfl (fun hb2=> ?_) (fun hb2=> ?_)
    ·have hb2' :ks.tail.headD false=false:=by simpa using hb2
     refine aj<|hy (fun _=>aD rfl nR (by decide))<|hy (fun m=>ar rfl dY (ax (m.aT 1 rfl) rfl))<|hy (fun _=>aD rfl nR (by decide))<|hy (fun m=>ar rfl dY (ax (m.aT 1 rfl) rfl))<|hy (fun _=>aR rfl Tryz.underlying27)<|hy (fun _=>iI rfl rfl (by omega) (by omega) (bA (by omega) (by omega)))<|hy (fun _=>jS rfl rfl Tryz.underlying27 eg (show((r.n/2:Nat):Int)=_ by omega) (by omega))<|hy (fun _=>aD rfl nR (by decide))<| ?_
     refine cI (bR 1 rfl rfl rfl nM rfl (by first|exact Nat.le_of_ble_eq_true rfl|simp) ?_)
     refine aL (fun w m=>m.bM 0 rfl (show _=aG g7 189 [SV p,r.half.val]from rfl)) ?_
     refine ai<|al (ρ' :=[(37,_),(7,_),(34,_),(33,_),(22,_),(21,_),(6,_),(16,_),(15,_),(14,_),(13,_),(4,_),(3,_),(0,_),(1,_)]) ⟨rfl,rfl,rfl,rfl,rfl,rfl,rfl,rfl,rfl,rfl,rfl,rfl,rfl,rfl,rfl,trivial⟩<|ak (X' :=[_,_,_,_,_,_,_]) (S' :=[_,_,_,_]) (fun _ m=>m)<|ag<|cK [5] [(0,some 0),(1,some 0),(2,some 0),(3,some 0),(4,some 0),(5,none)] (by kernel_rfl) (by kernel_rfl) rfl 0<|cd (fun m=>aX rfl Bj xQ (by simp) (m.aT 0 rfl).ay)<|an (aa rfl)<|an (aW rfl)<|an (aD rfl kM (by decide))<|cd (fun m=>ar rfl iU (ax (m.aT 3 rfl) rfl))<| ?_
     refine ee (ao rfl Tryz.call153 (tN) [2] rfl [] rfl ?_)
     rintro _ _ _ ⟨rfl,rfl,rfl⟩
     refine⟨(fun h=>absurd h (by decide)), ?_⟩
     refine bq<|al (ρ' :=[(37,_),(7,_),(34,_),(33,_),(22,_),(21,_),(6,_),(16,_),(15,_),(14,_),(13,_),(4,_),(3,_),(0,_),(1,_)]) ⟨rfl,rfl,rfl,rfl,rfl,rfl,rfl,rfl,rfl,rfl,rfl,rfl,rfl,rfl,rfl,trivial⟩<|ak (X' :=[_,_,_,_,_,_,_]) (S' :=[_,_,_,_]) (fun _ m=>m)<|aQ<|aQ<|ag<|aj<|hy (fun _=>aJ rfl rfl (bA (by omega) (by omega)))<|hy (fun _=>aa rfl)<|ai<|al (ρ' :=[(15,_),(37,_),(7,_),(34,_),(33,_),(22,_),(21,_),(6,_),(16,_),(14,_),(13,_),(4,_),(3,_),(0,_),(1,_)]) ⟨rfl,rfl,rfl,rfl,rfl,rfl,rfl,rfl,rfl,rfl,rfl,rfl,rfl,rfl,rfl,trivial⟩<| ?_
     refine ak (fun w m=>m.bM 0 rfl (show _=dw SV st.gl (dF (cN L p r.half))from congrArg (dw SV st.gl) (ki _ _ _))) ?_
     refine eW (i+1) ks.tail.tail (cN L p r.half) A13 n13 c13 ⟨rfl,rfl,rfl,rfl,rfl,rfl,rfl,trivial⟩ [2,0,1,1,1,1] rfl [0,3] rfl (⟨hp2,by omega,by rw[hfs,gT,if_pos hb',hb2'];rfl⟩) (by omega)
    ·have hb2' :ks.tail.headD false=true:=by simpa using hb2
     refine aB<|ag<|cK [5] [(0,some 0),(1,some 0),(2,some 0),(3,some 0),(4,some 0),(5,none)] (by kernel_rfl) (by kernel_rfl) rfl 0<|cd (fun m=>aX rfl Bj xQ (by simp) (m.aT 1 rfl).ay)<|an (aa rfl)<|an (aW rfl)<|an (aD rfl kM (by decide))<|cd (fun m=>ar rfl iU (ax (m.aT 3 rfl) rfl))<| ?_
     refine ee (ao rfl Tryz.call153 (tN) [2] rfl [] rfl ?_)
     rintro _ _ _ ⟨rfl,rfl,rfl⟩
     refine⟨(fun h=>absurd h (by decide)), ?_⟩
     refine bq<|al (ρ' :=[(37,_),(7,_),(34,_),(33,_),(22,_),(21,_),(6,_),(16,_),(15,_),(14,_),(13,_),(4,_),(3,_),(0,_),(1,_)]) ⟨rfl,rfl,rfl,rfl,rfl,rfl,rfl,rfl,rfl,rfl,rfl,rfl,rfl,rfl,rfl,trivial⟩<|ak (X' :=[_,_,_,_,_,_,_]) (S' :=[_,_,_,_]) (fun _ m=>m)<|aQ<|aQ<|ag<|aj<|hy (fun _=>aJ rfl rfl (bA (by omega) (by omega)))<|hy (fun _=>aa rfl)<|ai<|al (ρ' :=[(15,_),(37,_),(7,_),(34,_),(33,_),(22,_),(21,_),(6,_),(16,_),(14,_),(13,_),(4,_),(3,_),(0,_),(1,_)]) ⟨rfl,rfl,rfl,rfl,rfl,rfl,rfl,rfl,rfl,rfl,rfl,rfl,rfl,rfl,rfl,trivial⟩<| ?_
     refine ak (fun w m=>m.bM 0 rfl (show _=dw SV st.gl (dF (cN L p r))from congrArg (dw SV st.gl) (ki _ _ _))) ?_
     refine eW (i+1) ks.tail.tail (cN L p r) A13 n13 c13 ⟨rfl,rfl,rfl,rfl,rfl,rfl,rfl,trivial⟩ [1,0,1,1,1,1] rfl [0,3] rfl (⟨hp2,by omega,by rw[hfs,gT,if_pos hb',hb2'];rfl⟩) (by omega)
   ·refine aB<|ag<|ah<|aj<|hy (fun _=>aa rfl)<|ai<|ag<|aN<|ah<|aj<|hy (fun _=>mn rfl (show _=Result.ok (Value.tuple #[.agg [SV [],.slice none 0 0].toArray,.bool false]) _ by kernel_rfl))<|hy (fun _=>aq rfl rfl)<|hy (fun _=>aq rfl rfl)<|ai<|al (ρ' :=[(34,_),(33,_),(22,_),(21,_),(6,_),(16,_),(15,_),(14,_),(13,_),(4,_),(3,_),(0,_),(1,_)]) ⟨rfl,rfl,rfl,rfl,rfl,rfl,rfl,rfl,rfl,rfl,rfl,rfl,rfl,trivial⟩<|ag<| ?_
    refine di rfl (rfl) ?_
    refine ah<|aj<|hy (fun _=>ab rfl)<|ai<|al (ρ' :=[(34,_),(33,_),(22,_),(21,_),(6,_),(16,_),(15,_),(14,_),(13,_),(4,_),(3,_),(0,_),(1,_)]) ⟨rfl,rfl,rfl,rfl,rfl,rfl,rfl,rfl,rfl,rfl,rfl,rfl,rfl,trivial⟩<|ag<|cK [8] [(0,some 0),(1,some 0),(2,some 0),(3,some 0),(4,some 0),(5,some 0),(6,some 0),(7,some 0),(8,none)] (by kernel_rfl) (by kernel_rfl) rfl 0<|an (aa rfl)<|an (aa rfl)<|an (aW rfl)<|an (aD rfl kM (by decide))<|cd (fun m=>ar rfl iU (ax (m.aT 2 rfl) rfl))<|an (gA rfl rfl)<|an (oD rfl (by kernel_rfl))<|an (aa rfl)<| ?_
    refine ee (ov rfl rfl (fun w=>by kernel_rfl) Tryz.call337 (yb) [1] rfl [] rfl ?_)
    rintro _ _ _ ⟨rfl,rfl,rfl⟩
    refine⟨(fun h=>absurd h (by decide)), ?_⟩
    refine bq<|al (ρ' :=[(34,_),(33,_),(22,_),(21,_),(6,_),(16,_),(15,_),(14,_),(13,_),(4,_),(3,_),(0,_),(1,_)]) ⟨rfl,rfl,rfl,rfl,rfl,rfl,rfl,rfl,rfl,rfl,rfl,rfl,rfl,trivial⟩<|ak (X' :=[_,_,_,_,_,_]) (S' :=[_,_,_]) (fun _ m=>m)<|aQ<|aQ<|ag<|aj<|hy (fun _=>aJ rfl rfl (bA (by omega) (by omega)))<|hy (fun _=>aa rfl)<|ai<|al (ρ' :=[(15,_),(34,_),(33,_),(22,_),(21,_),(6,_),(16,_),(14,_),(13,_),(4,_),(3,_),(0,_),(1,_)]) ⟨rfl,rfl,rfl,rfl,rfl,rfl,rfl,rfl,rfl,rfl,rfl,rfl,rfl,trivial⟩<| ?_
    refine eW (i+1) ks.tail (nP L (.renamed a c9)) A12 n12 c12 ⟨rfl,rfl,rfl,rfl,rfl,rfl,rfl,trivial⟩ [1,0,0,0,0,0] rfl [0,2] rfl (⟨hp,by omega,by rw[hfs];unfold gT;rw[if_pos hb'];rfl⟩) (by omega)
   ·refine aB<|ag<|ah<|aj<|hy (fun _=>aa rfl)<|ai<|ag<|aN<|ah<|aj<|hy (fun _=>mn rfl (show _=Result.ok (Value.tuple #[.agg [SV [],.slice none 0 0].toArray,.bool false]) _ by kernel_rfl))<|hy (fun _=>aq rfl rfl)<|hy (fun _=>aq rfl rfl)<|ai<|al (ρ' :=[(34,_),(33,_),(22,_),(21,_),(6,_),(16,_),(15,_),(14,_),(13,_),(4,_),(3,_),(0,_),(1,_)]) ⟨rfl,rfl,rfl,rfl,rfl,rfl,rfl,rfl,rfl,rfl,rfl,rfl,rfl,trivial⟩<|ag<| ?_
    refine di rfl (rfl) ?_
    refine ah<|aj<|hy (fun _=>ab rfl)<|ai<|al (ρ' :=[(34,_),(33,_),(22,_),(21,_),(6,_),(16,_),(15,_),(14,_),(13,_),(4,_),(3,_),(0,_),(1,_)]) ⟨rfl,rfl,rfl,rfl,rfl,rfl,rfl,rfl,rfl,rfl,rfl,rfl,rfl,trivial⟩<|ag<|cK [8] [(0,some 0),(1,some 0),(2,some 0),(3,some 0),(4,some 0),(5,some 0),(6,some 0),(7,some 0),(8,none)] (by kernel_rfl) (by kernel_rfl) rfl 0<|an (aa rfl)<|an (aa rfl)<|an (aW rfl)<|an (aD rfl kM (by decide))<|cd (fun m=>ar rfl iU (ax (m.aT 2 rfl) rfl))<|an (gA rfl rfl)<|an (oD rfl (by kernel_rfl))<|an (aa rfl)<| ?_
    refine ee (ov rfl rfl (fun w=>by kernel_rfl) Tryz.call335 (xb) [1] rfl [] rfl ?_)
    rintro _ _ _ ⟨rfl,rfl,rfl⟩
    refine⟨(fun h=>absurd h (by decide)), ?_⟩
    refine bq<|al (ρ' :=[(34,_),(33,_),(22,_),(21,_),(6,_),(16,_),(15,_),(14,_),(13,_),(4,_),(3,_),(0,_),(1,_)]) ⟨rfl,rfl,rfl,rfl,rfl,rfl,rfl,rfl,rfl,rfl,rfl,rfl,rfl,trivial⟩<|ak (X' :=[_,_,_,_,_,_]) (S' :=[_,_,_]) (fun _ m=>m)<|aQ<|aQ<|ag<|aj<|hy (fun _=>aJ rfl rfl (bA (by omega) (by omega)))<|hy (fun _=>aa rfl)<|ai<|al (ρ' :=[(15,_),(34,_),(33,_),(22,_),(21,_),(6,_),(16,_),(14,_),(13,_),(4,_),(3,_),(0,_),(1,_)]) ⟨rfl,rfl,rfl,rfl,rfl,rfl,rfl,rfl,rfl,rfl,rfl,rfl,rfl,trivial⟩<| ?_
    refine eW (i+1) ks.tail (nP L (.removed p)) A12 n12 c12 ⟨rfl,rfl,rfl,rfl,rfl,rfl,rfl,trivial⟩ [1,0,0,0,0,0] rfl [0,2] rfl (⟨hp,by omega,by rw[hfs,gT,if_pos hb'];rfl⟩) (by omega)
 ·obtain rfl:i=st.waits.length:=by omega
  have hL:L=(er bs st st.waits.length).2:=by rw[←hf]
  refine bP<|au<|au<|aC<|ag<|aj<|hy (fun _=>aa rfl)<|hy (fun _=>aa rfl)<|hy (fun _=>aa rfl)<|hy (fun _=>aa rfl)<|hy (fun _=>aW rfl)<|hy (fun _=>aD rfl kM (by decide))<|hy (fun m=>ar rfl iU (ax (m.aT 2 rfl) rfl))<| ?_
  refine hx (ao rfl Tryz.call154 (u9) [1] rfl [] rfl ?_)
  rintro _ _ _ ⟨g1,rfl,rfl,rfl⟩
  refine hy (fun _=>aW rfl)<|hy (fun _=>aD rfl gp (by decide))<| ?_
  refine cI (bR 3 rfl rfl rfl Bc rfl (by first|exact Nat.le_of_ble_eq_true rfl|simp) ?_)
  refine hy (fun _=>aW rfl)<|hy (fun _=>aD rfl gy (by decide))<| ?_
  refine cI (bR 0 rfl rfl rfl rF rfl (by first|exact Nat.le_of_ble_eq_true rfl|simp) ?_)
  refine hy (fun _=>aW rfl)<|hy (fun _=>aD rfl kN (by decide))<| ?_
  refine cI (bR 0 rfl rfl rfl tf rfl (by first|exact Nat.le_of_ble_eq_true rfl|simp) ?_)
  refine ai<|al (ρ' :=[(16,_),(15,_),(14,_),(13,_),(4,_),(3,_),(0,_),(1,_)]) ⟨rfl,rfl,rfl,rfl,rfl,rfl,rfl,rfl,trivial⟩<|ak (X' :=[_,_,_,_,_,_,_]) (S' :=[_,_]) (fun _ m=>m)<| ?_
  refine ak (fun w m=>m.dx (r' :=aH 232 1 (.slice none 0 0) 0 []) (.refl _ _) (Own.nil _ _ _ _) (fun k hk=>hk.elim)) ?_
  have e:∀gs,st.started bs gs={st with gs:=gs,seen:=L,b4:=L,waits:=[],wA:=none,wc:=0,bS:=-1}:=fun gs=>by rw[hL];rfl
  refine ak (fun w m=>m.bM 1 rfl (show _=aG g 177 (gM (st.started bs g1))from rfl)) ?_
  refine ak (fun w m=>m.bM 3 rfl (show _=dw SV g1 (dF (st.started bs g1).seen)from by rw[hL];rfl)) ?_
  refine ak (fun w m=>m.bM 3 rfl (show _=dw SV st.gl (dF (st.started bs g1).b4)from by rw[hL];rfl)) ?_
  refine ak (X' :=fK (rowsOf (st.started bs g1))::_) (fun w m=>(m.perm (av [7] _ [_] _ rfl)).Ai (mu g1)) ?_
  refine ak (X' :=bm g (st.started bs g1)::_) (fun w m=>(m.perm (av [3,2,1,1,0] _ [_,_,_,_,_] _ rfl)).pack) ?_
  exact fv trivial rfl [0] rfl [] rfl ⟨_,rfl,rfl,rfl⟩
end Go.Proofs.YtmibdabdlgmafaaGreatDoor
end
section
namespace Go.Proofs.YtmibdabdlgmafaaGreatDoor
open Go.Eng Go.Hx
theorem A8:∀(x y:List UInt8),Op.bytesLess x y=decide (x<y)
 | [],[]=>by simp[Op.bytesLess]
 |_::_,[]=>by simp[Op.bytesLess]
 | [],_::_=>by simp[Op.bytesLess]
 |a::x,b::y=>by
  rw[Op.bytesLess,A8 x y]
  simp only[List.cons_lt_cons_iff]
  by_cases h1:a<b <;> by_cases h2:a=b <;> by_cases h3:x<y <;> simp[h1,h2,h3]
theorem qb{a b:List UInt8}:mh a b=decide (a<b):=by
 unfold mh
 rw[A8,Lib.toList_data,Lib.toList_data]
 rfl
def gZ:List FP→FP→List FP
 | [],f=>[f]
 |x::r,f=>if x.1<f.1 then x::gZ r f else f::(x::r).filter fun y=>decide (y.1≠f.1)
theorem k9(f:FP):∀(l acc:List FP),l.foldl (iA f) (acc,true)=(acc++l.filter (fun y=>decide (y.1≠f.1)),true)
 | [],acc=>by simp
 |x::r,acc=>by
  rw[List.foldl_cons]
  by_cases h:x.1=f.1
  ·have:iA f (acc,true) x=(acc,true):=by simp[iA,h]
   rw[this,k9 f r acc];simp[h]
  ·have:iA f (acc,true) x=(acc++[x],true):=by simp[iA,h]
   rw[this,k9 f r (acc++[x])];simp[h]
def wH(f:FP)(st:List FP×Bool):List FP:=if st.2 then st.1 else st.1++[f]
theorem pf(f:FP):∀(l acc:List FP),wH f (l.foldl (iA f) (acc,false))=acc++gZ l f
 | [],acc=>by simp[gZ,wH]
 |x::r,acc=>by
  rw[List.foldl_cons]
  by_cases h:x.1<f.1
  ·have hne:x.1≠f.1:=fun e=>by rw[e]at h;exact List.lt_irrefl _ h
   have:iA f (acc,false) x=(acc++[x],false):=by simp[iA,qb,h,hne]
   rw[this,pf f r (acc++[x]),gZ,if_pos h];simp
  ·have hs:mh x.1 f.1=false:=by rw[qb];simpa using h
   rw[gZ,if_neg h]
   by_cases he:x.1=f.1
   ·have hs' :mh f.1 f.1=false:=he▸hs
    have:iA f (acc,false) x=(acc++[f],true):=by simp[iA,hs',he]
    rw[this,k9];simp[he,wH]
   ·have:iA f (acc,false) x=(acc++[f]++[x],true):=by simp[iA,hs,he]
    rw[this,k9];simp[he,wH]
theorem jl(l:List FP)(f:FP):gG l f=gZ l f:=by
 have:=pf f l []
 rw[List.nil_append]at this
 rw[←this]
 unfold gG Aa wH
 rw[List.take_of_length_le (Nat.le_refl _)]
def lk:List FP→List UInt8→Option (List UInt8)
 | [],_=>none
 |x::r,p=>if x.1=p then some x.2 else lk r p
theorem iQ:∀(l:List FP) (p:List UInt8),(l[cS l p]?).map (·.2)=lk l p
 | [],p=>rfl
 |x::r,p=>by
  have:=iQ r p
  unfold cS at this ⊢
  rw[List.findIdx_cons]
  by_cases h:x.1=p
  ·simp[h,lk]
  ·simp[h,lk,this]
theorem kR(q:List UInt8):∀(l:List FP) (p:List UInt8),lk (l.filter fun y=>decide (y.1≠q)) p=if p=q then none else lk l p
 | [],p=>by simp[lk]
 |x::r,p=>by
  have ih:=kR q r p
  by_cases h:x.1=q
  ·rw[List.filter_cons,if_neg (by simp[h]),ih]
   by_cases hp:p=q
   ·simp[hp]
   ·rw[if_neg hp,if_neg hp,lk,if_neg (fun e=>hp (e.symm.trans h))]
  ·rw[List.filter_cons,if_pos (by simp[h]),lk,ih]
   by_cases hp:p=q
   ·rw[if_pos hp,if_pos hp,if_neg (fun e=>h (e.trans hp))]
   ·rw[if_neg hp,if_neg hp,lk]
theorem qB:∀(l:List FP) (f:FP) (p:List UInt8),lk (gZ l f) p=if p=f.1 then some f.2 else lk l p
 | [],f,p=>by simp only[gZ,lk,eq_comm]
 |x::r,f,p=>by
  unfold gZ
  by_cases h:x.1<f.1
  ·rw[if_pos h,lk,qB r f p,lk]
   have hne:x.1≠f.1:=fun e=>by rw[e]at h;exact List.lt_irrefl _ h
   by_cases hp:p=f.1
   ·rw[if_pos hp,if_pos hp,if_neg (fun e=>hne (e.trans hp))]
   ·rw[if_neg hp,if_neg hp]
  ·rw[if_neg h,lk,kR]
   by_cases hp:p=f.1
   ·rw[if_pos hp.symm,if_pos hp]
   ·rw[if_neg (fun e=>hp e.symm),if_neg hp,if_neg hp]
def pK(l:List FP):Prop:=(l.map (·.1)).Pairwise (· <·)
theorem ni{l:List FP}(q:FP→Bool)(h:pK l):pK (l.filter q):=List.Pairwise.sublist (List.Sublist.map _ List.filter_sublist) h
theorem ve{l:List FP}{f y:FP}(h:y∈gZ l f):y=f∨y∈l:=by
 induction l with
 |nil=>exact .inl (by simpa[gZ]using h)
 |cons x r ih=>
  unfold gZ at h
  split at h
  ·rcases List.mem_cons.1 h with h|h
   ·exact .inr (by rw[h];exact List.mem_cons_self ..)
   ·rcases ih h with h|h
    ·exact .inl h
    ·exact .inr (List.mem_cons_of_mem _ h)
  ·rcases List.mem_cons.1 h with h|h
   ·exact .inl h
   ·exact .inr ((List.mem_filter.1 h).1)
theorem yn{l:List FP}{f:FP}(h:pK l):pK (gZ l f):=by
 induction l with
 |nil=>simp[pK,gZ]
 |cons x r ih=>
  have hx:∀y∈r,x.1<y.1:=by
   intro y hy
   exact(List.pairwise_cons.1 h).1 _ (List.mem_map.2 ⟨y,hy,rfl⟩)
  have hr:pK r:=(List.pairwise_cons.1 h).2
  unfold gZ
  by_cases hlt:x.1<f.1
  ·rw[if_pos hlt]
   refine List.pairwise_cons.2 ⟨?_,ih hr⟩
   intro a ha
   obtain⟨y,hy,rfl⟩:=List.mem_map.1 ha
   rcases ve hy with rfl|hy
   ·exact hlt
   ·exact hx y hy
  ·rw[if_neg hlt]
   refine List.pairwise_cons.2 ⟨?_,ni _ h⟩
   intro a ha
   obtain⟨y,hy,rfl⟩:=List.mem_map.1 ha
   have hy1:=(List.mem_filter.1 hy).1
   have hy2:y.1≠f.1:=by simpa using(List.mem_filter.1 hy).2
   have hge:¬y.1<f.1:=by
    rcases List.mem_cons.1 hy1 with rfl|h1
    ·exact hlt
    ·exact fun e=>hlt (List.lt_trans (hx y h1) e)
   exact Decidable.byContradiction fun hn=>hy2 (List.le_antisymm (List.not_lt.1 hn) (List.not_lt.1 hge))
structure fa(fs:dg)(l:List FP):Prop where
 ord:pK l
 nd:(cq fs).Nodup
 look:∀p,(cn fs p).map (·.l)=lk l p
 len:∀x∈fs,x.2.n=x.2.l.length
theorem fa.nil:fa [] []:=⟨by simp[pK],by simp[cq],fun p=>rfl,fun x h=>by cases h⟩
theorem Co{l:List FP}{p:List UInt8}:lk l p≠none↔p∈l.map (·.1):=by
 induction l with
 |nil=>simp[lk]
 |cons x r ih=>
  unfold lk
  by_cases h:x.1=p
  ·simp[h]
  ·rw[if_neg h,ih];simp[Ne.symm h]
theorem fa.keys{fs:dg}{l:List FP}(h:fa fs l):(cq fs).Perm (l.map (·.1)):=by
 have hn:(l.map (·.1)).Nodup:=List.Pairwise.imp (fun hlt e=>by rw[e]at hlt;exact List.lt_irrefl _ hlt) h.ord
 refine(List.perm_ext_iff_of_nodup h.nd hn).2 fun p=> ?_
 rw[←Co,←h.look p]
 have:= @k4 (List UInt8) ej _ fs p
 cases hq:cn fs p with
 |none=>simp[this.1 hq]
 |some r=>simp;exact Decidable.byContradiction fun hm=>by rw[this.2 hm]at hq;cases hq
theorem fa.put{fs:dg}{l:List FP}(h:fa fs l){p:List UInt8}{r:ej}(hr:r.n=r.l.length):fa (cN fs p r) (gG l (p,r.l)):=by
 rw[jl]
 refine⟨yn h.ord,gj h.nd,fun q=> ?_,fun x hx=> ?_⟩
 ·rw[qc,qB]
  by_cases hq:p=q
  ·rw[if_pos hq,if_pos hq.symm];rfl
  ·rw[if_neg hq,if_neg (fun e=>hq e.symm)];exact h.look q
 ·rcases jv (List.mem_map.2 ⟨x,hx,rfl⟩)with h1|h1
  ·obtain⟨y,hy,e⟩:=List.mem_map.1 h1
   rw[←e];exact h.len y hy
  ·rw[h1];exact hr
theorem w9{a b:List Nat}(h:a.Perm b):a.sum=b.sum:=by
 induction h with
 |nil=>rfl
 |cons x _ ih=>simp[ih]
 |swap x y l=>simp;omega
 |trans _ _ h1 h2=>rw[h1,h2]
theorem Ah{l:List FP}(h:pK l){x:FP}(hx:x∈l):lk l x.1=some x.2:=by
 induction l with
 |nil=>cases hx
 |cons y r ih=>
  unfold lk
  rcases List.mem_cons.1 hx with rfl|h1
  ·rw[if_pos rfl]
  ·have hlt:y.1<x.1:=(List.pairwise_cons.1 h).1 _ (List.mem_map.2 ⟨x,h1,rfl⟩)
   rw[if_neg (fun e=>by rw[e]at hlt;exact List.lt_irrefl _ hlt)]
   exact ih (List.pairwise_cons.1 h).2 h1
theorem fa.ka{fs:dg}{l:List FP}(h:fa fs l):ka fs=dE l:=by
 let g:List UInt8→Nat:=fun p=>((lk l p).getD []).length
 have h1:fs.map (fun x=>x.2.n)=(cq fs).map g:=by
  rw[cq,List.map_map]
  refine List.map_congr_left fun x hx=> ?_
  have:=h.look x.1
  rw[nF h.nd (show(x.1,x.2)∈fs from hx)]at this
  show x.2.n=((lk l x.1).getD []).length
  rw[←this,h.len x hx];rfl
 have h2:l.map (fun x=>x.2.length)=(l.map (·.1)).map g:=by
  rw[List.map_map]
  refine List.map_congr_left fun x hx=> ?_
  show x.2.length=((lk l x.1).getD []).length
  rw[Ah h.ord hx];rfl
 show(fs.map fun x=>x.2.n).sum=(l.map fun x=>x.2.length).sum
 rw[h1,h2]
 exact w9 (h.keys.map g)
theorem fa.tW{fs:dg}{l:List FP}(h:fa fs l):fs.length=l.length:=by
 have:=h.keys.length_eq
 simpa[cq]using this
theorem fa.sz{fs:dg}{l:List FP}(h:fa fs l)(p:List UInt8):((cn fs p).map (·.n)).getD 0=((l[cS l p]?).map (·.2.length)).getD 0:=by
 have h1:=h.look p
 rw[←iQ]at h1
 cases hq:cn fs p with
 |none=>
  rw[hq]at h1
  cases hl:l[cS l p]? with
  |none=>rfl
  |some x=>rw[hl]at h1;cases h1
 |some r=>
  rw[hq]at h1
  cases hl:l[cS l p]? with
  |none=>rw[hl]at h1;cases h1
  |some x=>
   rw[hl]at h1
   have e:r.l=x.2:=Option.some.inj h1
   have:=h.len _ (iB hq)
   simp only[Option.map_some,Option.getD_some]
   rw[←e];exact this
structure tv(st:cH)(d:RD):Prop where
 room:st.room=d.room
 bS:st.bS=d.pw
 files:fa st.seen d.seen
 waits:st.waits.length=d.waits.length
theorem tv.bH{st:cH}{d:RD}(h:tv st d)(p bb:List UInt8):bH st p bb.length=d.bH p bb:=by
 have h1:=h.files.sz p
 have h2:=h.files.ka
 unfold Go.Proofs.YtmibdabdlgmafaaGreatDoor.bH RD.bH RD.sz
 rw[h.bS,h.room,h1,h2]
 by_cases hn:¬fT p
 ·rw[if_pos hn,if_pos hn]
 ·rw[if_neg hn,if_neg hn]
  by_cases h0:d.pw=0
  ·rw[if_pos h0,if_pos h0]
  ·rw[if_neg h0,if_neg h0]
   by_cases hr:d.room<(dE d.seen:Int)+(bb.length:Nat)-(((d.seen[cS d.seen p]?).map (·.2.length)).getD 0:Nat)
   ·rw[if_pos hr,if_pos (by omega)]
   ·rw[if_neg hr,if_neg (by omega)]
theorem tv.cC{st:cH}{d:RD}(h:tv st d)(p:List UInt8):dH st p=d.cC p:=by
 have h1:=h.files.look p
 rw[←iQ]at h1
 unfold dH RD.cC
 rw[h.bS]
 by_cases h0:d.pw=0
 ·rw[if_pos h0,if_pos h0]
 ·rw[if_neg h0,if_neg h0]
  cases ha:cn st.seen p with
  |none=>
   rw[ha]at h1
   cases hb:d.seen[cS d.seen p]? with
   |none=>simp
   |some y=>rw[hb]at h1;cases h1
  |some r=>
   rw[ha]at h1
   cases hb:d.seen[cS d.seen p]? with
   |none=>rw[hb]at h1;cases h1
   |some y=>simp
theorem tv.cJ{st:cH}{d:RD}(h:tv st d)(p:List UInt8):cJ st p=d.cJ p:=by
 have h1:=h.files.look p
 rw[←iQ]at h1
 have h2:=h.cC p
 unfold Go.Proofs.YtmibdabdlgmafaaGreatDoor.cJ RD.cJ
 rw[h2,←h1]
 unfold RD.cC
 by_cases h0:d.pw=0
 ·rw[if_pos h0,if_pos h0,if_neg (by decide)]
 ·rw[if_neg h0,if_neg h0]
  cases hb:d.seen[cS d.seen p]? with
  |none=>
   rw[hb]at h1
   cases ha:cn st.seen p with
   |none=>simp
   |some r=>rw[ha]at h1;cases h1
  |some y=>simp
end Go.Proofs.YtmibdabdlgmafaaGreatDoor
end
section
set_option maxRecDepth 20000
namespace Go.Proofs.YtmibdabdlgmafaaGreatDoor
open Go.Eng Go.Hx
structure RX where
 d:RD
 A:Option Addr
 c:Nat
 Al:Option Addr
 cl:Nat
 A3:Option Addr
 c3:Nat
def RX.cs(x:RX):List Value:=rv x.d x.A x.d.seen.length x.c x.Al x.d.b4.length x.cl x.A3 x.d.waits.length x.c3
abbrev RX.parts(x:RX):List bh:=[dr 2 x.A x.d.seen.length (fc x.d.seen),dr 2 x.Al x.d.b4.length (fc x.d.b4),dr 4 x.A3 x.d.waits.length (sH x.d.waits)]
def cT(x:RX):bh:=rf x.parts
theorem bK{x:RX}:∀u∈x.cs,u.oneCell' =true:=ja
theorem View.sJ{x:RX}:View (cT x) (dr 2 x.A x.d.seen.length (fc x.d.seen)):=View.nJ 0 rfl
theorem View.AF{x:RX}:View (cT x) (dr 2 x.Al x.d.b4.length (fc x.d.b4)):=View.nJ 1 rfl
theorem View.CR{x:RX}:View (cT x) (dr 4 x.A3 x.d.waits.length (sH x.d.waits)):=View.nJ 2 rfl
def RD.new(room:Int):RD:=⟨room,[],[],[],-1⟩
def RX.new(room:Int):RX:=⟨RD.new room,none,0,none,0,none,0⟩
theorem ue{y:RX}{S:List bh}(h0:∃t∈S,View t (dr 2 y.A y.d.seen.length (fc y.d.seen)))(h1:∃t∈S,View t (dr 2 y.Al y.d.b4.length (fc y.d.b4)))(h2:∃t∈S,View t (dr 4 y.A3 y.d.waits.length (sH y.d.waits))):pD S [cT y]:=by
 refine pD.cons (fun s hs=> ?_) pD.nil
 simp only[List.mem_cons,List.not_mem_nil,or_false]at hs
 rcases hs with rfl|rfl|rfl
 ·exact h0
 ·exact h1
 ·exact h2
theorem zU{room:Int}:pD [] [cT (RX.new room)]:=by
 intro s hs
 obtain rfl:=List.mem_singleton.1 hs
 refine⟨fun w _ x hx=> ?_,fun k hk=> ?_⟩
 ·simp only[List.mem_cons,List.not_mem_nil,or_false]at hx
  rcases hx with rfl|rfl|rfl <;> exact Rd.nil _ _ _
 ·obtain⟨x,hx,hk⟩:=hk
  simp only[List.mem_cons,List.not_mem_nil,or_false]at hx
  rcases hx with rfl|rfl|rfl <;> exact absurd rfl hk.1
theorem EB{r:bh}{S:List bh}:∃t∈r::S,View t r:=⟨r,List.mem_cons_self ..,.same⟩
theorem inr{r a:bh}{S:List bh}(h:∃t∈S,View t r):∃t∈a::S,View t r:=by
 obtain⟨t,ht,hv⟩:=h
 exact⟨t,List.mem_cons_of_mem _ ht,hv⟩
theorem inv1{r a:bh}{S:List bh}(h:View a r):∃t∈a::S,View t r:=⟨a,List.mem_cons_self ..,h⟩
theorem D6{room:Int}:cj Tryz.prog 25 [.int .i64 room] [] [] (fun v_ X_ S_=>∃y,v_=(.agg y.cs.toArray)∧X_=[]∧S_=[cT y]∧(y.d=RD.new room)):=by
 exact cj.qM Da (fun s hs=>by cases hs) (fun v X S h=>by
  obtain⟨rfl,rfl,rfl⟩:=h
  exact⟨_,⟨RX.new room,rfl,rfl,rfl,rfl⟩,zU⟩)
theorem qS{x:RX}{kk:Nat}{p:List UInt8}(ok:vi x.d kk)(hkk:kk≤100000):cj Tryz.prog 91 [.agg x.cs.toArray,.string (strOf p)] [] [cT x] (fun v_ X_ S_=>v_=(.tuple #[.string (strOf (x.d.cJ p)),.int .i64 (x.d.cC p)])∧X_=[]∧S_=[]):=by
 exact cj.qM (Cs rfl ok hkk) (fun s hs=>⟨_,List.mem_singleton_self _,by rw[List.mem_singleton.1 hs];exact View.sJ⟩) (fun v X S h=>⟨[],⟨h.1,h.2.1,rfl⟩,pD.nil⟩)
theorem BR{x:RX}{kk:Nat}(ok:vi x.d kk)(hkk:kk≤100000):cj Tryz.prog 89 [.agg x.cs.toArray] [] [cT x] (fun v_ X_ S_=>v_=(.int .i64 (dE x.d.seen:Nat))∧X_=[]∧S_=[]):=by
 exact cj.qM (wN rfl (by have:=ok.seen;omega) (by have:=ok.ka;omega)) (fun s hs=>⟨_,List.mem_singleton_self _,by rw[List.mem_singleton.1 hs];exact View.sJ⟩) (fun v X S h=>⟨[],⟨h.1,h.2.1,rfl⟩,pD.nil⟩)
theorem nD(d:RD)(p bb:List UInt8):(d.write p bb).b4=d.b4:=by
 unfold RD.write
 split <;> rfl
theorem uA{x:RX}:∀s∈ [dr 2 x.A x.d.seen.length (fc x.d.seen),dr 4 x.A3 x.d.waits.length (sH x.d.waits)],∃t∈ [cT x],View t s:=by
 intro s hs
 refine⟨_,List.mem_singleton_self _, ?_⟩
 simp only[List.mem_cons,List.not_mem_nil,or_false]at hs
 rcases hs with rfl|rfl
 ·exact View.sJ
 ·exact View.CR
theorem qY{x:RX}{kk:Nat}{p bb:List UInt8}(ok:vi x.d kk)(hkk:kk≤100000)(hpl:p.length≤1000000)(hbb:bb.length≤1000000):cj Tryz.prog 31 [.agg x.cs.toArray,.string (strOf p),.string (strOf bb)] [] [cT x] (fun v_ X_ S_=>∃y,v_=(.tuple #[.agg y.cs.toArray,.int .i64 (x.d.bH p bb)])∧X_=[]∧S_=[cT y]∧(y.d=x.d.write p bb)):=by
 refine cj.qM (zA rfl rfl ok hkk hpl hbb) uA (fun v X S h=> ?_)
 obtain⟨A1,n1,c1,A2,n2,c2,rfl,rfl,rfl,rfl,rfl⟩:=h
 refine⟨_,⟨⟨x.d.write p bb,A1,c1,x.Al,x.cl,A2,c2⟩,by unfold RX.cs;simp only[nD],rfl,rfl,rfl⟩,ue EB (inr (inr (inv1 ?_))) (inr EB)⟩
 simp only[nD]
 exact View.AF
theorem D8{x:RX}{kk:Nat}{k:Int}{p t bb:List UInt8}(ok:vi x.d kk)(hkk:kk≤100000):cj Tryz.prog 114 [.agg x.cs.toArray,.agg (cv k p t bb).toArray] [] [cT x] (fun v_ X_ S_=>∃y,v_=(.agg y.cs.toArray)∧X_=[]∧S_=[cT y]∧(y.d=x.d.gi k p t bb)):=by
 have h1:=ok.seen
 have h2:=ok.waits
 refine cj.qM (Cq rfl (by omega) rfl (by omega) ok.p1 ok.p2) uA (fun v X S h=> ?_)
 obtain⟨A1,n1,c1,A2,n2,c2,rfl,rfl,rfl,rfl,_,rfl⟩:=h
 have e:(x.d.waits++[(k,p,t,bb)]).length=x.d.waits.length+1:=by simp
 refine⟨_,⟨⟨x.d.gi k p t bb,A1,c1,x.Al,x.cl,A2,c2⟩,by unfold RX.cs;simp only[RD.gi,e];rfl,rfl,rfl,rfl⟩,ue EB (inr (inr (inv1 View.AF))) (inr (inv1 ?_))⟩
 simp only[RD.gi,e]
 exact .same
def RD.bZ(d:RD)(a c:List UInt8):Int:=if¬fT c then 1 else d.cC a
def RD.rename(d:RD)(a c:List UInt8):RD:=if d.bZ a c=0 then d.gi 1 a c []else d
def RD.remove(d:RD)(p:List UInt8):RD:=if d.cC p=0 then d.gi 2 p [] []else d
theorem wz{x:RX}{kk:Nat}{a c:List UInt8}(ok:vi x.d kk)(hkk:kk≤100000)(hcl:c.length≤1000000):cj Tryz.prog 100 [.agg x.cs.toArray,.string (strOf a),.string (strOf c)] [] [cT x] (fun v_ X_ S_=>∃y,v_=(.tuple #[.agg y.cs.toArray,.int .i64 (x.d.bZ a c)])∧X_=[]∧S_=[cT y]∧(y.d=x.d.rename a c)):=by
 refine aO (N:=31) Tryz.func100 rfl rfl (by simp) fun b=> ?_
 refine ah<|aj<| ?_
 refine hx (cz rfl (fun g3=> ?_))
 refine aL (fun w m=>m.bM 0 rfl (show _=aG g3 39 x.cs from congrArg (aG _ _) (bG _))) ?_
 refine hx (aM fN (fun g6=> ?_))
 refine hy (fun _=>ab rfl)<|ai<|ak (X' :=[_,_]) (S' :=[_]) (fun _ m=>m)<|ag<|ah<|aj<|hy (fun _=>aa rfl)<| ?_
 refine hx (ao rfl Tryz.call112 (uP (by omega)) [] rfl [] rfl ?_)
 rintro _ _ _ ⟨rfl,rfl,rfl⟩
 refine hy (fun _=>ab rfl)<|ai<|al (ρ' :=[(8,_),(7,_),(6,_),(3,_),(0,_),(1,_),(2,_)]) ⟨rfl,rfl,rfl,rfl,rfl,rfl,rfl,trivial⟩<|ak (X' :=[_,_]) (S' :=[_]) (fun _ m=>m)<|ag<|ah<|ah<|aj<|hy (fun _=>aa rfl)<|hy (fun _=>jM rfl)<|ai<|al (ρ' :=[(14,_),(8,_),(7,_),(6,_),(3,_),(0,_),(1,_),(2,_)]) ⟨rfl,rfl,rfl,rfl,rfl,rfl,rfl,rfl,trivial⟩<|ag<| ?_
 refine cL rfl (fun hN=> ?_) (fun hN=> ?_)
 ·have hE:x.d.bZ a c=1:=by rw[RD.bZ,if_pos hN]
  have hE0:¬(1:Int)=0:=by decide
  have hW:x.d.rename a c=x.d:=by rw[RD.rename,if_neg (by rw[hE];exact hE0)]
  rw[hE,hW]
  refine ah<|aj<|hy (fun m=>yV (aX rfl ca bf rfl ((m.aT 1 rfl).ay)) ((rfl:_=Value.agg x.cs.toArray)))<| ?_
  refine cI (aI 0 rfl rfl rfl bf rfl bK rfl ?_)
  refine hy (fun _=>ab rfl)<|ai<|al (ρ' :=[(7,_),(14,_),(8,_),(6,_),(3,_),(0,_),(1,_),(2,_)]) ⟨rfl,rfl,rfl,rfl,rfl,rfl,rfl,rfl,trivial⟩<|ak (X' :=[_,_]) (S' :=[_]) (fun _ m=>m)<|ag<|aU<|aw<| ?_
  exact dV trivial rfl rfl rfl ca bf rfl (fun m=>(m.aT 0 rfl).ay) [] rfl [0] rfl ⟨x,rfl,rfl,rfl,rfl⟩
 ·have hE:x.d.bZ a c=x.d.cC a:=by rw[RD.bZ,if_neg hN]
  refine aB<|ag<|ah<|aj<|hy (fun m=>yV (aX rfl ca bf rfl ((m.aT 1 rfl).ay)) ((rfl:_=Value.agg x.cs.toArray)))<|hy (fun _=>aa rfl)<| ?_
  refine hx (ao rfl Tryz.call91 (qS (by omega) (by omega)) [] rfl [0] rfl ?_)
  rintro _ _ _ ⟨rfl,rfl,rfl⟩
  refine hy (fun _=>aa rfl)<|hy (fun _=>aq rfl rfl)<|hy (fun _=>aq rfl rfl)<|hy (fun _=>ab rfl)<|hy (fun _=>ab rfl)<|ai<|al (ρ' :=[(10,_),(14,_),(8,_),(7,_),(6,_),(3,_),(0,_),(1,_),(2,_)]) ⟨rfl,rfl,rfl,rfl,rfl,rfl,rfl,rfl,rfl,trivial⟩<|ak (X' :=[_,_]) (S' :=[_]) (fun _ m=>m)<|ag<|ah<|ah<|aj<|hy (fun _=>aa rfl)<|hy (fun _=>de rfl rfl)<|ai<|al (ρ' :=[(23,_),(10,_),(14,_),(8,_),(7,_),(6,_),(3,_),(0,_),(1,_),(2,_)]) ⟨rfl,rfl,rfl,rfl,rfl,rfl,rfl,rfl,rfl,rfl,trivial⟩<|ag<| ?_
  refine cL rfl (fun hE0=> ?_) (fun hE0=> ?_)
  ·have hW:x.d.rename a c=x.d:=by rw[RD.rename,if_neg (by rw[hE];exact hE0)]
   rw[hE,hW]
   refine ah<|aj<|hy (fun m=>yV (aX rfl ca bf rfl ((m.aT 1 rfl).ay)) ((rfl:_=Value.agg x.cs.toArray)))<|hy (fun _=>aa rfl)<| ?_
   refine cI (aI 0 rfl rfl rfl bf rfl bK rfl ?_)
   refine hy (fun _=>ab rfl)<|ai<|al (ρ' :=[(7,_),(23,_),(10,_),(14,_),(8,_),(6,_),(3,_),(0,_),(1,_),(2,_)]) ⟨rfl,rfl,rfl,rfl,rfl,rfl,rfl,rfl,rfl,rfl,trivial⟩<|ak (X' :=[_,_]) (S' :=[_]) (fun _ m=>m)<|ag<|aU<|aw<| ?_
   exact dV trivial rfl rfl rfl ca bf rfl (fun m=>(m.aT 0 rfl).ay) [] rfl [0] rfl ⟨x,rfl,rfl,rfl,rfl⟩
  ·have hr0:=Decidable.not_not.1 hE0
   have hW:x.d.rename a c=x.d.gi 1 a c []:=by rw[RD.rename,if_pos (by rw[hE];exact hr0)]
   rw[hE,hW,hr0]
   refine aB<|ag<|ah<|aj<|hy (fun m=>yV (aX rfl ca bf rfl ((m.aT 1 rfl).ay)) ((rfl:_=Value.agg x.cs.toArray)))<|hy (fun _=>aa rfl)<|hy (fun _=>aa rfl)<|hy (fun _=>yV (cM nH rfl rfl (by kernel_rfl) (.cons (o:=0) (sz:=1) (by kernel_rfl) rfl rfl (Nat.le_of_ble_eq_true rfl) (.cons (o:=1) (sz:=1) (by kernel_rfl) rfl rfl (Nat.le_of_ble_eq_true rfl) (.cons (o:=2) (sz:=1) (by kernel_rfl) rfl rfl (Nat.le_of_ble_eq_true rfl) .nil)))) ((rfl:_=Value.agg (cv 1 a c []).toArray)))<| ?_
   refine hx (ao rfl Tryz.call114 (D8 (by omega) (by omega)) [] rfl [0] rfl ?_)
   rintro _ _ _ ⟨y,rfl,rfl,rfl,hp⟩
   refine cI (aI 0 rfl rfl rfl bf rfl bK rfl ?_)
   refine hy (fun _=>ab rfl)<|ai<|al (ρ' :=[(7,_),(23,_),(10,_),(14,_),(8,_),(6,_),(3,_),(0,_),(1,_),(2,_)]) ⟨rfl,rfl,rfl,rfl,rfl,rfl,rfl,rfl,rfl,rfl,trivial⟩<|ak (X' :=[_,_]) (S' :=[_,_]) (fun _ m=>m)<|ag<|aU<| ?_
   exact dV trivial rfl rfl rfl ca bf rfl (fun m=>(m.aT 0 rfl).ay) [] rfl [0] rfl ⟨y,rfl,rfl,rfl,hp⟩
theorem km{x:RX}{kk:Nat}{p:List UInt8}(ok:vi x.d kk)(hkk:kk≤100000):cj Tryz.prog 78 [.agg x.cs.toArray,.string (strOf p)] [] [cT x] (fun v_ X_ S_=>∃y,v_=(.tuple #[.agg y.cs.toArray,.int .i64 (x.d.cC p)])∧X_=[]∧S_=[cT y]∧(y.d=x.d.remove p)):=by
 refine aO (N:=22) Tryz.func78 rfl rfl (by simp) fun b=> ?_
 refine ah<|aj<| ?_
 refine hx (cz rfl (fun g2=> ?_))
 refine aL (fun w m=>m.bM 0 rfl (show _=aG g2 39 x.cs from congrArg (aG _ _) (bG _))) ?_
 refine hx (aM fN (fun g4=> ?_))
 refine hy (fun _=>ab rfl)<|ai<|ak (X' :=[_,_]) (S' :=[_]) (fun _ m=>m)<|ag<|ah<|aj<|hy (fun m=>yV (aX rfl ca bf rfl ((m.aT 1 rfl).ay)) ((rfl:_=Value.agg x.cs.toArray)))<|hy (fun _=>aa rfl)<| ?_
 refine hx (ao rfl Tryz.call91 (qS (by omega) (by omega)) [] rfl [0] rfl ?_)
 rintro _ _ _ ⟨rfl,rfl,rfl⟩
 refine hy (fun _=>aa rfl)<|hy (fun _=>aq rfl rfl)<|hy (fun _=>aq rfl rfl)<|hy (fun _=>ab rfl)<|hy (fun _=>ab rfl)<|ai<|al (ρ' :=[(7,_),(5,_),(4,_),(2,_),(0,_),(1,_)]) ⟨rfl,rfl,rfl,rfl,rfl,rfl,trivial⟩<|ak (X' :=[_,_]) (S' :=[_]) (fun _ m=>m)<|ag<|ah<|ah<|aj<|hy (fun _=>aa rfl)<|hy (fun _=>de rfl rfl)<|ai<|al (ρ' :=[(15,_),(7,_),(5,_),(4,_),(2,_),(0,_),(1,_)]) ⟨rfl,rfl,rfl,rfl,rfl,rfl,rfl,trivial⟩<|ag<| ?_
 refine cL rfl (fun hE0=> ?_) (fun hE0=> ?_)
 ·have hW:x.d.remove p=x.d:=by rw[RD.remove,if_neg hE0]
  rw[hW]
  refine ah<|aj<|hy (fun m=>yV (aX rfl ca bf rfl ((m.aT 1 rfl).ay)) ((rfl:_=Value.agg x.cs.toArray)))<|hy (fun _=>aa rfl)<| ?_
  refine cI (aI 0 rfl rfl rfl bf rfl bK rfl ?_)
  refine hy (fun _=>ab rfl)<|ai<|al (ρ' :=[(5,_),(15,_),(7,_),(4,_),(2,_),(0,_),(1,_)]) ⟨rfl,rfl,rfl,rfl,rfl,rfl,rfl,trivial⟩<|ak (X' :=[_,_]) (S' :=[_]) (fun _ m=>m)<|ag<|aU<|aw<| ?_
  exact dV trivial rfl rfl rfl ca bf rfl (fun m=>(m.aT 0 rfl).ay) [] rfl [0] rfl ⟨x,rfl,rfl,rfl,rfl⟩
 ·have hr0:=Decidable.not_not.1 hE0
  have hW:x.d.remove p=x.d.gi 2 p [] []:=by rw[RD.remove,if_pos hr0]
  rw[hW,hr0]
  refine aB<|ag<|ah<|aj<|hy (fun m=>yV (aX rfl ca bf rfl ((m.aT 1 rfl).ay)) ((rfl:_=Value.agg x.cs.toArray)))<|hy (fun _=>aa rfl)<|hy (fun _=>yV (cM nH rfl rfl (by kernel_rfl) (.cons (o:=0) (sz:=1) (by kernel_rfl) rfl rfl (Nat.le_of_ble_eq_true rfl) (.cons (o:=1) (sz:=1) (by kernel_rfl) rfl rfl (Nat.le_of_ble_eq_true rfl) .nil))) ((rfl:_=Value.agg (cv 2 p [] []).toArray)))<| ?_
  refine hx (ao rfl Tryz.call114 (D8 (by omega) (by omega)) [] rfl [0] rfl ?_)
  rintro _ _ _ ⟨y,rfl,rfl,rfl,hp⟩
  refine cI (aI 0 rfl rfl rfl bf rfl bK rfl ?_)
  refine hy (fun _=>ab rfl)<|ai<|al (ρ' :=[(5,_),(15,_),(7,_),(4,_),(2,_),(0,_),(1,_)]) ⟨rfl,rfl,rfl,rfl,rfl,rfl,rfl,trivial⟩<|ak (X' :=[_,_]) (S' :=[_,_]) (fun _ m=>m)<|ag<|aU<| ?_
  exact dV trivial rfl rfl rfl ca bf rfl (fun m=>(m.aT 0 rfl).ay) [] rfl [0] rfl ⟨y,rfl,rfl,rfl,hp⟩
def RD.dC(d:RD):Int:=if d.pw=0 then 6 else 0
def RD.sync(d:RD):RD:=if d.pw=0 then d else{d with b4:=d.seen,waits:=[],pw:=eL d.pw}
theorem tO{x:RX}{kk:Nat}(ok:vi x.d kk):cj Tryz.prog 99 [.agg x.cs.toArray] [] [cT x] (fun v_ X_ S_=>∃y,v_=(.tuple #[.agg y.cs.toArray,.int .i64 x.d.dC])∧X_=[]∧S_=[cT y]∧(y.d=x.d.sync)):=by
 have hp1:=ok.p1
 have hp2:=ok.p2
 refine aO (N:=20) Tryz.func99 rfl rfl (by simp) fun b=> ?_
 refine ah<|aj<| ?_
 refine hx (cz rfl (fun g1=> ?_))
 refine aL (fun w m=>m.bM 0 rfl (show _=aG g1 39 x.cs from congrArg (aG _ _) (bG _))) ?_
 refine hx (aM fN (fun g2=> ?_))
 refine hy (fun _=>ab rfl)<|ai<|ak (X' :=[_,_]) (S' :=[_]) (fun _ m=>m)<|ag<|ah<|ah<|aj<|hy (fun _=>aD rfl gL (by decide))<|hy (fun m=>ar rfl eY (ax (m.aT 1 rfl) (i:=4) rfl))<|hy (fun _=>b7 rfl rfl)<|ai<|al (ρ' :=[(6,_),(3,_),(2,_),(1,_),(0,_)]) ⟨rfl,rfl,rfl,rfl,rfl,trivial⟩<|ag<| ?_
 refine cL rfl (fun h0=> ?_) (fun h0=> ?_)
 ·have hE:x.d.dC=6:=by rw[RD.dC,if_pos h0]
  have hW:x.d.sync=x.d:=by rw[RD.sync,if_pos h0]
  rw[hE,hW]
  refine ah<|aj<|hy (fun m=>yV (aX rfl ca bf rfl ((m.aT 1 rfl).ay)) ((rfl:_=Value.agg x.cs.toArray)))<| ?_
  refine cI (aI 0 rfl rfl rfl bf rfl bK rfl ?_)
  refine hy (fun _=>ab rfl)<|ai<|al (ρ' :=[(3,_),(6,_),(2,_),(1,_),(0,_)]) ⟨rfl,rfl,rfl,rfl,rfl,trivial⟩<|ak (X' :=[_,_]) (S' :=[_]) (fun _ m=>m)<|ag<|aU<|aw<| ?_
  exact dV trivial rfl rfl rfl ca bf rfl (fun m=>(m.aT 0 rfl).ay) [] rfl [0] rfl ⟨x,rfl,rfl,rfl,rfl⟩
 ·have hE:x.d.dC=0:=by rw[RD.dC,if_neg h0]
  have hW:x.d.sync={x.d with b4:=x.d.seen,waits:=[],pw:=eL x.d.pw}:=by rw[RD.sync,if_neg h0]
  rw[hE]
  refine bu (fun w m=>m.gX 0 rfl View.sJ) ?_
  refine ba (fun m=>ik (m.rd 0 rfl)) ?_
  rintro⟨hl_r0,hA_r0⟩
  refine bu (fun w m=>m.pH (r' :=dr 4 none 0 []) (.refl _ _) (Rd.nil _ _ _) (fun k hk=>absurd rfl hk.1)) ?_
  have hA_z:0<0→(none:Option Addr)≠none:=fun h=>absurd h (by decide)
  refine aB<|ag<|ah<|aj<|hy (fun _=>aD rfl fl (by decide))<|hy (fun m=>ar rfl j1 (ax (m.aT 1 rfl) (i:=1) rfl))<|hy (fun _=>aD rfl jj (by decide))<| ?_
  refine cI (bR 1 rfl rfl rfl tX rfl (by first|exact Nat.le_of_ble_eq_true rfl|simp) ?_)
  refine ai<|al (ρ' :=[(6,_),(3,_),(2,_),(1,_),(0,_)]) ⟨rfl,rfl,rfl,rfl,rfl,trivial⟩<|ak (X' :=[_,_]) (S' :=[_,_,_]) (fun _ m=>m)<|ag<|ah<|aj<|hy (fun _=>aD rfl lL (by decide))<| ?_
  refine cI (bR 0 rfl rfl rfl BC rfl (by first|exact Nat.le_of_ble_eq_true rfl|simp) ?_)
  refine ai<|al (ρ' :=[(6,_),(3,_),(2,_),(1,_),(0,_)]) ⟨rfl,rfl,rfl,rfl,rfl,trivial⟩<|ak (X' :=[_,_]) (S' :=[_,_,_]) (fun _ m=>m)<|ag<|ah<|ah<|aj<|hy (fun _=>aD rfl gL (by decide))<|hy (fun m=>ar rfl eY (ax (m.aT 0 rfl) (i:=4) rfl))<|hy (fun _=>cW rfl rfl)<|ai<|al (ρ' :=[(14,_),(6,_),(3,_),(2,_),(1,_),(0,_)]) ⟨rfl,rfl,rfl,rfl,rfl,rfl,trivial⟩<|ag<| ?_
  refine bu (S' :=cT ⟨{x.d with b4:=x.d.seen,waits:=[],pw:=eL x.d.pw},x.A,x.c,x.A,x.c,none,0⟩::_) (fun w m=>m.zp [1,1,0] rfl) ?_
  refine cL rfl (fun h1=> ?_) (fun h1=> ?_)
  ·refine aj<|hy (fun _=>aD rfl gL (by decide))<|hy (fun m=>ar rfl eY (ax (m.aT 0 rfl) (i:=4) rfl))<|hy (fun _=>cm rfl rfl (bA (by omega) (by omega)))<|hy (fun _=>aD rfl gL (by decide))<| ?_
   refine cI (bR 0 rfl rfl rfl tf rfl (by first|exact Nat.le_of_ble_eq_true rfl|simp) ?_)
   refine ai<|al (ρ' :=[(14,_),(6,_),(3,_),(2,_),(1,_),(0,_)]) ⟨rfl,rfl,rfl,rfl,rfl,rfl,trivial⟩<|ak (X' :=[_,_]) (S' :=[_,_,_,_]) (fun _ m=>m)<|ag<|ah<|aj<| ?_
   refine aL (fun w m=>m.bM 0 rfl (show _=aG g1 39 (RX.cs ⟨{x.d with b4:=x.d.seen,waits:=[],pw:=eL x.d.pw},x.A,x.c,x.A,x.c,none,0⟩)from by rw[eL,if_pos h1];rfl)) ?_
   refine hy (fun m=>yV (aX rfl ca bf rfl ((m.aT 0 rfl).ay)) ((rfl:_=Value.agg (RX.cs ⟨{x.d with b4:=x.d.seen,waits:=[],pw:=eL x.d.pw},x.A,x.c,x.A,x.c,none,0⟩).toArray)))<| ?_
   refine cI (aI 1 rfl rfl rfl bf rfl bK rfl ?_)
   refine hy (fun _=>ab rfl)<|ai<|al (ρ' :=[(3,_),(14,_),(6,_),(2,_),(1,_),(0,_)]) ⟨rfl,rfl,rfl,rfl,rfl,rfl,trivial⟩<|ak (X' :=[_,_]) (S' :=[_,_,_,_]) (fun _ m=>m)<|ag<|aU<| ?_
   exact dV trivial rfl rfl rfl ca bf rfl (fun m=>(m.aT 0 rfl).ay) [] rfl [0] rfl ⟨_,rfl,rfl,rfl,hW.symm⟩
  ·refine aB<|ag<|ah<|aj<| ?_
   refine aL (fun w m=>m.bM 0 rfl (show _=aG g1 39 (RX.cs ⟨{x.d with b4:=x.d.seen,waits:=[],pw:=eL x.d.pw},x.A,x.c,x.A,x.c,none,0⟩)from by rw[eL,if_neg h1];rfl)) ?_
   refine hy (fun m=>yV (aX rfl ca bf rfl ((m.aT 0 rfl).ay)) ((rfl:_=Value.agg (RX.cs ⟨{x.d with b4:=x.d.seen,waits:=[],pw:=eL x.d.pw},x.A,x.c,x.A,x.c,none,0⟩).toArray)))<| ?_
   refine cI (aI 1 rfl rfl rfl bf rfl bK rfl ?_)
   refine hy (fun _=>ab rfl)<|ai<|al (ρ' :=[(3,_),(14,_),(6,_),(2,_),(1,_),(0,_)]) ⟨rfl,rfl,rfl,rfl,rfl,rfl,trivial⟩<|ak (X' :=[_,_]) (S' :=[_,_,_,_]) (fun _ m=>m)<|ag<|aU<| ?_
   exact dV trivial rfl rfl rfl ca bf rfl (fun m=>(m.aT 0 rfl).ay) [] rfl [0] rfl ⟨_,rfl,rfl,rfl,hW.symm⟩
def RD.bS(d:RD)(n:Int):RD:={d with pw:=max n (-1)}
theorem Az{x:RX}{n:Int}:cj Tryz.prog 58 [.agg x.cs.toArray,.int .i64 n] [] [cT x] (fun v_ X_ S_=>∃y,v_=(.agg y.cs.toArray)∧X_=[]∧S_=[cT y]∧(y.d=x.d.bS n)):=by
 refine aO (N:=9) Tryz.func58 rfl rfl (by simp) fun b=> ?_
 refine ah<|aj<| ?_
 refine hx (cz rfl (fun g2=> ?_))
 refine aL (fun w m=>m.bM 0 rfl (show _=aG g2 39 x.cs from congrArg (aG _ _) (bG _))) ?_
 refine aL (fun w m=>m.gX 0 rfl View.sJ) ?_
 refine az (fun m=>ik (m.rd 0 rfl)) ?_
 rintro⟨hl_r0,hA_r0⟩
 refine aL (fun w m=>m.gX 1 rfl View.AF) ?_
 refine az (fun m=>ik (m.rd 0 rfl)) ?_
 rintro⟨hl_r1,hA_r1⟩
 refine aL (fun w m=>m.gX 2 rfl View.CR) ?_
 refine az (fun m=>ik (m.rd 0 rfl)) ?_
 rintro⟨hl_r2,hA_r2⟩
 refine hx (aM fN (fun g4=> ?_))
 refine ai<|ak (X' :=[_,_]) (S' :=[_,_,_,_]) (fun _ m=>m)<|ag<|ah<|aj<|hy (fun _=>aa rfl)<|hy (fun _=>pP rfl rfl)<|hy (fun _=>aD rfl gL (by decide))<| ?_
 refine cI (bR 1 rfl rfl rfl tf rfl (by first|exact Nat.le_of_ble_eq_true rfl|simp) ?_)
 refine ai<|al (ρ' :=[(4,_),(2,_),(0,_),(1,_)]) ⟨rfl,rfl,rfl,rfl,trivial⟩<|ak (X' :=[_,_]) (S' :=[_,_,_,_]) (fun _ m=>m)<|ag<|ah<|aj<| ?_
 refine aL (S' :=cT ⟨x.d.bS n,x.A,x.c,x.Al,x.cl,x.A3,x.c3⟩::_) (fun w m=>m.zp [2,1,0] rfl) ?_
 refine aL (fun w m=>m.bM 0 rfl (show _=aG g2 39 (RX.cs ⟨x.d.bS n,x.A,x.c,x.Al,x.cl,x.A3,x.c3⟩)from rfl)) ?_
 refine hy (fun m=>yV (aX rfl ca bf rfl ((m.aT 0 rfl).ay)) ((rfl:_=Value.agg (RX.cs ⟨x.d.bS n,x.A,x.c,x.Al,x.cl,x.A3,x.c3⟩).toArray)))<| ?_
 refine cI (aI 1 rfl rfl rfl bf rfl bK rfl ?_)
 refine ai<|al (ρ' :=[(4,_),(2,_),(0,_),(1,_)]) ⟨rfl,rfl,rfl,rfl,trivial⟩<|ak (X' :=[_,_]) (S' :=[_,_,_,_,_]) (fun _ m=>m)<|ag<|aU<| ?_
 exact fC trivial rfl rfl ca bf rfl (fun m=>(m.aT 0 rfl).ay) [] rfl [0] rfl ⟨_,rfl,rfl,rfl,rfl⟩
end Go.Proofs.YtmibdabdlgmafaaGreatDoor
end
section
set_option maxRecDepth 20000
namespace Go.Proofs.YtmibdabdlgmafaaGreatDoor
open Go.Eng Go.Hx
theorem sw{α:Type}{f:α→List Value}{k:Nat}(hf:∀x,(f x).length=k):∀(l:List α) (i j:Nat) (x:α),l[i]? =some x→j<k→(l.flatMap f)[i*k+j]? =(f x)[j]?
 | [],i,j,x,h,hj=>by simp at h
 |a::r,0,j,x,h,hj=>by
  simp only[List.getElem?_cons_zero,Option.some.injEq]at h
  subst h
  rw[List.flatMap_cons,Nat.zero_mul,Nat.zero_add,List.getElem?_append_left (by rw[hf];exact hj)]
 |a::r,i+1,j,x,h,hj=>by
  rw[List.flatMap_cons,List.getElem?_append_right (by rw[hf,Nat.succ_mul];omega),hf,show(i+1)*k+j-k=i*k+j by rw[Nat.succ_mul];omega]
  exact sw hf r i j x (by simpa using h) hj
theorem ua{α:Type}{f:α→List Value}{k:Nat}{w:World}{A:Option Addr}{n i:Nat}{l:List α}{x:α}(hf:∀x,(f x).length=k)(h:Rd w k A n (l.flatMap f))(hx:l[i]? =some x):∀(j:Nat) (u:Value),(f x)[j]? =some u→w.cell? (((A.getD d0).add (i*k)).add j)=some u:=by
 intro j u hu
 have hj:j<k:=by have:=(List.getElem?_eq_some_iff.1 hu).1;rwa [hf]at this
 exact dm h (by rw[sw hf l i j x hx hj];exact hu)
theorem wu{w:World}{A:Option Addr}{n i:Nat}{l:List RC}{x:RC}(h:Rd w 4 A n (sH l))(hx:l[i]? =some x):∀(j:Nat) (u:Value),(cv x.1 x.2.1 x.2.2.1 x.2.2.2)[j]? =some u→w.cell? (((A.getD d0).add (i*4)).add j)=some u:=
 ua (f:=fun x:RC=>cv x.1 x.2.1 x.2.2.1 x.2.2.2) (fun _=>rfl) h hx
def fF(s:List Bool×List FP)(c:RC):List Bool×List FP:=
 if s.1.headD false then
  if c.1=0 then(s.1.tail.tail,cY s.2 c.1 c.2.1 c.2.2.1 (if s.1.tail.headD false then c.2.2.2 else c.2.2.2.take (c.2.2.2.length/2)))
  else(s.1.tail,cY s.2 c.1 c.2.1 c.2.2.1 c.2.2.2)
 else(s.1.tail,s.2)
def dfold(keep:List Bool)(d:RD)(i:Nat):List Bool×List FP:=(d.waits.take i).foldl fF (keep,d.b4)
theorem dfold_succ{keep:List Bool}{d:RD}{i:Nat}{c:RC}(h:d.waits[i]? =some c):dfold keep d (i+1)=fF (dfold keep d i) c:=by
 unfold dfold
 obtain⟨hi,rfl⟩:=List.getElem?_eq_some_iff.1 h
 rw[List.take_succ_eq_append_getElem hi,List.foldl_append]
 rfl
def RD.ic(d:RD)(keep:List Bool):RD:={d with seen:=(dfold keep d d.waits.length).2,b4:=(dfold keep d d.waits.length).2,waits:=[],pw:=-1}
theorem head_drop{bs:List Bool}{at_:Nat}(h:at_<bs.length):(fR bs)[at_]? =some (.bool ((bs.drop at_).headD false)):=by
 have:bs.drop at_=bs[at_]::bs.drop (at_+1):=List.drop_eq_getElem_cons h
 rw[this]
 simp[fR,List.getElem?_map,List.getElem?_eq_getElem h]
theorem uu{bs:List Bool}{at_:Nat}(h:(bs.drop at_).headD false=true):at_<bs.length:=by
 refine Decidable.byContradiction fun hn=> ?_
 rw[List.drop_eq_nil_of_le (by omega)]at h
 cases h
theorem tail_drop{bs:List Bool}{at_:Nat}:(bs.drop at_).tail=bs.drop (at_+1):=List.tail_drop
theorem vD{x:RX}{kk:Nat}{A:Option Addr}{n c:Nat}{bs:List Bool}(hc:n≤c)(ok:vi x.d kk)(hkk:kk≤100000)(hla:x.d.b4.length≤100000)(hn:n≤1000000)(hbw:∀c∈x.d.waits,c.2.2.2.length≤1048576):cj Tryz.prog 82 [.agg x.cs.toArray,.slice A n c] [] [cT x,dr 1 A n (fR bs)] (fun v_ X_ S_=>∃y,v_=(.agg y.cs.toArray)∧X_=[]∧S_=[cT y]∧(y.d=x.d.ic bs)):=by
 have hw2:=ok.waits
 have hbl:(fR bs).length=bs.length:=by simp[fR]
 refine aO (N:=82) Tryz.func82 rfl rfl (by simp) fun b=> ?_
 refine ba (fun m=>ik (m.rd 1 rfl)) ?_
 rintro⟨hl_k,hA_k⟩
 have hbn:bs.length=n:=by omega
 refine ah<|aj<| ?_
 refine hx (cz rfl (fun g2=> ?_))
 refine aL (fun w m=>m.bM 0 rfl (show _=aG g2 39 (dv x.d.room (.slice x.A x.d.seen.length x.c) (.slice x.Al x.d.b4.length x.cl) (.slice x.A3 x.d.waits.length x.c3) x.d.pw)from congrArg (aG _ _) (bG _))) ?_
 refine aL (fun w m=>m.gX 0 rfl View.AF) ?_
 refine az (fun m=>ik (m.rd 0 rfl)) ?_
 rintro⟨hl_r1,hA_r1⟩
 refine aL (fun w m=>m.gX 1 rfl View.CR) ?_
 refine az (fun m=>ik (m.rd 0 rfl)) ?_
 rintro⟨hl_r2,hA_r2⟩
 refine hx (aM fN (fun g4=> ?_))
 refine ai<|ak (X' :=[_,_]) (S' :=[_,_,_,_]) (fun _ m=>m)<|ag<|ah<|aj<|hy (fun _=>ab rfl)<|ai<|ag<|ah<|ah<|aj<|hy (fun _=>ab rfl)<|ai<|ag<|aN<| ?_
 refine rA (fun i at_ L A1 c1=>x.d.waits.length-i) (fun i at_ L A1 c1=>[(5,.int .i64 (at_:Nat)),(6,.int .i64 (i:Nat))]) (fun i at_ L A1 c1=>[aG g2 39 (dv x.d.room (.slice x.A x.d.seen.length x.c) (.slice A1 L.length c1) (.slice x.A3 x.d.waits.length x.c3) x.d.pw)]) (fun i at_ L A1 c1=>[dr 2 A1 L.length (fc L)]) (fun i at_ L A1 c1=>i≤x.d.waits.length∧(bs.drop at_,L)=dfold bs x.d i∧at_≤2*i∧L.length≤x.d.b4.length+i) 0 0 x.d.b4 x.Al x.cl [(4,_),(2,_),(0,_),(1,_)] ⟨rfl,rfl,rfl,rfl,trivial⟩ [1] rfl [1] rfl (⟨Nat.zero_le _,by simp[dfold],by omega,by omega⟩) ⟨rfl,rfl,trivial⟩ (fun i at_ L A1 c1 ⟨hi,hf,hat,hL⟩=> ?_)
 refine ah<|ah<|aj<|hy (fun _=>aa rfl)<|hy (fun _=>aD rfl lL (by decide))<|hy (fun m=>ar rfl AI (ax (m.aT 0 rfl) (i:=3) rfl))<|hy (fun _=>aR rfl Tryz.underlying37)<|hy (fun _=>br rfl rfl)<|ai<|al (ρ' :=[(14,_),(5,_),(6,_),(4,_),(2,_),(0,_),(1,_)]) ⟨rfl,rfl,rfl,rfl,rfl,rfl,rfl,trivial⟩<|ag<| ?_
 refine cL rfl (fun hlt=> ?_) (fun hlt=> ?_)
 ·obtain⟨ch,hch⟩:∃ch,x.d.waits[i]? =some ch:=⟨_,List.getElem?_eq_getElem (by omega)⟩
  have hfs:=dfold_succ (keep:=bs) hch
  rw[←hf]at hfs
  by_cases hb:(bs.drop at_).headD false=true
  ·have hlt1:=uu hb
   have hbit:=head_drop hlt1
   rw[hb]at hbit
   have hds:fF (bs.drop at_,L) ch=if ch.1=0 then(bs.drop (at_+2),cY L ch.1 ch.2.1 ch.2.2.1 (if(bs.drop (at_+1)).headD false then ch.2.2.2 else ch.2.2.2.take (ch.2.2.2.length/2)))else(bs.drop (at_+1),cY L ch.1 ch.2.1 ch.2.2.1 ch.2.2.2):=by
    unfold fF
    rw[if_pos hb]
    simp only[tail_drop]
   rw[hds]at hfs
   refine aB<|ag<|ah<|aN<|ah<|aj<|hy (fun _=>aa rfl)<|hy (fun _=>aa rfl)<|hy (fun _=>aR rfl Tryz.underlying28)<|hy (fun _=>yT (br rfl rfl) ((decide_eq_true (by omega))))<|hy (fun _=>aa rfl)<|cx (o:=_) rfl rfl rfl (fun _=>aa rfl)<|cx (o:=_) rfl rfl rfl (fun _=>aa rfl)<|cx (o:=_) rfl rfl rfl (fun _=>aa rfl)<|cx (o:=_) rfl rfl rfl (fun _=>aR rfl Tryz.underlying28)<|cx (o:=_) rfl rfl rfl (fun _=>cm rfl rfl (bA (by omega) (by omega)))<|cx (o:=_) rfl rfl rfl (fun _=>pP rfl rfl)<|cx (o:=_) rfl rfl rfl (fun _=>ln rfl rfl)<|cx (o:=_) rfl rfl rfl (fun _=>aK rfl rfl Tryz.underlying28 Bz hA_k (show((at_:Nat):Int)=_ by omega) (by omega))<|cx (o:=_) rfl rfl rfl (fun m=>yV (ar rfl DB ((m.rd 4 rfl).cell (j:=at_) hbit)) ((rfl:_=Value.bool true)))<|hy (fun _=>bE rfl rfl)<|hy (fun _=>ab rfl)<|ai<|al (ρ' :=[(7,_),(14,_),(5,_),(6,_),(4,_),(2,_),(0,_),(1,_)]) ⟨rfl,rfl,rfl,rfl,rfl,rfl,rfl,rfl,trivial⟩<|ag<|ah<|aj<|hy (fun _=>aa rfl)<|hy (fun _=>aJ rfl rfl (bA (by omega) (by omega)))<|hy (fun _=>ab rfl)<|ai<|al (ρ' :=[(5,_),(7,_),(14,_),(6,_),(4,_),(2,_),(0,_),(1,_)]) ⟨rfl,rfl,rfl,rfl,rfl,rfl,rfl,rfl,trivial⟩<|ag<|ah<|ah<|aj<|hy (fun _=>aa rfl)<|hy (fun _=>(fw rfl))<|ai<|al (ρ' :=[(35,_),(5,_),(7,_),(14,_),(6,_),(4,_),(2,_),(0,_),(1,_)]) ⟨rfl,rfl,rfl,rfl,rfl,rfl,rfl,rfl,rfl,trivial⟩<|ag<| ?_
   refine di rfl (rfl) ?_
   refine aB<|ag<|ah<|aj<|hy (fun _=>aD rfl lL (by decide))<|hy (fun m=>ar rfl AI (ax (m.aT 0 rfl) (i:=3) rfl))<|hy (fun _=>aa rfl)<|hy (fun _=>cU rfl rfl Tryz.underlying37 lU hA_r2 rfl (by omega))<|hy (fun m=>yV (aX rfl pg lU rfl (wu (m.rd 1 rfl) hch)) ((rfl:_=Value.agg (cv ch.1 ch.2.1 ch.2.2.1 ch.2.2.2).toArray)))<| ?_
   refine hx (aM nH (fun g8=> ?_))
   refine cI (aI 0 rfl rfl rfl lU rfl (q8 (l:=[ch])) rfl ?_)
   refine aL (fun w m=>m.bM 0 rfl (show _=aG g8 186 (cv ch.1 ch.2.1 ch.2.2.1 ch.2.2.2)from rfl)) ?_
   refine ai<|al (ρ' :=[(8,_),(35,_),(5,_),(7,_),(14,_),(6,_),(4,_),(2,_),(0,_),(1,_)]) ⟨rfl,rfl,rfl,rfl,rfl,rfl,rfl,rfl,rfl,rfl,trivial⟩<|ak (X' :=[_,_,_]) (S' :=[_,_,_,_,_]) (fun _ m=>m)<|ag<|ah<|ah<|aj<|hy (fun _=>aD rfl qW (by decide))<|hy (fun m=>ar rfl eY (ax (m.aT 0 rfl) (i:=0) rfl))<|hy (fun _=>b7 rfl rfl)<|ai<|al (ρ' :=[(43,_),(8,_),(35,_),(5,_),(7,_),(14,_),(6,_),(4,_),(2,_),(0,_),(1,_)]) ⟨rfl,rfl,rfl,rfl,rfl,rfl,rfl,rfl,rfl,rfl,rfl,trivial⟩<|ag<| ?_
   refine cL rfl (fun hk=> ?_) (fun hk=> ?_)
   ·rw[if_pos hk]at hfs
    by_cases hb2:(bs.drop (at_+1)).headD false=true
    ·have hlt2:=uu hb2
     have hbit2:=head_drop hlt2
     rw[hb2]at hbit2
     rw[if_pos hb2]at hfs
     refine ah<|aj<|hy (fun _=>aa rfl)<|hy (fun _=>aa rfl)<|hy (fun _=>aR rfl Tryz.underlying28)<|hy (fun _=>yT (br rfl rfl) ((decide_eq_true (by omega))))<|hy (fun _=>aa rfl)<|cx (o:=_) rfl rfl rfl (fun _=>aa rfl)<|cx (o:=_) rfl rfl rfl (fun _=>aa rfl)<|cx (o:=_) rfl rfl rfl (fun _=>aa rfl)<|cx (o:=_) rfl rfl rfl (fun _=>aR rfl Tryz.underlying28)<|cx (o:=_) rfl rfl rfl (fun _=>cm rfl rfl (bA (by omega) (by omega)))<|cx (o:=_) rfl rfl rfl (fun _=>pP rfl rfl)<|cx (o:=_) rfl rfl rfl (fun _=>ln rfl rfl)<|cx (o:=_) rfl rfl rfl (fun _=>aK rfl rfl Tryz.underlying28 Bz hA_k (show((at_+1:Nat):Int)=_ by omega) (by omega))<|cx (o:=_) rfl rfl rfl (fun m=>yV (ar rfl DB ((m.rd 4 rfl).cell (j:=at_+1) hbit2)) ((rfl:_=Value.bool true)))<|hy (fun _=>bE rfl rfl)<|hy (fun _=>ab rfl)<|ai<|al (ρ' :=[(9,_),(43,_),(8,_),(35,_),(5,_),(7,_),(14,_),(6,_),(4,_),(2,_),(0,_),(1,_)]) ⟨rfl,rfl,rfl,rfl,rfl,rfl,rfl,rfl,rfl,rfl,rfl,rfl,trivial⟩<|ag<|ah<|aj<|hy (fun _=>aa rfl)<|hy (fun _=>aJ rfl rfl (bA (by omega) (by omega)))<|hy (fun _=>ab rfl)<|ai<|al (ρ' :=[(5,_),(9,_),(43,_),(8,_),(35,_),(7,_),(14,_),(6,_),(4,_),(2,_),(0,_),(1,_)]) ⟨rfl,rfl,rfl,rfl,rfl,rfl,rfl,rfl,rfl,rfl,rfl,rfl,trivial⟩<|ag<|ah<|aj<|hy (fun _=>aa rfl)<|hy (fun _=>(fw rfl))<|ai<|al (ρ' :=[(62,_),(5,_),(9,_),(43,_),(8,_),(35,_),(7,_),(14,_),(6,_),(4,_),(2,_),(0,_),(1,_)]) ⟨rfl,rfl,rfl,rfl,rfl,rfl,rfl,rfl,rfl,rfl,rfl,rfl,rfl,trivial⟩<|ag<| ?_
     refine di rfl (rfl) ?_
     refine bu (fun w m=>m.gX 1 rfl .same) ?_
     refine ba (fun m=>ik (m.rd 0 rfl)) ?_
     rintro⟨hl_w0,hA_w0⟩
     refine aB<|ag<|aj<|hy (fun _=>aD rfl jj (by decide))<|hy (fun m=>ar rfl j1 (ax (m.aT 1 rfl) (i:=2) rfl))<|hy (fun m=>yV (aX rfl pg lU rfl ((m.aT 0 rfl).ay)) ((rfl:_=Value.agg (cv ch.1 ch.2.1 ch.2.2.1 (ch.2.2.2)).toArray)))<| ?_
     refine hx (ao rfl Tryz.call162 (pz rfl (by omega) (l:=L)) [] rfl [1] rfl ?_)
     rintro _ _ _ ⟨A12,n1,c12,rfl,rfl,rfl,hp⟩
     refine az (fun m=>ik (m.rd 0 rfl)) ?_
     rintro⟨hl_q,hA_q⟩
     refine hy (fun _=>aD rfl jj (by decide))<| ?_
     refine cI (bR 1 rfl rfl rfl tX rfl (by first|exact Nat.le_of_ble_eq_true rfl|simp) ?_)
     refine ai<|al (ρ' :=[(62,_),(5,_),(9,_),(43,_),(8,_),(35,_),(7,_),(14,_),(6,_),(4,_),(2,_),(0,_),(1,_)]) ⟨rfl,rfl,rfl,rfl,rfl,rfl,rfl,rfl,rfl,rfl,rfl,rfl,rfl,trivial⟩<|ak (X' :=[_,_,_]) (S' :=[_,_,_,_,_,_,_]) (fun _ m=>m)<|aQ<|ag<|aj<|hy (fun _=>aa rfl)<|hy (fun _=>aJ rfl rfl (bA (by omega) (by omega)))<|hy (fun _=>ab rfl)<|ai<|al (ρ' :=[(6,_),(62,_),(5,_),(9,_),(43,_),(8,_),(35,_),(7,_),(14,_),(4,_),(2,_),(0,_),(1,_)]) ⟨rfl,rfl,rfl,rfl,rfl,rfl,rfl,rfl,rfl,rfl,rfl,rfl,rfl,trivial⟩<| ?_
     obtain⟨rfl,hle⟩:=hp
     refine ak (fun w m=>m.bM 0 rfl (show _=aG g2 39 (dv x.d.room (.slice x.A x.d.seen.length x.c) (.slice A12 (cY L ch.1 ch.2.1 ch.2.2.1 (ch.2.2.2)).length c12) (.slice x.A3 x.d.waits.length x.c3) x.d.pw)from rfl)) ?_
     refine ix (i+1) (at_+2) (cY L ch.1 ch.2.1 ch.2.2.1 (ch.2.2.2)) A12 c12 ⟨rfl,rfl,rfl,rfl,rfl,rfl,trivial⟩ [0,1] rfl [0,3,4,5,6] rfl (⟨by omega,hfs.symm,by omega,by omega⟩) (by omega)
    ·have hb3:(bs.drop (at_+1)).headD false=false:=by simpa using hb2
     have hsz:=cr ch.2.2.2
     have hbs:=hbw ch (List.mem_of_getElem? hch)
     rw[if_neg hb2]at hfs
     by_cases hlt2:at_+1<bs.length
     ·have hbit2:=head_drop hlt2
      rw[hb3]at hbit2
      refine ah<|aj<|hy (fun _=>aa rfl)<|hy (fun _=>aa rfl)<|hy (fun _=>aR rfl Tryz.underlying28)<|hy (fun _=>yT (br rfl rfl) ((decide_eq_true (by omega))))<|hy (fun _=>aa rfl)<|cx (o:=_) rfl rfl rfl (fun _=>aa rfl)<|cx (o:=_) rfl rfl rfl (fun _=>aa rfl)<|cx (o:=_) rfl rfl rfl (fun _=>aa rfl)<|cx (o:=_) rfl rfl rfl (fun _=>aR rfl Tryz.underlying28)<|cx (o:=_) rfl rfl rfl (fun _=>cm rfl rfl (bA (by omega) (by omega)))<|cx (o:=_) rfl rfl rfl (fun _=>pP rfl rfl)<|cx (o:=_) rfl rfl rfl (fun _=>ln rfl rfl)<|cx (o:=_) rfl rfl rfl (fun _=>aK rfl rfl Tryz.underlying28 Bz hA_k (show((at_+1:Nat):Int)=_ by omega) (by omega))<|cx (o:=_) rfl rfl rfl (fun m=>yV (ar rfl DB ((m.rd 4 rfl).cell (j:=at_+1) hbit2)) ((rfl:_=Value.bool false)))<|hy (fun _=>bE rfl rfl)<|hy (fun _=>ab rfl)<|ai<|al (ρ' :=[(9,_),(43,_),(8,_),(35,_),(5,_),(7,_),(14,_),(6,_),(4,_),(2,_),(0,_),(1,_)]) ⟨rfl,rfl,rfl,rfl,rfl,rfl,rfl,rfl,rfl,rfl,rfl,rfl,trivial⟩<|ag<|ah<|aj<|hy (fun _=>aa rfl)<|hy (fun _=>aJ rfl rfl (bA (by omega) (by omega)))<|hy (fun _=>ab rfl)<|ai<|al (ρ' :=[(5,_),(9,_),(43,_),(8,_),(35,_),(7,_),(14,_),(6,_),(4,_),(2,_),(0,_),(1,_)]) ⟨rfl,rfl,rfl,rfl,rfl,rfl,rfl,rfl,rfl,rfl,rfl,rfl,trivial⟩<|ag<|ah<|aj<|hy (fun _=>aa rfl)<|hy (fun _=>(fw rfl))<|ai<|al (ρ' :=[(62,_),(5,_),(9,_),(43,_),(8,_),(35,_),(7,_),(14,_),(6,_),(4,_),(2,_),(0,_),(1,_)]) ⟨rfl,rfl,rfl,rfl,rfl,rfl,rfl,rfl,rfl,rfl,rfl,rfl,rfl,trivial⟩<|ag<| ?_
      refine fE rfl (rfl) ?_
      refine aj<|hy (fun _=>aD rfl jL (by decide))<|hy (fun m=>yV (ar rfl gU (ax (m.aT 0 rfl) (i:=3) rfl)) ((rfl:_=Value.string (strOf ch.2.2.2))))<|hy (fun _=>aD rfl jL (by decide))<|hy (fun m=>yV (ar rfl gU (ax (m.aT 0 rfl) (i:=3) rfl)) ((rfl:_=Value.string (strOf ch.2.2.2))))<|hy (fun _=>cp rfl Tryz.underlying9)<|hy (fun _=>iI rfl rfl (by omega) (by omega) (bA (by omega) (by omega)))<|hy (fun _=>hC rfl rfl Tryz.underlying9 (show((ch.2.2.2.length/2:Nat):Int)=_ by rw[hsz];omega) (by rw[gx];omega))<|hy (fun _=>aD rfl jL (by decide))<| ?_
      refine cI (bR 0 rfl rfl rfl yB rfl (by first|exact Nat.le_of_ble_eq_true rfl|simp) ?_)
      refine ai<|al (ρ' :=[(62,_),(5,_),(9,_),(43,_),(8,_),(35,_),(7,_),(14,_),(6,_),(4,_),(2,_),(0,_),(1,_)]) ⟨rfl,rfl,rfl,rfl,rfl,rfl,rfl,rfl,rfl,rfl,rfl,rfl,rfl,trivial⟩<|ak (X' :=[_,_,_]) (S' :=[_,_,_,_,_]) (fun _ m=>m)<|ag<|aj<| ?_
      refine aL (fun w m=>m.gX 1 rfl .same) ?_
      refine az (fun m=>ik (m.rd 0 rfl)) ?_
      rintro⟨hl_w0,hA_w0⟩
      refine hy (fun _=>aD rfl jj (by decide))<|hy (fun m=>ar rfl j1 (ax (m.aT 1 rfl) (i:=2) rfl))<|hy (fun m=>yV (aX rfl pg lU rfl ((m.aT 0 rfl).ay)) ((rfl:_=Value.agg (cv ch.1 ch.2.1 ch.2.2.1 ((ch.2.2.2.take (ch.2.2.2.length/2)))).toArray)))<| ?_
      refine hx (ao rfl Tryz.call162 (pz rfl (by omega) (l:=L)) [] rfl [1] rfl ?_)
      rintro _ _ _ ⟨A12,n1,c12,rfl,rfl,rfl,hp⟩
      refine az (fun m=>ik (m.rd 0 rfl)) ?_
      rintro⟨hl_q,hA_q⟩
      refine hy (fun _=>aD rfl jj (by decide))<| ?_
      refine cI (bR 1 rfl rfl rfl tX rfl (by first|exact Nat.le_of_ble_eq_true rfl|simp) ?_)
      refine ai<|al (ρ' :=[(62,_),(5,_),(9,_),(43,_),(8,_),(35,_),(7,_),(14,_),(6,_),(4,_),(2,_),(0,_),(1,_)]) ⟨rfl,rfl,rfl,rfl,rfl,rfl,rfl,rfl,rfl,rfl,rfl,rfl,rfl,trivial⟩<|ak (X' :=[_,_,_]) (S' :=[_,_,_,_,_,_,_]) (fun _ m=>m)<|aQ<|ag<|aj<|hy (fun _=>aa rfl)<|hy (fun _=>aJ rfl rfl (bA (by omega) (by omega)))<|hy (fun _=>ab rfl)<|ai<|al (ρ' :=[(6,_),(62,_),(5,_),(9,_),(43,_),(8,_),(35,_),(7,_),(14,_),(4,_),(2,_),(0,_),(1,_)]) ⟨rfl,rfl,rfl,rfl,rfl,rfl,rfl,rfl,rfl,rfl,rfl,rfl,rfl,trivial⟩<| ?_
      obtain⟨rfl,hle⟩:=hp
      refine ak (fun w m=>m.bM 0 rfl (show _=aG g2 39 (dv x.d.room (.slice x.A x.d.seen.length x.c) (.slice A12 (cY L ch.1 ch.2.1 ch.2.2.1 ((ch.2.2.2.take (ch.2.2.2.length/2)))).length c12) (.slice x.A3 x.d.waits.length x.c3) x.d.pw)from rfl)) ?_
      refine ix (i+1) (at_+2) (cY L ch.1 ch.2.1 ch.2.2.1 ((ch.2.2.2.take (ch.2.2.2.length/2)))) A12 c12 ⟨rfl,rfl,rfl,rfl,rfl,rfl,trivial⟩ [0,1] rfl [0,3,4,5,6] rfl (⟨by omega,hfs.symm,by omega,by omega⟩) (by omega)
     ·refine ah<|aj<|hy (fun _=>aa rfl)<|hy (fun _=>aa rfl)<|hy (fun _=>aR rfl Tryz.underlying28)<|hy (fun _=>yF (br rfl rfl) ((decide_eq_false (by omega))))<|hy (fun _=>aa rfl)<|bg rfl rfl rfl (by decide)<|bg rfl rfl rfl (by decide)<|bg rfl rfl rfl (by decide)<|bg rfl rfl rfl (by decide)<|bg rfl rfl rfl (by decide)<|bg rfl rfl rfl (by decide)<|bg rfl rfl rfl (by decide)<|bg rfl rfl rfl (by decide)<|bg rfl rfl rfl (by decide)<|hy (fun _=>bp rfl rfl)<|hy (fun _=>ab rfl)<|ai<|al (ρ' :=[(9,_),(43,_),(8,_),(35,_),(5,_),(7,_),(14,_),(6,_),(4,_),(2,_),(0,_),(1,_)]) ⟨rfl,rfl,rfl,rfl,rfl,rfl,rfl,rfl,rfl,rfl,rfl,rfl,trivial⟩<|ag<|ah<|aj<|hy (fun _=>aa rfl)<|hy (fun _=>aJ rfl rfl (bA (by omega) (by omega)))<|hy (fun _=>ab rfl)<|ai<|al (ρ' :=[(5,_),(9,_),(43,_),(8,_),(35,_),(7,_),(14,_),(6,_),(4,_),(2,_),(0,_),(1,_)]) ⟨rfl,rfl,rfl,rfl,rfl,rfl,rfl,rfl,rfl,rfl,rfl,rfl,trivial⟩<|ag<|ah<|aj<|hy (fun _=>aa rfl)<|hy (fun _=>(fw rfl))<|ai<|al (ρ' :=[(62,_),(5,_),(9,_),(43,_),(8,_),(35,_),(7,_),(14,_),(6,_),(4,_),(2,_),(0,_),(1,_)]) ⟨rfl,rfl,rfl,rfl,rfl,rfl,rfl,rfl,rfl,rfl,rfl,rfl,rfl,trivial⟩<|ag<| ?_
      refine fE rfl (rfl) ?_
      refine aj<|hy (fun _=>aD rfl jL (by decide))<|hy (fun m=>yV (ar rfl gU (ax (m.aT 0 rfl) (i:=3) rfl)) ((rfl:_=Value.string (strOf ch.2.2.2))))<|hy (fun _=>aD rfl jL (by decide))<|hy (fun m=>yV (ar rfl gU (ax (m.aT 0 rfl) (i:=3) rfl)) ((rfl:_=Value.string (strOf ch.2.2.2))))<|hy (fun _=>cp rfl Tryz.underlying9)<|hy (fun _=>iI rfl rfl (by omega) (by omega) (bA (by omega) (by omega)))<|hy (fun _=>hC rfl rfl Tryz.underlying9 (show((ch.2.2.2.length/2:Nat):Int)=_ by rw[hsz];omega) (by rw[gx];omega))<|hy (fun _=>aD rfl jL (by decide))<| ?_
      refine cI (bR 0 rfl rfl rfl yB rfl (by first|exact Nat.le_of_ble_eq_true rfl|simp) ?_)
      refine ai<|al (ρ' :=[(62,_),(5,_),(9,_),(43,_),(8,_),(35,_),(7,_),(14,_),(6,_),(4,_),(2,_),(0,_),(1,_)]) ⟨rfl,rfl,rfl,rfl,rfl,rfl,rfl,rfl,rfl,rfl,rfl,rfl,rfl,trivial⟩<|ak (X' :=[_,_,_]) (S' :=[_,_,_,_,_]) (fun _ m=>m)<|ag<|aj<| ?_
      refine aL (fun w m=>m.gX 1 rfl .same) ?_
      refine az (fun m=>ik (m.rd 0 rfl)) ?_
      rintro⟨hl_w0,hA_w0⟩
      refine hy (fun _=>aD rfl jj (by decide))<|hy (fun m=>ar rfl j1 (ax (m.aT 1 rfl) (i:=2) rfl))<|hy (fun m=>yV (aX rfl pg lU rfl ((m.aT 0 rfl).ay)) ((rfl:_=Value.agg (cv ch.1 ch.2.1 ch.2.2.1 ((ch.2.2.2.take (ch.2.2.2.length/2)))).toArray)))<| ?_
      refine hx (ao rfl Tryz.call162 (pz rfl (by omega) (l:=L)) [] rfl [1] rfl ?_)
      rintro _ _ _ ⟨A12,n1,c12,rfl,rfl,rfl,hp⟩
      refine az (fun m=>ik (m.rd 0 rfl)) ?_
      rintro⟨hl_q,hA_q⟩
      refine hy (fun _=>aD rfl jj (by decide))<| ?_
      refine cI (bR 1 rfl rfl rfl tX rfl (by first|exact Nat.le_of_ble_eq_true rfl|simp) ?_)
      refine ai<|al (ρ' :=[(62,_),(5,_),(9,_),(43,_),(8,_),(35,_),(7,_),(14,_),(6,_),(4,_),(2,_),(0,_),(1,_)]) ⟨rfl,rfl,rfl,rfl,rfl,rfl,rfl,rfl,rfl,rfl,rfl,rfl,rfl,trivial⟩<|ak (X' :=[_,_,_]) (S' :=[_,_,_,_,_,_,_]) (fun _ m=>m)<|aQ<|ag<|aj<|hy (fun _=>aa rfl)<|hy (fun _=>aJ rfl rfl (bA (by omega) (by omega)))<|hy (fun _=>ab rfl)<|ai<|al (ρ' :=[(6,_),(62,_),(5,_),(9,_),(43,_),(8,_),(35,_),(7,_),(14,_),(4,_),(2,_),(0,_),(1,_)]) ⟨rfl,rfl,rfl,rfl,rfl,rfl,rfl,rfl,rfl,rfl,rfl,rfl,rfl,trivial⟩<| ?_
      obtain⟨rfl,hle⟩:=hp
      refine ak (fun w m=>m.bM 0 rfl (show _=aG g2 39 (dv x.d.room (.slice x.A x.d.seen.length x.c) (.slice A12 (cY L ch.1 ch.2.1 ch.2.2.1 ((ch.2.2.2.take (ch.2.2.2.length/2)))).length c12) (.slice x.A3 x.d.waits.length x.c3) x.d.pw)from rfl)) ?_
      refine ix (i+1) (at_+2) (cY L ch.1 ch.2.1 ch.2.2.1 ((ch.2.2.2.take (ch.2.2.2.length/2)))) A12 c12 ⟨rfl,rfl,rfl,rfl,rfl,rfl,trivial⟩ [0,1] rfl [0,3,4,5,6] rfl (⟨by omega,hfs.symm,by omega,by omega⟩) (by omega)
   ·rw[if_neg hk]at hfs
    refine bu (fun w m=>m.gX 1 rfl .same) ?_
    refine ba (fun m=>ik (m.rd 0 rfl)) ?_
    rintro⟨hl_w0,hA_w0⟩
    refine aB<|ag<|aj<|hy (fun _=>aD rfl jj (by decide))<|hy (fun m=>ar rfl j1 (ax (m.aT 1 rfl) (i:=2) rfl))<|hy (fun m=>yV (aX rfl pg lU rfl ((m.aT 0 rfl).ay)) ((rfl:_=Value.agg (cv ch.1 ch.2.1 ch.2.2.1 (ch.2.2.2)).toArray)))<| ?_
    refine hx (ao rfl Tryz.call162 (pz rfl (by omega) (l:=L)) [] rfl [1] rfl ?_)
    rintro _ _ _ ⟨A12,n1,c12,rfl,rfl,rfl,hp⟩
    refine az (fun m=>ik (m.rd 0 rfl)) ?_
    rintro⟨hl_q,hA_q⟩
    refine hy (fun _=>aD rfl jj (by decide))<| ?_
    refine cI (bR 1 rfl rfl rfl tX rfl (by first|exact Nat.le_of_ble_eq_true rfl|simp) ?_)
    refine ai<|al (ρ' :=[(43,_),(8,_),(35,_),(5,_),(7,_),(14,_),(6,_),(4,_),(2,_),(0,_),(1,_)]) ⟨rfl,rfl,rfl,rfl,rfl,rfl,rfl,rfl,rfl,rfl,rfl,trivial⟩<|ak (X' :=[_,_,_]) (S' :=[_,_,_,_,_,_,_]) (fun _ m=>m)<|aQ<|ag<|aj<|hy (fun _=>aa rfl)<|hy (fun _=>aJ rfl rfl (bA (by omega) (by omega)))<|hy (fun _=>ab rfl)<|ai<|al (ρ' :=[(6,_),(43,_),(8,_),(35,_),(5,_),(7,_),(14,_),(4,_),(2,_),(0,_),(1,_)]) ⟨rfl,rfl,rfl,rfl,rfl,rfl,rfl,rfl,rfl,rfl,rfl,trivial⟩<| ?_
    obtain⟨rfl,hle⟩:=hp
    refine ak (fun w m=>m.bM 0 rfl (show _=aG g2 39 (dv x.d.room (.slice x.A x.d.seen.length x.c) (.slice A12 (cY L ch.1 ch.2.1 ch.2.2.1 (ch.2.2.2)).length c12) (.slice x.A3 x.d.waits.length x.c3) x.d.pw)from rfl)) ?_
    refine ix (i+1) (at_+1) (cY L ch.1 ch.2.1 ch.2.2.1 (ch.2.2.2)) A12 c12 ⟨rfl,rfl,rfl,rfl,rfl,rfl,trivial⟩ [0,1] rfl [0,3,4,5,6] rfl (⟨by omega,hfs.symm,by omega,by omega⟩) (by omega)
  ·have hb3:(bs.drop at_).headD false=false:=by simpa using hb
   have hds:fF (bs.drop at_,L) ch=(bs.drop (at_+1),L):=by
    unfold fF
    rw[if_neg (by rw[hb3];decide)]
    simp only[tail_drop]
   rw[hds]at hfs
   by_cases hlt1:at_<bs.length
   ·have hbit:=head_drop hlt1
    rw[hb3]at hbit
    refine aB<|ag<|ah<|aN<|ah<|aj<|hy (fun _=>aa rfl)<|hy (fun _=>aa rfl)<|hy (fun _=>aR rfl Tryz.underlying28)<|hy (fun _=>yT (br rfl rfl) ((decide_eq_true (by omega))))<|hy (fun _=>aa rfl)<|cx (o:=_) rfl rfl rfl (fun _=>aa rfl)<|cx (o:=_) rfl rfl rfl (fun _=>aa rfl)<|cx (o:=_) rfl rfl rfl (fun _=>aa rfl)<|cx (o:=_) rfl rfl rfl (fun _=>aR rfl Tryz.underlying28)<|cx (o:=_) rfl rfl rfl (fun _=>cm rfl rfl (bA (by omega) (by omega)))<|cx (o:=_) rfl rfl rfl (fun _=>pP rfl rfl)<|cx (o:=_) rfl rfl rfl (fun _=>ln rfl rfl)<|cx (o:=_) rfl rfl rfl (fun _=>aK rfl rfl Tryz.underlying28 Bz hA_k (show((at_:Nat):Int)=_ by omega) (by omega))<|cx (o:=_) rfl rfl rfl (fun m=>yV (ar rfl DB ((m.rd 4 rfl).cell (j:=at_) hbit)) ((rfl:_=Value.bool false)))<|hy (fun _=>bE rfl rfl)<|hy (fun _=>ab rfl)<|ai<|al (ρ' :=[(7,_),(14,_),(5,_),(6,_),(4,_),(2,_),(0,_),(1,_)]) ⟨rfl,rfl,rfl,rfl,rfl,rfl,rfl,rfl,trivial⟩<|ag<|ah<|aj<|hy (fun _=>aa rfl)<|hy (fun _=>aJ rfl rfl (bA (by omega) (by omega)))<|hy (fun _=>ab rfl)<|ai<|al (ρ' :=[(5,_),(7,_),(14,_),(6,_),(4,_),(2,_),(0,_),(1,_)]) ⟨rfl,rfl,rfl,rfl,rfl,rfl,rfl,rfl,trivial⟩<|ag<|ah<|ah<|aj<|hy (fun _=>aa rfl)<|hy (fun _=>(fw rfl))<|ai<|al (ρ' :=[(35,_),(5,_),(7,_),(14,_),(6,_),(4,_),(2,_),(0,_),(1,_)]) ⟨rfl,rfl,rfl,rfl,rfl,rfl,rfl,rfl,rfl,trivial⟩<|ag<| ?_
    refine fE rfl (rfl) ?_
    refine bP<|au<|aC<|ag<|aj<|hy (fun _=>aa rfl)<|hy (fun _=>aJ rfl rfl (bA (by omega) (by omega)))<|hy (fun _=>ab rfl)<|ai<|al (ρ' :=[(6,_),(35,_),(5,_),(7,_),(14,_),(4,_),(2,_),(0,_),(1,_)]) ⟨rfl,rfl,rfl,rfl,rfl,rfl,rfl,rfl,rfl,trivial⟩<| ?_
    refine ix (i+1) (at_+1) L A1 c1 ⟨rfl,rfl,rfl,rfl,rfl,rfl,trivial⟩ [0,0] rfl [0,1,2,3,4] rfl (⟨by omega,hfs.symm,by omega,by omega⟩) (by omega)
   ·refine aB<|ag<|ah<|aN<|ah<|aj<|hy (fun _=>aa rfl)<|hy (fun _=>aa rfl)<|hy (fun _=>aR rfl Tryz.underlying28)<|hy (fun _=>yF (br rfl rfl) ((decide_eq_false (by omega))))<|hy (fun _=>aa rfl)<|bg rfl rfl rfl (by decide)<|bg rfl rfl rfl (by decide)<|bg rfl rfl rfl (by decide)<|bg rfl rfl rfl (by decide)<|bg rfl rfl rfl (by decide)<|bg rfl rfl rfl (by decide)<|bg rfl rfl rfl (by decide)<|bg rfl rfl rfl (by decide)<|bg rfl rfl rfl (by decide)<|hy (fun _=>bp rfl rfl)<|hy (fun _=>ab rfl)<|ai<|al (ρ' :=[(7,_),(14,_),(5,_),(6,_),(4,_),(2,_),(0,_),(1,_)]) ⟨rfl,rfl,rfl,rfl,rfl,rfl,rfl,rfl,trivial⟩<|ag<|ah<|aj<|hy (fun _=>aa rfl)<|hy (fun _=>aJ rfl rfl (bA (by omega) (by omega)))<|hy (fun _=>ab rfl)<|ai<|al (ρ' :=[(5,_),(7,_),(14,_),(6,_),(4,_),(2,_),(0,_),(1,_)]) ⟨rfl,rfl,rfl,rfl,rfl,rfl,rfl,rfl,trivial⟩<|ag<|ah<|ah<|aj<|hy (fun _=>aa rfl)<|hy (fun _=>(fw rfl))<|ai<|al (ρ' :=[(35,_),(5,_),(7,_),(14,_),(6,_),(4,_),(2,_),(0,_),(1,_)]) ⟨rfl,rfl,rfl,rfl,rfl,rfl,rfl,rfl,rfl,trivial⟩<|ag<| ?_
    refine fE rfl (rfl) ?_
    refine bP<|au<|aC<|ag<|aj<|hy (fun _=>aa rfl)<|hy (fun _=>aJ rfl rfl (bA (by omega) (by omega)))<|hy (fun _=>ab rfl)<|ai<|al (ρ' :=[(6,_),(35,_),(5,_),(7,_),(14,_),(4,_),(2,_),(0,_),(1,_)]) ⟨rfl,rfl,rfl,rfl,rfl,rfl,rfl,rfl,rfl,trivial⟩<| ?_
    refine ix (i+1) (at_+1) L A1 c1 ⟨rfl,rfl,rfl,rfl,rfl,rfl,trivial⟩ [0,0] rfl [0,1,2,3,4] rfl (⟨by omega,hfs.symm,by omega,by omega⟩) (by omega)
 ·obtain rfl:i=x.d.waits.length:=by omega
  have hLL:L=(dfold bs x.d x.d.waits.length).2:=by rw[←hf]
  refine bu (fun w m=>m.pH (r' :=dr 4 none 0 []) (.refl _ _) (Rd.nil _ _ _) (fun k hk=>absurd rfl hk.1)) ?_
  have hA_z:0<0→(none:Option Addr)≠none:=fun h=>absurd h (by decide)
  refine bP<|au<|au<|aC<|ag<|ah<|aj<|hy (fun _=>aD rfl jj (by decide))<|hy (fun m=>ar rfl j1 (ax (m.aT 0 rfl) (i:=2) rfl))<|hy (fun _=>aD rfl fl (by decide))<| ?_
  refine cI (bR 0 rfl rfl rfl tX rfl (by first|exact Nat.le_of_ble_eq_true rfl|simp) ?_)
  refine ai<|al (ρ' :=[(14,_),(5,_),(6,_),(4,_),(2,_),(0,_),(1,_)]) ⟨rfl,rfl,rfl,rfl,rfl,rfl,rfl,trivial⟩<|ak (X' :=[_,_]) (S' :=[_,_,_,_,_,_]) (fun _ m=>m)<|ag<|ah<|aj<|hy (fun _=>aD rfl lL (by decide))<| ?_
  refine cI (bR 0 rfl rfl rfl BC rfl (by first|exact Nat.le_of_ble_eq_true rfl|simp) ?_)
  refine ai<|al (ρ' :=[(14,_),(5,_),(6,_),(4,_),(2,_),(0,_),(1,_)]) ⟨rfl,rfl,rfl,rfl,rfl,rfl,rfl,trivial⟩<|ak (X' :=[_,_]) (S' :=[_,_,_,_,_,_]) (fun _ m=>m)<|ag<|ah<|aj<|hy (fun _=>aD rfl gL (by decide))<| ?_
  refine cI (bR 0 rfl rfl rfl tf rfl (by first|exact Nat.le_of_ble_eq_true rfl|simp) ?_)
  refine ai<|al (ρ' :=[(14,_),(5,_),(6,_),(4,_),(2,_),(0,_),(1,_)]) ⟨rfl,rfl,rfl,rfl,rfl,rfl,rfl,trivial⟩<|ak (X' :=[_,_]) (S' :=[_,_,_,_,_,_]) (fun _ m=>m)<|ag<|ah<|aj<| ?_
  refine aL (S' :=cT ⟨{x.d with seen:=L,b4:=L,waits:=[],pw:=-1},A1,c1,A1,c1,none,0⟩::_) (fun w m=>m.zp [1,1,0] rfl) ?_
  refine aL (fun w m=>m.bM 0 rfl (show _=aG g2 39 (RX.cs ⟨{x.d with seen:=L,b4:=L,waits:=[],pw:=-1},A1,c1,A1,c1,none,0⟩)from rfl)) ?_
  refine hy (fun m=>yV (aX rfl ca bf rfl ((m.aT 0 rfl).ay)) ((rfl:_=Value.agg (RX.cs ⟨{x.d with seen:=L,b4:=L,waits:=[],pw:=-1},A1,c1,A1,c1,none,0⟩).toArray)))<| ?_
  refine cI (aI 1 rfl rfl rfl bf rfl bK rfl ?_)
  refine ai<|al (ρ' :=[(14,_),(5,_),(6,_),(4,_),(2,_),(0,_),(1,_)]) ⟨rfl,rfl,rfl,rfl,rfl,rfl,rfl,trivial⟩<|ak (X' :=[_,_]) (S' :=[_,_,_,_,_,_,_]) (fun _ m=>m)<|ag<|aU<| ?_
  exact fC trivial rfl rfl ca bf rfl (fun m=>(m.aT 0 rfl).ay) [] rfl [0] rfl ⟨_,rfl,rfl,rfl,by rw[hLL];rfl⟩
end Go.Proofs.YtmibdabdlgmafaaGreatDoor
end
section
namespace Go.Proofs.YtmibdabdlgmafaaGreatDoor
open Go.Eng Go.Hx
theorem fa.del{fs:dg}{l:List FP}(h:fa fs l)(p:List UInt8):fa (eA fs p) (ec l p):=by
 refine⟨ni _ h.ord,lK h.nd,fun q=> ?_,fun x hx=> ?_⟩
 ·rw[vo h.nd]
  have:=kR p l q
  unfold ec
  rw[this]
  by_cases hq:p=q
  ·rw[if_pos hq,if_pos hq.symm];rfl
  ·rw[if_neg hq,if_neg (fun e=>hq e.symm)];exact h.look q
 ·have h1:=iw (List.mem_map.2 ⟨x,hx,rfl⟩)
  obtain⟨y,hy,e⟩:=List.mem_map.1 h1
  rw[←e];exact h.len y hy
theorem fa.at{fs:dg}{l:List FP}(h:fa fs l)(p:List UInt8):(cn fs p=none∧l[cS l p]? =none)∨∃r x,cn fs p=some r∧l[cS l p]? =some x∧r.l=x.2∧r.n=r.l.length:=by
 have h1:=h.look p
 rw[←iQ]at h1
 cases ha:cn fs p with
 |none=>
  rw[ha]at h1
  cases hb:l[cS l p]? with
  |none=>exact .inl ⟨rfl,rfl⟩
  |some y=>rw[hb]at h1;cases h1
 |some r=>
  rw[ha]at h1
  cases hb:l[cS l p]? with
  |none=>rw[hb]at h1;cases h1
  |some y=>
   rw[hb]at h1
   exact .inr ⟨r,y,rfl,rfl,Option.some.inj h1,h.len _ (iB ha)⟩
def fj.rc:fj→RC
 | .written p r=>(0,p,[],r.l)
 | .renamed a c=>(1,a,c,[])
 | .removed p=>(2,p,[],[])
def fj.wl(c:fj):Prop:=∀r,c.row=some r→r.n=r.l.length
theorem fa.nP{fs:dg}{l:List FP}(h:fa fs l){c:fj}(hc:c.wl):fa (nP fs c) (cY l c.rc.1 c.rc.2.1 c.rc.2.2.1 c.rc.2.2.2):=by
 cases c with
 |written p r=>
  rw[cY]
  exact h.put (hc r rfl)
 |renamed a b=>
  rw[cY]
  simp only[fj.rc,Go.Proofs.YtmibdabdlgmafaaGreatDoor.nP]
  rcases h.at a with⟨h1,h2⟩|⟨r,x,h1,h2,h3,h4⟩
  ·simp only[h1,h2];exact h
  ·simp only[h1,h2]
   rw[←h3]
   exact(h.del a).put h4
 |removed p=>
  rw[cY]
  simp only[fj.rc,Go.Proofs.YtmibdabdlgmafaaGreatDoor.nP]
  rcases h.at p with⟨h1,h2⟩|⟨r,x,h1,h2,h3,h4⟩
  ·simp only[h2]
   have e:eA fs p=fs:=by
    have hk:¬p∈cq fs:=k4.1 h1
    clear h h2 h1
    induction fs with
    |nil=>rfl
    |cons a q ih=>
     obtain⟨k,u⟩:=a
     simp only[cq,List.map_cons,List.mem_cons,not_or]at hk
     simp only[eA]
     rw[if_neg (fun e=>hk.1 e.symm),ih hk.2]
   rw[if_neg (by decide),e];exact h
  ·simp only[h2]
   rw[if_neg (by decide)]
   exact h.del p
structure DS(st:cH)(d:RD)(k:Nat):Prop where
 lR:tv st d
 ok:mF st k
 low:-1≤d.pw
 b4:fa st.b4 d.b4
 waits:st.waits.map fj.rc=d.waits
 vZ:∀c∈st.waits,c.wl
theorem DS.le{st:cH}{d:RD}{k k' :Nat}(h:DS st d k)(hk:k≤k'):DS st d k' :=⟨h.lR,h.ok.le hk,h.low,h.b4,h.waits,h.vZ⟩
theorem DS.so{st:cH}{d:RD}{k:Nat}(h:DS st d k):vi d k:=by
 refine⟨?_, ?_, ?_,by have:=h.low;omega, ?_⟩
 ·rw[←h.lR.files.tW];exact h.ok.seen
 ·rw[←h.lR.waits];have:=h.ok.rest;omega
 ·rw[←h.lR.files.ka];exact h.ok.ka
 ·rw[←h.lR.bS];exact h.ok.bS
theorem DS.init{n:Int}{gs gl:Nat}(h:n≤1048576):DS (j9 n gs gl) (RD.new n) 0:=
 ⟨⟨rfl,rfl,fa.nil,rfl⟩,mF.init h,Int.le_refl _,fa.nil,rfl,fun c hc=>by cases hc⟩
theorem pV{p:Int}(h:-1≤p):-1≤eL p:=by
 unfold eL
 split <;> omega
theorem DS.gi{st:cH}{d:RD}{k:Nat}(h:DS st d k){c:fj}(hc:c.wl){st1:cH}(hs:st1.room=st.room∧st1.b4=st.b4∧st1.bS=st.eI.bS∧st1.seen=nP st.seen c∧st1.waits=st.waits++[c])(ok:mF st1 (k+1)):
  DS st1 (d.gi c.rc.1 c.rc.2.1 c.rc.2.2.1 c.rc.2.2.2) (k+1):=by
 obtain⟨h1,h2,h3,h4,h5⟩:=hs
 refine⟨⟨h1.trans h.lR.room, ?_, ?_, ?_⟩,ok,pV h.low, ?_, ?_,fun x hx=> ?_⟩
 ·rw[h3]
  show(if 0<st.bS then st.bS-1 else st.bS)=eL d.pw
  rw[h.lR.bS];rfl
 ·rw[h4];exact h.lR.files.nP hc
 ·rw[h5,List.length_append,h.lR.waits]
  show _=(d.waits++[_]).length
  rw[List.length_append];rfl
 ·rw[h2];exact h.b4
 ·rw[h5,List.map_append,h.waits];rfl
 ·rw[h5]at hx
  rcases List.mem_append.1 hx with hx|hx
  ·exact h.vZ x hx
  ·rw[List.mem_singleton.1 hx];exact hc
theorem DS.write{st st1:cH}{d:RD}{k n:Nat}(h:DS st d k){p l:List UInt8}{B A:Option Addr}{c1 c2:Nat}(hl:l.length=n)(hn:n≤1048576)
  (hw:(bH st p n≠0∧st1=st)∨(bH st p n=0∧st1=st.wrote p ⟨B,n,c1,l⟩ A c2)):DS st1 (d.write p l) (k+1)∧d.bH p l=bH st p n:=by
 subst hl
 have e:=h.lR.bH p l
 refine⟨?_,e.symm⟩
 unfold RD.write
 rw[←e]
 rcases hw with⟨h1,rfl⟩|⟨h1,rfl⟩
 ·rw[if_neg h1];exact h.le (Nat.le_succ _)
 ·rw[if_pos h1]
  exact h.gi (c:=.written p ⟨B,l.length,c1,l⟩) (fun r hr=>by cases hr;rfl) ⟨rfl,rfl,rfl,rfl,rfl⟩ (h.ok.wrote hn A c2)
theorem DS.cC{st:cH}{d:RD}{k:Nat}(h:DS st d k)(p:List UInt8):d.cC p=dH st p:=(h.lR.cC p).symm
theorem DS.cJ{st:cH}{d:RD}{k:Nat}(h:DS st d k)(p:List UInt8):d.cJ p=cJ st p:=(h.lR.cJ p).symm
theorem DS.rename{st st1:cH}{d:RD}{k:Nat}(h:DS st d k){a c:List UInt8}{A:Option Addr}{j:Nat}
  (hw:(bZ st a c≠0∧st1=st)∨(bZ st a c=0∧st1=st.gi (.renamed a c) A j)):DS st1 (d.rename a c) (k+1)∧d.bZ a c=bZ st a c:=by
 have e:d.bZ a c=bZ st a c:=by
  unfold RD.bZ Go.Proofs.YtmibdabdlgmafaaGreatDoor.bZ
  rw[h.cC]
 refine⟨?_,e⟩
 unfold RD.rename
 rw[e]
 rcases hw with⟨h1,rfl⟩|⟨h1,rfl⟩
 ·rw[if_neg h1];exact h.le (Nat.le_succ _)
 ·rw[if_pos h1]
  exact h.gi (c:=.renamed a c) (fun r hr=>by cases hr) ⟨rfl,rfl,rfl,rfl,rfl⟩ (h.ok.gi rfl A j)
theorem DS.remove{st st1:cH}{d:RD}{k:Nat}(h:DS st d k){p:List UInt8}{A:Option Addr}{j:Nat}
  (hw:(dH st p≠0∧st1=st)∨(dH st p=0∧st1=st.gi (.removed p) A j)):DS st1 (d.remove p) (k+1):=by
 unfold RD.remove
 rw[h.cC]
 rcases hw with⟨h1,rfl⟩|⟨h1,rfl⟩
 ·rw[if_neg h1];exact h.le (Nat.le_succ _)
 ·rw[if_pos h1]
  exact h.gi (c:=.removed p) (fun r hr=>by cases hr) ⟨rfl,rfl,rfl,rfl,rfl⟩ (h.ok.gi rfl A j)
theorem DS.sync{st st1:cH}{d:RD}{k gl:Nat}(h:DS st d k)(hw:(st.bS=0∧st1=st)∨(st.bS≠0∧st1=st.synced gl)):DS st1 d.sync k∧d.dC=dC st:=by
 have e:d.dC=dC st:=by unfold RD.dC Go.Proofs.YtmibdabdlgmafaaGreatDoor.dC;rw[h.lR.bS]
 refine⟨?_,e⟩
 unfold RD.sync
 rw[←h.lR.bS]
 rcases hw with⟨h1,rfl⟩|⟨h1,rfl⟩
 ·rw[if_pos h1];exact h
 ·rw[if_neg h1]
  refine⟨⟨h.lR.room, ?_,h.lR.files,rfl⟩,h.ok.synced gl, ?_,h.lR.files,rfl,fun c hc=>by cases hc⟩
  ·rfl
  ·rw[h.lR.bS];exact pV h.low
theorem DS.bS{st:cH}{d:RD}{k:Nat}(h:DS st d k){n:Int}(hn:n≤1000000000000):DS (st.mo n) (d.bS n) k:=by
 refine⟨⟨h.lR.room,rfl,h.lR.files,h.lR.waits⟩,⟨?_,h.ok.room,h.ok.seen,h.ok.rest,h.ok.small⟩, ?_,h.b4,h.waits,h.vZ⟩
 ·show max n (-1)≤_;omega
 ·show-1≤max n (-1);omega
theorem vm{ks:List Bool}{L:dg}{l:List FP}{c:fj}(h:fa L l)(hc:c.wl):(gT (ks,L) c).1=(fF (ks,l) c.rc).1∧fa (gT (ks,L) c).2 (fF (ks,l) c.rc).2:=by
 unfold gT fF
 by_cases hb:ks.headD false=true
 ·rw[if_pos hb,if_pos hb]
  cases c with
  |written p r=>
   rw[if_pos (show(fj.rc (.written p r)).1=0 from rfl)]
   refine⟨rfl, ?_⟩
   have hr:=hc r rfl
   by_cases hb2:ks.tail.headD false=true
   ·simp only[hb2,if_true]
    exact h.nP hc
   ·simp only[hb2,if_false]
    have e:(fj.written p r.half).rc=(0,p,[],r.l.take (r.l.length/2)):=by simp[fj.rc,ej.half,hr]
    have:=h.nP (c:=.written p r.half) (fun x hx=>by cases hx;simp[ej.half];omega)
    rw[e]at this
    exact this
  |renamed a b=>exact⟨rfl,h.nP hc⟩
  |removed p=>exact⟨rfl,h.nP hc⟩
 ·rw[if_neg hb,if_neg hb]
  exact⟨rfl,h⟩
theorem sB:∀(cs:List fj) {ks:List Bool} {L:dg} {l:List FP},fa L l→(∀c∈cs,c.wl)→(cs.foldl gT (ks,L)).1=((cs.map fj.rc).foldl fF (ks,l)).1∧fa (cs.foldl gT (ks,L)).2 ((cs.map fj.rc).foldl fF (ks,l)).2
 | [],ks,L,l,h,hc=>⟨rfl,h⟩
 |c::r,ks,L,l,h,hc=>by
  obtain⟨h1,h2⟩:=vm (ks:=ks) h (hc c (List.mem_cons_self ..))
  have e:fF (ks,l) c.rc=((gT (ks,L) c).1,(fF (ks,l) c.rc).2):=by rw[h1]
  rw[List.map_cons,List.foldl_cons,List.foldl_cons,e]
  exact sB r h2 (fun x hx=>hc x (List.mem_cons_of_mem _ hx))
theorem DS.ic{st:cH}{d:RD}{k:Nat}(h:DS st d k)(keep:List Bool)(gs:Nat):DS (st.started keep gs) (d.ic keep) k:=by
 have hf:=(sB st.waits (ks:=keep) h.b4 h.vZ).2
 rw[h.waits]at hf
 have e1:er keep st st.waits.length=st.waits.foldl gT (keep,st.b4):=by rw[er,List.take_of_length_le (Nat.le_refl _)]
 have e2:dfold keep d d.waits.length=d.waits.foldl fF (keep,d.b4):=by rw[dfold,List.take_of_length_le (Nat.le_refl _)]
 rw[←e1,←e2]at hf
 exact⟨⟨h.lR.room,rfl,hf,rfl⟩,h.ok.started keep gs,by show-1≤(-1:Int);omega,hf,rfl,fun c hc=>by cases hc⟩
theorem DS.Bw{st:cH}{d:RD}{k:Nat}(h:DS st d k):∀c∈d.waits,c.2.2.2.length≤1048576:=by
 intro c hc
 rw[←h.waits]at hc
 obtain⟨x,hx,rfl⟩:=List.mem_map.1 hc
 cases x with
 |written p r=>
  have h1:=h.vZ _ hx r rfl
  have h2:=h.ok.small r (by unfold rowsOf;exact List.mem_append_right _ (List.mem_filterMap.2 ⟨_,hx,rfl⟩))
  show r.l.length≤_
  omega
 |renamed a b=>exact Nat.zero_le _
 |removed p=>exact Nat.zero_le _
theorem DS.BP{st:cH}{d:RD}{k:Nat}(h:DS st d k):d.b4.length≤k:=by
 rw[←h.b4.tW];have:=h.ok.rest;omega
def RD.ok(d:RD)(k:Nat):Prop:=∃st,DS st d k
theorem RD.ok.so{d:RD}{k:Nat}(h:d.ok k):vi d k:=by obtain⟨st,h⟩:=h;exact h.so
theorem RD.ok.le{d:RD}{k k' :Nat}(h:d.ok k)(hk:k≤k'):d.ok k' :=by obtain⟨st,h⟩:=h;exact⟨st,h.le hk⟩
theorem RD.ok.write{d:RD}{k:Nat}(h:d.ok k){p l:List UInt8}(hl:l.length≤1048576):(d.write p l).ok (k+1):=by
 obtain⟨st,h⟩:=h
 by_cases he:Go.Proofs.YtmibdabdlgmafaaGreatDoor.bH st p l.length=0
 ·exact⟨_,(h.write (st1:=st.wrote p ⟨none,l.length,0,l⟩ none 0) rfl hl (.inr ⟨he,rfl⟩)).1⟩
 ·exact⟨_,(h.write (B:=none) (A:=none) (c1:=0) (c2:=0) (st1:=st) rfl hl (.inl ⟨he,rfl⟩)).1⟩
theorem RD.ok.rename{d:RD}{k:Nat}(h:d.ok k){a c:List UInt8}:(d.rename a c).ok (k+1):=by
 obtain⟨st,h⟩:=h
 by_cases he:Go.Proofs.YtmibdabdlgmafaaGreatDoor.bZ st a c=0
 ·exact⟨_,(h.rename (st1:=st.gi (.renamed a c) none 0) (.inr ⟨he,rfl⟩)).1⟩
 ·exact⟨_,(h.rename (A:=none) (j:=0) (st1:=st) (.inl ⟨he,rfl⟩)).1⟩
theorem RD.ok.remove{d:RD}{k:Nat}(h:d.ok k){p:List UInt8}:(d.remove p).ok (k+1):=by
 obtain⟨st,h⟩:=h
 by_cases he:dH st p=0
 ·exact⟨_,h.remove (st1:=st.gi (.removed p) none 0) (.inr ⟨he,rfl⟩)⟩
 ·exact⟨_,h.remove (A:=none) (j:=0) (st1:=st) (.inl ⟨he,rfl⟩)⟩
theorem RD.ok.sync{d:RD}{k:Nat}(h:d.ok k):d.sync.ok k:=by
 obtain⟨st,h⟩:=h
 by_cases he:st.bS=0
 ·exact⟨_,(h.sync (gl:=0) (st1:=st) (.inl ⟨he,rfl⟩)).1⟩
 ·exact⟨_,(h.sync (st1:=st.synced 0) (.inr ⟨he,rfl⟩)).1⟩
end Go.Proofs.YtmibdabdlgmafaaGreatDoor
end
section
namespace Go.Hx
open Go.Eng
def chunks(k:Nat)(l:List UInt8):List (List UInt8):=(List.range k).map fun i=>(l.drop (32*i)).take 32
theorem oF{k:Nat}{l:List UInt8}(h:32*k≤l.length):y6 (chunks k l):=by
 intro x hx
 simp only[chunks,List.mem_map,List.mem_range]at hx
 obtain⟨i,hi,rfl⟩:=hx
 rw[List.length_take,List.length_drop]
 omega
def kb(l:List UInt8):Nat:=(l.getD 0 0).toNat+256*(l.getD 1 0).toNat+65536*(l.getD 2 0).toNat+16777216*(l.getD 3 0).toNat
theorem zx(l:List UInt8):kb l<4294967296:=by
 have h0:=(l.getD 0 0).toNat_lt
 have h1:=(l.getD 1 0).toNat_lt
 have h2:=(l.getD 2 0).toNat_lt
 have h3:=(l.getD 3 0).toNat_lt
 unfold kb
 omega
theorem yM{n:Nat}(h:n<4294967296):kb (gz n)=n:=by
 simp only[gz,kb,List.getD_cons_zero,List.getD_cons_succ,UInt8.toNat_ofNat']
 omega
end Go.Hx
end
section
namespace Go.Hx
open Go.Eng
def acc(l:List UInt8):Nat→Nat
 |0=>0
 |j+1=>acc l j*256+(l.getD (3-j) 0).toNat
theorem yo(l:List UInt8):∀j,acc l j<256 ^ j
 |0=>by simp[acc]
 |j+1=>by
  have h1:=yo l j
  have h2:=(l.getD (3-j) 0).toNat_lt
  rw[acc,Nat.pow_succ]
  omega
theorem Cy(l:List UInt8){j:Nat}(h:j≤4):acc l j<4294967296:=by
 have h1:=yo l j
 have h2:256 ^ j≤256 ^ 4:=Nat.pow_le_pow_right (by decide) h
 have h3:256 ^ 4=4294967296:=by decide
 omega
theorem Ej(l:List UInt8):acc l 4=kb l:=by
 have e:(3-0=3)∧(3-1=2)∧(3-2=1)∧(3-3=0):=by decide
 simp only[acc,kb,e.1,e.2.1,e.2.2.1,e.2.2.2]
 omega
theorem zJ(a b:Nat)(ha:a<4294967296)(hb:b<256):bits .or .i64 (a*256:Int) (b:Int)=((a*256+b:Nat):Int):=by
 have h1:(a*256:Int)=((a*256:Nat):Int):=by simp
 have h2:a*256 ||| b=a*256+b:=by rw[Nat.mul_comm a 256,show 256=2 ^ 8 from rfl,Nat.two_pow_add_eq_or_of_lt (by simpa using hb)]
 have e0:∀n:Nat,n<18446744073709551616→(BitVec.ofInt 64 (n:Int)).toNat=n:=fun n hn=>by
  rw[BitVec.toNat_ofInt]
  simp
  omega
 rw[h1]
 show IntKind.i64.wrap ((BitVec.ofInt 64 ((a*256:Nat):Int) ||| BitVec.ofInt 64 (b:Int)).toNat:Int)=_
 rw[BitVec.toNat_or,e0 _ (by omega),e0 _ (by omega),h2]
 exact bA (by omega) (by omega)
end Go.Hx
end
section
namespace Go.Hx
open Go.Eng
def cO(l:List UInt8):Nat×Nat×Nat×Bool:=
 if(l.getD 0 0).toNat<128 then((l.getD 0 0).toNat+2,(l.getD 0 0).toNat+1,0,decide ((l.getD 0 0).toNat+2≤l.length))
 else if l.length<3 then(0,0,0,false)else(3,(l.getD 0 0).toNat-124,1+(l.getD 1 0).toNat+256*(l.getD 2 0).toNat,true)
def again(d:Nat):Nat→List UInt8→List UInt8
 |0,o=>o
 |k+1,o=>again d k (o++[o.getD (o.length-d) 0])
theorem mq(d:Nat):∀(k:Nat) (o:List UInt8),(again d k o).length=o.length+k
 |0,o=>rfl
 |k+1,o=>by rw[again,mq d k];simp;omega
theorem lf{l:List UInt8}(h:(cO l).2.2.2=true):2≤(cO l).1∧(cO l).1≤l.length:=by
 unfold cO at h ⊢
 split at h
 ·rename_i h1
  rw[if_pos h1]
  have:=of_decide_eq_true h
  exact⟨by show 2≤_+2;omega,this⟩
 ·rename_i h1
  rw[if_neg h1]
  split at h
  ·cases h
  ·rename_i h2
   rw[if_neg h2]
   exact⟨by show 2≤3;decide,by show 3≤_;omega⟩
theorem Cc(l:List UInt8):(cO l).2.1≤131∧(cO l).2.2.1≤65536:=by
 have h0:=(l.getD 0 0).toNat_lt
 have h1:=(l.getD 1 0).toNat_lt
 have h2:=(l.getD 2 0).toNat_lt
 unfold cO
 split
 ·exact⟨by show _+1≤_;omega,by show 0≤_;omega⟩
 ·split
  ·exact⟨by show 0≤_;omega,by show 0≤_;omega⟩
  ·exact⟨by show _-124≤_;omega,by show 1+_+256*_≤_;omega⟩
def made(l o:List UInt8):List UInt8:=if(cO l).2.2.1=0 then o++(l.drop 1).take ((cO l).1-1)else again (cO l).2.2.1 (cO l).2.1 o
def jE(most:Int)(l o:List UInt8):List UInt8×Int:=
 if h0:l=[]then(o,0)
 else if h1:(cO l).2.2.2=true then
  if o.length<(cO l).2.2.1 then([],2)else if most<(o.length:Int)+((cO l).2.1:Nat)then([],3)else jE most (l.drop (cO l).1) (made l o)
 else([],2)
termination_by l.length
decreasing_by
 obtain⟨h2,h3⟩:=lf h1
 rw[List.length_drop]
 omega
theorem n4(most:Int)(o:List UInt8):jE most [] o=(o,0):=by
 rw[jE]
 rfl
theorem kU{most:Int}{l o:List UInt8}(h0:l≠ [])(h:¬((cO l).2.2.2=true∧(cO l).2.2.1≤o.length)):jE most l o=([],2):=by
 rw[jE,dif_neg h0]
 split
 ·rename_i h1
  rw[if_pos (Nat.lt_of_not_le fun h2=>h ⟨h1,h2⟩)]
 ·rfl
theorem nZ{most:Int}{l o:List UInt8}(h0:l≠ [])(h1:(cO l).2.2.2=true)(h2:(cO l).2.2.1≤o.length)(h3:most<(o.length:Int)+((cO l).2.1:Nat)):jE most l o=([],3):=by
 rw[jE,dif_neg h0,dif_pos h1,if_neg (by omega),if_pos h3]
theorem mS{most:Int}{l o:List UInt8}(h0:l≠ [])(h1:(cO l).2.2.2=true)(h2:(cO l).2.2.1≤o.length)(h3:¬most<(o.length:Int)+((cO l).2.1:Nat)):jE most l o=jE most (l.drop (cO l).1) (made l o):=by
 rw[jE,dif_neg h0,dif_pos h1,if_neg (by omega),if_neg h3]
theorem nE{l o:List UInt8}(h1:(cO l).2.2.2=true):(made l o).length=o.length+(cO l).2.1:=by
 unfold made
 split
 ·rename_i h0
  obtain⟨h2,h3⟩:=lf h1
  have e:(cO l).1-1=(cO l).2.1:=by
   unfold cO at h0 h1 ⊢
   split
   ·show _+2-1=_+1;omega
   ·split
    ·rename_i a1 a2;rw[if_neg a1,if_pos a2]at h1;cases h1
    ·rename_i a1 a2;rw[if_neg a1,if_neg a2]at h0;simp at h0
  rw[List.length_append,List.length_take,List.length_drop,e]
  omega
 ·exact mq _ _ _
end Go.Hx
end
section
namespace Go.Hx
open Go.Eng
def lj(b:List UInt8)(i k:Nat):Nat→Nat→Nat
 |0,n=>n
 |f+1,n=>if i+n<b.length∧b.getD (i+n) 0=b.getD (k+n) 0 then lj b i k f (n+1)else n
def lA(b:List UInt8)(i k:Nat):Nat:=lj b i k 131 0
theorem gE(b:List UInt8)(i k:Nat):∀f n,n≤lj b i k f n∧lj b i k f n≤n+f∧(i+n≤b.length→i+lj b i k f n≤b.length)∧∀j,n≤j→j<lj b i k f n→b.getD (i+j) 0=b.getD (k+j) 0
 |0,n=>⟨Nat.le_refl _,Nat.le_refl _,fun h=>h,fun j h1 h2=>by simp only[lj]at h2;omega⟩
 |f+1,n=>by
  unfold lj
  split
  ·rename_i h
   obtain⟨h1,h2,h3,h4⟩:=gE b i k f (n+1)
   refine⟨by omega,by omega,fun _=>h3 (by omega),fun j hj hj2=> ?_⟩
   rcases Nat.eq_or_lt_of_le hj with e|e
   ·rw[←e];exact h.2
   ·exact h4 j e hj2
  ·exact⟨Nat.le_refl _,by omega,fun h=>h,fun j h1 h2=>by omega⟩
theorem B3(b:List UInt8)(i k:Nat):lA b i k≤131:=by have:=(gE b i k 131 0).2.1;unfold lA;omega
theorem x6{b:List UInt8}{i:Nat}(k:Nat)(h:i≤b.length):i+lA b i k≤b.length:=(gE b i k 131 0).2.2.1 (by omega)
theorem pd{b:List UInt8}{i k j:Nat}(h:j<lA b i k):b.getD (i+j) 0=b.getD (k+j) 0:=(gE b i k 131 0).2.2.2 j (Nat.zero_le _) h
theorem kQ{b:List UInt8}{i k f n:Nat}(h:¬(i+n<b.length∧b.getD (i+n) 0=b.getD (k+n) 0)):lj b i k f n=n:=by
 cases f with
 |zero=>rfl
 |succ f=>rw[lj,if_neg h]
theorem iu{b:List UInt8}{i k f n:Nat}(hf:0<f)(h:i+n<b.length∧b.getD (i+n) 0=b.getD (k+n) 0):lj b i k f n=lj b i k (f-1) (n+1):=by
 cases f with
 |zero=>omega
 |succ f=>rw[lj,if_pos h];rfl
def ez(b:List UInt8)(p:Nat):List UInt8:=(b.drop p).take 4
theorem bL{b:List UInt8}{p:Nat}(h:p+4≤b.length):(ez b p).length=4:=by unfold ez;rw[List.length_take,List.length_drop];omega
theorem Ad{b:List UInt8}{i p:Nat}(hi:i+4≤b.length)(hp:p<i):ez b p=ez b i↔3<lA b i p:=by
 have e:∀q,q+4≤b.length→ez b q=[b.getD (q+0) 0,b.getD (q+1) 0,b.getD (q+2) 0,b.getD (q+3) 0]:=by
  intro q hq
  apply List.ext_getElem?
  intro j
  unfold ez
  rw[List.getElem?_take,List.getElem?_drop]
  rcases j with _|_|_|_|j
  all_goals simp
  all_goals (try (rw[List.getElem?_eq_getElem (by omega)];rfl))
  all_goals (try (intro h;omega))
 rw[e p (by omega),e i hi]
 constructor
 ·intro h
  simp only[List.cons.injEq,and_true]at h
  have e0:lA b i p=lj b i p 127 4:=by
   unfold lA
   rw[iu (by decide) ⟨by omega,h.1.symm⟩,iu (by decide) ⟨by omega,h.2.1.symm⟩,iu (by decide) ⟨by omega,h.2.2.1.symm⟩,iu (by decide) ⟨by omega,h.2.2.2.symm⟩]
  rw[e0]
  exact(gE b i p 127 4).1
 ·intro h
  simp only[List.cons.injEq,and_true]
  exact⟨(pd (by omega)).symm,(pd (by omega)).symm,(pd (by omega)).symm,(pd (by omega)).symm⟩
def gI(b:List UInt8)(i:Nat)(s:Nat×Nat)(d:Nat):Nat×Nat:=if 3<lA b i (i-d)∧s.1<lA b i (i-d)then(lA b i (i-d),d)else s
def cw(b:List UInt8)(i k:Nat):Nat×Nat:=(List.range' 1 k).foldl (gI b i) (0,0)
theorem dM(b:List UInt8)(i k:Nat):cw b i (k+1)=gI b i (cw b i k) (k+1):=by
 unfold cw
 rw[List.range'_concat,List.foldl_append]
 simp[Nat.add_comm]
def a6(b:List UInt8)(i:Nat):Nat×Nat:=cw b i (min i 1024)
def fO(b:List UInt8)(i:Nat)(s:Nat×Nat)(p:Nat):Nat×Nat:=if 1024<i-p then s else if s.1<lA b i p then(lA b i p,i-p)else s
def kD(b:List UInt8)(n:Nat)(k:List UInt8):List Nat:=(List.range n).filter fun p=>decide (ez b p=k)
theorem vB(b:List UInt8)(n:Nat)(k:List UInt8):kD b (n+1) k=kD b n k++if ez b n=k then [n]else []:=by
 unfold kD
 rw[List.range_succ,List.filter_append]
 congr 1
 by_cases h:ez b n=k <;> simp[h]
theorem zQ{b:List UInt8}{n p:Nat}{k:List UInt8}(h:p∈kD b n k):p<n∧ez b p=k:=by
 unfold kD at h
 simpa using h
theorem nA(b:List UInt8)(n:Nat)(k:List UInt8):(kD b n k).length≤n:=by
 unfold kD
 exact Nat.le_trans (List.length_filter_le _ _) (by simp)
theorem vM(i:Nat):(List.range i).reverse=(List.range' 1 i).map fun d=>i-d:=by
 apply List.ext_getElem
 ·simp
 ·intro j h1 h2
  simp
  omega
theorem jQ{α β:Type}(f:β→α→β)(s:β):∀(l:List α),(∀x∈l,∀t,f t x=t)→l.foldl f s=s
 | [],_=>rfl
 |x::l,h=>by
  rw[List.foldl_cons,h x (by simp) s]
  exact jQ f s l (fun y hy=>h y (List.mem_cons_of_mem _ hy))
theorem rE{b:List UInt8}{i:Nat}(hi:i+4≤b.length):(kD b i (ez b i)).reverse.foldl (fO b i) (0,0)=a6 b i:=by
 unfold kD a6
 rw[←List.filter_reverse,vM,List.filter_map,List.foldl_map,List.foldl_filter]
 have h1:∀(l:List Nat) (s:Nat×Nat),(∀d∈l,1≤d∧d≤i)→l.foldl (fun s d=>if((fun p=>decide (ez b p=ez b i)) ∘ fun d=>i-d) d=true then fO b i s (i-d)else s) s=l.foldl (fun s d=>if 1024<d then s else gI b i s d) s:=by
  intro l
  induction l with
  |nil=>intro s _;rfl
  |cons d l ih=>
   intro s hd
   simp only[List.foldl_cons]
   rw[ih _ (fun x hx=>hd x (List.mem_cons_of_mem _ hx))]
   congr 1
   obtain⟨hd1,hd2⟩:=hd d (by simp)
   have e:=Ad (p:=i-d) hi (by omega)
   simp only[Function.comp_apply,decide_eq_true_eq]
   unfold fO gI
   rw[show i-(i-d)=d by omega]
   by_cases hk:ez b (i-d)=ez b i
   ·rw[if_pos hk]
    have:=e.1 hk
    split
    ·rfl
    ·by_cases h:s.1<lA b i (i-d)
     ·rw[if_pos h,if_pos ⟨this,h⟩]
     ·rw[if_neg h,if_neg (fun q=>h q.2)]
   ·rw[if_neg hk]
    split
    ·rfl
    ·rw[if_neg (fun q=>hk (e.2 q.1))]
 rw[h1 _ _ (fun d hd=>by simp at hd;omega)]
 have h2:List.range' 1 i=List.range' 1 (min i 1024)++List.range' (1+min i 1024) (i-min i 1024):=by
  rw[List.range'_append_1]
  congr 1
  omega
 rw[h2,List.foldl_append,jQ _ _ (List.range' (1+min i 1024) (i-min i 1024))]
 ·unfold cw
  have h3:∀(l:List Nat) (s:Nat×Nat),(∀d∈l,d≤1024)→l.foldl (fun s d=>if 1024<d then s else gI b i s d) s=l.foldl (gI b i) s:=by
   intro l
   induction l with
   |nil=>intro s _;rfl
   |cons d l ih=>
    intro s hd
    simp only[List.foldl_cons]
    rw[if_neg (by have:=hd d (by simp);omega)]
    exact ih _ (fun x hx=>hd x (List.mem_cons_of_mem _ hx))
  exact h3 _ _ (fun d hd=>by simp at hd;omega)
 ·intro d hd t
  simp at hd
  rw[if_pos (by omega)]
theorem sI(b:List UInt8)(n:Nat)(k:List UInt8):(kD b n k).Pairwise (· <·):=(List.pairwise_lt_range).filter _
theorem vq{b:List UInt8}{i n x:Nat}{k:List UInt8}{pre rest:List Nat}{s:Nat×Nat}(h:(kD b n k).reverse=pre++x::rest)(hx:1024<i-x):(kD b n k).reverse.foldl (fO b i) s=pre.foldl (fO b i) s:=by
 have hs:(pre++x::rest).Pairwise (· >·):=by
  rw[←h,List.pairwise_reverse]
  exact sI b n k
 rw[h,List.foldl_append]
 refine jQ _ _ _ fun y hy t=> ?_
 have h1:=(List.pairwise_cons.1 (List.pairwise_append.1 hs).2.1).1
 unfold fO
 rw[if_pos]
 rcases List.mem_cons.1 hy with rfl|hy
 ·exact hx
 ·have:=h1 y hy
  omega
theorem sg{b:List UInt8}{i:Nat}(hi:i≤b.length)(h:b.length<i+4):a6 b i=(0,0):=by
 unfold a6 cw
 refine jQ _ _ _ fun d hd t=> ?_
 unfold gI
 rw[if_neg]
 intro q
 have:=x6 (i-d) hi
 omega
theorem qd(b:List UInt8)(i:Nat)(hi:i≤b.length):∀k,k≤i→(cw b i k=(0,0))∨(4≤(cw b i k).1∧(cw b i k).1≤131∧1≤(cw b i k).2∧(cw b i k).2≤k∧i+(cw b i k).1≤b.length∧(cw b i k).1=lA b i (i-(cw b i k).2))
 |0,_=>.inl rfl
 |k+1,hk=>by
  rw[dM]
  unfold gI
  split
  ·rename_i h
   exact .inr ⟨by show 4≤lA _ _ _;omega,B3 _ _ _,by show 1≤k+1;omega,Nat.le_refl _,x6 _ hi,rfl⟩
  ·rcases qd b i hi k (by omega)with h|h
   ·exact .inl h
   ·exact .inr ⟨h.1,h.2.1,h.2.2.1,by omega,h.2.2.2.2.1,h.2.2.2.2.2⟩
theorem k0{b:List UInt8}{i:Nat}(hi:i≤b.length):(a6 b i=(0,0))∨(4≤(a6 b i).1∧(a6 b i).1≤131∧1≤(a6 b i).2∧(a6 b i).2≤min i 1024∧i+(a6 b i).1≤b.length∧(a6 b i).1=lA b i (i-(a6 b i).2)):=qd b i hi _ (by omega)
def eC(l:List UInt8):List UInt8:=if h:l=[]then []else UInt8.ofNat (min l.length 128-1)::l.take 128++eC (l.drop 128)
termination_by l.length
decreasing_by
 have:=List.length_pos_iff.2 h
 rw[List.length_drop]
 omega
theorem lS:eC []=[]:=by rw[eC];rfl
theorem kK{l:List UInt8}(h:l≠ []):eC l=UInt8.ofNat (min l.length 128-1)::l.take 128++eC (l.drop 128):=by rw[eC,dif_neg h]
theorem fx(l:List UInt8):(eC l).length≤2*l.length:=by
 by_cases h:l=[]
 ·subst h;rw[lS];simp
 ·have hp:=List.length_pos_iff.2 h
  have hd:(l.drop 128).length=l.length-128:=List.length_drop
  have:=fx (l.drop 128)
  rw[kK h]
  simp only[List.length_append,List.length_cons,List.length_take]
  omega
termination_by l.length
decreasing_by
 rw[List.length_drop]
 have:=List.length_pos_iff.2 h
 omega
def fU(m:Nat×Nat):List UInt8:=[UInt8.ofNat (124+m.1),UInt8.ofNat (m.2-1),UInt8.ofNat ((m.2-1)/256)]
def gD(b:List UInt8)(i:Nat)(own out:List UInt8):List UInt8:=
 if h:i<b.length then
  if h0:(a6 b i).1=0 then gD b (i+1) (own++[b.getD i 0]) out
  else gD b (i+(a6 b i).1) [] (out++eC own++fU (a6 b i))
 else out++eC own
termination_by b.length-i
def eF(b:List UInt8):List UInt8:=gD b 0 [] []
theorem kL{b own out:List UInt8}{i:Nat}(h:¬i<b.length):gD b i own out=out++eC own:=by rw[gD,dif_neg h]
theorem kY{b own out:List UInt8}{i:Nat}(h:i<b.length)(h0:(a6 b i).1=0):gD b i own out=gD b (i+1) (own++[b.getD i 0]) out:=by rw[gD,dif_pos h,dif_pos h0]
theorem iT{b own out:List UInt8}{i:Nat}(h:i<b.length)(h0:(a6 b i).1≠0):gD b i own out=gD b (i+(a6 b i).1) [] (out++eC own++fU (a6 b i)):=by rw[gD,dif_pos h,dif_neg h0]
theorem jN:∀(b:List UInt8) (i:Nat) (own out:List UInt8),i≤b.length→out.length+2*own.length≤2*i→(gD b i own out).length≤2*b.length
 |b,i,own,out,hi,h=>by
  by_cases hlt:i<b.length
  ·by_cases h0:(a6 b i).1=0
   ·rw[kY hlt h0]
    exact jN b (i+1) _ _ (by omega) (by simp;omega)
   ·rw[iT hlt h0]
    rcases k0 hi with hm|hm
    ·rw[hm]at h0;exact absurd rfl h0
    ·have:=fx own
     exact jN b _ _ _ (by omega) (by simp[fU];omega)
  ·rw[kL hlt,List.length_append]
   have:=fx own
   omega
termination_by b i=>b.length-i
theorem mD(b:List UInt8):(eF b).length≤2*b.length:=jN b 0 [] [] (Nat.zero_le _) (by simp)
theorem AH{k:Nat}{l r:List UInt8}(hk:k<128)(hl:l.length=k+1):cO (UInt8.ofNat k::(l++r))=(k+2,k+1,0,true):=by
 have e:(UInt8.ofNat k).toNat=k:=by rw[UInt8.toNat_ofNat',Nat.mod_eq_of_lt (by omega)]
 unfold cO
 rw[List.getD_cons_zero,e,if_pos hk]
 simp only[List.length_cons,List.length_append,hl]
 congr 3
 exact decide_eq_true (by omega)
theorem py{most:Int}(l r o:List UInt8)(hm:(o.length:Int)+l.length≤most):jE most (eC l++r) o=jE most r (o++l):=by
 by_cases h:l=[]
 ·subst h;rw[lS];simp
 ·have hp:=List.length_pos_iff.2 h
  have hk:min l.length 128-1<128:=by omega
  have htl:(l.take 128).length=(min l.length 128-1)+1:=by rw[List.length_take];omega
  have hsp:l.take 128++l.drop 128=l:=List.take_append_drop 128 l
  have hlen:l.length=(l.take 128).length+(l.drop 128).length:=by rw[←List.length_append,hsp]
  rw[kK h,List.append_assoc,List.cons_append]
  have ht:=AH (r:=eC (l.drop 128)++r) hk htl
  rw[mS (by simp) (by rw[ht]) (by rw[ht];exact Nat.zero_le _) (by rw[ht];simp only;omega)]
  have hmd:made (UInt8.ofNat (min l.length 128-1)::(l.take 128++(eC (l.drop 128)++r))) o=o++l.take 128:=by
   unfold made
   rw[ht,if_pos rfl]
   simp only[List.drop_succ_cons,List.drop_zero]
   rw[List.take_append_of_le_length (by omega),List.take_of_length_le (by omega)]
  rw[hmd,ht]
  have hdr:(UInt8.ofNat (min l.length 128-1)::(l.take 128++(eC (l.drop 128)++r))).drop (min l.length 128-1+2)=eC (l.drop 128)++r:=by
   rw[show min l.length 128-1+2=(l.take 128).length+1 by omega,List.drop_succ_cons,List.drop_left]
  simp only
  rw[hdr,py (l.drop 128) r (o++l.take 128) (by rw[List.length_append];omega),List.append_assoc,hsp]
termination_by l.length
decreasing_by
 rw[List.length_drop]
 have:=List.length_pos_iff.2 h
 omega
theorem np{b:List UInt8}{i d:Nat}(hd:1≤d)(hdi:d≤i):∀(n k:Nat),i+k+n≤b.length→(∀j,k≤j→j<k+n→b.getD (i+j) 0=b.getD (i-d+j) 0)→again d n (b.take (i+k))=b.take (i+k+n)
 |0,k,_,_=>rfl
 |n+1,k,hb,h=>by
  have hl:(b.take (i+k)).length=i+k:=by rw[List.length_take];omega
  rw[again,hl]
  have e:(b.take (i+k)).getD (i+k-d) 0=b.getD (i+k) 0:=by
   rw[h k (Nat.le_refl _) (by omega)]
   rw[List.getD_eq_getElem?_getD,List.getElem?_take,if_pos (by omega),←List.getD_eq_getElem?_getD]
   congr 1
   omega
  rw[e]
  have e2:b.take (i+k)++[b.getD (i+k) 0]=b.take (i+(k+1)):=by
   rw[show i+(k+1)=(i+k)+1 by omega,dX (by omega)]
  rw[e2,np hd hdi n (k+1) (by omega) (fun j h1 h2=>h j (by omega) (by omega))]
  congr 1
  omega
theorem vQ{m:Nat×Nat}{r:List UInt8}(h1:4≤m.1)(h2:m.1≤131)(h3:1≤m.2)(h4:m.2≤1024):cO (fU m++r)=(3,m.1,m.2,true):=by
 have e0:(UInt8.ofNat (124+m.1)).toNat=124+m.1:=by rw[UInt8.toNat_ofNat',Nat.mod_eq_of_lt (by omega)]
 have e1:(UInt8.ofNat (m.2-1)).toNat=(m.2-1) % 256:=UInt8.toNat_ofNat'
 have e2:(UInt8.ofNat ((m.2-1)/256)).toNat=(m.2-1)/256:=by rw[UInt8.toNat_ofNat',Nat.mod_eq_of_lt (by omega)]
 unfold cO fU
 simp only[List.cons_append,List.nil_append,List.getD_cons_zero,List.getD_cons_succ,List.length_cons,e0,e1,e2]
 rw[if_neg (by omega),if_neg (by omega)]
 simp only[Prod.mk.injEq,true_and,and_true]
 omega
theorem mV{most:Int}:∀(b:List UInt8) (i:Nat) (own out o:List UInt8),(b.length:Int)≤most→i≤b.length→o++own=b.take i→(∀r,jE most (out++r) []=jE most r o)→jE most (gD b i own out) []=(b,0)
 |b,i,own,out,o,hm,hi,hown,hout=>by
  have hol:o.length+own.length=i:=by
   have:=congrArg List.length hown
   rw[List.length_append,List.length_take]at this
   omega
  by_cases hlt:i<b.length
  ·by_cases h0:(a6 b i).1=0
   ·rw[kY hlt h0]
    refine mV b (i+1) _ _ o hm (by omega) ?_ hout
    rw[←List.append_assoc,hown,dX hlt]
   ·rw[iT hlt h0]
    rcases k0 hi with hk|⟨m1,m2,m3,m4,m5,m6⟩
    ·rw[hk]at h0;exact absurd rfl h0
    ·have hd1:(a6 b i).2≤i:=by omega
     have hd2:(a6 b i).2≤1024:=by omega
     refine mV b _ _ _ (b.take (i+(a6 b i).1)) hm m5 (by simp) fun r=> ?_
     rw[List.append_assoc,List.append_assoc,hout,py _ _ _ (by omega),hown]
     have ht:=vQ (r:=r) m1 m2 m3 hd2
     have hl:(b.take i).length=i:=by rw[List.length_take];omega
     rw[mS (by simp[fU]) (by rw[ht]) (by rw[ht,hl];exact hd1) (by rw[ht,hl];simp only;omega)]
     rw[ht]
     have hdr:(fU (a6 b i)++r).drop 3=r:=rfl
     simp only
     rw[hdr]
     congr 1
     unfold made
     rw[ht,if_neg (by simp only;omega)]
     have:=np (b:=b) (i:=i) m3 hd1 (a6 b i).1 0 (by omega) (fun j _ hj=>pd (by omega))
     exact this
  ·rw[kL hlt,hout]
   have:=py (most:=most) own [] o (by omega)
   rw[List.append_nil]at this
   rw[this,n4,hown,List.take_of_length_le (by omega)]
termination_by b i=>b.length-i
theorem vx{b:List UInt8}{most:Int}(h:(b.length:Int)≤most):jE most (eF b) []=(b,0):=mV b 0 [] [] [] h (Nat.zero_le _) rfl (fun r=>rfl)
end Go.Hx
end
section
namespace Go.Hx
open Go.Eng
def tU(b:List UInt8):Bool:=decide ((eF b).length<b.length)
def iL(b:List UInt8):List UInt8:=if tU b then eF b else b
def bI(b:List UInt8):List UInt8:=[76,if tU b then 1 else 0]++gz b.length++iL b++gz (cV b)
theorem qV(b:List UInt8):(iL b).length≤b.length:=by
 unfold iL tU
 split
 ·rename_i h;have:=of_decide_eq_true h;omega
 ·exact Nat.le_refl _
theorem jV(b:List UInt8):(bI b).length=(iL b).length+10:=by simp[bI,fk];omega
theorem kj(b:List UInt8):10≤(bI b).length∧(bI b).length≤b.length+10:=by
 have:=qV b
 rw[jV]
 omega
def gP(f:List UInt8):Option Nat:=if f.length<10∨f.getD 0 0≠76∨1<(f.getD 1 0).toNat then none else some (kb (f.drop 2))
def dz(f:List UInt8):List UInt8:=(f.drop 6).take (f.length-10)
def tZ(f:List UInt8)(n:Nat):List UInt8×Int:=if f.getD 1 0=1 then jE n (dz f) []else(dz f,0)
def fQ(f:List UInt8)(n:Nat):List UInt8×Int:=
 if(tZ f n).2≠0 then([],2)else if(tZ f n).1.length≠n then([],2)else if gz (cV (tZ f n).1)≠f.drop (f.length-4)then([],7)else((tZ f n).1,0)
def da(f:List UInt8)(most:Int):List UInt8×Int:=
 match gP f with
 |none=>([],2)
 |some n=>if most<n then([],3)else fQ f n
theorem oc{most:Int}:∀(l o:List UInt8),(o.length:Int)≤most→(((jE most l o).1.length:Int)≤most∨(jE most l o).1=[])∧((jE most l o).2=0∨(jE most l o).2=2∨(jE most l o).2=3)∧((jE most l o).2≠0→(jE most l o).1=[])
 |l,o,hm=>by
  by_cases h0:l=[]
  ·subst h0;rw[n4];exact⟨.inl hm,.inl rfl,fun h=>absurd rfl h⟩
  ·by_cases h1:(cO l).2.2.2=true∧(cO l).2.2.1≤o.length
   ·by_cases h2:most<(o.length:Int)+((cO l).2.1:Nat)
    ·rw[nZ h0 h1.1 h1.2 h2];exact⟨.inr rfl,.inr (.inr rfl),fun _=>rfl⟩
    ·rw[mS h0 h1.1 h1.2 h2]
     exact oc _ _ (by rw[nE h1.1];omega)
   ·rw[kU h0 h1];exact⟨.inr rfl,.inr (.inl rfl),fun _=>rfl⟩
termination_by l=>l.length
decreasing_by
 obtain⟨h2,h3⟩:=lf h1.1
 rw[List.length_drop]
 omega
theorem wL{f:List UInt8}{n:Nat}(h:(fQ f n).2=0):(fQ f n).1.length=n:=by
 unfold fQ at h ⊢
 split at h
 ·cases h
 ·rename_i h1
  rw[if_neg h1]
  split at h
  ·cases h
  ·rename_i h2
   rw[if_neg h2]
   split at h
   ·cases h
   ·rename_i h3
    rw[if_neg h3]
    exact Decidable.not_not.1 h2
theorem vp{f:List UInt8}{n:Nat}(h:(fQ f n).2≠0):(fQ f n).1=[]:=by
 unfold fQ at h ⊢
 split at h
 ·rename_i h1;rw[if_pos h1]
 ·rename_i h1
  rw[if_neg h1]
  split at h
  ·rename_i h2;rw[if_pos h2]
  ·rename_i h2
   rw[if_neg h2]
   split at h
   ·rename_i h3;rw[if_pos h3]
   ·exact absurd rfl h
theorem vT{f:List UInt8}{most:Int}(h:(da f most).2≠0):(da f most).1=[]:=by
 unfold da at h ⊢
 split at h
 ·rfl
 ·rename_i n hn
  split at h
  ·rename_i h1;rw[if_pos h1]
  ·rename_i h1;rw[if_neg h1];exact vp h
theorem yt{f:List UInt8}{most:Int}(h:(da f most).2=0):((da f most).1.length:Int)≤most:=by
 unfold da at h ⊢
 split at h
 ·cases h
 ·rename_i n hn
  split at h
  ·cases h
  ·rename_i h1;rw[if_neg h1,wL h];omega
theorem qj{f:List UInt8}{most:Int}(hm:0≤most):((da f most).1.length:Int)≤most:=by
 by_cases h:(da f most).2=0
 ·exact yt h
 ·rw[vT h];simpa using hm
theorem lO(b:List UInt8):(bI b).getD 0 0=76∧(bI b).getD 1 0=(if tU b then 1 else 0)∧(bI b).drop 2=gz b.length++(iL b++gz (cV b))∧dz (bI b)=iL b∧(bI b).drop ((bI b).length-4)=gz (cV b):=by
 refine⟨by simp[bI],by simp[bI],by simp[bI], ?_, ?_⟩
 ·unfold dz
  have h6:(bI b).drop 6=iL b++gz (cV b):=by simp[bI,gz]
  rw[h6,jV,Nat.add_sub_cancel]
  exact List.take_left
 ·rw[jV]
  have:bI b=([76,if tU b then 1 else 0]++gz b.length++iL b)++gz (cV b):=rfl
  rw[this,List.drop_append_of_le_length (by simp[fk];omega),List.drop_of_length_le (by simp[fk];omega)]
  rfl
theorem wa{b:List UInt8}(h:b.length<4294967296):gP (bI b)=some b.length:=by
 obtain⟨h0,h1,h2,_,_⟩:=lO b
 have hl:=kj b
 unfold gP
 rw[if_neg,h2]
 ·congr 1
  have:kb (gz b.length++(iL b++gz (cV b)))=kb (gz b.length):=by simp[kb,gz]
  rw[this,yM h]
 ·rw[h0,h1]
  rintro(q|q|q)
  ·omega
  ·exact q rfl
  ·cases hp:tU b <;> rw[hp]at q <;> exact absurd q (by decide)
theorem yx(b:List UInt8):tZ (bI b) b.length=(b,0):=by
 obtain⟨_,h1,_,h3,_⟩:=lO b
 unfold tZ
 rw[h1,h3]
 cases hp:tU b with
 |true=>
  rw[if_pos rfl]
  unfold iL
  rw[hp,if_pos rfl]
  exact vx (Int.le_refl _)
 |false=>
  rw[if_neg (by decide)]
  unfold iL
  rw[hp]
  rfl
theorem vH{b:List UInt8}{most:Int}(h:b.length<4294967296)(hm:(b.length:Int)≤most):da (bI b) most=(b,0):=by
 unfold da
 rw[wa h]
 simp only
 rw[if_neg (by omega)]
 unfold fQ
 rw[yx,(lO b).2.2.2.2,if_neg (by simp),if_neg (by simp),if_neg (by simp)]
end Go.Hx
end
section
namespace Go.Proofs.YtmibdabdlgmafaaGreatDoor
open Go.Eng Go.Hx
def bd(nm:List UInt8):List UInt8:=[99,47]++(b9 nm).take 2++[47]++b9 nm
def bV(nm:List UInt8):List UInt8:=[116,47]++b9 nm
theorem eh{nm:List UInt8}(h:nm.length=32):(bd nm).length=69:=by simp[bd,dh,h]
theorem jb{nm:List UInt8}(h:nm.length=32):(bV nm).length=66:=by simp[bV,dh,h]
theorem s8{nm:List UInt8}(h:nm.length=32):(bd nm).drop 5=b9 nm:=by
 have h2:((b9 nm).take 2).length=2:=by rw[List.length_take,dh,h];rfl
 unfold bd
 rw[List.drop_append_of_le_length (by simp[h2]),List.drop_of_length_le (by simp[h2])]
 rfl
def RD.y1(d:RD)(nm:List UInt8):List UInt8×Int:=da (d.cJ (bd nm)) 4096
def RD.ib(d:RD)(nm:List UInt8):Int:=if d.cC (bd nm)≠0 then d.cC (bd nm)else if(d.y1 nm).2≠0∨bF (d.y1 nm).1≠nm then 7 else 0
def RD.r7(d:RD)(nm:List UInt8):List UInt8:=if d.ib nm=0 then(d.y1 nm).1 else []
theorem jD{d:RD}{nm:List UInt8}(h:d.cC (bd nm)≠0):d.ib nm=d.cC (bd nm):=by unfold RD.ib;rw[if_pos h]
theorem ml{d:RD}{nm:List UInt8}(h:d.cC (bd nm)=0)(h2:(d.y1 nm).2≠0∨bF (d.y1 nm).1≠nm):d.ib nm=7:=by unfold RD.ib;rw[if_neg (fun q=>q h),if_pos h2]
theorem qI{d:RD}{nm:List UInt8}(h:d.cC (bd nm)=0)(h2:¬((d.y1 nm).2≠0∨bF (d.y1 nm).1≠nm)):d.ib nm=0:=by unfold RD.ib;rw[if_neg (fun q=>q h),if_neg h2]
theorem ld{d:RD}{nm:List UInt8}(h:d.ib nm≠0):d.r7 nm=[]:=by unfold RD.r7;rw[if_neg h]
theorem qQ{d:RD}{nm:List UInt8}(h:d.ib nm=0):d.r7 nm=(d.y1 nm).1:=by unfold RD.r7;rw[if_pos h]
def dK:List (RD→RD×Int)→RD→RD×Int
 | [],d=>(d,0)
 |f::r,d=>if(f d).2≠0 then f d else dK r (f d).1
def qN(p b:List UInt8)(d:RD):RD×Int:=(d.write p b,d.bH p b)
def fq(d:RD):RD×Int:=(d.sync,d.dC)
def qP(a c:List UInt8)(d:RD):RD×Int:=(d.rename a c,d.bZ a c)
def fA(p:List UInt8)(d:RD):RD×Int:=(d.remove p,d.cC p)
def dJ:List UInt8:=List.replicate 32 0
def RD.iO(d:RD)(b:List UInt8):RD×Int:=dK [qN (bV (bF b)) (bI b),fq,qP (bV (bF b)) (bd (bF b)),fq] d
def RD.put(d:RD)(b:List UInt8):RD×List UInt8×Int:=
 if 4096<b.length then(d,dJ,3)
 else if d.ib (bF b)=6 then(d,dJ,6)
 else if d.ib (bF b)=0 then(d,bF b,0)
 else((d.iO b).1,if(d.iO b).2=0 then bF b else dJ,(d.iO b).2)
end Go.Proofs.YtmibdabdlgmafaaGreatDoor
end
section
set_option maxRecDepth 20000
set_option maxHeartbeats 2000000
namespace Go.Proofs.YtmibdabdlgmafaaGreatDoor
open Go.Eng Go.Hx
theorem dS{a b:List UInt8}(h:a.length+b.length≤1000000):(strOf a).size+(strOf b).size≤9223372036854775807:=by rw[cr,cr];omega
theorem qR{nm:List UInt8}(hm:nm.length=32):cj Tryz.prog 94 [.agg (aZ nm).toArray] [] [] (fun v_ X_ S_=>v_=(.string (strOf (bd nm)))∧X_=[]∧S_=[]):=by
 have hhl:(b9 nm).length=64:=by rw[dh,hm]
 have h2:((b9 nm).take 2).length=2:=by rw[List.length_take,hhl];rfl
 refine aO (N:=12) Tryz.func94 rfl rfl (by simp) fun b=> ?_
 refine ah<|aj<| ?_
 refine hx (cz rfl (fun g1=> ?_))
 refine aL (fun w m=>m.bM 0 rfl (show _=aG g1 53 (aZ nm)from congrArg (aG _ _) (bG _))) ?_
 refine hy (fun _=>ab rfl)<|ai<|ak (X' :=[_]) (S' :=[]) (fun _ m=>m)<|ag<|ah<|aj<|hy (fun m=>aX rfl ct bn (by rw[aF];exact hm) ((m.aT 0 rfl).ay))<| ?_
 refine hx (ao rfl Tryz.call104 (yC hm) [] rfl [] rfl ?_)
 rintro _ _ _ ⟨rfl,rfl,rfl⟩
 refine hy (fun _=>ab rfl)<|ai<|al (ρ' :=[(3,_),(2,_),(1,_),(0,_)]) ⟨rfl,rfl,rfl,rfl,trivial⟩<|ak (X' :=[_]) (S' :=[]) (fun _ m=>m)<|ag<|ah<|aj<|hy (fun _=>aa rfl)<|hy (fun _=>yV (hC rfl rfl Tryz.underlying9 (show((2:Nat):Int)=2 from rfl) (show 2≤(b9 nm).length by omega)) ((rfl:_=Value.string (strOf ((b9 nm).take 2)))))<|hy (fun _=>yV (ep rfl rfl (dS (a:=[99,47]) (b:=(b9 nm).take 2) (by simp[h2]))) ((show Value.string (strOf [99,47]++strOf ((b9 nm).take 2))= .string (strOf ([99,47]++(b9 nm).take 2))from congrArg Value.string (bQ _ _))))<|hy (fun _=>yV (ep rfl rfl (dS (a:=[99,47]++(b9 nm).take 2) (b:=[47]) (by simp[h2]))) ((show Value.string (strOf ([99,47]++(b9 nm).take 2)++strOf [47])= .string (strOf ([99,47]++(b9 nm).take 2++[47]))from congrArg Value.string (bQ _ _))))<|hy (fun _=>aa rfl)<|hy (fun _=>yV (ep rfl rfl (dS (a:=[99,47]++(b9 nm).take 2++[47]) (b:=b9 nm) (by simp[h2,hhl]))) ((show Value.string (strOf ([99,47]++(b9 nm).take 2++[47])++strOf (b9 nm))= .string (strOf (bd nm))from congrArg Value.string (bQ _ _))))<|hy (fun _=>ab rfl)<|ai<|al (ρ' :=[(2,_),(3,_),(1,_),(0,_)]) ⟨rfl,rfl,rfl,rfl,trivial⟩<|ag<|aU<| ?_
 exact bc trivial rfl rfl [] rfl [] rfl ⟨rfl,rfl,rfl⟩
theorem iS{nm:List UInt8}(hm:nm.length=32):cj Tryz.prog 29 [.agg (aZ nm).toArray] [] [] (fun v_ X_ S_=>v_=(.string (strOf (bd nm)))∧X_=[]∧S_=[]):=by
 have hhl:(b9 nm).length=64:=by rw[dh,hm]
 have h2:((b9 nm).take 2).length=2:=by rw[List.length_take,hhl];rfl
 refine aO (N:=12) Tryz.func29 rfl rfl (by simp) fun b=> ?_
 refine ah<|aj<| ?_
 refine hx (cz rfl (fun g1=> ?_))
 refine aL (fun w m=>m.bM 0 rfl (show _=aG g1 53 (aZ nm)from congrArg (aG _ _) (bG _))) ?_
 refine hy (fun _=>ab rfl)<|ai<|ak (X' :=[_]) (S' :=[]) (fun _ m=>m)<|ag<|ah<|aj<|hy (fun m=>aX rfl ct bn (by rw[aF];exact hm) ((m.aT 0 rfl).ay))<| ?_
 refine hx (ao rfl Tryz.call111 (rk hm) [] rfl [] rfl ?_)
 rintro _ _ _ ⟨rfl,rfl,rfl⟩
 refine hy (fun _=>ab rfl)<|ai<|al (ρ' :=[(3,_),(2,_),(1,_),(0,_)]) ⟨rfl,rfl,rfl,rfl,trivial⟩<|ak (X' :=[_]) (S' :=[]) (fun _ m=>m)<|ag<|ah<|aj<|hy (fun _=>aa rfl)<|hy (fun _=>yV (hC rfl rfl Tryz.underlying9 (show((2:Nat):Int)=2 from rfl) (show 2≤(b9 nm).length by omega)) ((rfl:_=Value.string (strOf ((b9 nm).take 2)))))<|hy (fun _=>yV (ep rfl rfl (dS (a:=[99,47]) (b:=(b9 nm).take 2) (by simp[h2]))) ((show Value.string (strOf [99,47]++strOf ((b9 nm).take 2))= .string (strOf ([99,47]++(b9 nm).take 2))from congrArg Value.string (bQ _ _))))<|hy (fun _=>yV (ep rfl rfl (dS (a:=[99,47]++(b9 nm).take 2) (b:=[47]) (by simp[h2]))) ((show Value.string (strOf ([99,47]++(b9 nm).take 2)++strOf [47])= .string (strOf ([99,47]++(b9 nm).take 2++[47]))from congrArg Value.string (bQ _ _))))<|hy (fun _=>aa rfl)<|hy (fun _=>yV (ep rfl rfl (dS (a:=[99,47]++(b9 nm).take 2++[47]) (b:=b9 nm) (by simp[h2,hhl]))) ((show Value.string (strOf ([99,47]++(b9 nm).take 2++[47])++strOf (b9 nm))= .string (strOf (bd nm))from congrArg Value.string (bQ _ _))))<|hy (fun _=>ab rfl)<|ai<|al (ρ' :=[(2,_),(3,_),(1,_),(0,_)]) ⟨rfl,rfl,rfl,rfl,trivial⟩<|ag<|aU<| ?_
 exact bc trivial rfl rfl [] rfl [] rfl ⟨rfl,rfl,rfl⟩
end Go.Proofs.YtmibdabdlgmafaaGreatDoor
end
section
set_option maxRecDepth 20000
namespace Go.Proofs.YtmibdabdlgmafaaGreatDoor
open Go.Eng Go.Hx
theorem xo{g:Nat}{st:cH}{d:RD}{kk:Nat}{p:List UInt8}(hD:DS st d kk):cj Tryz.prog 90 [.pointer (some ⟨g,0,none⟩),.string (strOf p)] [bm g st] [] (fun v_ X_ S_=>∃v,v_=(.tuple #[v,.int .i64 (d.cC p)])∧X_=[bm g st,aH 5 1 v (d.cJ p).length (aZ (d.cJ p))]∧S_=[]):=by
 rw[hD.cC,hD.cJ]
 exact CX hD.ok.sm
theorem uS{g:Nat}{st:cH}{d:RD}{kk:Nat}{p:List UInt8}{A:Option Addr}{n c:Nat}{l:List UInt8}(hD:DS st d kk)(hkk:kk≤99000)(hl:l.length=n)(hn:n≤1048576):cj Tryz.prog 33 [.pointer (some ⟨g,0,none⟩),.string (strOf p),.slice A n c] [bm g st] [dr 1 A n (aZ l)] (fun v_ X_ S_=>∃st1,v_=(.int .i64 (d.bH p l))∧X_=[bm g st1]∧S_=[]∧(DS st1 (d.write p l) (kk+1))):=by
 exact cj.mono (Cn hD.ok (by omega) hn) (fun v X S h=>by
  obtain⟨st1,B,c1,A1,c2,h1,h2,h3,hw⟩:=h
  have hW:=hD.write hl hn hw
  exact⟨st1,by rw[hW.2];exact h1,h2,h3,hW.1⟩)
theorem Ca{g:Nat}{st:cH}{d:RD}{kk:Nat}(hD:DS st d kk):cj Tryz.prog 110 [.pointer (some ⟨g,0,none⟩)] [bm g st] [] (fun v_ X_ S_=>∃st1,v_=(.int .i64 d.dC)∧X_=[bm g st1]∧S_=[]∧(DS st1 d.sync kk)):=by
 exact cj.mono (Dm hD.ok) (fun v X S h=>by
  obtain⟨st1,gl,h1,h2,h3,hw⟩:=h
  have hW:=hD.sync hw
  exact⟨st1,by rw[hW.2];exact h1,h2,h3,hW.1⟩)
theorem yR{g:Nat}{st:cH}{d:RD}{kk:Nat}{a c:List UInt8}(hD:DS st d kk)(hkk:kk≤99000):cj Tryz.prog 108 [.pointer (some ⟨g,0,none⟩),.string (strOf a),.string (strOf c)] [bm g st] [] (fun v_ X_ S_=>∃st1,v_=(.int .i64 (d.bZ a c))∧X_=[bm g st1]∧S_=[]∧(DS st1 (d.rename a c) (kk+1))):=by
 exact cj.mono (AE hD.ok (by omega)) (fun v X S h=>by
  obtain⟨st1,A,j,h1,h2,h3,hw⟩:=h
  have hW:=hD.rename hw
  exact⟨st1,by rw[hW.2];exact h1,h2,h3,hW.1⟩)
theorem DS.tm{st:cH}{d:RD}{kk:Nat}(h:DS st d kk)(p:List UInt8):(d.cJ p).length≤1048576:=by
 rw[h.cJ]
 by_cases he:dH st p=0
 ·obtain⟨r,hr⟩:=rW he
  rw[sP he hr]
  have h1:=h.ok.small r (List.mem_append_left _ (List.mem_append_left _ (List.mem_map.2 ⟨_,iB hr,rfl⟩)))
  have h2:r.n=r.l.length:=h.lR.files.len _ (iB hr)
  omega
 ·rw[sZ he];exact Nat.zero_le _
end Go.Proofs.YtmibdabdlgmafaaGreatDoor
end
section
set_option maxRecDepth 20000
namespace Go.Proofs.YtmibdabdlgmafaaGreatDoor
open Go.Eng Go.Hx
theorem Rd.part{w:World}{a:Addr}{n k m:Nat}{B:List UInt8}(h:Rd w 1 (some a) n (aZ B)):∀(j:Nat) (u:Value),(aZ ((B.drop k).take m))[j]? =some u→w.cell? ((a.add k).add j)=some u:=by
 intro j u hu
 rw[add_add]
 refine h.cell ?_
 unfold aZ at hu ⊢
 rw[List.getElem?_map,List.getElem?_take]at hu
 rw[List.getElem?_map]
 split at hu
 ·rw[List.getElem?_drop]at hu;exact hu
 ·simp at hu
end Go.Proofs.YtmibdabdlgmafaaGreatDoor
end
section
namespace Go.Eng
open Go.RowKit
abbrev DI(v:Value):List PanicEntry:=[{v,recovered:=false}]
def RE(b:cG)(R Rp:Value→List bh→List bh→Prop):Ending→World→Prop:=fun e w' =>
 (∃v X' S',e= .returned v∧R v X' S' ∧Mem b X' S' w')∨(∃v X' S',e= .panicked (DI v)∧Rp v X' S' ∧Mem b X' S' w')
def Ck(P:Program)(f:Nat)(args:List Value)(X0 S0:List bh)(R Rp:Value→List bh→List bh→Prop):Prop:=
 ∀w,Mem ⟨w,dD X0,dD S0⟩ X0 S0 w→Calls P f args.toArray w (RE ⟨w,dD X0,dD S0⟩ R Rp)
section
variable{P:Program}{Q:Exit→Act→World→Prop}{N:Nat}{D:List Deferred}{ρ:Env}{b:cG}{X X' X0 Xr S S' S0:List bh}{ty:TypeId}{x:Operand}{K:Value→List bh→List bh→Prop}
theorem AS{w:World}{K:Value→World→Prop}{f:Nat}{l:List Operand}{vs:List Value}{tys:Array TypeId}{R:Ending→World→Prop}(hv:nO ρ l=some vs)(hf:∀args w,(callFunc f args).run P w= .ok (.enter f args) w)
  (hc:Calls P f vs.toArray w R) (hR:∀e w',R e w' →(∃v,e= .returned v∧K v w')∨∃c,e= .panicked c∧WQ Q N D (.panic c) ρ w'):XW P Q N D ρ w (.call ⟨.value (.func f),l.toArray,tys⟩) ty K:=by
 intro a dst pos af g ha
 unfold Oper.wp
 have:(execOp a.eval ⟨dst,.call ⟨.value (.func f),l.toArray,tys⟩,ty,pos,af,g⟩).run P w= .ok (.enter f vs.toArray) w:=by
  simp[execOp,resolve,Deferred.ofValue,Act.eval,invoke,ha.jn hv,hf]
 rw[this]
 refine Calls.mono hc ?_
 intro e w' he
 rcases hR e w' he with⟨v,rfl,hk⟩|⟨c,rfl,hk⟩
 ·exact⟨v,rfl,hk⟩
 ·exact hk a ha
theorem gJ{f:Nat}{l:List Operand}{vs:List Value}{tys:Array TypeId}{R Rp:Value→List bh→List bh→Prop}(hv:nO ρ l=some vs)(hf:∀args w,(callFunc f args).run P w= .ok (.enter f args) w)
  (hc:Ck P f vs X0 S0 R Rp) (is:List Nat) (hX:bX is X=some (X0,Xr)) (js:List Nat) (hS:dN js S=some S0)
  (kp:∀v X' S',Rp v X' S' →HQ Q N D (.panic (DI v)) ρ b (X' ++Xr) (S' ++S)) (k:∀v X' S',R v X' S' →K v (X' ++Xr) (S' ++S)):XH P Q N D ρ b X S (.call ⟨.value (.func f),l.toArray,tys⟩) ty K:=fun w m=>by
 have m1:=m.perm (av _ _ _ _ hX)
 refine AS hv hf (hc w (m1.part (cy _ _ _ hS))) ?_
 rintro e w' (⟨v,X',S',rfl,hR,m'⟩|⟨v,X',S',rfl,hR,m'⟩)
 ·exact .inl ⟨v,rfl,_,_,m1.frame (cy _ _ _ hS) m',k v X' S' hR⟩
 ·exact .inr ⟨_,rfl,kp v X' S' hR w' (m1.frame (cy _ _ _ hS) m')⟩
theorem ew{K:Act→World→Prop}{c:List PanicEntry}(h:HQ Q N D (.panic c) ρ b X S):HQ (Exit.then K Q) N D (.panic c) ρ b X S:=h
end
theorem z8{P:Program}{f:Nat}{fn:Func}{c:Code}{vs:List Value}{R Rp:Value→List bh→List bh→Prop}{N:Nat}{X0 S0:List bh}(hf:P.funcs[f]? =some fn)(hb:fn.body=some c)(hN:fn.ntmps=N)(hl:vs.length≤N)
  (h:∀b,HC P (bodyPost P fn (RE b R Rp)) N [] c (gv vs 0) b X0 S0):Ck P f vs X0 S0 R Rp:=fun w m=>enter hf hb hN hl (h _ w m)
section
variable{P:Program}{fn:Func}{R Rp:Value→List bh→List bh→Prop}{N:Nat}{D:List Deferred}{ρ:Env}{b:cG}{X X' Xz Xr X0 S S' S0:List bh}{e:Exit}{u:FrameMode}
theorem pG{R1 R2:Ending→World→Prop}(h:∀e w,R1 e w→R2 e w):∀e a w,bodyPost P fn R1 e a w→bodyPost P fn R2 e a w
 | .normal,a,w,⟨h1,v,h2,h3⟩=>⟨h1,v,h2,h _ _ h3⟩
 | .ret,a,w,⟨h1,v,h2,h3⟩=>⟨h1,v,h2,h _ _ h3⟩
 | .panic c,a,w,⟨h1,h2⟩=>⟨h1,h _ _ h2⟩
 | .outgrown,a,w,h1=>h _ _ h1
 | .exit _,a,w,h1=>h1.elim
 | .goto _,a,w,h1=>h1.elim
theorem DM(h:HQ (bodyPost P fn (RB b R)) N D e ρ b X S):HQ (bodyPost P fn (RE b R Rp)) N D e ρ b X S:=fun w m a ha=>
 pG (fun e w h=>by obtain⟨v,X',S',h1,h2,h3⟩:=h;exact .inl ⟨v,X',S',h1,h2,h3⟩) _ _ _ (h w m a ha)
theorem C0{v:Value}(is:List Nat)(hX:bX is X=some (X',Xz))(js:List Nat)(hS:dN js S=some S')(hR:Rp v X' S'):HQ (bodyPost P fn (RE b R Rp)) N [] (.panic (DI v)) ρ b X S:=fun w m a ha=>
 ⟨ha.df,.inr ⟨v,X',S',rfl,hR,m.out is hX js hS⟩⟩
def B4(P:Program)(fn:Func)(b:cG)(R:Value→List bh→List bh→Prop)(N:Nat)(D:List Deferred)(ρ:Env)(X S:List bh)(u:FrameMode):Prop:=∀w,Mem b X S w→∀tmps:Array Value,(∀t v,get ρ t=some v→tmps[t]? =some v)→Go.Leaves P fn tmps (RB b R) D u w
theorem va(he:Leaves e)(h:B4 P fn b R N D ρ X S .returning):HQ (bodyPostD P fn (RB b R)) N D e ρ b X S:=Ce he h
theorem iR{c:List PanicEntry}(h:B4 P fn b R N D ρ X S (.panicking c)):HQ (bodyPostD P fn (RB b R)) N D (.panic c) ρ b X S:=fun w m a ha=>by
 have:=h w m a.tmps ha.gt
 show Go.Leaves P fn a.tmps (RB b R) a.defers (.panicking c) w
 rw[ha.df]
 exact this
def zu(P:Program)(f:Nat)(args:List Value)(u:FrameMode)(X0 S0:List bh)(R:FrameMode→List bh→List bh→Prop):Prop:=
 ∀w,Mem ⟨w,dD X0,dD S0⟩ X0 S0 w→CallsD P f args.toArray u w fun e u' w' =>e= .returned (.tuple #[])∧∃X' S',R (settle u') X' S' ∧Mem ⟨w,dD X0,dD S0⟩ X' S' w'
theorem l5{f:Nat}{vs cap:List Value}{Rd:FrameMode→List bh→List bh→Prop}(hu:u≠ .run)(hcall:∀args w,(callFunc f args).run P w= .ok (.enter f args) w)(hc:zu P f (vs++cap) u X0 S0 Rd)(is:List Nat)(hX:bX is X=some (X0,Xr))(js:List Nat)(hS:dN js S=some S0)
  (k:∀u' X' S',Rd u' X' S' →B4 P fn b R N D ρ (X' ++Xr) (S' ++S) u'):B4 P fn b R N (⟨.fn (.func f) cap.toArray,vs.toArray⟩::D) ρ X S u:=fun w m tmps ht=>by
 have m1:=m.perm (av _ _ _ _ hX)
 refine leaves_cons (f:=f) (args:=(vs++cap).toArray) hu ?_ ?_
 ·simp[invoke,hcall]
 ·refine CallsD.mono (hc w (m1.part (cy _ _ _ hS))) ?_
  rintro e u' w' ⟨rfl,X',S',hR,m'⟩
  exact k _ _ _ hR w' (m1.frame (cy _ _ _ hS) m') tmps ht
end
section
variable{P:Program}{ops:Array Oper}{fn:Func}{N:Nat}{D:List Deferred}{ρ ρ' :Env}{w:World}{c₀:Frame}{cs:List Frame}{R:Ending→FrameMode→World→Prop}{Q:Exit→Act→List Frame→World→Prop}{op:Op}{ty:TypeId}{pos:String}{af:Array Edge}{d:Nat}{v:Value}{rest:List Nat}{u:FrameMode}
def SL(P:Program)(ops:Array Oper)(Q:Exit→Act→List Frame→World→Prop)(N:Nat)(D:List Deferred)(l:List Nat)(ρ:Env)(cs:List Frame)(w:World):Prop:=∀a,Ag N D ρ a→wpOpsS P ops Q l a cs w
theorem EC{i:Nat}(ho:ops[i]? =some ⟨some d,op,ty,pos,af,none⟩)(h:Yl P N D ρ w op ty v)(k:SL P ops Q N D rest ((d,v)::ρ) cs w)(hd:d<N:=by decide):SL P ops Q N D (i::rest) ρ cs w:=fun a ha=>by
 simp only[wpOpsS,ho]
 rw[if_pos (by simp[Region.wanted]),h a (some d) pos af none ha]
 exact k _ (ha.put hd)
theorem BE{i:Nat}{tys:Array TypeId}{pv:Value}{older:List PanicEntry}(ho:ops[i]? =some ⟨some d,.call ⟨.builtin .recover, #[],tys⟩,ty,pos,af,none⟩)(hu:c₀.mode= .panicking ({v:=pv,recovered:=false}::older))
  (k:SL P ops Q N D rest ((d,pv)::ρ) ({c₀ with mode:=.panicking ({v:=pv,recovered:=true}::older)}::cs) w) (hd:d<N:=by decide):SL P ops Q N D (i::rest) ρ (c₀::cs) w:=fun a ha=>by
 have hr:(execOp a.eval ⟨some d,.call ⟨.builtin .recover, #[],tys⟩,ty,pos,af,none⟩).run P w= .ok .recover w:=by
  simp[execOp,resolve,invoke,builtin]
 have h2:recoverD (c₀::cs)=some (pv,{c₀ with mode:=.panicking ({v:=pv,recovered:=true}::older)}::cs):=by simp[recoverD,hu]
 simp only[wpOpsS,ho]
 rw[if_pos (by simp[Region.wanted]),hr]
 simp only[h2]
 exact k _ (ha.put hd)
theorem zS{i:Nat}{tys:Array TypeId}(ho:ops[i]? =some ⟨some d,.call ⟨.builtin .recover, #[],tys⟩,ty,pos,af,none⟩)(hu:c₀.mode= .returning)
  (k:SL P ops Q N D rest ((d,.nilIface)::ρ) (c₀::cs) w) (hd:d<N:=by decide):SL P ops Q N D (i::rest) ρ (c₀::cs) w:=fun a ha=>by
 have hr:(execOp a.eval ⟨some d,.call ⟨.builtin .recover, #[],tys⟩,ty,pos,af,none⟩).run P w= .ok .recover w:=by
  simp[execOp,resolve,invoke,builtin]
 have h2:recoverD (c₀::cs)=none:=by simp[recoverD,hu]
 simp only[wpOpsS,ho]
 rw[if_pos (by simp[Region.wanted]),hr]
 simp only[h2]
 exact k _ (ha.put hd)
theorem BH{c:Code}{a:Act}{b:cG}{X S:List bh}{R0:Ending→World→Prop}(m:Mem b X S w)(h:HC P (bodyPost P fn R0) N [] c ρ b X S)(ha:Ag N [] ρ a)(hR:∀e w',R0 e w' →∃v,e= .returned v∧R (.returned v) u w'):c.wpS P (bodyPostS P fn c₀ cs R) a ({c₀ with mode:=u}::cs) w:=by
 refine wpS_of_wp (wp_mono (h w m a ha) ?_)
 intro e a' w' hb
 cases e with
 |normal=>
  obtain⟨h1,v,h2,h3⟩:=hb
  obtain⟨v',hv,h4⟩:=hR _ _ h3
  cases hv
  exact⟨h1,u,rfl,v,h2,h4⟩
 |ret=>
  obtain⟨h1,v,h2,h3⟩:=hb
  obtain⟨v',hv,h4⟩:=hR _ _ h3
  cases hv
  exact⟨h1,u,rfl,v,h2,h4⟩
 |panic c=>
  obtain⟨h1,h2⟩:=hb
  obtain⟨v',hv,h4⟩:=hR _ _ h2
  cases hv
 |outgrown=>
  obtain⟨v',hv,h4⟩:=hR _ _ hb
  cases hv
 |exit id=>exact hb.elim
 |goto l=>exact hb.elim
end
end Go.Eng
end
section
namespace Go.Eng
open Go.RowKit
def qp(ds:List Nat)(a a' :Act):Prop:=a'.defers=a.defers∧a'.tmps.size=a.tmps.size∧∀t:Nat,t∉ds→a'.tmps[t]? =a.tmps[t]?
theorem qp.refl(ds:List Nat)(a:Act):qp ds a a:=⟨rfl,rfl,fun _ _=>rfl⟩
theorem qp.put{ds:List Nat}{a a' :Act}{d:Nat}{v:Value}(hd:d∈ds)(h:qp ds a a'):qp ds (a.put (some d) v) a' :=by
 obtain⟨h1,h2,h3⟩:=h
 refine⟨h1,by rw[h2];simp[Act.put],fun t ht=> ?_⟩
 rw[h3 t ht]
 have hne:d≠t:=fun e=>ht (e▸hd)
 simp only[Act.put]
 rw[Array.getElem?_setIfInBounds_ne hne]
def yO(ds:List Nat)(Q:Exit→Act→World→Prop):Exit→Act→World→Prop
 | .panic c,a,w=>∀a',qp ds a a' →Q (.panic c) a' w
 | .outgrown,_,_=>False
 |e,a,w=>Q e a w
section
variable{P:Program}{ops:Array Oper}{Q:Exit→Act→World→Prop}
theorem iV{T:Nat→World→Prop}{X:List Nat}(hs:Region.noSelect ops=true)(hQ:∀(i:Nat) (o:Oper),ops[i]? =some o→∀c a v w,Q (.panic c) (a.put o.dst v) w→Q (.panic c) a w):∀(L:List (Nat×Option Nat)) (sq:List (Option Nat×Oper)) (l:Array Bool) (a:Act) (w:World) (n k:Nat),
  iG ops L=some sq→eD ops X L l=true→L.length≤n→Kept ops l→jg X l=k→T k w→fp P ops Q T k sq a w→Af P ops Q (fun l w=>T (jg X l) w) n l a w
 | [],sq,l,a,w,n,k,hp,hk,_,_,_,_,h=>by
  simp only[iG,Option.some.injEq]at hp
  subst hp
  have hr:Region.ready .any ops l=[]:=by simpa[eD]using hk
  cases n with
  |zero=>exact⟨hr,h⟩
  |succ n=>exact⟨fun _=>h,by rw[hr];simp⟩
 |(i,x)::r,sq,l,a,w,0,k,hp,hk,hf,_,_,_,h=>by simp at hf
 |(i,x)::r,sq,l,a,w,n+1,k,hp,hk,hf,hK,hc,hT,h=>by
  unfold iG at hp
  split at hp
  ·rename_i o l' ho hl'
   cases hp
   have hf' :r.length≤n:=by simp at hf;omega
   cases x with
   |none=>
    simp only[eD,Bool.and_eq_true,beq_iff_eq]at hk
    obtain⟨⟨hrd,hct⟩,hk⟩:=hk
    have hmem:i∈Region.ready .any ops l:=by rw[hrd];simp
    have hcs:jg X (l.setIfInBounds i true)=k+1:=by rw[qO (mem_ready.1 hmem).1,hct,hc]
    have hK' :=hK.set hmem
    refine⟨fun h0=>(by rw[h0]at hmem;cases hmem),fun j hj=> ?_⟩
    have hji:j=i:=by rw[hrd]at hj;simpa using hj
    subst hji
    unfold wpOp
    simp only[ho]
    simp only[fp]at h
    split at h
    ·rename_i hw
     rw[if_pos hw]
     refine .inl (Oper.wp_mono ?_ h)
     rintro a' w' ⟨hS',h'⟩
     exact⟨by rw[hcs];exact hS',iV hs hQ r l' _ a' w' n (k+1) hl' hk hf' hK' hcs hS' h'⟩
    ·rename_i hw
     rw[if_neg hw]
     exact⟨by rw[hcs];exact h.1,iV hs hQ r l' _ _ w n (k+1) hl' hk hf' hK' hcs h.1 h.2⟩
   |some m=>
    simp only[eD,Bool.and_eq_true,Bool.not_eq_true']at hk
    obtain⟨⟨⟨⟨hfree,hcon⟩,hX⟩,hcap⟩,hk⟩:=hk
    obtain⟨v,hy,h'⟩:=h
    have hmem:i∈Region.ready .any ops l:=by simpa using hcon
    have hcs:jg X (l.setIfInBounds i true)=k:=by rw[mM hX,hc]
    refine mH ho (Region.noSelect_spec hs) (fun c a w=>hQ i o ho c a _ w) (fun l' =>Kept ops l' ∧∀q,l.getD q false=true→l'.getD q false=true) (fun l' j hR hj=>⟨hR.1.set hj,fun q hq=>getD_set_true (hR.2 q hq)⟩)
     (fun l' w' =>by rw[mM hX]) n l a w (Region.free_spec ho hfree) hmem ?_ ⟨hK,fun q hq=>hq⟩ (by rw[hc];exact hT) (iV hs hQ r l' _ _ w n k hl' hk hf' (hK.set hmem) hcs hT h')
    rcases hy with⟨hw,hv⟩|hy
    ·refine .inl ⟨hw,fun w' hw' =>hv w' ?_⟩
     obtain⟨l2,⟨hK2,al⟩,hun,hT2⟩:=hw'
     exact⟨jg X l2,by rw[←hc];exact oK al,rz hK2 hun hcap,hT2⟩
    ·exact .inr hy
  ·cases hp
theorem o4{T:Nat→World→Prop}{X ds:List Nat}{id:Nat}{a:Act}{w:World}{sq:List (Option Nat×Oper)}(L:List (Nat×Option Nat))(hds:ops.all (fun o=>match o.dst with|some d=>ds.contains d|none=>true)=true)(hm:P.follows .mixedOrders=true)(hs:Region.noSelect ops=true)(hk:eD ops X L (Array.replicate ops.size false)=true)(hn:L.length≤ops.size)
  (hp:iG ops L=some sq) (hT:T 0 w.drew) (h:fp P ops (yO ds Q) T 0 sq a w.drew):(Code.region id ops true).wp P Q a w:=by
 refine Code.wp_mono (Q:=yO ds Q) (fun e a w q=>by cases e <;> first|exact q|exact q.elim|exact q a (.refl _ _)) ?_
 refine wp_region_any hm (eP _ _ _ _ (iV (X:=X) hs (fun i o ho c a v w q a' ha' => ?_) L sq _ a _ _ 0 hp hk hn ?_ ?_ hT h))
 ·have hmem:o∈ops:=by
   obtain⟨hi,he⟩:=Array.getElem?_eq_some_iff.1 ho
   exact he▸Array.getElem_mem hi
  have:=Array.all_eq_true_iff_forall_mem.1 hds o hmem
  cases hd:o.dst with
  |none=>rw[hd]at q;exact q a' ha'
  |some d=>
   rw[hd]at this q
   exact q a' (ha'.put (by simpa using this))
 ·intro j hj
  simp[Array.getElem?_replicate]at hj
  split at hj <;> cases hj
 ·unfold jg
  rw[List.countP_eq_zero]
  intro x _
  simp[Array.getElem?_replicate]
  split <;> rfl
end
def AB(ds:List Nat)(ρ:Env):Env:=ρ.filter fun p=> !ds.contains p.1
theorem pc{ds:List Nat}:∀{ρ:Env} {t:Nat} {v:Value},get (AB ds ρ) t=some v→t∉ds∧get ρ t=some v
 | [],t,v,h=>by simp[AB,get]at h
 |(t0,v0)::ρ,t,v,h=>by
  unfold AB at h
  rw[List.filter_cons]at h
  by_cases hc:ds.contains t0=true
  ·rw[if_neg (by simpa using hc)]at h
   obtain⟨h1,h2⟩:=pc (ρ:=ρ) h
   refine⟨h1, ?_⟩
   have hne:t0≠t:=fun e=>h1 (by rw[←e];simpa using hc)
   simp only[get]
   have hbf:Nat.beq t0 t=false:=by
    cases hb:Nat.beq t0 t with
    |true=>exact absurd (Nat.eq_of_beq_eq_true hb) hne
    |false=>rfl
   rw[hbf]
   exact h2
  ·rw[if_pos (by simpa using hc)]at h
   simp only[get]at h ⊢
   cases hb:Nat.beq t0 t with
   |true=>
    rw[hb]at h
    have:t0=t:=Nat.eq_of_beq_eq_true hb
    subst this
    exact⟨by simpa using hc,h⟩
   |false=>
    rw[hb]at h
    exact pc (ρ:=ρ) h
section
variable{P:Program}{ops:Array Oper}{Q:Exit→Act→World→Prop}{N:Nat}{D:List Deferred}{ρ ρ' :Env}{b:cG}{X X' X0 Xr S S' S0 X1 S1:List bh}{k c:Nat}{ds:List Nat}
theorem wU{id:Nat}{l:List (Option Nat×Oper)}(ds:List Nat)(is js:List Nat)(hX:bX is X=some (X1,Xr))(hS:dN js S=some S1)(Xs:List Nat)(L:List (Nat×Option Nat))(hm:P.follows .mixedOrders=true)
  (hk:(Region.noSelect ops && eD ops Xs L (Array.replicate ops.size false) && decide (L.length≤ops.size))=true) (hds:ops.all (fun o=>match o.dst with|some d=>ds.contains d|none=>true)=true)
  (hp:iG ops L=some l) (c:Nat) (h:HT P ops (yO ds Q) (TT b X1 S1 c) N D 0 l ρ b X S):HC P Q N D (.region id ops true) ρ b X S:=fun w m a ha=>by
 simp only[Bool.and_eq_true,decide_eq_true_eq]at hk
 exact o4 (X:=Xs) L hds hm hk.1.1 hk.1.2 hk.2 hp (fun _=>(wk is js hX hS).mem (m.lift (Fr.drew w))) (h _ (m.lift (Fr.drew w)) a ha)
theorem xB{T:Nat→World→Prop}(h:HQ Q N D .normal ρ b X S):HT P ops (yO ds Q) T N D k [] ρ b X S:=fun w m a ha=>h w m a ha
theorem Bl{e:List PanicEntry}(h:HQ Q N D (.panic e) (AB ds ρ) b X S):HQ (yO ds Q) N D (.panic e) ρ b X S:=fun w m a ha a' hag=>by
 obtain⟨h1,h2,h3⟩:=hag
 refine h w m a' ⟨by rw[h2];exact ha.sz,by rw[h1];exact ha.df,fun t v ht=> ?_⟩
 obtain⟨h4,h5⟩:=pc ht
 rw[h3 t h4]
 exact ha.gt t v h5
end
section
variable{P:Program}{ops:Array Oper}{fn:Func}{Q:Exit→Act→List Frame→World→Prop}{N:Nat}{D:List Deferred}{ρ:Env}{b:cG}{X X' S S' :List bh}{cs:List Frame}{c₀:Frame}{rest:List Nat}{op:Op}{ty:TypeId}{pos:String}{af:Array Edge}{d i:Nat}{v:Value}
def te(P:Program)(ops:Array Oper)(Q:Exit→Act→List Frame→World→Prop)(N:Nat)(D:List Deferred)(l:List Nat)(ρ:Env)(cs:List Frame)(b:cG)(X S:List bh):Prop:=∀w,Mem b X S w→SL P ops Q N D l ρ cs w
theorem nc{o:Oper}{a:Act}{w:World}(ho:ops[i]? =some o)(hw:Region.wanted o (yielded ops a.tmps)=true)(h:o.wp P a w (fun a' w' =>wpOpsS P ops Q rest a' cs w') (fun e a' w' =>Q e a' cs w')):wpOpsS P ops Q (i::rest) a cs w:=by
 simp only[wpOpsS,ho]
 rw[if_pos hw]
 unfold Oper.wp at h
 split
 ·rename_i w' hr
  rw[hr]at h
  exact h.elim
 ·exact h
theorem lr(ho:ops[i]? =some ⟨some d,op,ty,pos,af,none⟩)(h:∀{w},Mem b X S w→Yl P N D ρ w op ty v)(k:te P ops Q N D rest ((d,v)::ρ) cs b X S)(hd:d<N:=by decide):te P ops Q N D (i::rest) ρ cs b X S:=fun w m=>EC ho (h m) (k w m) hd
theorem A0(ho:ops[i]? =some ⟨some d,op,ty,pos,af,none⟩)(h:XH P (fun e a w=>Q e a cs w) N D ρ b X S op ty fun v X' S' =>te P ops Q N D rest ((d,v)::ρ) cs b X' S')(hd:d<N:=by decide):te P ops Q N D (i::rest) ρ cs b X S:=fun w m a ha=>by
 refine nc ho (by simp[Region.wanted]) (Oper.wp_mono ?_ (h w m a (some d) pos af none ha))
 rintro a' w' ⟨v,rfl,X',S',m',hk⟩
 exact hk w' m' _ (ha.put hd)
theorem w6(ho:ops[i]? =some ⟨none,op,ty,pos,af,none⟩)(h:XH P (fun e a w=>Q e a cs w) N D ρ b X S op ty fun _ X' S' =>te P ops Q N D rest ρ cs b X' S'):te P ops Q N D (i::rest) ρ cs b X S:=fun w m a ha=>by
 refine nc ho (by simp[Region.wanted]) (Oper.wp_mono ?_ (h w m a none pos af none ha))
 rintro a' w' ⟨v,rfl,X',S',m',hk⟩
 exact hk w' m' _ ha
theorem An{tys:Array TypeId}{pv:Value}{older:List PanicEntry}(ho:ops[i]? =some ⟨some d,.call ⟨.builtin .recover, #[],tys⟩,ty,pos,af,none⟩)(hu:c₀.mode= .panicking ({v:=pv,recovered:=false}::older))
  (k:te P ops Q N D rest ((d,pv)::ρ) ({c₀ with mode:=.panicking ({v:=pv,recovered:=true}::older)}::cs) b X S) (hd:d<N:=by decide):te P ops Q N D (i::rest) ρ (c₀::cs) b X S:=fun w m=>BE ho hu (k w m) hd
theorem xE{tys:Array TypeId}(ho:ops[i]? =some ⟨some d,.call ⟨.builtin .recover, #[],tys⟩,ty,pos,af,none⟩)(hu:c₀.mode= .returning)(k:te P ops Q N D rest ((d,.nilIface)::ρ) ({c₀ with mode:=.returning}::cs) b X S)(hd:d<N:=by decide):te P ops Q N D (i::rest) ρ (c₀::cs) b X S:=fun w m=>
 zS ho hu (by have:=k w m;rwa [show({c₀ with mode:=FrameMode.returning}:Frame)=c₀ by cases c₀;simp_all]at this) hd
theorem Ci{l:List Nat}(h:∀w,Mem b X S w→Mem b X' S' w)(k:te P ops Q N D l ρ cs b X' S'):te P ops Q N D l ρ cs b X S:=fun w m=>k w (h w m)
def EF(b:cG)(R:FrameMode→List bh→List bh→Prop):Ending→FrameMode→World→Prop:=fun e u' w' =>e= .returned (.tuple #[])∧∃X' S',R (settle u') X' S' ∧Mem b X' S' w'
def QD(P:Program)(fn:Func)(c₀:Frame)(cs:List Frame)(b:cG)(R:FrameMode→List bh→List bh→Prop)(c2:Code):Exit→Act→List Frame→World→Prop:=Exit.thenS (fun a cs' w=>c2.wpS P (bodyPostS P fn c₀ cs (EF b R)) a cs' w) (bodyPostS P fn c₀ cs (EF b R))
theorem rV{R:FrameMode→List bh→List bh→Prop}{c2:Code}{u2:FrameMode}(h:HC P (bodyPost P fn (RB b fun v X S=>v= .tuple #[]∧R (settle u2) X S)) N [] c2 ρ b X S):te P ops (QD P fn c₀ cs b R c2) N [] [] ρ ({c₀ with mode:=u2}::cs) b X S:=fun w m a ha=>by
 refine BH m h ha ?_
 rintro e w' ⟨v,X',S',rfl,⟨rfl,hR⟩,m'⟩
 exact⟨_,rfl,rfl,X',S',hR,m'⟩
end
theorem ug{P:Program}{f:Nat}{fn:Func}{id:Nat}{ops:Array Oper}{c2:Code}{vs:List Value}{u:FrameMode}{N:Nat}{X0 S0:List bh}{R:FrameMode→List bh→List bh→Prop}(hf:P.funcs[f]? =some fn)(hb:fn.body=some (.seq (.region id ops false) c2))(hN:fn.ntmps=N)(hl:vs.length≤N)
  (h:∀(b:cG) (c₀:Frame) (cs:List Frame),c₀.mode=u→te P ops (QD P fn c₀ cs b R c2) N [] (List.range ops.size) (gv vs 0) (c₀::cs) b X0 S0):zu P f vs u X0 S0 R:=fun w m=>by
 refine callsD_of_wpS hf hb fun c₀ cs hu=> ?_
 refine wpS_seq (wpS_region ?_)
 refine h _ c₀ cs hu w m _ ⟨?_,rfl,fun t v ht=> ?_⟩
 ·simp[hN];omega
 ·obtain⟨_,h2⟩:=gF vs 0 t v ht
  have hlt:=(List.getElem?_eq_some_iff.1 h2).1
  rw[Array.getElem?_append_left (by simpa using hlt)]
  simpa using h2
section
variable{P:Program}{Q:Exit→Act→World→Prop}{N:Nat}{D:List Deferred}{ρ:Env}{b:cG}{X S:List bh}{ty t:TypeId}{x:Operand}{v:Value}{K:Value→List bh→List bh→Prop}
theorem xI(hx:ev ρ x=some (.iface t v))(h:HQ Q N D (.panic (DI (.iface t v))) ρ b X S):XH P Q N D ρ b X S (.panic x) ty K:=fun w m a dst pos af g ha=>by
 unfold Oper.wp
 have:(execOp a.eval ⟨dst,.panic x,ty,pos,af,g⟩).run P w= .halt (.panic (.iface t v)) w:=by
  simp[execOp,ha.eval hx,Instr.panic,goPanic]
 rw[this]
 exact h w m a ha
theorem xp{fs:Array Field}{xT:TypeId}{w:World}(ht:P.underlying t=some (.struct fs)):(Instr.typeAssert (.iface t v) xT t true).run P w= .ok (.tuple #[v,.bool true]) w:=by
 simp[Instr.typeAssert,run_underlying ht]
theorem xy{fs:Array Field}{xT:TypeId}{w:World}{z:Value}{sz bytes:Nat}(ht:P.underlying t=some (.struct fs))(hT:TI P t z sz bytes):(Instr.typeAssert .nilIface xT t true).run P w= .ok (.tuple #[z,.bool false]) w:=by
 simp[Instr.typeAssert,run_underlying ht,og hT]
end
section
variable{P:Program}{fn:Func}{R:Value→List bh→List bh→Prop}{N:Nat}{ρ:Env}{b:cG}{X X' Xz S S' :List bh}{w:World}
theorem qk{t:TypeId}{p:Addr}{v:Value}(ha:dL P t=some false)(hc:w.cell? p=some v):(loadVar t p).run P w= .ok v w:=by
 simp[loadVar,jr ha,hc]
theorem gW{t t' :Nat}{ty ty' :TypeId}{p p' :Addr}{v v' :Value}(hr:fn.results= #[.cell t ty,.cell t' ty'])(hv:get ρ t=some (.pointer (some p)))(hv' :get ρ t' =some (.pointer (some p')))(ha:dL P ty=some false)(ha' :dL P ty' =some false)
  (hc:∀{w},Mem b X S w→w.cell? p=some v) (hc' :∀{w},Mem b X S w→w.cell? p' =some v') (is:List Nat) (hX:bX is X=some (X',Xz)) (js:List Nat) (hS:dN js S=some S') (hR:R (.tuple #[v,v']) X' S'):B4 P fn b R N [] ρ X S .returning:=fun w m tmps h=>
 ⟨.tuple #[v,v'],by have h1:=pU h hv;have h2:=pU h hv';simp at h1 h2;simp[results,hr,h1,h2,asAddr,qk ha (hc m),qk ha' (hc' m)],_,_,_,rfl,hR,m.out is hX js hS⟩
theorem x8{e:Exit}{t1 t2 t3 t4:Nat}{v1 v2 v3 v4:Value}(he:Leaves e)(hr:fn.results= #[.tmp t1,.tmp t2,.tmp t3,.tmp t4])(h1:get ρ t1=some v1)(h2:get ρ t2=some v2)(h3:get ρ t3=some v3)(h4:get ρ t4=some v4)(is:List Nat)(hX:bX is X=some (X',Xz))(js:List Nat)(hS:dN js S=some S')(hR:R (.tuple #[v1,v2,v3,v4]) X' S'):HQ (bodyPost P fn (RB b R)) N [] e ρ b X S:=
 fun w m=>iK he (fun a hA=>by have g1:=hA.getD h1;have g2:=hA.getD h2;have g3:=hA.getD h3;have g4:=hA.getD h4;simp at g1 g2 g3 g4;simp[results,hr,g1,g2,g3,g4]) ⟨_,_,_,rfl,hR,m.out is hX js hS⟩
theorem o6{u:FrameMode}{D:List Deferred}(h:∀w,Mem b X S w→Mem b X' S' w)(k:B4 P fn b R N D ρ X' S' u):B4 P fn b R N D ρ X S u:=fun w m=>k w (h w m)
end
end Go.Eng
end
