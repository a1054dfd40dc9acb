/- Part. -/
import Derived.Test.YtmibdabdlgmafaaGreatDoorSWA2
import Derived.ProofKit
import Derived.OpenShut
import Derived.ShutString
import Derived.ChangeOld
import Derived.SizedLaws
import Derived.ChangeSame
import Derived.Laws.BitsAllLaws
import Derived.OrdersIn
import Derived.RangeFuncNested
import Derived.RangeFuncLeaves
import Derived.RangeFuncCalls
set_option linter.all false
section
set_option maxRecDepth 20000
namespace Go.Proofs.YtmibdabdlgmafaaGreatDoor
open Go.Eng Go.Hx
theorem sS{st:cF}{p:List UInt8}{r:fi}(h:bY st.seen p=some r):r∈rowsOf st:=by
 unfold rowsOf
 refine List.mem_append_left _ (List.mem_append_left _ ?_)
 exact List.mem_map.2 ⟨_,jd h,rfl⟩
def ct(st:cF)(p:List UInt8):List UInt8:=if dE st p=0 then((bY st.seen p).map (·.l)).getD []else []
theorem sY{st:cF}{p:List UInt8}(h:dE st p≠0):ct st p=[]:=by rw[ct,if_neg h]
theorem tb{st:cF}{p:List UInt8}{r:fi}(h:dE st p=0)(hr:bY st.seen p=some r):ct st p=r.l:=by rw[ct,if_pos h,hr];rfl
theorem sb{st:cF}{p:List UInt8}(h:dE st p=0):∃r,bY st.seen p=some r:=by
 unfold dE at h
 split at h
 ·omega
 ·split at h
  ·omega
  ·rename_i h2
   cases hq:bY st.seen p with
   |none=>exact absurd hq h2
   |some r=>exact⟨r,rfl⟩
def Small(st:cF):Prop:=∀r∈rowsOf st,r.n≤1000000000
theorem EC{g:Nat}{st:cF}{p:List UInt8}(hs:Small st):cf Tryz.prog 90 [.pointer (some ⟨g,0,none⟩),.string (strOf p)] [bn g st] [] (fun v_ X_ S_=>∃v,v_=(.tuple #[v,.int .i64 (dE st p)])∧X_=[bn g st,aG 5 1 v (ct st p).length (aQ (ct st p))]∧S_=[]):=by
 refine aO (N:=20) Tryz.func90 rfl rfl (by simp) fun b=> ?_
 refine ah<|aj<|hy (fun _=>ab rfl)<|hy (fun _=>ab rfl)<|ai<|ag<|ah<|ah<|aj<|hy (fun _=>aa rfl)<|hy (fun _=>aa rfl)<| ?_
 refine hx (aq rfl Tryz.call158 (um) [0] rfl [] rfl ?_)
 rintro _ _ _ ⟨rfl,rfl,rfl⟩
 refine hy (fun _=>ab rfl)<|ai<|al (ρ' :=[(6,_),(5,_),(4,_),(0,_),(1,_)]) ⟨rfl,rfl,rfl,rfl,rfl,trivial⟩<|ak (X' :=[_]) (S' :=[]) (fun _ m=>m)<|ag<|ah<|aj<|hy (fun _=>aa rfl)<|hy (fun _=>dL rfl rfl)<|ai<|al (ρ' :=[(11,_),(6,_),(5,_),(4,_),(0,_),(1,_)]) ⟨rfl,rfl,rfl,rfl,rfl,rfl,trivial⟩<|ag<| ?_
 refine cC rfl (fun h=> ?_) (fun h=> ?_)
 ·rw[sY h]
  refine ah<|aj<|hy (fun _=>aa rfl)<|hy (fun _=>ab rfl)<|hy (fun _=>ab rfl)<|ai<|al (ρ' :=[(5,_),(4,_),(11,_),(6,_),(0,_),(1,_)]) ⟨rfl,rfl,rfl,rfl,rfl,rfl,trivial⟩<|ag<|aV<|ax<| ?_
  refine ak (fun w m=>m.dy (r' :=aG 5 1 (.slice none 0 0) 0 []) (.refl _ _) (Own.nil _ _ _ _) (fun k hk=>hk.elim)) ?_
  exact dh trivial rfl rfl rfl [1,0] rfl [] rfl ⟨_,rfl,rfl,rfl⟩
 ·have h0:=Decidable.not_not.1 h
  obtain⟨r,hr⟩:=sb h0
  have hv:bY (dK st.seen) p=some r.val:=by rw[l9,hr];rfl
  rw[tb h0 hr,h0]
  have hmem:=sS hr
  obtain⟨i,hi⟩:=List.mem_iff_getElem?.1 hmem
  have hsm:=hs r hmem
  refine bw (fun w m=>(m.perm (ar [0] _ [_] _ rfl)).unpack) ?_
  refine a6 (fun m=>gz ((View.ok (View.row hi)).1 _ (m.Gt 4 rfl))) fun hrl=> ?_
  have hrl:=hrl.1
  refine aD<|ag<|ah<|aj<|hy (fun _=>aa rfl)<|hy (fun _=>bd rfl)<|hy (fun _=>aL rfl gF (by decide))<|hy (fun m=>aw rfl mi (aA (m.aX 0 rfl) rfl))<|hy (fun _=>aa rfl)<|hy (fun m=>yV (jC (enc:=SV) rfl rfl Tryz.underlying174 sA (jK Tryz.underlying9) (m.pk 1 rfl)) ((show gE false (.slice none 0 0) (bY (dK st.seen) p)= .slice r.A r.n r.c by rw[hv];rfl)))<| ?_
  refine hx (cI rfl Tryz.call117 (rW (by omega)) [] rfl (.x 4 rfl (View.row hi) .nil) ?_)
  rintro _ _ _ ⟨v,rfl,rfl,rfl⟩
  refine⟨rfl, ?_⟩
  refine aB (fun m=>(m.own 0 rfl).slice) ?_
  rintro⟨A_x,c_x,rfl,hc_x⟩
  refine aB (fun m=>(m.ord 0 rfl).2.1) fun hA_x=> ?_
  refine hy (fun _=>ab rfl)<|hy (fun _=>ab rfl)<|ai<|al (ρ' :=[(5,_),(4,_),(11,_),(6,_),(0,_),(1,_)]) ⟨rfl,rfl,rfl,rfl,rfl,rfl,trivial⟩<|ak (X' :=[_,_,_,_,_,_]) (S' :=[]) (fun _ m=>m)<|ag<|aV<| ?_
  refine ak (X' :=bn g st::_) (fun w m=>(m.perm (ar [1,1,1,1,1] _ [_,_,_,_,_] _ rfl)).pack) ?_
  exact dh trivial rfl rfl rfl [0,0] rfl [] rfl ⟨_,rfl,(by rw[hrl]),rfl⟩
theorem C8{g:Nat}{l:List (List UInt8×Value)}{p:List UInt8}{r:fi}:cf Tryz.prog 153 [.agg [SV p,r.val].toArray,.map (some g)] [cY SV g l] [] (fun v_ X_ S_=>v_=(.tuple #[])∧X_=[cY SV g (cJ l p r.val)]∧S_=[]):=by
 refine aO (N:=9) Tryz.func153 rfl rfl (by simp) fun b=> ?_
 refine ah<|aj<| ?_
 refine hx (cE rfl (fun g2=> ?_))
 refine ai<|ak (X' :=[_,_]) (S' :=[]) (fun _ m=>m)<|ag<|aj<|hy (fun _=>aa rfl)<|hy (fun _=>aL rfl AI (by decide))<|hy (fun m=>aw rfl lH (aA (m.aX 0 rfl) rfl))<|hy (fun _=>aL rfl Bb (by decide))<|hy (fun m=>aw rfl dU (aA (m.aX 0 rfl) rfl))<| ?_
 refine cH (pI (enc:=SV) 1 rfl rfl rfl rfl Tryz.underlying174 (jK Tryz.underlying9) ?_)
 refine ai<|al (ρ' :=[(2,_),(0,_),(1,_)]) ⟨rfl,rfl,rfl,trivial⟩<|ak (X' :=[_,_]) (S' :=[]) (fun _ m=>m)<| ?_
 exact fE trivial rfl [0] rfl [] rfl ⟨rfl,rfl,rfl⟩
theorem mS{l:dz}{p:List UInt8}{r x:fi}(h:x∈(cJ l p r).map (·.2)):x∈l.map (·.2)∨x=r:=by
 induction l with
 |nil=>simp only[cJ,List.map_cons,List.map_nil,List.mem_singleton]at h;exact .inr h
 |cons a q ih=>
  obtain⟨k,u⟩:=a
  simp only[cJ]at h
  split at h
  ·simp only[List.map_cons,List.mem_cons]at h ⊢
   rcases h with rfl|h
   ·exact .inr rfl
   ·exact .inl (.inr h)
  ·simp only[List.map_cons,List.mem_cons]at h ⊢
   rcases h with rfl|h
   ·exact .inl (.inl rfl)
   ·rcases ih h with h|h
    ·exact .inl (.inr h)
    ·exact .inr h
def cF.wrote(st:cF)(p:List UInt8)(r:fi)(A:Option Addr)(c:Nat):cF:={st.eu with seen:=cJ st.seen p r,waits:=st.waits++[.written p r],wA:=A,wc:=c}
theorem oJ{st:cF}{p:List UInt8}{r:fi}{A:Option Addr}{c:Nat}:∀x∈rowsOf (st.wrote p r A c),x∈rowsOf st∨x=r:=by
 intro x hx
 unfold rowsOf cF.wrote at hx
 simp only[cF.eu,List.mem_append,List.filterMap_append]at hx
 unfold rowsOf
 simp only[List.mem_append]
 rcases hx with(h|h)|h|h
 ·rcases mS h with h|h
  ·exact .inl (.inl (.inl h))
  ·exact .inr h
 ·exact .inl (.inl (.inr h))
 ·exact .inl (.inr h)
 ·simp[fI.row]at h
  exact .inr h
theorem Gf{g:Nat}{st:cF}{p:List UInt8}{r:fi}{e:TypeId}(hp:st.cj≤1000000000000)(hw:st.waits.length≤1000000):cf Tryz.prog 116 [.pointer (some ⟨g,0,none⟩),(fI.written p r).val] [bn g st,aG e 1 (.slice r.A r.n r.c) r.n (aQ r.l)] [] (fun v_ X_ S_=>∃A c,v_=(.tuple #[])∧X_=[bn g (st.wrote p r A c)]∧S_=[]):=by
 have hsw:st.eu.waits.length=st.waits.length:=rfl
 refine aO (N:=25) Tryz.func116 rfl rfl (by simp) fun b=> ?_
 refine ah<|aj<|hy (fun _=>aa rfl)<| ?_
 refine hx (aq rfl Tryz.call181 (rU (by omega)) [0] rfl [] rfl ?_)
 rintro _ _ _ ⟨rfl,rfl,rfl⟩
 refine aU (fun w m=>(m.perm (ar [0] _ [_] _ rfl)).unpack) ?_
 refine ai<|al (ρ' :=[(0,_),(1,_)]) ⟨rfl,rfl,trivial⟩<|ak (X' :=[_,_,_,_,_,_]) (S' :=[]) (fun _ m=>m)<|ag<|ah<|cT [8] [(0,some 0),(1,some 0),(2,some 0),(3,some 0),(4,some 0),(5,some 0),(6,some 0),(7,some 0),(8,none)] (by kernel_rfl) (by kernel_rfl) rfl 0<|an (aa rfl)<|an (aa rfl)<|an (bd rfl)<|an (aL rfl gF (by decide))<|cm (fun m=>aw rfl mi (aA (m.aX 0 rfl) rfl))<|an (jV rfl rfl)<|an (uk rfl (by kernel_rfl))<|an (aa rfl)<| ?_
 refine eb (tY rfl rfl (fun w=>by kernel_rfl) Tryz.call153 (C8) [1] rfl [] rfl ?_)
 rintro _ _ _ ⟨rfl,rfl,rfl⟩
 refine⟨(fun h=>absurd h (by decide)), ?_⟩
 refine bF<|al (ρ' :=[(0,_),(1,_)]) ⟨rfl,rfl,trivial⟩<|ak (X' :=[_,_,_,_,_,_]) (S' :=[]) (fun _ m=>m)<|ag<|aj<|hy (fun _=>aa rfl)<|hy (fun _=>aa rfl)<|hy (fun _=>bd rfl)<|hy (fun _=>aL rfl ir (by decide))<|hy (fun m=>aw rfl ve (aA (m.aX 1 rfl) rfl))<|hy (fun _=>aa rfl)<| ?_
 refine hx (b4 Tryz.underlying175 p6 rfl rfl rfl (by simp[Value.cells,fI.val]) (by decide) (by decide) (fun g21=> ?_))
 have hA_b21:0<1→(some (⟨g21,0,none⟩:Addr))≠none:=fun _ h=>by cases h
 refine aU (fun w m=>m.bU 0 rfl (show _=aG 232 1 (.slice (some ⟨g21,0,none⟩) 1 1) 1 [(fI.written p r).val]from rfl)) ?_
 refine hx (bI 4 rfl rfl rfl Tryz.underlying175 Tryz.underlying175 (by exact .inl rfl) p6 rfl (fun m=>Src.bZ (m.ord 0 rfl)) (by simp[fI.val,Value.oneCell']) (by unfold maxLen;omega) (by omega) (fun u=> ?_))
 refine aB (fun m=>(m.own 0 rfl).slice) ?_
 rintro⟨A_d3,c_d3,rfl,hc_d3⟩
 refine aB (fun m=>(m.ord 0 rfl).2.1) fun hA_d3=> ?_
 refine hy (fun _=>bd rfl)<|hy (fun _=>aL rfl ir (by decide))<| ?_
 refine cH (cA 3 rfl rfl rfl vU rfl (by first|exact Nat.le_of_ble_eq_true rfl|simp) ?_)
 refine ai<|al (ρ' :=[(0,_),(1,_)]) ⟨rfl,rfl,trivial⟩<|ak (X' :=[_,_,_,_,_,_,_]) (S' :=[]) (fun _ m=>m)<| ?_
 refine ak (fun w m=>m.bU 0 rfl (show _=aJ g 177 (jv (st.wrote p r A_d3 c_d3))from by simp[jv,cF.wrote,cF.eu])) ?_
 refine ak (fun w m=>m.bU 3 rfl (show _=cY SV st.gs (dK (st.wrote p r A_d3 c_d3).seen)from congrArg (cY SV st.gs) (pF _ _ _))) ?_
 refine ak (fun w m=>m.bU 2 rfl (show _=aG 232 1 (.slice A_d3 (st.wrote p r A_d3 c_d3).waits.length c_d3) (st.wrote p r A_d3 c_d3).waits.length ((st.wrote p r A_d3 c_d3).waits.map fI.val)from by simp[cF.wrote,cF.eu])) ?_
 refine ak (X' :=iv (rowsOf (st.wrote p r A_d3 c_d3))::_) (fun w m=>(m.perm (ar [5,5] _ [_,_] _ rfl)).Dv (oJ)) ?_
 refine ak (X' :=bn g (st.wrote p r A_d3 c_d3)::_) (fun w m=>(m.perm (ar [3,2,3,1,0] _ [_,_,_,_,_] _ rfl)).pack) ?_
 exact fE trivial rfl [0] rfl [] rfl ⟨_,_,rfl,rfl,rfl⟩
def bD(st:cF)(p:List UInt8)(n:Nat):Int:=if¬fF p then 1 else if st.cj=0 then 6 else if st.room<(lp st.seen:Int)-(((bY st.seen p).map (·.n)).getD 0:Nat)+n then 5 else 0
theorem yj:∀{l:dz} {m:Nat},(∀x∈l,x.2.n≤m)→lp l≤l.length*m
 | [],m,h=>by simp[lp]
 |a::q,m,h=>by
  have:=yj (l:=q) (m:=m) (fun x hx=>h x (List.mem_cons_of_mem _ hx))
  have h1:=h a (List.mem_cons_self ..)
  simp only[lp,List.map_cons,List.sum_cons,List.length_cons,Nat.add_mul]at this ⊢
  omega
structure nU(st:cF)(k:Nat):Prop where
 cj:st.cj≤1000000000000
 room:st.room≤1048576
 seen:st.seen.length≤k
 rest:st.cp.length+st.waits.length≤k
 small:∀r∈rowsOf st,r.n≤1048576
theorem nU.le{st:cF}{k k' :Nat}(h:nU st k)(hk:k≤k'):nU st k' :=⟨h.cj,h.room,Nat.le_trans h.seen hk,Nat.le_trans h.rest hk,h.small⟩
theorem nU.lp{st:cF}{k:Nat}(h:nU st k):lp st.seen≤k*1048576:=Nat.le_trans (yj (m:=1048576) (fun x hx=>h.small _ (by unfold rowsOf;exact List.mem_append_left _ (List.mem_append_left _ (List.mem_map.2 ⟨x,hx,rfl⟩))))) (Nat.mul_le_mul_right _ h.seen)
theorem nU.sm{st:cF}{k:Nat}(h:nU st k):Small st:=fun r hr=>Nat.le_trans (h.small r hr) (by decide)
theorem nU.init{n:Int}{gs gl:Nat}(h:n≤1048576):nU (mE n gs gl) 0:=⟨by simp[mE],h,Nat.le_refl _,Nat.le_refl _,fun r hr=>by simp[rowsOf,mE]at hr⟩
theorem oQ(l:dz)(p:List UInt8)(r:fi):(cJ l p r).length≤l.length+1:=by
 induction l with
 |nil=>simp[cJ]
 |cons a q ih=>
  obtain⟨k,u⟩:=a
  simp only[cJ]
  split <;> simp only[List.length_cons] <;> omega
theorem r5(l:dz)(p:List UInt8):(ej l p).length≤l.length:=by
 induction l with
 |nil=>simp[ej]
 |cons a q ih=>
  obtain⟨k,u⟩:=a
  simp only[ej]
  split <;> simp only[List.length_cons] <;> omega
theorem ke{st:cF}(h:st.cj≤1000000000000):st.eu.cj≤1000000000000:=by
 simp only[cF.eu]
 split <;> omega
theorem nU.wrote{st:cF}{k:Nat}(h:nU st k){p:List UInt8}{r:fi}(hr:r.n≤1048576)(A:Option Addr)(c:Nat):nU (st.wrote p r A c) (k+1):=by
 refine⟨ke h.cj,h.room, ?_, ?_,fun x hx=> ?_⟩
 ·have:=oQ st.seen p r
  have:=h.seen
  show(cJ st.seen p r).length≤k+1
  omega
 ·have:=h.rest
  show st.cp.length+(st.waits++[fI.written p r]).length≤k+1
  simp only[List.length_append,List.length_cons,List.length_nil]
  omega
 ·rcases oJ x hx with h' |rfl
  ·exact h.small x h'
  ·exact hr
theorem DC{g:Nat}{st:cF}{p:List UInt8}{A:Option Addr}{n c:Nat}{l:List UInt8}{k:Nat}(ok:nU st k)(hk:k≤100000)(hn:n≤1048576):cf Tryz.prog 33 [.pointer (some ⟨g,0,none⟩),.string (strOf p),.slice A n c] [bn g st] [c6 1 A n (aQ l)] (fun v_ X_ S_=>∃st1 B c1 A1 c2,v_=(.int .i64 (bD st p n))∧X_=[bn g st1]∧S_=[]∧((bD st p n≠0∧st1=st)∨(bD st p n=0∧st1=st.wrote p ⟨B,n,c1,l⟩ A1 c2))):=by
 have hp:=ok.cj
 have hw:st.waits.length≤1000000:=by have:=ok.rest;omega
 have ht:lp st.seen≤1000000000000:=by have:=ok.lp;omega
 have hs:=ok.sm
 refine aO (N:=41) Tryz.func33 rfl rfl (by simp) fun b=> ?_
 refine a6 (fun m=>gz (m.rd 0 rfl)) ?_
 rintro⟨hl_r,hA_r⟩
 refine ah<|aj<|hy (fun _=>ab rfl)<|ai<|ag<|ah<|aK<|ah<|aj<|hy (fun _=>aa rfl)<| ?_
 refine hx (aq rfl Tryz.call115 (yc) [] rfl [] rfl ?_)
 rintro _ _ _ ⟨rfl,rfl,rfl⟩
 refine hy (fun _=>jH rfl)<|hy (fun _=>ab rfl)<|ai<|al (ρ' :=[(7,_),(6,_),(0,_),(1,_),(2,_)]) ⟨rfl,rfl,rfl,rfl,rfl,trivial⟩<|ak (X' :=[_]) (S' :=[_]) (fun _ m=>m)<|ag<| ?_
 refine cC rfl (fun h1=> ?_) (fun h1=> ?_)
 ·have e:bD st p n=1:=by rw[bD,if_pos h1]
  rw[e]
  refine ah<|aj<|hy (fun _=>ab rfl)<|ai<|ag<|aV<|aY<|ax<| ?_
  exact bh trivial rfl rfl [0] rfl [] rfl ⟨_,none,0,none,0,rfl,rfl,rfl,.inl ⟨by decide,rfl⟩⟩
 ·refine ah<|aj<|hy (fun _=>aa rfl)<| ?_
  refine hx (aq rfl Tryz.call87 (FL) [0] rfl [] rfl ?_)
  rintro _ _ _ ⟨rfl,rfl,rfl⟩
  refine hy (fun _=>jH rfl)<|hy (fun _=>ab rfl)<|ai<|al (ρ' :=[(11,_),(7,_),(6,_),(0,_),(1,_),(2,_)]) ⟨rfl,rfl,rfl,rfl,rfl,rfl,trivial⟩<|ak (X' :=[_]) (S' :=[_]) (fun _ m=>m)<|ag<| ?_
  refine cC rfl (fun h2=> ?_) (fun h2=> ?_)
  ·have e:bD st p n=6:=by rw[bD,if_neg h1,if_pos (by omega)]
   rw[e]
   refine ah<|aj<|hy (fun _=>ab rfl)<|ai<|ag<|aV<|aY<|ax<| ?_
   exact bh trivial rfl rfl [0] rfl [] rfl ⟨_,none,0,none,0,rfl,rfl,rfl,.inl ⟨by decide,rfl⟩⟩
  ·have hwe:bD st p n=if st.room<(lp st.seen:Int)-(((bY st.seen p).map (·.n)).getD 0:Nat)+n then 5 else 0:=by rw[bD,if_neg h1,if_neg (by omega)]
   have hv:∃B m c0,gE false (.slice none 0 0) (bY (dK st.seen) p)= .slice B m c0∧m=((bY st.seen p).map (·.n)).getD 0∧m≤1000000000:=by
    rw[l9]
    cases hq:bY st.seen p with
    |none=>exact⟨none,0,0,rfl,rfl,by decide⟩
    |some r=>exact⟨r.A,r.n,r.c,rfl,rfl,hs r (sS hq)⟩
   obtain⟨B,m,c0,hv1,hv2,hv3⟩:=hv
   rw[←hv2]at hwe
   refine ah<|cT [1] [(0,some 0),(2,some 1),(3,some 1),(4,some 1),(5,some 1),(6,some 1),(7,some 1),(8,some 1),(10,some 1),(11,some 1),(13,some 1),(14,some 1),(15,some 1),(16,some 1),(1,none),(9,some 1),(12,some 1),(17,some 1),(18,some 1)] (by kernel_rfl) (by kernel_rfl) rfl 99<|an (aa rfl)<|an (aa rfl)<|an (bd rfl)<|an (aL rfl gF (by decide))<|cm (fun m=>aw rfl mi (aA (show fe _ _ _ _ from m.FK 0 rfl 0 rfl) rfl))<|an (aa rfl)<|cm (fun m=>yV (jC (enc:=SV) rfl rfl Tryz.underlying174 sA (jK Tryz.underlying9) (show gi _ _ _ _ from m.FK 0 rfl 1 rfl)) (hv1))<|an (aW rfl Tryz.underlying27)<|an (aa rfl)<|an (aW rfl Tryz.underlying27)<|an (aa rfl)<|an (bd rfl)<|an (aL rfl Ax (by decide))<|cm (fun m=>aw rfl fG (aA (show fe _ _ _ _ from m.FK 0 rfl 0 rfl) rfl))<| ?_
   refine eb (aq rfl Tryz.call88 (ET (by omega)) [0] rfl [] rfl ?_)
   rintro _ _ _ ⟨rfl,rfl,rfl⟩
   refine⟨(fun _=>wk [0] [0] rfl rfl), ?_⟩
   refine an (cg rfl rfl (bE (by omega) (by omega)))<|an (aN rfl rfl (bE (by omega) (by omega)))<|an (cQ rfl rfl)<|an (ab rfl)<|bF<|al (ρ' :=[(15,_),(11,_),(7,_),(6,_),(0,_),(1,_),(2,_)]) ⟨rfl,rfl,rfl,rfl,rfl,rfl,rfl,trivial⟩<|ak (X' :=[_]) (S' :=[_]) (fun _ m=>m)<|ag<| ?_
   refine cC rfl (fun h3=> ?_) (fun h3=> ?_)
   ·rw[if_pos (by omega)]at hwe
    rw[hwe]
    refine ah<|aj<|hy (fun _=>ab rfl)<|ai<|ag<|aV<|aY<|ax<| ?_
    exact bh trivial rfl rfl [0] rfl [] rfl ⟨_,none,0,none,0,rfl,rfl,rfl,.inl ⟨by decide,rfl⟩⟩
   ·rw[if_neg (by omega)]at hwe
    rw[hwe]
    refine aD<|aS<|ag<|ah<|aj<|hy (fun _=>aa rfl)<|hy (fun _=>aa rfl)<|hy (fun _=>aa rfl)<| ?_
    refine hx (aq rfl Tryz.call117 (rW (by omega)) [] rfl [0] rfl ?_)
    rintro _ _ _ ⟨v,rfl,rfl,rfl⟩
    refine aB (fun m=>(m.own 0 rfl).slice) ?_
    rintro⟨A_x,c_x,rfl,hc_x⟩
    refine aB (fun m=>(m.ord 0 rfl).2.1) fun hA_x=> ?_
    refine hy (fun _=>yV (cn FB rfl rfl (by kernel_rfl) (.cons (o:=0) (sz:=1) (by kernel_rfl) rfl rfl (Nat.le_of_ble_eq_true rfl) (.cons (o:=1) (sz:=1) (by kernel_rfl) rfl rfl (Nat.le_of_ble_eq_true rfl) .nil))) ((rfl:_=Value.agg [SV p,Value.slice A_x n c_x].toArray)))<|hy (fun _=>ku rfl Tryz.underlying189 (fun _ h=>by cases h))<| ?_
    refine hx (aq rfl Tryz.call116 (Gf (by omega) (by omega) (r:=⟨A_x,n,c_x,l⟩)) [1,0] rfl [] rfl ?_)
    rintro _ _ _ ⟨A2,c2,rfl,rfl,rfl⟩
    refine ai<|al (ρ' :=[(15,_),(11,_),(7,_),(6,_),(0,_),(1,_),(2,_)]) ⟨rfl,rfl,rfl,rfl,rfl,rfl,rfl,trivial⟩<|ak (X' :=[_]) (S' :=[_]) (fun _ m=>m)<|ag<|ah<|aj<|hy (fun _=>ab rfl)<|ai<|ag<|aV<| ?_
    exact bh trivial rfl rfl [0] rfl [] rfl ⟨_,_,_,_,_,rfl,rfl,rfl,.inr ⟨rfl,rfl⟩⟩
theorem AK{g:Nat}{l:List (List UInt8×Value)}:cf Tryz.prog 154 [.map (some g)] [cY SV g l] [] (fun v_ X_ S_=>∃g1,v_=(.map (some g1))∧X_=[cY SV g l,cY SV g1 l]∧S_=[]):=by
 refine aO (N:=9) Tryz.func154 rfl rfl (by simp) fun b=> ?_
 refine ah<|aj<|hy (fun _=>ab rfl)<|ai<|ag<|ah<|ah<|aj<|hy (fun _=>aa rfl)<|hy (fun _=>D6 rfl rfl Tryz.underlying174)<|ai<|al (ρ' :=[(4,_),(2,_),(0,_)]) ⟨rfl,rfl,rfl,trivial⟩<|ag<| ?_
 refine dO rfl (rfl) ?_
 refine aD<|ag<|ah<|aj<|hy (fun _=>aa rfl)<|hy (fun _=>ku rfl Tryz.underlying174 (fun _ h=>by cases h))<| ?_
 refine hx (xc 0 rfl rfl Tryz.func209 (by kernel_rfl) (by kernel_rfl) (by kernel_rfl) (by kernel_rfl) (fun g1=> ?_))
 refine hy (fun _=>qm rfl (show _=Result.ok (Value.map (some g1)) _ by kernel_rfl))<|hy (fun _=>ab rfl)<|ai<|al (ρ' :=[(2,_),(4,_),(0,_)]) ⟨rfl,rfl,rfl,trivial⟩<|ak (X' :=[_,_]) (S' :=[]) (fun _ m=>m)<|ag<|aV<| ?_
 exact bh trivial rfl rfl [1,0] rfl [] rfl ⟨_,rfl,rfl,rfl⟩
def cF.synced(st:cF)(gl:Nat):cF:={st.eu with gl:=gl,cp:=st.seen,waits:=[],wA:=none,wc:=0}
def cR(st:cF):Int:=if st.cj=0 then 6 else 0
theorem nD{st:cF}{gl:Nat}:∀x∈rowsOf (st.synced gl),x∈rowsOf st:=by
 intro x hx
 unfold rowsOf cF.synced at hx
 simp only[cF.eu,List.filterMap_nil,List.append_nil,List.mem_append,or_self]at hx
 unfold rowsOf
 exact List.mem_append_left _ (List.mem_append_left _ hx)
theorem nU.synced{st:cF}{k:Nat}(h:nU st k)(gl:Nat):nU (st.synced gl) k:=
 ⟨ke h.cj,h.room,h.seen,by show st.seen.length+0≤k;have:=h.seen;omega,fun x hx=>h.small x (nD x hx)⟩
theorem Fv{g:Nat}{st:cF}{k:Nat}(ok:nU st k):cf Tryz.prog 110 [.pointer (some ⟨g,0,none⟩)] [bn g st] [] (fun v_ X_ S_=>∃st1 gl,v_=(.int .i64 (cR st))∧X_=[bn g st1]∧S_=[]∧((st.cj=0∧st1=st)∨(st.cj≠0∧st1=st.synced gl))):=by
 refine aO (N:=19) Tryz.func110 rfl rfl (by simp) fun b=> ?_
 refine ah<|aj<|hy (fun _=>ab rfl)<|ai<|ag<|ah<|ah<|aj<|hy (fun _=>aa rfl)<| ?_
 refine hx (aq rfl Tryz.call87 (FL) [0] rfl [] rfl ?_)
 rintro _ _ _ ⟨rfl,rfl,rfl⟩
 refine hy (fun _=>jH rfl)<|ai<|al (ρ' :=[(5,_),(2,_),(0,_)]) ⟨rfl,rfl,rfl,trivial⟩<|ak (X' :=[_]) (S' :=[]) (fun _ m=>m)<|ag<| ?_
 refine cC rfl (fun h1=> ?_) (fun h1=> ?_)
 ·have h0:st.cj=0:=Decidable.not_not.1 h1
  have e:cR st=6:=by rw[cR,if_pos h0]
  rw[e]
  refine ah<|aj<|hy (fun _=>ab rfl)<|ai<|ag<|aV<|ax<| ?_
  exact bh trivial rfl rfl [0] rfl [] rfl ⟨_,0,rfl,rfl,rfl,.inl ⟨h0,rfl⟩⟩
 ·have h0:st.cj≠0:=fun e=>h1 (fun h=>h e)
  have e:cR st=0:=by rw[cR,if_neg h0]
  rw[e]
  have hp:=ok.cj
  refine aD<|ag<|ah<|aj<|hy (fun _=>aa rfl)<| ?_
  refine hx (aq rfl Tryz.call181 (rU (by omega)) [0] rfl [] rfl ?_)
  rintro _ _ _ ⟨rfl,rfl,rfl⟩
  refine aU (fun w m=>(m.perm (ar [0] _ [_] _ rfl)).unpack) ?_
  refine ai<|al (ρ' :=[(5,_),(2,_),(0,_)]) ⟨rfl,rfl,rfl,trivial⟩<|ak (X' :=[_,_,_,_,_]) (S' :=[]) (fun _ m=>m)<|ag<|ah<|aj<|hy (fun _=>aa rfl)<|hy (fun _=>aa rfl)<|hy (fun _=>aa rfl)<|hy (fun _=>bd rfl)<|hy (fun _=>aL rfl gF (by decide))<|hy (fun m=>aw rfl mi (aA (m.aX 0 rfl) rfl))<| ?_
  refine hx (aq rfl Tryz.call154 (AK) [1] rfl [] rfl ?_)
  rintro _ _ _ ⟨g1,rfl,rfl,rfl⟩
  refine hy (fun _=>bd rfl)<|hy (fun _=>aL rfl AF (by decide))<| ?_
  refine cH (cA 2 rfl rfl rfl EN rfl (by first|exact Nat.le_of_ble_eq_true rfl|simp) ?_)
  refine hy (fun _=>bd rfl)<|hy (fun _=>aL rfl ir (by decide))<| ?_
  refine cH (cA 0 rfl rfl rfl vU rfl (by first|exact Nat.le_of_ble_eq_true rfl|simp) ?_)
  refine ai<|al (ρ' :=[(5,_),(2,_),(0,_)]) ⟨rfl,rfl,rfl,trivial⟩<|ak (X' :=[_,_,_,_,_,_]) (S' :=[]) (fun _ m=>m)<|ag<|ah<|aj<|hy (fun _=>ab rfl)<|ai<|ag<|aV<| ?_
  refine ak (fun w m=>m.dy (r' :=aG 232 1 (.slice none 0 0) 0 []) (.refl _ _) (Own.nil _ _ _ _) (fun k hk=>hk.elim)) ?_
  refine ak (fun w m=>Mem.zz (X:=[_]) (m.perm (ar [4] _ [_] _ rfl))) ?_
  refine ak (fun w m=>Mem.zz (X:=[_]) (m.perm (ar [4] _ [_] _ rfl))) ?_
  refine ak (fun w m=>m.bU 1 rfl (show _=aJ g 177 (jv (st.synced g1))from rfl)) ?_
  refine ak (X' :=iv (rowsOf (st.synced g1))::_) (fun w m=>(m.perm (ar [4] _ [_] _ rfl)).tP (nD)) ?_
  refine ak (X' :=bn g (st.synced g1)::_) (fun w m=>(m.perm (ar [1,2,2,1,0] _ [_,_,_,_,_] _ rfl)).pack) ?_
  exact bh trivial rfl rfl [0] rfl [] rfl ⟨_,_,rfl,rfl,rfl,.inr ⟨h0,rfl⟩⟩
end Go.Proofs.YtmibdabdlgmafaaGreatDoor
end
section
namespace Go.Eng
open Go.RowKit Go.ChangeShapes Go.WideShapes
theorem pU{zs:List Int}(h:∀n∈zs,(Lit.int .u8 n).wf=true):zs.map (Value.int .u8)=aQ (zs.map fun n=>UInt8.ofNat n.toNat):=by
 rw[aQ,List.map_map]
 apply List.map_congr_left
 intro n hn
 have:=bounds_u8 (h n hn)
 simp only[B8,Function.comp]
 have e:(UInt8.ofNat n.toNat).toNat=n.toNat:=by
  rw[UInt8.toNat_ofNat']
  exact Nat.mod_eq_of_lt (by omega)
 rw[e]
 congr 1
 omega
theorem uC{W:World}{x:Addr}{len cap:Nat}{zs:List Int}(hl:len≤cap)(hz:zs.length=cap)(hcell:∀i,i<zs.length→W.cell? (x.add i)=some (.int .u8 (zs.getD i 0)))(hw:∀n∈zs,(Lit.int .u8 n).wf=true):
  Rd W 1 (some x) len (aQ ((zs.take len).map fun n=>UInt8.ofNat n.toNat)):=by
 rw[←pU (fun n hn=>hw n (List.mem_of_mem_take hn))]
 refine⟨by simp;omega,fun _ e=>(by cases e),fun j u hu=> ?_⟩
 have hj:=(List.getElem?_eq_some_iff.1 hu).1
 simp at hj
 have hc:=hcell j (by omega)
 rw[List.getElem?_map,List.getElem?_take,if_pos (by omega)]at hu
 rw[List.getD,List.getElem?_eq_getElem (by omega)]at hc
 rw[List.getElem?_eq_getElem (by omega)]at hu
 simp at hu hc
 rw[Option.getD_some,hc,←hu]
theorem tH{H:Type}{enc:TypeId×Value→H}{P:Program}{W:World}{t e:TypeId}{A:Option Addr}{len cap:Nat}{d:DataW H}{ps:List MemPlace}{spare:Nat→Bool}{held:Bool}
  (hu:P.underlying t=some (.slice e)) (he:P.underlying e=some (.int .u8)) (hc:P.cellsOf e=1) (h:DataW.Trod enc P W 0 spare held t (.slice A len cap) d ps):len≤cap∧∃l,Rd W 1 A len (aQ l):=by
 obtain⟨fuel,hf⟩:=h
 rcases open_ints hu he hc hf with⟨hcs,_⟩|⟨x,l,c,zs,hcs,_,hl,hm,hz,_,hcell,hwz⟩
 ·simp[Value.cells]at hcs
  obtain⟨rfl,rfl,rfl⟩:=hcs
  exact⟨Nat.le_refl _,[],Rd.nil _ _ _⟩
 ·simp[Value.cells]at hcs
  obtain⟨rfl,rfl,rfl⟩:=hcs
  refine⟨hl,_,uC (cap:=zs.length) (by rw[hz];split <;> omega) rfl hcell hwz⟩
theorem tu{H:Type}{enc:TypeId×Value→H}{P:Program}{W:World}{base:Nat}{spare:Nat→Bool}{held:Bool}{t e:TypeId}{k:IntKind}{a:Option Addr}{len cap:Nat}{d:DataW H}{ps:List MemPlace}{ts:List TypeId}{ds:List (DataW H)}{j:Nat}
  (hsz:(DataW.weightsEach P ts ds).all (· ≤reachBytes)=true) (ht:ts[j]? =some t) (hd:ds[j]? =some d) (hu:P.underlying t=some (.slice e)) (he:P.underlying e=some (.int k)) (hc:P.cellsOf e=1) (hB:P.bytesOf e=1)
  (h:DataW.Trod enc P W base spare held t (.slice a len cap) d ps):len≤140737488351232:=by
 obtain⟨fuel,hf⟩:=h
 rcases open_ints hu he hc hf with⟨hcs,_⟩|⟨x,l,c,zs,hcs,_,hl,_,hz,hx,_,_⟩
 ·simp[Value.cells]at hcs
  obtain⟨rfl,rfl,rfl⟩:=hcs
  simp
 ·simp[Value.cells]at hcs
  obtain⟨rfl,rfl,rfl⟩:=hcs
  obtain⟨hx,_⟩:=Prod.mk.inj hx
  subst hx
  have z:=sized_slice hsz ht hd hu
  rw[hB,Nat.mul_one]at z
  have hl2:len≤zs.length:=by rw[hz];split <;> omega
  have h1:(lits (H:=H) k (zs.take len)).length+(lits (H:=H) k (zs.drop len)).length=zs.length:=by
   simp[lits]
   omega
  rw[h1]at z
  exact Nat.le_trans hl2 z
end Go.Eng
end
section
namespace Go.Eng
open Go.RowKit Go.ChangeShapes Go.WideShapes
inductive Cell
 |v (x:Value)
 |s (sz:Nat) (A:Option Addr) (n c:Nat) (xs:List Cell)
def Cell.val:Cell→Value
 | .v x=>x
 | .s _ A n c _=>.slice A n c
mutual
def Cell.c5:Cell→Nat→Prop
 | .v _=>fun _=>False
 | .s _ A _ _ xs=>fun k=>(xs≠ []∧∃a,A=some a∧k=a.block)∨uZ xs k
def uZ:List Cell→Nat→Prop
 | []=>fun _=>False
 |x::r=>fun k=>x.c5 k∨uZ r k
end
mutual
def Cell.holds(w:World):Cell→Prop
 | .v _=>True
 | .s sz A n c xs=>Rd w sz A n (xs.map Cell.val)∧n≤c∧iu w xs
def iu(w:World):List Cell→Prop
 | []=>True
 |x::r=>x.holds w∧iu w r
end
theorem fN{w:World}:∀{xs:List Cell},iu w xs↔∀x∈xs,x.holds w
 | []=>by simp[iu]
 |x::r=>by simp only[iu,fN (xs:=r),List.mem_cons,forall_eq_or_imp]
mutual
theorem Cell.hZ{S:Nat→Prop}{w w' :World}(f:Fr S w w'):∀(c:Cell),(∀k,c.c5 k→¬S k)→c.holds w→c.holds w'
 | .v _,_,_=>trivial
 | .s sz A n c xs,h,hh=>by
  obtain⟨h1,h2,h3⟩:=hh
  refine⟨Rd.hZ h1 f (fun k hk=>h k ?_),h2,Cu f xs (fun k hk=>h k (.inr hk)) h3⟩
  obtain⟨hne,a,ha,hk⟩:=hk
  exact .inl ⟨fun e=>hne (by rw[e];rfl),a,ha,hk⟩
theorem Cu{S:Nat→Prop}{w w' :World}(f:Fr S w w'):∀(xs:List Cell),(∀k,uZ xs k→¬S k)→iu w xs→iu w' xs
 | [],_,_=>trivial
 |x::r,h,hh=>⟨Cell.hZ f x (fun k hk=>h k (.inl hk)) hh.1,Cu f r (fun k hk=>h k (.inr hk)) hh.2⟩
end
mutual
theorem Cell.low{w:World}:∀(c:Cell) {k:Nat},c.holds w→c.c5 k→k<w.heap.size
 | .v _,_,_,h=>h.elim
 | .s sz A n c xs,k,hh,hk=>by
  obtain⟨h1,h2,h3⟩:=hh
  rcases hk with⟨hne,a,ha,hk⟩|hk
  ·exact(c6 sz A n (xs.map Cell.val)).low h1 ⟨fun e=>hne (List.map_eq_nil_iff.1 e),a,ha,hk⟩
  ·exact Er xs h3 hk
theorem Er{w:World}:∀(xs:List Cell) {k:Nat},iu w xs→uZ xs k→k<w.heap.size
 | [],_,_,h=>h.elim
 |x::r,k,hh,hk=>by
  rcases hk with hk|hk
  ·exact Cell.low x hh.1 hk
  ·exact Er r hh.2 hk
end
def sD(c:Cell):bg:=⟨c.c5,fun w=>c.holds w,fun f h x=>c.hZ f h x,fun x hk=>c.low x hk⟩
theorem View.FZ{sz n c:Nat}{A:Option Addr}{xs:List Cell}:View (sD (.s sz A n c xs)) (c6 sz A n (xs.map Cell.val)):=
 .of (fun w h=>h.1) (fun k hk=>by
  obtain⟨hne,a,ha,hk⟩:=hk
  exact .inl ⟨fun e=>hne (by rw[e];rfl),a,ha,hk⟩)
inductive Ty(P:Program):TypeId→List Cell→Prop
 |int {t:TypeId} {k:IntKind} {z:Int} (ht:P.underlying t=some (.int k)) (hw:(Lit.int k z).wf=true):Ty P t [.v (.int k z)]
 |bool {t:TypeId} {b:Bool} (ht:P.underlying t=some .bool):Ty P t [.v (.bool b)]
 |str {t:TypeId} {s:List UInt8} (ht:P.underlying t=some .string) (hs:s.length≤140737488351232):Ty P t [.v (.string (strOf s))]
 |slice {t e:TypeId} {A:Option Addr} {n c:Nat} {xs:List Cell} (ht:P.underlying t=some (.slice e)) (hc:n≤c) (hn:n*P.bytesOf e≤140737488351232) (hl:xs.length=n*P.cellsOf e)
   (h:∀i,i<n→Ty P e ((xs.drop (i*P.cellsOf e)).take (P.cellsOf e))):Ty P t [.s (P.cellsOf e) A n c xs]
 |arr {t e:TypeId} {n:Nat} {xs:List Cell} (ht:P.underlying t=some (.array n e)) (hl:xs.length=P.cellsOf t) (h:∀i,i<n→Ty P e ((xs.drop (i*P.cellsOf e)).take (P.cellsOf e))):Ty P t xs
 |struct {t:TypeId} {fs:Array Field} {xs:List Cell} (ht:P.underlying t=some (.struct fs)) (hl:xs.length=P.cellsOf t) (h:∀(i:Nat) (f:Field),fs[i]? =some f→Ty P f.type ((xs.drop f.offset).take (P.cellsOf f.type))):Ty P t xs
def iA(P:Program):List Field→Nat→Nat→Bool
 | [],o,e=>o == e
 |f::r,o,e=>f.offset == o && iA P r (o+P.cellsOf f.type) e
def parts(P:Program):Nat→TypeId→Bool
 |0,_=>false
 |n+1,t=>match P.underlying t with
  |some (.int _)|some .bool|some .string=>true
  |some (.slice e)=>parts P n e && decide (0<P.cellsOf e)
  |some (.array m e)=>parts P n e && (P.cellsOf t == m*P.cellsOf e)
  |some (.struct fs)=>fs.toList.all (fun f=>parts P n f.type) && iA P fs.toList 0 (P.cellsOf t)
  |_=>false
section
variable{H:Type}{enc:TypeId×Value→H}{P:Program}{w:World}{base:Nat}{spare:Nat→Bool}{held:Bool}
theorem wD{b:Nat}{a:Addr}{n:Nat}{cs:List Value}(h:w.cells? b a n=some cs):cs.length=n∧∀j u,cs[j]? =some u→w.cell? (a.add j)=some u:=by
 obtain⟨hb,hl,hcell⟩:=World.cells?_some h
 refine⟨hl,fun j u hu=> ?_⟩
 have hj:j<n:=by rw[←hl];exact(List.getElem?_eq_some_iff.1 hu).1
 rw[hcell j hj,hu]
theorem ia{e:TypeId}{d:DataW H}{n:Nat}:∀{ds:List (DataW H)},d∈ds→n∈d.weights P e→n∈DataW.weightsAll P e ds
 | [],h,_=>by cases h
 |a::r,h,hn=>by
  simp only[DataW.weightsAll,List.mem_append]
  rcases List.mem_cons.1 h with rfl|h
  ·exact .inl hn
  ·exact .inr (ia h hn)
theorem pieces{sz:Nat}{Q:List Cell→Prop}{R:Nat→List Value→Prop}:∀(m:Nat),(∀i,i<m→∃ys:List Cell,ys.length=sz∧Q ys∧R i (ys.map Cell.val)∧iu w ys)→
  ∃xs:List Cell,xs.length=m*sz∧(∀i,i<m→Q ((xs.drop (i*sz)).take sz)∧R i (((xs.drop (i*sz)).take sz).map Cell.val))∧iu w xs
 |0,_=>⟨[],by simp,fun i hi=>absurd hi (by omega),trivial⟩
 |m+1,h=>by
  obtain⟨xs,h1,h2,h3⟩:=pieces m (fun i hi=>h i (by omega))
  obtain⟨ys,h4,h5,h6,h7⟩:=h m (by omega)
  have hlen:(m+1)*sz=m*sz+sz:=by rw[Nat.add_mul,Nat.one_mul]
  refine⟨xs++ys,by rw[List.length_append,h1,h4,hlen],fun i hi=> ?_,fN.2 fun x hx=> ?_⟩
  ·by_cases hm:i=m
   ·subst hm
    have e:((xs++ys).drop (i*sz)).take sz=ys:=by
     rw[←h1,List.drop_left,List.take_of_length_le (by omega)]
    rw[e]
    exact⟨h5,h6⟩
   ·have hi' :i<m:=by omega
    have hle:i*sz+sz≤m*sz:=by
     have:=Nat.mul_le_mul_right sz (show i+1≤m by omega)
     rwa [Nat.add_mul,Nat.one_mul]at this
    have e:((xs++ys).drop (i*sz)).take sz=(xs.drop (i*sz)).take sz:=by
     rw[List.drop_append_of_le_length (by omega),List.take_append_of_le_length (by rw[List.length_drop];omega)]
    rw[e]
    exact h2 i hi'
  ·rcases List.mem_append.1 hx with hx|hx
   ·exact fN.1 h3 x hx
   ·exact fN.1 h7 x hx
theorem mM{xs:List Value}{sz i j:Nat}(hj:j<sz):((xs.drop (i*sz)).take sz)[j]? =xs[i*sz+j]? :=by
 rw[List.getElem?_take,if_pos hj,List.getElem?_drop]
theorem ml{cs:List Value}:∀(fs:List Field) (o e:Nat),iA P fs o e=true→(∀f∈fs,∃ys:List Cell,ys.length=P.cellsOf f.type∧Ty P f.type ys∧ys.map Cell.val=(cs.drop f.offset).take (P.cellsOf f.type)∧iu w ys)→
  o≤e∧∃xs:List Cell,xs.length=e-o∧xs.map Cell.val=(cs.drop o).take (e-o)∧iu w xs∧∀f∈fs,o≤f.offset∧Ty P f.type ((xs.drop (f.offset-o)).take (P.cellsOf f.type))
 | [],o,e,hc,_=>by
  have:o=e:=by simpa[iA]using hc
  subst this
  exact⟨Nat.le_refl _,[],by simp,by simp,trivial,by simp⟩
 |f::r,o,e,hc,h=>by
  simp only[iA,Bool.and_eq_true,beq_iff_eq]at hc
  obtain⟨h0,hc⟩:=hc
  obtain⟨hle,xs,h1,h2,h3,h4⟩:=ml r _ e hc (fun g hg=>h g (List.mem_cons_of_mem _ hg))
  obtain⟨ys,h5,h6,h7,h8⟩:=h f (List.mem_cons_self ..)
  rw[h0]at h7
  refine⟨by omega,ys++xs,by rw[List.length_append,h1,h5];omega, ?_,fN.2 fun x hx=> ?_,fun g hg=> ?_⟩
  ·rw[List.map_append,h7,h2,←List.drop_drop,show e-o=P.cellsOf f.type+(e-(o+P.cellsOf f.type)) by omega,List.take_add]
  ·rcases List.mem_append.1 hx with hx|hx
   ·exact fN.1 h8 x hx
   ·exact fN.1 h3 x hx
  ·rcases List.mem_cons.1 hg with rfl|hg
   ·refine⟨by omega, ?_⟩
    rw[h0,Nat.sub_self,List.drop_zero,←h5,List.take_left]
    exact h6
   ·obtain⟨h9,h10⟩:=h4 g hg
    refine⟨by omega, ?_⟩
    have e1:(ys++xs).drop (g.offset-o)=xs.drop (g.offset-(o+P.cellsOf f.type)):=by
     rw[List.drop_append,List.drop_of_length_le (by omega),List.nil_append]
     congr 1
     omega
    rw[e1]
    exact h10
theorem jr:∀(k fuel:Nat) (t:TypeId) (cs:List Value) (x:DataW H×List MemPlace),parts P k t=true→DataW.trod enc P w 0 spare held fuel t cs=some x→(∀q∈DataW.weights P t x.1,q≤140737488351232)→∃xs:List Cell,xs.map Cell.val=cs∧iu w xs∧Ty P t xs
 |0,fuel,t,cs,x,hp,_,_=>by simp[parts]at hp
 |k+1,fuel,t,cs,x,hp,h,hw=>by
  unfold parts at hp
  split at hp
  ·rename_i q ht
   obtain⟨z,rfl,_,hz⟩:=DataW.trod_int ht h
   exact⟨[.v (.int q z)],rfl,⟨trivial,trivial⟩,.int ht hz⟩
  ·rename_i ht
   obtain⟨b,rfl,_⟩:=DataW.trod_bool ht h
   exact⟨[.v (.bool b)],rfl,⟨trivial,trivial⟩,.bool ht⟩
  ·rename_i ht
   obtain⟨s,rfl,hx,_⟩:=DataW.trod_string ht h
   have h1:=hw s.data.toList.length (by rw[hx];simp[DataW.weights])
   exact⟨[.v (.string s)],rfl,⟨trivial,trivial⟩,.str (s:=bytesOf s) ht h1⟩
  ·rename_i e ht
   simp only[Bool.and_eq_true,decide_eq_true_eq]at hp
   rcases DataW.trod_slice ht h with⟨rfl,rfl⟩|⟨a,len,cap,elems,rest,m,_,rfl,hx,hb,hl,hm,hlen,hel,_,_⟩
   ·exact⟨[.s (P.cellsOf e) none 0 0 []],rfl,⟨⟨Rd.nil _ _ _,Nat.le_refl _,trivial⟩,trivial⟩,.slice ht (Nat.le_refl _) (by simp) (by simp) (fun i hi=>absurd hi (by omega))⟩
   ·have hwe:∀d∈elems.map (·.1),∀q∈DataW.weights P e d,q≤140737488351232:=fun d hd q hq=>hw q (by
     rw[hx]
     simp only[DataW.weights,ht,List.mem_cons,List.mem_append]
     exact .inr (.inl (ia hd hq)))
    obtain⟨xs,h1,h2,h3⟩:=pieces (w:=w) (sz:=P.cellsOf e) (Q:=Ty P e) (R:=fun i vs=>∀j u,vs[j]? =some u→w.cell? (a.add (i*P.cellsOf e+j))=some u) len (fun i hi=>by
     have h1:=hel i hi
     rw[List.getElem?_eq_getElem (by omega)]at h1
     obtain⟨c,hc1,hc2⟩:=Option.bind_eq_some_iff.1 h1
     obtain⟨hcl,hcc⟩:=wD hc1
     obtain⟨ys,h4,h5,h6⟩:=jr k _ e c _ hp.1 hc2 (fun q hq=>hwe _ (List.mem_map.2 ⟨_,List.getElem_mem _,rfl⟩) q hq)
     refine⟨ys,by rw[←hcl,←h4,List.length_map],h6,fun j u hu=> ?_,h5⟩
     rw[h4]at hu
     have:=hcc j u hu
     rwa [add_add]at this)
    have hR:Rd w (P.cellsOf e) (some a) len (xs.map Cell.val):=⟨by rw[List.length_map,h1],fun _ e=>(by cases e),fun q u hu=>by
     have hq:q<len*P.cellsOf e:=by
      have:=(List.getElem?_eq_some_iff.1 hu).1
      rwa [List.length_map,h1]at this
     have hd:q/P.cellsOf e<len:=(Nat.div_lt_iff_lt_mul hp.2).2 hq
     have hmod:=Nat.mod_lt q hp.2
     have hqe:q/P.cellsOf e*P.cellsOf e+q % P.cellsOf e=q:=by
      have:=Nat.div_add_mod q (P.cellsOf e)
      rw[Nat.mul_comm]at this
      exact this
     have:=(h2 _ hd).2 (q % P.cellsOf e) u (by rw[List.map_take,List.map_drop,mM hmod,hqe];exact hu)
     rw[hqe]at this
     simpa using this⟩
    have hn:len*P.bytesOf e≤140737488351232:=by
     have:=hw ((elems.length+rest.length)*P.bytesOf e) (by rw[hx];simp[DataW.weights,ht])
     rw[hlen,Nat.add_mul]at this
     omega
    exact⟨[.s (P.cellsOf e) (some a) len cap xs],rfl,⟨⟨hR,hl,h3⟩,trivial⟩,.slice ht hl hn h1 (fun i hi=>(h2 i hi).1)⟩
  ·rename_i m e ht
   simp only[Bool.and_eq_true,beq_iff_eq]at hp
   obtain⟨ys,n,_,hx,hlen,hyl,hel⟩:=DataW.trod_array ht h
   have hwe:∀d∈ys.map (·.1),∀q∈DataW.weights P e d,q≤140737488351232:=fun d hd q hq=>hw q (by
    rw[hx]
    simp only[DataW.weights,ht]
    exact ia hd hq)
   obtain⟨xs,h1,h2,h3⟩:=pieces (w:=w) (sz:=P.cellsOf e) (Q:=Ty P e) (R:=fun i vs=>vs=(cs.drop (i*P.cellsOf e)).take (P.cellsOf e)) m (fun i hi=>by
    have h1:=hel i hi
    rw[List.getElem?_eq_getElem (by omega)]at h1
    obtain⟨zs,h4,h5,h6⟩:=jr k _ e _ _ hp.1 h1 (fun q hq=>hwe _ (List.mem_map.2 ⟨_,List.getElem_mem _,rfl⟩) q hq)
    refine⟨zs, ?_,h6,h4,h5⟩
    have:=congrArg List.length h4
    rw[List.length_map,List.length_take,List.length_drop,hlen,hp.2]at this
    have hle:i*P.cellsOf e+P.cellsOf e≤m*P.cellsOf e:=by
     have:=Nat.mul_le_mul_right (P.cellsOf e) (show i+1≤m by omega)
     rwa [Nat.add_mul,Nat.one_mul]at this
    omega)
   refine⟨xs, ?_,h3,.arr ht (by rw[h1,hp.2]) (fun i hi=>(h2 i hi).1)⟩
   apply List.ext_getElem?
   intro q
   by_cases hq:q<m*P.cellsOf e
   ·have hpos:0<P.cellsOf e:=by
     rcases Nat.eq_zero_or_pos (P.cellsOf e)with h0|h0
     ·rw[h0,Nat.mul_zero]at hq;omega
     ·exact h0
    have hd:q/P.cellsOf e<m:=(Nat.div_lt_iff_lt_mul hpos).2 hq
    have hmod:=Nat.mod_lt q hpos
    have hqe:q/P.cellsOf e*P.cellsOf e+q % P.cellsOf e=q:=by
     have:=Nat.div_add_mod q (P.cellsOf e)
     rw[Nat.mul_comm]at this
     exact this
    have h4:=congrArg (fun l:List Value=>l[q % P.cellsOf e]?) (h2 _ hd).2
    simp only[List.map_take,List.map_drop]at h4
    rwa [mM hmod,mM hmod,hqe]at h4
   ·rw[List.getElem?_eq_none (by rw[List.length_map,h1];omega),List.getElem?_eq_none (by rw[hlen,hp.2];omega)]
  ·rename_i fs ht
   simp only[Bool.and_eq_true,List.all_eq_true]at hp
   obtain⟨ys,n,_,hx,hlen,hyl,hel⟩:=DataW.trod_struct ht h
   have hw2:∀(i:Nat) (f:Field) (d:DataW H),fs[i]? =some f→(ys.map (·.1))[i]? =some d→∀q∈DataW.weights P f.type d,q≤140737488351232:=fun i f d hf hd q hq=>hw q (by
    rw[hx]
    simp only[DataW.weights,ht]
    exact DataW.weights_mem_each (j:=i) (t:=f.type) (d:=d) (by simp[hf]) hd q hq)
   obtain⟨_,xs,h1,h2,h3,h4⟩:=ml (P:=P) (w:=w) (cs:=cs) fs.toList 0 (P.cellsOf t) hp.2 (fun f hf=>by
    obtain⟨i,hi⟩:=List.mem_iff_getElem?.1 hf
    have hi' :fs[i]? =some f:=by simpa using hi
    have h1:=hel i f hi'
    have hlt:i<ys.length:=by
     rw[hyl]
     exact(Array.getElem?_eq_some_iff.1 hi').1
    rw[List.getElem?_eq_getElem hlt]at h1
    obtain⟨zs,h5,h6,h7⟩:=jr k _ f.type _ _ (hp.1 f hf) h1 (fun q hq=>hw2 i f _ hi' (by rw[List.getElem?_map,List.getElem?_eq_getElem hlt];rfl) q hq)
    have hz:zs.length=P.cellsOf f.type:=by
     have hz:=congrArg List.length h5
     rw[List.length_map,List.length_take,List.length_drop,hlen]at hz
     have hin:∀(l:List Field) (o e:Nat),iA P l o e=true→f∈l→f.offset+P.cellsOf f.type≤e∧o≤e:=by
      intro l
      induction l with
      |nil=>intro o e _ hm;cases hm
      |cons g r ih=>
       intro o e hc hm
       simp only[iA,Bool.and_eq_true,beq_iff_eq]at hc
       have hge:∀(l:List Field) (o e:Nat),iA P l o e=true→o≤e:=by
        intro l
        induction l with
        |nil=>intro o e hc;simp[iA]at hc;omega
        |cons g r ih=>intro o e hc;simp only[iA,Bool.and_eq_true,beq_iff_eq]at hc;have:=ih _ _ hc.2;omega
       rcases List.mem_cons.1 hm with rfl|hm
       ·have:=hge _ _ _ hc.2
        omega
       ·have:=ih _ _ hc.2 hm
        omega
     have:=hin _ _ _ hp.2 hf
     omega
    exact⟨zs,hz,h7,h5,h6⟩)
   refine⟨xs, ?_,h3,.struct ht (by rw[h1];omega) (fun i f hf=> ?_)⟩
   ·rw[h2,List.drop_zero,Nat.sub_zero,←hlen,List.take_length]
   ·have:=(h4 f (by rw[Array.mem_toList_iff];exact Array.mem_of_getElem? hf)).2
    rwa [Nat.sub_zero]at this
  ·cases hp
end
section
variable{P:Program}{t e:TypeId}{xs:List Cell}
theorem DO{k:IntKind}(ht:P.underlying t=some (.int k))(h:Ty P t xs):∃z,xs=[.v (.int k z)]∧(Lit.int k z).wf=true:=by
 cases h with
 |int ht' hw=>rw[ht]at ht';cases ht';exact⟨_,rfl,hw⟩
 |bool ht' =>rw[ht]at ht';cases ht'
 |str ht' =>rw[ht]at ht';cases ht'
 |slice ht' =>rw[ht]at ht';cases ht'
 |arr ht' =>rw[ht]at ht';cases ht'
 |struct ht' =>rw[ht]at ht';cases ht'
theorem Ee(ht:P.underlying t=some (.int .i64))(h:Ty P t xs):∃z,xs=[.v (.int .i64 z)]∧-9223372036854775808≤z∧z≤9223372036854775807:=by
 obtain⟨z,rfl,hw⟩:=DO ht h
 refine⟨z,rfl, ?_⟩
 simp only[Lit.wf,IntKind.min,IntKind.max,IntKind.signed,IntKind.bits]at hw
 simp at hw
 omega
theorem th(ht:P.underlying t=some (.slice e))(h:Ty P t xs):∃A n c ys,xs=[.s (P.cellsOf e) A n c ys]∧n≤c∧n*P.bytesOf e≤140737488351232∧ys.length=n*P.cellsOf e∧∀i,i<n→Ty P e ((ys.drop (i*P.cellsOf e)).take (P.cellsOf e)):=by
 cases h with
 |int ht' =>rw[ht]at ht';cases ht'
 |bool ht' =>rw[ht]at ht';cases ht'
 |str ht' =>rw[ht]at ht';cases ht'
 |slice ht' hc hn hl h=>rw[ht]at ht';cases ht';exact⟨_,_,_,_,rfl,hc,hn,hl,h⟩
 |arr ht' =>rw[ht]at ht';cases ht'
 |struct ht' =>rw[ht]at ht';cases ht'
end
theorem fy{w:World}{sz n i o:Nat}{A:Option Addr}{xs:List Value}{u:Value}(h:Rd w sz A n xs)(hu:xs[i*sz+o]? =some u):w.cell? (((A.getD d0).add (i*sz)).add o)=some u:=by
 rw[add_add]
 exact h.cell hu
theorem View.rowOf{sz n c:Nat}{A:Option Addr}{xs:List Cell}{vs:List Value}(h:xs.map Cell.val=vs):View (sD (.s sz A n c xs)) (c6 sz A n vs):=h▸View.FZ
section
variable{H:Type}{enc:TypeId×Value→H}{P:Program}{W:World}{spare:Nat→Bool}{held:Bool}{tss:List TypeId}{dss:List (DataW H)}
theorem uK{t:TypeId}{v:Value}{d:DataW H}{ps:List MemPlace}{j:Nat}(k:Nat)(hp:parts P k t=true)(h:DataW.Trod enc P W 0 spare held t v d ps)(hsz:(DataW.weightsEach P tss dss).all (· ≤reachBytes)=true)(hjt:tss[j]? =some t)(hjd:dss[j]? =some d):
  ∃xs:List Cell,xs.map Cell.val=v.cells.toList∧iu W xs∧Ty P t xs:=by
 obtain⟨fuel,hf⟩:=h
 refine jr k fuel t _ _ hp hf (fun q hq=> ?_)
 have:=List.all_eq_true.1 hsz q (DataW.weights_mem_each hjt hjd q hq)
 have hr:reachBytes=140737488351232:=rfl
 simp at this
 omega
theorem vu{t e:TypeId}{A:Option Addr}{n c:Nat}{d:DataW H}{ps:List MemPlace}{j:Nat}(k:Nat)(hp:parts P k t=true)(ht:P.underlying t=some (.slice e))(h:DataW.Trod enc P W 0 spare held t (.slice A n c) d ps)(hsz:(DataW.weightsEach P tss dss).all (· ≤reachBytes)=true)(hjt:tss[j]? =some t)(hjd:dss[j]? =some d):
  ∃ys:List Cell,(sD (.s (P.cellsOf e) A n c ys)).holds W∧Ty P t [.s (P.cellsOf e) A n c ys]:=by
 obtain⟨xs,h1,h2,h3⟩:=uK k hp h hsz hjt hjd
 obtain⟨A',n',c',ys,rfl,_⟩:=th ht h3
 have e1:[Cell.val (.s (P.cellsOf e) A' n' c' ys)]=[Value.slice A n c]:=h1
 simp only[Cell.val,List.cons.injEq,Value.slice.injEq,and_true]at e1
 obtain⟨rfl,rfl,rfl⟩:=e1
 exact⟨ys,h2.1,h3⟩
end
end Go.Eng
end
section
set_option maxRecDepth 20000
namespace Go.Proofs.YtmibdabdlgmafaaGreatDoor
open Go.Eng Go.Hx
theorem Cm{P:Program}{N:Nat}{D:List Deferred}{ρ:Env}{w:World}{x y:Operand}{ty t t' :TypeId}{a b:ByteArray}(hx:ev ρ x=some (.string a))(hy:ev ρ y=some (.string b)):Yl P N D ρ w (.binOp .geq t x y t') ty (.bool (!Op.bytesLess a.toList b.toList)):=
 fun _ _ _ _ _ ha=>by simp[execOp,ha.eval hx,ha.eval hy,eqGuard,binOp,Op.stringOp]
abbrev FP:=List UInt8×List UInt8
def fc(l:List FP):List Value:=l.flatMap fun x=>[SV x.1,SV x.2]
theorem gN(a b:List FP):fc (a++b)=fc a++fc b:=by simp[fc]
theorem jy:∀(l:List FP) (i:Nat) (x:FP),l[i]? =some x→(fc l)[i*2]? =some (SV x.1)∧(fc l)[i*2+1]? =some (SV x.2)
 | [],i,x,h=>by simp at h
 |a::r,0,x,h=>by
  simp only[List.getElem?_cons_zero,Option.some.injEq]at h
  subst h
  exact⟨rfl,rfl⟩
 |a::r,i+1,x,h=>by
  have ih:=jy r i x (by simpa using h)
  have e:fc (a::r)=SV a.1::SV a.2::fc r:=by simp[fc]
  rw[e,show(i+1)*2=i*2+2 by omega]
  exact ih
theorem lM{w:World}{A:Option Addr}{n i:Nat}{l:List FP}{x:FP}(h:Rd w 2 A n (fc l))(hx:l[i]? =some x):∀(j:Nat) (u:Value),[SV x.1,SV x.2][j]? =some u→w.cell? (((A.getD d0).add (i*2)).add j)=some u:=by
 obtain⟨g0,g1⟩:=jy l i x hx
 intro j u hu
 match j,hu with
 |0,hu=>cases hu;exact fy h g0
 |1,hu=>cases hu;exact fy h g1
 |j+2,hu=>simp at hu
theorem mV{l:List FP}:∀u∈fc l,u.oneCell' =true:=by
 intro u hu
 obtain⟨x,_,h⟩:=List.mem_flatMap.1 hu
 simp only[List.mem_cons,List.not_mem_nil,or_false]at h
 rcases h with rfl|rfl <;> rfl
theorem u0{p:List UInt8}(hp:p.length≤1000000000):cf Tryz.prog 112 [.string (strOf p)] [] [] (fun v_ X_ S_=>v_=(.bool (decide (fF p)))∧X_=[]∧S_=[]):=by
 have hsz:=cV p
 refine aO (N:=22) Tryz.func112 rfl rfl (by simp) fun b=> ?_
 refine ah<|aj<|hy (fun _=>ab rfl)<|ai<|ag<|ah<|ah<|aj<|hy (fun _=>ab rfl)<|ai<|ag<|aK<| ?_
 refine dD (fun i=>p.length-i) (fun i=>[(3,.int .i64 (i:Nat))]) (fun i=>[]) (fun i=>[]) (fun i=>i≤p.length∧¬(0:UInt8)∈p.take i) 0 [(0,_)] ⟨rfl,trivial⟩ [] rfl [] rfl (⟨Nat.zero_le _,by simp⟩) ⟨rfl,trivial⟩ (fun i hI=> ?_)
 obtain⟨hip,hno⟩:=hI
 refine ah<|ah<|aj<|hy (fun _=>aa rfl)<|hy (fun _=>aa rfl)<|hy (fun _=>cS rfl Tryz.underlying9)<|hy (fun _=>bA rfl rfl)<|ai<|al (ρ' :=[(7,_),(3,_),(0,_)]) ⟨rfl,rfl,rfl,trivial⟩<|ag<| ?_
 refine cC rfl (fun h=> ?_) (fun h=> ?_)
 ·have hil:i<p.length:=by omega
  refine aD<|ag<|ah<|aK<|ah<|aj<|hy (fun _=>aa rfl)<|hy (fun _=>aa rfl)<|hy (fun _=>fw rfl rfl Tryz.underlying9 rfl (kf hil))<|hy (fun _=>cx rfl rfl)<|ai<|al (ρ' :=[(13,_),(7,_),(3,_),(0,_)]) ⟨rfl,rfl,rfl,rfl,trivial⟩<|ag<| ?_
  refine cC rfl (fun h0=> ?_) (fun h0=> ?_)
  ·have h00:p.getD i 0=0:=UInt8.toNat_inj.1 (by simpa using h0)
   refine ah<|aj<|hy (fun _=>ab rfl)<|ai<|ag<|aV<|aY<|ax<|ax<|aY<|ax<| ?_
   exact bh trivial rfl rfl [] rfl [] rfl ⟨(congrArg Value.bool (decide_eq_false (fun hN=>hN.2.2 (by rw[←h00];rw[List.getD,List.getElem?_eq_getElem hil];exact List.getElem_mem hil))).symm),rfl,rfl⟩
  ·have hno2:¬(0:UInt8)∈p.take (i+1):=fun hm=>by
    rw[List.take_succ_eq_append_getElem hil]at hm
    rcases List.mem_append.1 hm with h1|h1
    ·exact hno h1
    ·apply h0
     have:=List.mem_singleton.1 h1
     rw[List.getD,List.getElem?_eq_getElem hil]
     simp[←this]
   refine aD<|aS<|ag<|aj<|hy (fun _=>aa rfl)<|hy (fun _=>aN rfl rfl (bE (by omega) (by omega)))<|hy (fun _=>ab rfl)<|ai<|al (ρ' :=[(3,_),(13,_),(7,_),(0,_)]) ⟨rfl,rfl,rfl,rfl,trivial⟩<| ?_
   refine cM (i+1) ⟨rfl,rfl,trivial⟩ [] rfl [] rfl (⟨by omega,hno2⟩) (by omega)
 ·obtain rfl:i=p.length:=by omega
  rw[List.take_of_length_le (Nat.le_refl _)]at hno
  by_cases h1:0<p.length
  ·refine bL<|ao<|ao<|aC<|ag<|ah<|aj<|hy (fun _=>aa rfl)<|hy (fun _=>cS rfl Tryz.underlying9)<|hy (fun _=>yT (cQ rfl rfl) ((decide_eq_true (by omega))))<|hy (fun _=>aa rfl)<|de (o:=_) rfl rfl rfl (fun _=>aa rfl)<|de (o:=_) rfl rfl rfl (fun _=>cS rfl Tryz.underlying9)<|de (o:=_) rfl rfl rfl (fun _=>bA rfl rfl)<|hy (fun _=>bK rfl rfl)<|hy (fun _=>ab rfl)<|ai<|al (ρ' :=[(2,_),(7,_),(3,_),(0,_)]) ⟨rfl,rfl,rfl,rfl,trivial⟩<|ag<|aV<| ?_
   exact bh trivial rfl rfl [] rfl [] rfl ⟨(congrArg Value.bool (decide_eq_decide.2 ⟨fun h=>⟨fun e=>by rw[e]at h1;exact absurd h1 (by decide),by omega,hno⟩,fun h=>by have:=h.2.1;omega⟩)),rfl,rfl⟩
  ·refine bL<|ao<|ao<|aC<|ag<|ah<|aj<|hy (fun _=>aa rfl)<|hy (fun _=>cS rfl Tryz.underlying9)<|hy (fun _=>yF (cQ rfl rfl) ((decide_eq_false (by omega))))<|hy (fun _=>aa rfl)<|bu rfl rfl rfl (by decide)<|bu rfl rfl rfl (by decide)<|bu rfl rfl rfl (by decide)<|hy (fun _=>bN rfl rfl)<|hy (fun _=>ab rfl)<|ai<|al (ρ' :=[(2,_),(7,_),(3,_),(0,_)]) ⟨rfl,rfl,rfl,rfl,trivial⟩<|ag<|aV<| ?_
   exact bh trivial rfl rfl [] rfl [] rfl ⟨(congrArg Value.bool (decide_eq_false (fun hN=>hN.1 (List.eq_nil_of_length_eq_zero (by omega)))).symm),rfl,rfl⟩
def cr(l:List FP)(p:List UInt8):Nat:=l.findIdx (fun x=>decide (x.1=p))
def kb(l:List FP)(p:List UInt8):Int:=if cr l p<l.length then(cr l p:Nat)else-1
theorem y5{l:List FP}{p:List UInt8}{i:Nat}{x:FP}(hx:l[i]? =some x)(h:x.1=p)(hno:∀j,j<i→∀y,l[j]? =some y→y.1≠p):cr l p=i:=by
 obtain⟨hi,rfl⟩:=List.getElem?_eq_some_iff.1 hx
 unfold cr
 rw[List.findIdx_eq hi]
 exact⟨by simpa using h,fun j hj=>by simpa using hno j hj _ (List.getElem?_eq_getElem (by omega))⟩
theorem yZ{l:List FP}{p:List UInt8}(hno:∀j,j<l.length→∀y,l[j]? =some y→y.1≠p):¬cr l p<l.length:=by
 intro h
 have h1:=List.findIdx_getElem (w:=h)
 exact hno _ h _ (List.getElem?_eq_getElem h) (of_decide_eq_true h1)
theorem ui{A:Option Addr}{n c:Nat}{l:List FP}{p:List UInt8}(hl:l.length=n)(hn:n≤1000000000):cf Tryz.prog 113 [.slice A n c,.string (strOf p)] [] [c6 2 A n (fc l)] (fun v_ X_ S_=>v_=(.int .i64 (kb l p))∧X_=[]∧S_=[]):=by
 refine aO (N:=20) Tryz.func113 rfl rfl (by simp) fun b=> ?_
 refine a6 (fun m=>ki (m.rd 0 rfl)) ?_
 rintro⟨hl_r,hA_r⟩
 refine ah<|aj<|hy (fun _=>ab rfl)<|ai<|ag<|ah<|ah<|aj<|hy (fun _=>ab rfl)<|ai<|ag<|aK<| ?_
 refine dD (fun i=>n-i) (fun i=>[(5,.int .i64 (i:Nat))]) (fun i=>[]) (fun i=>[]) (fun i=>i≤n∧∀j,j<i→∀y,l[j]? =some y→y.1≠p) 0 [(0,_),(1,_)] ⟨rfl,rfl,trivial⟩ [] rfl [] rfl (⟨Nat.zero_le _,fun j hj=>absurd hj (Nat.not_lt_zero j)⟩) ⟨rfl,trivial⟩ (fun i hI=> ?_)
 obtain⟨hin,hno⟩:=hI
 refine ah<|ah<|aj<|hy (fun _=>aa rfl)<|hy (fun _=>aa rfl)<|hy (fun _=>aW rfl Tryz.underlying36)<|hy (fun _=>bA rfl rfl)<|ai<|al (ρ' :=[(9,_),(5,_),(0,_),(1,_)]) ⟨rfl,rfl,rfl,rfl,trivial⟩<|ag<| ?_
 refine cC rfl (fun h=> ?_) (fun h=> ?_)
 ·have hil:i<l.length:=by omega
  obtain⟨x,hx⟩:∃x,l[i]? =some x:=⟨_,List.getElem?_eq_getElem hil⟩
  obtain⟨g0,g1⟩:=jy l i x hx
  refine aD<|ag<|ah<|aK<|ah<|aj<|hy (fun _=>aa rfl)<|hy (fun _=>aa rfl)<|hy (fun _=>cW rfl rfl Tryz.underlying36 eP hA_r rfl (by omega))<|hy (fun _=>aL rfl eU (by decide))<|hy (fun m=>yV (aw rfl lH (fy (m.rd 0 rfl) g0)) ((rfl:_=Value.string (strOf x.1))))<|hy (fun _=>aa rfl)<|hy (fun _=>sO rfl rfl)<|ai<|al (ρ' :=[(18,_),(9,_),(5,_),(0,_),(1,_)]) ⟨rfl,rfl,rfl,rfl,rfl,trivial⟩<|ag<| ?_
  refine cC rfl (fun h0=> ?_) (fun h0=> ?_)
  ·have he:x.1=p:=cz.1 h0
   have hN:=y5 hx he hno
   refine ah<|aj<|hy (fun _=>aa rfl)<|hy (fun _=>ab rfl)<|ai<|al (ρ' :=[(4,_),(18,_),(9,_),(5,_),(0,_),(1,_)]) ⟨rfl,rfl,rfl,rfl,rfl,rfl,trivial⟩<|ag<|aV<|aY<|ax<|ax<|aY<|ax<| ?_
   exact bh trivial rfl rfl [] rfl [] rfl ⟨(by rw[kb,hN,if_pos hil]),rfl,rfl⟩
  ·have he:x.1≠p:=fun e=>h0 (cz.2 e)
   have hno2:∀j,j<i+1→∀y,l[j]? =some y→y.1≠p:=fun j hj y hy=>by
    rcases Nat.lt_succ_iff_lt_or_eq.1 hj with h1|h1
    ·exact hno j h1 y hy
    ·rw[h1,hx]at hy;cases hy;exact he
   refine aD<|aS<|ag<|aj<|hy (fun _=>aa rfl)<|hy (fun _=>aN rfl rfl (bE (by omega) (by omega)))<|hy (fun _=>ab rfl)<|ai<|al (ρ' :=[(5,_),(18,_),(9,_),(0,_),(1,_)]) ⟨rfl,rfl,rfl,rfl,rfl,trivial⟩<| ?_
   refine cM (i+1) ⟨rfl,rfl,rfl,trivial⟩ [] rfl [0] rfl (⟨by omega,hno2⟩) (by omega)
 ·obtain rfl:i=n:=by omega
  refine bL<|ao<|ao<|aC<|ag<|ah<|aj<|hy (fun _=>ab rfl)<|ai<|ag<|aV<| ?_
  exact bh trivial rfl rfl [] rfl [] rfl ⟨(by rw[kb,if_neg (yZ (fun j hj=>hno j (by omega)))]),rfl,rfl⟩
def dm(l:List FP):Nat:=(l.map fun x=>x.2.length).sum
theorem qz{l:List FP}{i:Nat}{x:FP}(h:l[i]? =some x):dm (l.take (i+1))=dm (l.take i)+x.2.length:=by
 obtain⟨hi,rfl⟩:=List.getElem?_eq_some_iff.1 h
 rw[List.take_succ_eq_append_getElem hi]
 unfold dm
 rw[List.map_append,List.sum_append]
 simp
theorem u4(l:List FP)(i:Nat):dm (l.take i)≤dm l:=by
 have:dm l=dm (l.take i)+dm (l.drop i):=by
  conv=>lhs;rw[←List.take_append_drop i l]
  simp only[dm,List.map_append,List.sum_append]
 omega
def dv(room:Int)(s l w:Value)(pw:Int):List Value:=[.int .i64 room,s,l,w,.int .i64 pw]
theorem Dm{room pw:Int}{vl vw:Value}{A:Option Addr}{n c:Nat}{l:List FP}(hl:l.length=n)(hn:n≤1000000000)(ht:dm l≤1000000000000):cf Tryz.prog 89 [.agg (dv room (.slice A n c) vl vw pw).toArray] [] [c6 2 A n (fc l)] (fun v_ X_ S_=>v_=(.int .i64 (dm l:Nat))∧X_=[]∧S_=[]):=by
 refine aO (N:=22) Tryz.func89 rfl rfl (by simp) fun b=> ?_
 refine a6 (fun m=>ki (m.rd 0 rfl)) ?_
 rintro⟨hl_r,hA_r⟩
 refine ah<|aj<| ?_
 refine hx (cE rfl (fun g1=> ?_))
 refine aU (fun w m=>m.bU 0 rfl (show _=aJ g1 39 (dv room (.slice A n c) vl vw pw)from congrArg (aJ _ _) (bB _))) ?_
 refine hy (fun _=>ab rfl)<|ai<|ak (X' :=[_]) (S' :=[_]) (fun _ m=>m)<|ag<|ah<|aj<|hy (fun _=>ab rfl)<|ai<|ag<|ah<|ah<|aj<|hy (fun _=>ab rfl)<|ai<|ag<|aK<| ?_
 refine dD (fun i=>n-i) (fun i=>[(3,.int .i64 (dm (l.take i):Nat)),(4,.int .i64 (i:Nat))]) (fun i=>[aJ g1 39 (dv room (.slice A n c) vl vw pw)]) (fun i=>[]) (fun i=>i≤n) 0 [(2,_),(1,_),(0,_)] ⟨rfl,rfl,rfl,trivial⟩ [0] rfl [] rfl (Nat.zero_le _) ⟨rfl,rfl,trivial⟩ (fun i hI=> ?_)
 refine ah<|ah<|aj<|hy (fun _=>aa rfl)<|hy (fun _=>aL rfl jA (by decide))<|hy (fun m=>aw rfl s5 (aA (m.aX 0 rfl) rfl))<|hy (fun _=>aW rfl Tryz.underlying36)<|hy (fun _=>bA rfl rfl)<|ai<|al (ρ' :=[(9,_),(3,_),(4,_),(2,_),(1,_),(0,_)]) ⟨rfl,rfl,rfl,rfl,rfl,rfl,trivial⟩<|ag<| ?_
 refine cC rfl (fun h=> ?_) (fun h=> ?_)
 ·have hil:i<l.length:=by omega
  obtain⟨x,hx⟩:∃x,l[i]? =some x:=⟨_,List.getElem?_eq_getElem hil⟩
  obtain⟨g0,g2⟩:=jy l i x hx
  have h1:=qz hx
  have h2:=u4 l (i+1)
  have hsz:=cV x.2
  refine aD<|ag<|ah<|aK<|aj<|hy (fun _=>aa rfl)<|hy (fun _=>aL rfl jA (by decide))<|hy (fun m=>aw rfl s5 (aA (m.aX 0 rfl) (i:=1) rfl))<|hy (fun _=>aa rfl)<|hy (fun _=>cW rfl rfl Tryz.underlying36 eP hA_r rfl (by omega))<|hy (fun _=>aL rfl n8 (by decide))<|hy (fun m=>yV (aw rfl lH (fy (m.rd 0 rfl) g2)) ((rfl:_=Value.string (strOf x.2))))<|hy (fun _=>cS rfl Tryz.underlying9)<|hy (fun _=>yV (aN rfl rfl (bE (by omega) (by omega))) ((show Value.int .i64 ((dm (l.take i):Nat)+((strOf x.2).size:Nat))= .int .i64 (dm (l.take (i+1)):Nat) by rw[hsz,h1];rfl)))<|hy (fun _=>ab rfl)<|ai<|al (ρ' :=[(3,_),(9,_),(4,_),(2,_),(1,_),(0,_)]) ⟨rfl,rfl,rfl,rfl,rfl,rfl,trivial⟩<|aS<|ag<|aj<|hy (fun _=>aa rfl)<|hy (fun _=>aN rfl rfl (bE (by omega) (by omega)))<|hy (fun _=>ab rfl)<|ai<|al (ρ' :=[(4,_),(3,_),(9,_),(2,_),(1,_),(0,_)]) ⟨rfl,rfl,rfl,rfl,rfl,rfl,trivial⟩<| ?_
  refine cM (i+1) ⟨rfl,rfl,rfl,rfl,rfl,trivial⟩ [0] rfl [0] rfl (by omega) (by omega)
 ·obtain rfl:i=n:=by omega
  refine bL<|ao<|ao<|aC<|ag<|ah<|aj<|hy (fun _=>aa rfl)<|hy (fun _=>ab rfl)<|ai<|al (ρ' :=[(2,_),(9,_),(3,_),(4,_),(1,_),(0,_)]) ⟨rfl,rfl,rfl,rfl,rfl,rfl,trivial⟩<|ag<|aV<| ?_
  exact bh trivial rfl rfl [] rfl [] rfl ⟨(by rw[←hl,List.take_of_length_le (Nat.le_refl _)]),rfl,rfl⟩
theorem qk{A:Option Addr}{n c:Nat}{l:List FP}{p:List UInt8}(hl:l.length=n)(hn:n≤1000000):cf Tryz.prog 221 [.slice A n c,.string (strOf p)] [] [c6 2 A n (fc l)] (fun v_ X_ S_=>∃v k,v_=v∧X_=[aG 156 2 v k (fc (l.filter fun x=>decide (x.1≠p)))]∧S_=[]∧(k=(l.filter fun x=>decide (x.1≠p)).length)):=by
 refine aO (N:=28) Tryz.func221 rfl rfl (by simp) fun b=> ?_
 refine a6 (fun m=>ki (m.rd 0 rfl)) ?_
 rintro⟨hl_r,hA_r⟩
 refine ah<|aj<|hy (fun _=>ab rfl)<|ai<|ag<|ah<|aj<|hy (fun _=>ab rfl)<|ai<|ag<|ah<|ah<|aj<|hy (fun _=>ab rfl)<|ai<|ag<|aK<| ?_
 refine bw (fun w m=>m.dy (r' :=aG 156 2 (.slice none 0 0) 0 []) (.refl _ _) (Own.nil _ _ _ _) (fun k hk=>hk.elim)) ?_
 refine lD (fun i A1 k c1=>n-i) (fun i A1 k c1=>[(5,.slice A1 k c1),(6,.int .i64 (i:Nat))]) (fun i A1 k c1=>[aG 156 2 (.slice A1 k c1) k (fc ((l.take i).filter fun x=>decide (x.1≠p)))]) (fun i A1 k c1=>[]) (fun i A1 k c1=>i≤n∧k=((l.take i).filter fun x=>decide (x.1≠p)).length) 0 none 0 0 [(4,_),(0,_),(1,_)] ⟨rfl,rfl,rfl,trivial⟩ [0] rfl [] rfl (⟨Nat.zero_le _,rfl⟩) ⟨rfl,rfl,trivial⟩ (fun i A1 k c1 hI=> ?_)
 obtain⟨hin,hk⟩:=hI
 have hkl:((l.take i).filter fun x=>decide (x.1≠p)).length≤i:=Nat.le_trans (List.length_filter_le ..) (by rw[List.length_take];omega)
 refine ah<|ah<|aj<|hy (fun _=>aa rfl)<|hy (fun _=>aa rfl)<|hy (fun _=>aW rfl Tryz.underlying36)<|hy (fun _=>bA rfl rfl)<|ai<|al (ρ' :=[(10,_),(5,_),(6,_),(4,_),(0,_),(1,_)]) ⟨rfl,rfl,rfl,rfl,rfl,rfl,trivial⟩<|ag<| ?_
 refine cC rfl (fun h=> ?_) (fun h=> ?_)
 ·have hil:i<l.length:=by omega
  obtain⟨x,hgx⟩:∃x,l[i]? =some x:=⟨_,List.getElem?_eq_getElem hil⟩
  obtain⟨g0,g2⟩:=jy l i x hgx
  have Dn:(l.take (i+1)).filter (fun x=>decide (x.1≠p))=(l.take i).filter (fun x=>decide (x.1≠p))++[x].filter (fun x=>decide (x.1≠p)):=by
   obtain⟨hi,rfl⟩:=List.getElem?_eq_some_iff.1 hgx
   rw[List.take_succ_eq_append_getElem hi,List.filter_append]
  refine aD<|ag<|ah<|aK<|ah<|aj<|hy (fun _=>aa rfl)<|hy (fun _=>aa rfl)<|hy (fun _=>cW rfl rfl Tryz.underlying36 eP hA_r rfl (by omega))<|hy (fun _=>aL rfl eU (by decide))<|hy (fun m=>yV (aw rfl lH (fy (m.rd 0 rfl) g0)) ((rfl:_=Value.string (strOf x.1))))<|hy (fun _=>aa rfl)<|hy (fun _=>o8 rfl rfl)<|ai<|al (ρ' :=[(19,_),(10,_),(5,_),(6,_),(4,_),(0,_),(1,_)]) ⟨rfl,rfl,rfl,rfl,rfl,rfl,rfl,trivial⟩<|ag<| ?_
  refine cC rfl (fun h0=> ?_) (fun h0=> ?_)
  ·have hF:(l.take i).filter (fun x=>decide (x.1≠p))++[x]=(l.take (i+1)).filter (fun x=>decide (x.1≠p)):=by
    have hne:x.1≠p:=fun e=>h0 (cz.2 e)
    rw[Dn];simp[hne]
   refine aj<|hy (fun _=>aa rfl)<|hy (fun _=>aa rfl)<|hy (fun _=>aa rfl)<|hy (fun _=>cW rfl rfl Tryz.underlying36 eP hA_r rfl (by omega))<|hy (fun m=>yV (a7 rfl pZ eP rfl (lM (m.rd 0 rfl) hgx)) ((rfl:_=Value.agg [SV x.1,SV x.2].toArray)))<| ?_
   refine hx (b4 Tryz.underlying36 ij rfl rfl rfl (by simp[Value.cells,B8]) (by decide) (by decide) (fun g25=> ?_))
   have hA_b25:0<1→(some (⟨g25,0,none⟩:Addr))≠none:=fun _ h=>by cases h
   refine aU (fun w m=>m.bU 0 rfl (show _=aG 156 2 (.slice (some ⟨g25,0,none⟩) 1 1) 1 (fc [x])from rfl)) ?_
   refine hx (bI 1 rfl rfl rfl Tryz.underlying36 Tryz.underlying36 (by exact .inl rfl) ij rfl (fun m=>Src.bZ (m.ord 0 rfl)) mV (by unfold maxLen;omega) (by omega) (fun u=> ?_))
   refine aB (fun m=>(m.own 0 rfl).slice) ?_
   rintro⟨A_o,c_o,rfl,hc_o⟩
   refine aB (fun m=>(m.ord 0 rfl).2.1) fun hA_o=> ?_
   refine aU (fun w m=>m.bU 0 rfl (show _=aG 156 2 (.slice A_o (k+1) c_o) (k+1) (fc ((l.take (i+1)).filter fun x=>decide (x.1≠p)))from congrArg (aG _ _ _ _) ((gN ..).symm.trans (congrArg fc hF)))) ?_
   refine hy (fun _=>ab rfl)<|ai<|al (ρ' :=[(5,_),(19,_),(10,_),(6,_),(4,_),(0,_),(1,_)]) ⟨rfl,rfl,rfl,rfl,rfl,rfl,rfl,trivial⟩<|ak (X' :=[_,_]) (S' :=[_]) (fun _ m=>m)<|aS<|ag<|aj<|hy (fun _=>aa rfl)<|hy (fun _=>aN rfl rfl (bE (by omega) (by omega)))<|hy (fun _=>ab rfl)<|ai<|al (ρ' :=[(6,_),(5,_),(19,_),(10,_),(4,_),(0,_),(1,_)]) ⟨rfl,rfl,rfl,rfl,rfl,rfl,rfl,trivial⟩<| ?_
   refine iB (i+1) A_o (k+1) c_o ⟨rfl,rfl,rfl,rfl,rfl,trivial⟩ [0] rfl [0] rfl (⟨by omega,by rw[←hF,hk,List.length_append];rfl⟩) (by omega)
  ·have hF:(l.take (i+1)).filter (fun x=>decide (x.1≠p))=(l.take i).filter (fun x=>decide (x.1≠p)):=by
    have hne:x.1=p:=cz.1 (Decidable.not_not.1 h0)
    rw[Dn];simp[hne]
   refine bw (fun w m=>m.bU 0 rfl (show _=aG 156 2 (.slice A1 k c1) k (fc ((l.take (i+1)).filter fun x=>decide (x.1≠p)))from by rw[hF])) ?_
   refine aD<|aS<|ag<|aj<|hy (fun _=>aa rfl)<|hy (fun _=>aN rfl rfl (bE (by omega) (by omega)))<|hy (fun _=>ab rfl)<|ai<|al (ρ' :=[(6,_),(19,_),(10,_),(5,_),(4,_),(0,_),(1,_)]) ⟨rfl,rfl,rfl,rfl,rfl,rfl,rfl,trivial⟩<| ?_
   refine iB (i+1) A1 k c1 ⟨rfl,rfl,rfl,rfl,rfl,trivial⟩ [0] rfl [0] rfl (⟨by omega,by rw[hF];exact hk⟩) (by omega)
 ·obtain rfl:i=n:=by omega
  rw[←hl,List.take_of_length_le (Nat.le_refl _)]at hk
  refine bw (fun w m=>m.bU 0 rfl (show _=aG 156 2 (.slice A1 k c1) k (fc (l.filter fun x=>decide (x.1≠p)))from by rw[←hl,List.take_of_length_le (Nat.le_refl _)])) ?_
  refine bL<|ao<|ao<|aC<|ag<|ah<|aj<|hy (fun _=>aa rfl)<|hy (fun _=>ab rfl)<|ai<|al (ρ' :=[(4,_),(10,_),(5,_),(6,_),(0,_),(1,_)]) ⟨rfl,rfl,rfl,rfl,rfl,rfl,trivial⟩<|ag<|aV<| ?_
  exact bh trivial rfl rfl [0] rfl [] rfl ⟨_,_,rfl,rfl,rfl,hk⟩
end Go.Proofs.YtmibdabdlgmafaaGreatDoor
end
section
set_option maxRecDepth 20000
namespace Go.Proofs.YtmibdabdlgmafaaGreatDoor
open Go.Eng Go.Hx
def l6(a b:List UInt8):Bool:=Op.bytesLess (strOf a).toList (strOf b).toList
def gW(f:FP)(st:List FP×Bool)(x:FP):List FP×Bool:=
 let s1:=if st.2=false∧l6 x.1 f.1=false then(st.1++[f],true)else st
 (if x.1≠f.1 then s1.1++[x]else s1.1,s1.2)
def Cb(f:FP)(l:List FP)(i:Nat):List FP×Bool:=(l.take i).foldl (gW f) ([],false)
theorem zu{f:FP}{l:List FP}{i:Nat}{x:FP}(h:l[i]? =some x):Cb f l (i+1)=gW f (Cb f l i) x:=by
 obtain⟨hi,rfl⟩:=List.getElem?_eq_some_iff.1 h
 unfold Cb
 rw[List.take_succ_eq_append_getElem hi,List.foldl_append]
 rfl
def gn(l:List FP)(f:FP):List FP:=if(Cb f l l.length).2 then(Cb f l l.length).1 else(Cb f l l.length).1++[f]
theorem zn{A:Option Addr}{n c:Nat}{l:List FP}{f:FP}(hl:l.length=n)(hn:n≤1000000):cf Tryz.prog 220 [.slice A n c,.agg [SV f.1,SV f.2].toArray] [] [c6 2 A n (fc l)] (fun v_ X_ S_=>∃v k,v_=v∧X_=[aG 156 2 v k (fc (gn l f))]∧S_=[]∧(k=(gn l f).length∧k≤n+1)):=by
 refine aO (N:=52) Tryz.func220 rfl rfl (by simp) fun b=> ?_
 refine a6 (fun m=>ki (m.rd 0 rfl)) ?_
 rintro⟨hl_r,hA_r⟩
 refine ah<|aj<| ?_
 refine hx (cE rfl (fun g3=> ?_))
 refine aU (fun w m=>m.bU 0 rfl (show _=aJ g3 156 [SV f.1,SV f.2]from congrArg (aJ _ _) (bB _))) ?_
 refine hy (fun _=>ab rfl)<|ai<|ak (X' :=[_]) (S' :=[_]) (fun _ m=>m)<|ag<|ah<|aj<|hy (fun _=>ab rfl)<|ai<|ag<|ah<|aj<|hy (fun _=>ab rfl)<|ai<|ag<|ah<|ah<|aj<|hy (fun _=>ab rfl)<|ai<|ag<|aK<| ?_
 refine bw (fun w m=>m.dy (r' :=aG 156 2 (.slice none 0 0) 0 []) (.refl _ _) (Own.nil _ _ _ _) (fun k hk=>hk.elim)) ?_
 refine oU (fun i A1 k c1 out pt=>n-i) (fun i A1 k c1 out pt=>[(5,.slice A1 k c1),(6,.bool pt),(7,.int .i64 (i:Nat))]) (fun i A1 k c1 out pt=>[aG 156 2 (.slice A1 k c1) k (fc out),aJ g3 156 [SV f.1,SV f.2]]) (fun i A1 k c1 out pt=>[]) (fun i A1 k c1 out pt=>i≤n∧Cb f l i=(out,pt)∧k=out.length∧k≤i+pt.toNat) 0 none 0 0 [] false [(4,_),(3,_),(0,_),(1,_)] ⟨rfl,rfl,rfl,rfl,trivial⟩ [0,0] rfl [] rfl (⟨Nat.zero_le _,rfl,rfl,Nat.le_refl _⟩) ⟨rfl,rfl,rfl,trivial⟩ (fun i A1 k c1 out pt ⟨hin,hw,hk,hki⟩=> ?_)
 have hpt:pt.toNat≤1:=by cases pt <;> decide
 refine ah<|ah<|aj<|hy (fun _=>aa rfl)<|hy (fun _=>aa rfl)<|hy (fun _=>aW rfl Tryz.underlying36)<|hy (fun _=>bA rfl rfl)<|ai<|al (ρ' :=[(11,_),(5,_),(6,_),(7,_),(4,_),(3,_),(0,_),(1,_)]) ⟨rfl,rfl,rfl,rfl,rfl,rfl,rfl,rfl,trivial⟩<|ag<| ?_
 refine cC rfl (fun h=> ?_) (fun h=> ?_)
 ·have hil:i<l.length:=by omega
  obtain⟨x,hgx⟩:∃x,l[i]? =some x:=⟨_,List.getElem?_eq_getElem hil⟩
  obtain⟨g0,g2⟩:=jy l i x hgx
  have hs:=zu (f:=f) hgx
  rw[hw]at hs
  unfold gW at hs
  by_cases hp:pt=true
  ·subst hp
   simp only[Bool.true_eq_false,false_and,if_false]at hs
   refine aD<|ag<|ah<|aK<|ah<|ah<|cT [] [(0,some 0),(1,some 0),(2,some 0),(3,some 0),(4,some 0),(5,some 0),(6,some 0),(7,some 0),(8,some 0),(9,some 0),(10,some 0),(11,some 0)] (by kernel_rfl) (by kernel_rfl) rfl 99<|an (aa rfl)<|an ((lX rfl))<|an (aa rfl)<|aZ rfl rfl rfl (by decide)<|aZ rfl rfl rfl (by decide)<|aZ rfl rfl rfl (by decide)<|aZ rfl rfl rfl (by decide)<|aZ rfl rfl rfl (by decide)<|aZ rfl rfl rfl (by decide)<|aZ rfl rfl rfl (by decide)<|aZ rfl rfl rfl (by decide)<|an (bN rfl rfl)<|bF<|al (ρ' :=[(25,_),(11,_),(5,_),(6,_),(7,_),(4,_),(3,_),(0,_),(1,_)]) ⟨rfl,rfl,rfl,rfl,rfl,rfl,rfl,rfl,rfl,trivial⟩<|ag<| ?_
   refine dO rfl (rfl) ?_
   refine aD<|ag<|ah<|cT [] [(0,some 0),(1,some 0),(2,some 0),(3,some 0),(4,some 0),(5,some 0),(6,some 0),(7,some 0)] (by kernel_rfl) (by kernel_rfl) rfl 99<|an (aa rfl)<|an (aa rfl)<|an (cW rfl rfl Tryz.underlying36 eP hA_r rfl (by omega))<|an (aL rfl eU (by decide))<|cm (fun m=>yV (aw rfl lH (fy (m.rd 0 rfl) g0)) ((rfl:_=Value.string (strOf x.1))))<|an (aL rfl eU (by decide))<|cm (fun m=>yV (aw rfl lH (aA (m.aX 1 rfl) (i:=0) rfl)) ((rfl:_=Value.string (strOf f.1))))<|an (o8 rfl rfl)<|bF<|al (ρ' :=[(37,_),(25,_),(11,_),(5,_),(6,_),(7,_),(4,_),(3,_),(0,_),(1,_)]) ⟨rfl,rfl,rfl,rfl,rfl,rfl,rfl,rfl,rfl,rfl,trivial⟩<|ag<| ?_
   refine cC rfl (fun h1=> ?_) (fun h1=> ?_)
   ·have hne:x.1≠f.1:=fun e=>h1 (cz.2 e)
    refine aj<|hy (fun _=>aa rfl)<|hy (fun _=>aa rfl)<|hy (fun _=>aa rfl)<|hy (fun _=>cW rfl rfl Tryz.underlying36 eP hA_r rfl (by omega))<|hy (fun m=>yV (a7 rfl pZ eP rfl (lM (m.rd 0 rfl) hgx)) ((rfl:_=Value.agg [SV x.1,SV x.2].toArray)))<| ?_
    refine hx (b4 Tryz.underlying36 ij rfl rfl rfl (by simp[Value.cells,B8]) (by decide) (by decide) (fun g43=> ?_))
    have hA_b43:0<1→(some (⟨g43,0,none⟩:Addr))≠none:=fun _ h=>by cases h
    refine aU (fun w m=>m.bU 0 rfl (show _=aG 156 2 (.slice (some ⟨g43,0,none⟩) 1 1) 1 (fc [x])from rfl)) ?_
    refine hx (bI 1 rfl rfl rfl Tryz.underlying36 Tryz.underlying36 (by exact .inl rfl) ij rfl (fun m=>Src.bZ (m.ord 0 rfl)) mV (by unfold maxLen;omega) (by omega) (fun u=> ?_))
    refine aB (fun m=>(m.own 0 rfl).slice) ?_
    rintro⟨A_o,c_o,rfl,hc_o⟩
    refine aB (fun m=>(m.ord 0 rfl).2.1) fun hA_o=> ?_
    refine aU (fun w m=>m.bU 0 rfl (show _=aG 156 2 (.slice A_o (k+1) c_o) (k+1) (fc (out++[x]))from congrArg (aG _ _ _ _) (gN ..).symm)) ?_
    refine hy (fun _=>ab rfl)<|ai<|al (ρ' :=[(5,_),(37,_),(25,_),(11,_),(6,_),(7,_),(4,_),(3,_),(0,_),(1,_)]) ⟨rfl,rfl,rfl,rfl,rfl,rfl,rfl,rfl,rfl,rfl,trivial⟩<|ak (X' :=[_,_,_]) (S' :=[_]) (fun _ m=>m)<|aS<|ag<|aj<|hy (fun _=>aa rfl)<|hy (fun _=>aN rfl rfl (bE (by omega) (by omega)))<|hy (fun _=>ab rfl)<|ai<|al (ρ' :=[(7,_),(5,_),(37,_),(25,_),(11,_),(6,_),(4,_),(3,_),(0,_),(1,_)]) ⟨rfl,rfl,rfl,rfl,rfl,rfl,rfl,rfl,rfl,rfl,trivial⟩<| ?_
    refine gy (i+1) A_o (k+1) c_o (out++[x]) true ⟨rfl,rfl,rfl,rfl,rfl,rfl,rfl,trivial⟩ [0,1] rfl [0] rfl (⟨by omega,by rw[hs,if_pos hne],by rw[List.length_append,hk.symm];rfl,by simp at hki ⊢;omega⟩) (by omega)
   ·have hne:¬x.1≠f.1:=fun e=>h1 (fun h=>e (cz.1 h))
    refine aD<|aS<|ag<|aj<|hy (fun _=>aa rfl)<|hy (fun _=>aN rfl rfl (bE (by omega) (by omega)))<|hy (fun _=>ab rfl)<|ai<|al (ρ' :=[(7,_),(37,_),(25,_),(11,_),(5,_),(6,_),(4,_),(3,_),(0,_),(1,_)]) ⟨rfl,rfl,rfl,rfl,rfl,rfl,rfl,rfl,rfl,rfl,trivial⟩<| ?_
    refine gy (i+1) A1 (k) c1 (out) true ⟨rfl,rfl,rfl,rfl,rfl,rfl,rfl,trivial⟩ [0,0] rfl [0] rfl (⟨by omega,by rw[hs,if_neg hne],hk.symm.symm,by simp at hki ⊢;omega⟩) (by omega)
  ·obtain rfl:pt=false:=by simpa using hp
   by_cases hge:l6 x.1 f.1=false
   ·simp only[hge,and_self,if_true]at hs
    refine aD<|ag<|ah<|aK<|ah<|ah<|cT [] [(0,some 0),(1,some 0),(2,some 0),(3,some 0),(4,some 0),(5,some 0),(6,some 0),(7,some 0),(8,some 0),(9,some 0),(10,some 0),(11,some 0)] (by kernel_rfl) (by kernel_rfl) rfl 99<|an (aa rfl)<|an ((lX rfl))<|an (aa rfl)<|bP (o:=_) rfl rfl rfl (aa rfl)<|bP (o:=_) rfl rfl rfl (aa rfl)<|bP (o:=_) rfl rfl rfl (cW rfl rfl Tryz.underlying36 eP hA_r rfl (by omega))<|bP (o:=_) rfl rfl rfl (aL rfl eU (by decide))<|mU (o:=_) rfl rfl rfl (fun m=>yV (aw rfl lH (fy (m.rd 0 rfl) g0)) ((rfl:_=Value.string (strOf x.1))))<|bP (o:=_) rfl rfl rfl (aL rfl eU (by decide))<|mU (o:=_) rfl rfl rfl (fun m=>yV (aw rfl lH (aA (m.aX 1 rfl) (i:=0) rfl)) ((rfl:_=Value.string (strOf f.1))))<|bP (o:=_) rfl rfl rfl (yT (Cm rfl rfl) ((by show(!l6 x.1 f.1)=true;rw[hge];rfl)))<|an (bK rfl rfl)<|bF<|al (ρ' :=[(25,_),(11,_),(5,_),(6,_),(7,_),(4,_),(3,_),(0,_),(1,_)]) ⟨rfl,rfl,rfl,rfl,rfl,rfl,rfl,rfl,rfl,trivial⟩<|ag<| ?_
    refine gY rfl (rfl) ?_
    refine ah<|aj<|hy (fun _=>aa rfl)<|hy (fun m=>yV (a7 rfl pZ eP rfl ((m.aX 1 rfl).az)) ((rfl:_=Value.agg [SV f.1,SV f.2].toArray)))<| ?_
    refine hx (b4 Tryz.underlying36 ij rfl rfl rfl (by simp[Value.cells,B8]) (by decide) (by decide) (fun g28=> ?_))
    have hA_b28:0<1→(some (⟨g28,0,none⟩:Addr))≠none:=fun _ h=>by cases h
    refine aU (fun w m=>m.bU 0 rfl (show _=aG 156 2 (.slice (some ⟨g28,0,none⟩) 1 1) 1 (fc [f])from rfl)) ?_
    refine hx (bI 1 rfl rfl rfl Tryz.underlying36 Tryz.underlying36 (by exact .inl rfl) ij rfl (fun m=>Src.bZ (m.ord 0 rfl)) mV (by unfold maxLen;omega) (by omega) (fun u=> ?_))
    refine aB (fun m=>(m.own 0 rfl).slice) ?_
    rintro⟨A_o,c_o,rfl,hc_o⟩
    refine aB (fun m=>(m.ord 0 rfl).2.1) fun hA_o=> ?_
    refine aU (fun w m=>m.bU 0 rfl (show _=aG 156 2 (.slice A_o (k+1) c_o) (k+1) (fc (out++[f]))from congrArg (aG _ _ _ _) (gN ..).symm)) ?_
    have hk1:(out++[f]).length=k+1:=by rw[List.length_append,hk];rfl
    refine hy (fun _=>ab rfl)<|ai<|al (ρ' :=[(5,_),(25,_),(11,_),(6,_),(7,_),(4,_),(3,_),(0,_),(1,_)]) ⟨rfl,rfl,rfl,rfl,rfl,rfl,rfl,rfl,rfl,trivial⟩<|ak (X' :=[_,_,_]) (S' :=[_]) (fun _ m=>m)<|ag<|aj<|hy (fun _=>ab rfl)<|ai<|ag<|ah<|cT [] [(0,some 0),(1,some 0),(2,some 0),(3,some 0),(4,some 0),(5,some 0),(6,some 0),(7,some 0)] (by kernel_rfl) (by kernel_rfl) rfl 99<|an (aa rfl)<|an (aa rfl)<|an (cW rfl rfl Tryz.underlying36 eP hA_r rfl (by omega))<|an (aL rfl eU (by decide))<|cm (fun m=>yV (aw rfl lH (fy (m.rd 0 rfl) g0)) ((rfl:_=Value.string (strOf x.1))))<|an (aL rfl eU (by decide))<|cm (fun m=>yV (aw rfl lH (aA (m.aX 2 rfl) (i:=0) rfl)) ((rfl:_=Value.string (strOf f.1))))<|an (o8 rfl rfl)<|bF<|al (ρ' :=[(37,_),(6,_),(5,_),(25,_),(11,_),(7,_),(4,_),(3,_),(0,_),(1,_)]) ⟨rfl,rfl,rfl,rfl,rfl,rfl,rfl,rfl,rfl,rfl,trivial⟩<|ag<| ?_
    refine cC rfl (fun h1=> ?_) (fun h1=> ?_)
    ·have hne:x.1≠f.1:=fun e=>h1 (cz.2 e)
     refine aj<|hy (fun _=>aa rfl)<|hy (fun _=>aa rfl)<|hy (fun _=>aa rfl)<|hy (fun _=>cW rfl rfl Tryz.underlying36 eP hA_r rfl (by omega))<|hy (fun m=>yV (a7 rfl pZ eP rfl (lM (m.rd 0 rfl) hgx)) ((rfl:_=Value.agg [SV x.1,SV x.2].toArray)))<| ?_
     refine hx (b4 Tryz.underlying36 ij rfl rfl rfl (by simp[Value.cells,B8]) (by decide) (by decide) (fun g43=> ?_))
     have hA_b43:0<1→(some (⟨g43,0,none⟩:Addr))≠none:=fun _ h=>by cases h
     refine aU (fun w m=>m.bU 0 rfl (show _=aG 156 2 (.slice (some ⟨g43,0,none⟩) 1 1) 1 (fc [x])from rfl)) ?_
     refine hx (bI 1 rfl rfl rfl Tryz.underlying36 Tryz.underlying36 (by exact .inl rfl) ij rfl (fun m=>Src.bZ (m.ord 0 rfl)) mV (by unfold maxLen;omega) (by omega) (fun u2=> ?_))
     refine aB (fun m=>(m.own 0 rfl).slice) ?_
     rintro⟨A_o2,c_o2,rfl,hc_o⟩
     refine aB (fun m=>(m.ord 0 rfl).2.1) fun hA_o=> ?_
     refine aU (fun w m=>m.bU 0 rfl (show _=aG 156 2 (.slice A_o2 (k+1+1) c_o2) (k+1+1) (fc ((out++[f])++[x]))from congrArg (aG _ _ _ _) (gN ..).symm)) ?_
     refine hy (fun _=>ab rfl)<|ai<|al (ρ' :=[(5,_),(37,_),(6,_),(25,_),(11,_),(7,_),(4,_),(3,_),(0,_),(1,_)]) ⟨rfl,rfl,rfl,rfl,rfl,rfl,rfl,rfl,rfl,rfl,trivial⟩<|ak (X' :=[_,_,_,_]) (S' :=[_]) (fun _ m=>m)<|aS<|ag<|aj<|hy (fun _=>aa rfl)<|hy (fun _=>aN rfl rfl (bE (by omega) (by omega)))<|hy (fun _=>ab rfl)<|ai<|al (ρ' :=[(7,_),(5,_),(37,_),(6,_),(25,_),(11,_),(4,_),(3,_),(0,_),(1,_)]) ⟨rfl,rfl,rfl,rfl,rfl,rfl,rfl,rfl,rfl,rfl,trivial⟩<| ?_
     refine gy (i+1) A_o2 (k+1+1) c_o2 ((out++[f])++[x]) true ⟨rfl,rfl,rfl,rfl,rfl,rfl,rfl,trivial⟩ [0,2] rfl [0] rfl (⟨by omega,by rw[hs,if_pos hne],by rw[List.length_append,hk1];rfl,by simp at hki ⊢;omega⟩) (by omega)
    ·have hne:¬x.1≠f.1:=fun e=>h1 (fun h=>e (cz.1 h))
     refine aD<|aS<|ag<|aj<|hy (fun _=>aa rfl)<|hy (fun _=>aN rfl rfl (bE (by omega) (by omega)))<|hy (fun _=>ab rfl)<|ai<|al (ρ' :=[(7,_),(37,_),(6,_),(5,_),(25,_),(11,_),(4,_),(3,_),(0,_),(1,_)]) ⟨rfl,rfl,rfl,rfl,rfl,rfl,rfl,rfl,rfl,rfl,trivial⟩<| ?_
     refine gy (i+1) A_o (k+1) c_o ((out++[f])) true ⟨rfl,rfl,rfl,rfl,rfl,rfl,rfl,trivial⟩ [0,1] rfl [0] rfl (⟨by omega,by rw[hs,if_neg hne],hk1.symm,by simp at hki ⊢;omega⟩) (by omega)
   ·have hlt:l6 x.1 f.1=true:=by simpa using hge
    simp only[hlt,Bool.true_eq_false,and_false,if_false]at hs
    refine aD<|ag<|ah<|aK<|ah<|ah<|cT [] [(0,some 0),(1,some 0),(2,some 0),(3,some 0),(4,some 0),(5,some 0),(6,some 0),(7,some 0),(8,some 0),(9,some 0),(10,some 0),(11,some 0)] (by kernel_rfl) (by kernel_rfl) rfl 99<|an (aa rfl)<|an ((lX rfl))<|an (aa rfl)<|bP (o:=_) rfl rfl rfl (aa rfl)<|bP (o:=_) rfl rfl rfl (aa rfl)<|bP (o:=_) rfl rfl rfl (cW rfl rfl Tryz.underlying36 eP hA_r rfl (by omega))<|bP (o:=_) rfl rfl rfl (aL rfl eU (by decide))<|mU (o:=_) rfl rfl rfl (fun m=>yV (aw rfl lH (fy (m.rd 0 rfl) g0)) ((rfl:_=Value.string (strOf x.1))))<|bP (o:=_) rfl rfl rfl (aL rfl eU (by decide))<|mU (o:=_) rfl rfl rfl (fun m=>yV (aw rfl lH (aA (m.aX 1 rfl) (i:=0) rfl)) ((rfl:_=Value.string (strOf f.1))))<|bP (o:=_) rfl rfl rfl (yF (Cm rfl rfl) ((by show(!l6 x.1 f.1)=false;rw[hlt];rfl)))<|an (bK rfl rfl)<|bF<|al (ρ' :=[(25,_),(11,_),(5,_),(6,_),(7,_),(4,_),(3,_),(0,_),(1,_)]) ⟨rfl,rfl,rfl,rfl,rfl,rfl,rfl,rfl,rfl,trivial⟩<|ag<| ?_
    refine dO rfl (rfl) ?_
    refine aD<|ag<|ah<|cT [] [(0,some 0),(1,some 0),(2,some 0),(3,some 0),(4,some 0),(5,some 0),(6,some 0),(7,some 0)] (by kernel_rfl) (by kernel_rfl) rfl 99<|an (aa rfl)<|an (aa rfl)<|an (cW rfl rfl Tryz.underlying36 eP hA_r rfl (by omega))<|an (aL rfl eU (by decide))<|cm (fun m=>yV (aw rfl lH (fy (m.rd 0 rfl) g0)) ((rfl:_=Value.string (strOf x.1))))<|an (aL rfl eU (by decide))<|cm (fun m=>yV (aw rfl lH (aA (m.aX 1 rfl) (i:=0) rfl)) ((rfl:_=Value.string (strOf f.1))))<|an (o8 rfl rfl)<|bF<|al (ρ' :=[(37,_),(25,_),(11,_),(5,_),(6,_),(7,_),(4,_),(3,_),(0,_),(1,_)]) ⟨rfl,rfl,rfl,rfl,rfl,rfl,rfl,rfl,rfl,rfl,trivial⟩<|ag<| ?_
    refine cC rfl (fun h1=> ?_) (fun h1=> ?_)
    ·have hne:x.1≠f.1:=fun e=>h1 (cz.2 e)
     refine aj<|hy (fun _=>aa rfl)<|hy (fun _=>aa rfl)<|hy (fun _=>aa rfl)<|hy (fun _=>cW rfl rfl Tryz.underlying36 eP hA_r rfl (by omega))<|hy (fun m=>yV (a7 rfl pZ eP rfl (lM (m.rd 0 rfl) hgx)) ((rfl:_=Value.agg [SV x.1,SV x.2].toArray)))<| ?_
     refine hx (b4 Tryz.underlying36 ij rfl rfl rfl (by simp[Value.cells,B8]) (by decide) (by decide) (fun g43=> ?_))
     have hA_b43:0<1→(some (⟨g43,0,none⟩:Addr))≠none:=fun _ h=>by cases h
     refine aU (fun w m=>m.bU 0 rfl (show _=aG 156 2 (.slice (some ⟨g43,0,none⟩) 1 1) 1 (fc [x])from rfl)) ?_
     refine hx (bI 1 rfl rfl rfl Tryz.underlying36 Tryz.underlying36 (by exact .inl rfl) ij rfl (fun m=>Src.bZ (m.ord 0 rfl)) mV (by unfold maxLen;omega) (by omega) (fun u=> ?_))
     refine aB (fun m=>(m.own 0 rfl).slice) ?_
     rintro⟨A_o,c_o,rfl,hc_o⟩
     refine aB (fun m=>(m.ord 0 rfl).2.1) fun hA_o=> ?_
     refine aU (fun w m=>m.bU 0 rfl (show _=aG 156 2 (.slice A_o (k+1) c_o) (k+1) (fc (out++[x]))from congrArg (aG _ _ _ _) (gN ..).symm)) ?_
     refine hy (fun _=>ab rfl)<|ai<|al (ρ' :=[(5,_),(37,_),(25,_),(11,_),(6,_),(7,_),(4,_),(3,_),(0,_),(1,_)]) ⟨rfl,rfl,rfl,rfl,rfl,rfl,rfl,rfl,rfl,rfl,trivial⟩<|ak (X' :=[_,_,_]) (S' :=[_]) (fun _ m=>m)<|aS<|ag<|aj<|hy (fun _=>aa rfl)<|hy (fun _=>aN rfl rfl (bE (by omega) (by omega)))<|hy (fun _=>ab rfl)<|ai<|al (ρ' :=[(7,_),(5,_),(37,_),(25,_),(11,_),(6,_),(4,_),(3,_),(0,_),(1,_)]) ⟨rfl,rfl,rfl,rfl,rfl,rfl,rfl,rfl,rfl,rfl,trivial⟩<| ?_
     refine gy (i+1) A_o (k+1) c_o (out++[x]) false ⟨rfl,rfl,rfl,rfl,rfl,rfl,rfl,trivial⟩ [0,1] rfl [0] rfl (⟨by omega,by rw[hs,if_pos hne],by rw[List.length_append,hk.symm];rfl,by simp at hki ⊢;omega⟩) (by omega)
    ·have hne:¬x.1≠f.1:=fun e=>h1 (fun h=>e (cz.1 h))
     refine aD<|aS<|ag<|aj<|hy (fun _=>aa rfl)<|hy (fun _=>aN rfl rfl (bE (by omega) (by omega)))<|hy (fun _=>ab rfl)<|ai<|al (ρ' :=[(7,_),(37,_),(25,_),(11,_),(5,_),(6,_),(4,_),(3,_),(0,_),(1,_)]) ⟨rfl,rfl,rfl,rfl,rfl,rfl,rfl,rfl,rfl,rfl,trivial⟩<| ?_
     refine gy (i+1) A1 (k) c1 (out) false ⟨rfl,rfl,rfl,rfl,rfl,rfl,rfl,trivial⟩ [0,0] rfl [0] rfl (⟨by omega,by rw[hs,if_neg hne],hk.symm.symm,by simp at hki ⊢;omega⟩) (by omega)
 ·obtain rfl:i=n:=by omega
  have hww:Cb f l l.length=(out,pt):=by rw[hl];exact hw
  by_cases hp:pt=true
  ·subst hp
   have hW:gn l f=out:=by rw[gn,hww];rfl
   refine bL<|ao<|ao<|aC<|ag<|ah<|ah<|aj<|hy (fun _=>aa rfl)<|hy (fun _=>(lX rfl))<|ai<|al (ρ' :=[(46,_),(11,_),(5,_),(6,_),(7,_),(4,_),(3,_),(0,_),(1,_)]) ⟨rfl,rfl,rfl,rfl,rfl,rfl,rfl,rfl,rfl,trivial⟩<|ag<| ?_
   refine dO rfl (rfl) ?_
   refine aD<|ag<|ah<|aj<|hy (fun _=>aa rfl)<|hy (fun _=>ab rfl)<|ai<|al (ρ' :=[(4,_),(46,_),(11,_),(5,_),(6,_),(7,_),(3,_),(0,_),(1,_)]) ⟨rfl,rfl,rfl,rfl,rfl,rfl,rfl,rfl,rfl,trivial⟩<|ag<|aV<| ?_
   refine ak (fun w m=>m.bU 0 rfl (show _=aG 156 2 (.slice A1 k c1) k (fc (gn l f))from by rw[hW])) ?_
   exact bh trivial rfl rfl [0] rfl [] rfl ⟨_,_,rfl,rfl,rfl,⟨by rw[hW];exact hk,by simp at hki;omega⟩⟩
  ·obtain rfl:pt=false:=by simpa using hp
   have hW:gn l f=out++[f]:=by rw[gn,hww];rfl
   refine bL<|ao<|ao<|aC<|ag<|ah<|ah<|aj<|hy (fun _=>aa rfl)<|hy (fun _=>(lX rfl))<|ai<|al (ρ' :=[(46,_),(11,_),(5,_),(6,_),(7,_),(4,_),(3,_),(0,_),(1,_)]) ⟨rfl,rfl,rfl,rfl,rfl,rfl,rfl,rfl,rfl,trivial⟩<|ag<| ?_
   refine gY rfl (rfl) ?_
   refine aj<|hy (fun _=>aa rfl)<|hy (fun m=>yV (a7 rfl pZ eP rfl ((m.aX 1 rfl).az)) ((rfl:_=Value.agg [SV f.1,SV f.2].toArray)))<| ?_
   refine hx (b4 Tryz.underlying36 ij rfl rfl rfl (by simp[Value.cells,B8]) (by decide) (by decide) (fun g49=> ?_))
   have hA_b49:0<1→(some (⟨g49,0,none⟩:Addr))≠none:=fun _ h=>by cases h
   refine aU (fun w m=>m.bU 0 rfl (show _=aG 156 2 (.slice (some ⟨g49,0,none⟩) 1 1) 1 (fc [f])from rfl)) ?_
   refine hx (bI 1 rfl rfl rfl Tryz.underlying36 Tryz.underlying36 (by exact .inl rfl) ij rfl (fun m=>Src.bZ (m.ord 0 rfl)) mV (by unfold maxLen;omega) (by omega) (fun u=> ?_))
   refine aB (fun m=>(m.own 0 rfl).slice) ?_
   rintro⟨A_o,c_o,rfl,hc_o⟩
   refine aB (fun m=>(m.ord 0 rfl).2.1) fun hA_o=> ?_
   refine aU (fun w m=>m.bU 0 rfl (show _=aG 156 2 (.slice A_o (k+1) c_o) (k+1) (fc (gn l f))from(congrArg (aG _ _ _ _) ((gN ..).symm.trans (congrArg fc hW.symm))))) ?_
   refine hy (fun _=>ab rfl)<|ai<|al (ρ' :=[(5,_),(46,_),(11,_),(6,_),(7,_),(4,_),(3,_),(0,_),(1,_)]) ⟨rfl,rfl,rfl,rfl,rfl,rfl,rfl,rfl,rfl,trivial⟩<|ak (X' :=[_,_,_]) (S' :=[_]) (fun _ m=>m)<|ag<|ah<|aj<|hy (fun _=>aa rfl)<|hy (fun _=>ab rfl)<|ai<|al (ρ' :=[(4,_),(5,_),(46,_),(11,_),(6,_),(7,_),(3,_),(0,_),(1,_)]) ⟨rfl,rfl,rfl,rfl,rfl,rfl,rfl,rfl,rfl,trivial⟩<|ag<|aV<| ?_
   exact bh trivial rfl rfl [0] rfl [] rfl ⟨_,_,rfl,rfl,rfl,⟨by rw[hW,List.length_append,hk];rfl,by simp at hki;omega⟩⟩
end Go.Proofs.YtmibdabdlgmafaaGreatDoor
end
section
set_option maxRecDepth 20000
namespace Go.Proofs.YtmibdabdlgmafaaGreatDoor
open Go.Eng Go.Hx
def cU(l:List FP)(p:List UInt8):List FP:=l.filter fun x=>decide (x.1≠p)
def cv(k:Int)(p t b:List UInt8):List Value:=[.int .i64 k,SV p,SV t,SV b]
def dw(l:List FP)(k:Int)(p t b:List UInt8):List FP:=
 if k=0 then gn l (p,b)else match l[cr l p]? with
  |none=>l
  |some x=>if k=2 then cU l p else gn (cU l p) (t,x.2)
theorem gO{l:List FP}{p:List UInt8}:kb l p<0↔l[cr l p]? =none:=by
 unfold kb
 by_cases h:cr l p<l.length
 ·rw[if_pos h,List.getElem?_eq_getElem h];simp
 ·rw[if_neg h,List.getElem?_eq_none (by omega)];simp
theorem Ei{A:Option Addr}{n c:Nat}{l:List FP}{k:Int}{p t bb:List UInt8}(hl:l.length=n)(hn:n≤900000):cf Tryz.prog 162 [.slice A n c,.agg (cv k p t bb).toArray] [] [c6 2 A n (fc l)] (fun v_ X_ S_=>∃A1 n1 c1,v_=(.slice A1 n1 c1)∧X_=[]∧S_=[c6 2 A1 n1 (fc (dw l k p t bb))]∧(n1=(dw l k p t bb).length∧n1≤n+1)):=by
 refine aO (N:=43) Tryz.func162 rfl rfl (by simp) fun b=> ?_
 refine a6 (fun m=>ki (m.rd 0 rfl)) ?_
 rintro⟨hl_r,hA_r⟩
 refine ah<|aj<| ?_
 refine hx (cE rfl (fun g3=> ?_))
 refine aU (fun w m=>m.bU 0 rfl (show _=aJ g3 186 (cv k p t bb)from congrArg (aJ _ _) (bB _))) ?_
 refine hy (fun _=>ab rfl)<|ai<|ak (X' :=[_]) (S' :=[_]) (fun _ m=>m)<|ag<|ah<|ah<|aj<|hy (fun _=>aL rfl vW (by decide))<|hy (fun m=>aw rfl fG (aA (m.aX 0 rfl) (i:=0) rfl))<|hy (fun _=>cx rfl rfl)<|ai<|al (ρ' :=[(8,_),(4,_),(3,_),(0,_),(1,_)]) ⟨rfl,rfl,rfl,rfl,rfl,trivial⟩<|ag<| ?_
 refine cC rfl (fun h0=> ?_) (fun h0=> ?_)
 ·have hM:dw l k p t bb=gn l (p,bb):=by rw[dw,if_pos h0]
  refine ah<|aj<|hy (fun _=>aa rfl)<|hy (fun _=>aL rfl ot (by decide))<|hy (fun m=>yV (aw rfl lH (aA (m.aX 0 rfl) (i:=1) rfl)) ((rfl:_=SV p)))<|hy (fun _=>aL rfl AS (by decide))<|hy (fun m=>yV (aw rfl lH (aA (m.aX 0 rfl) (i:=3) rfl)) ((rfl:_=SV bb)))<|hy (fun _=>yV (cn ij rfl rfl (by kernel_rfl) (.cons (o:=0) (sz:=1) (by kernel_rfl) rfl rfl (Nat.le_of_ble_eq_true rfl) (.cons (o:=1) (sz:=1) (by kernel_rfl) rfl rfl (Nat.le_of_ble_eq_true rfl) .nil))) ((rfl:_=Value.agg [SV p,SV bb].toArray)))<| ?_
  refine hx (aq rfl Tryz.call220 (zn (by omega) (by omega) (f:=(p,bb))) [] rfl [0] rfl ?_)
  rintro _ _ _ ⟨v,k2,rfl,rfl,rfl,hp⟩
  refine aB (fun m=>(m.own 0 rfl).slice) ?_
  rintro⟨A_x,c_x,rfl,hc_x⟩
  refine aB (fun m=>(m.ord 0 rfl).2.1) fun hA_x=> ?_
  refine hy (fun _=>ab rfl)<|ai<|al (ρ' :=[(4,_),(8,_),(3,_),(0,_),(1,_)]) ⟨rfl,rfl,rfl,rfl,rfl,trivial⟩<|ak (X' :=[_,_]) (S' :=[_]) (fun _ m=>m)<|ag<|aV<|ax<| ?_
  rw[←hM]at hp
  refine ak (fun w m=>m.bU 0 rfl (show _=aG 156 2 (.slice A_x k2 c_x) k2 (fc (dw l k p t bb))from by rw[hM])) ?_
  refine ak (fun w m=>(m.perm (ar [0] _ [_] _ rfl)).freeze) ?_
  refine ak (fun w m=>m.kM 0 rfl .own) ?_
  refine uh (fun m=>ki (m.rd 0 rfl)) ?_
  rintro⟨hl_xr,hA_xr⟩
  exact bh trivial rfl rfl [] rfl [0] rfl ⟨_,_,_,rfl,rfl,rfl,hp⟩
 ·refine aD<|ag<|ah<|aj<|hy (fun _=>aa rfl)<|hy (fun _=>aL rfl ot (by decide))<|hy (fun m=>yV (aw rfl lH (aA (m.aX 0 rfl) (i:=1) rfl)) ((rfl:_=SV p)))<| ?_
  refine hx (aq rfl Tryz.call113 (ui (by omega) (by omega)) [] rfl [0] rfl ?_)
  rintro _ _ _ ⟨rfl,rfl,rfl⟩
  refine hy (fun _=>ab rfl)<|ai<|al (ρ' :=[(5,_),(8,_),(4,_),(3,_),(0,_),(1,_)]) ⟨rfl,rfl,rfl,rfl,rfl,rfl,trivial⟩<|ak (X' :=[_]) (S' :=[_]) (fun _ m=>m)<|ag<|ah<|ah<|aj<|hy (fun _=>aa rfl)<|hy (fun _=>bA rfl rfl)<|ai<|al (ρ' :=[(21,_),(5,_),(8,_),(4,_),(3,_),(0,_),(1,_)]) ⟨rfl,rfl,rfl,rfl,rfl,rfl,rfl,trivial⟩<|ag<| ?_
  refine cC rfl (fun h1=> ?_) (fun h1=> ?_)
  ·have hM:dw l k p t bb=l:=by rw[dw,if_neg h0,gO.1 h1]
   refine ah<|aj<|hy (fun _=>aa rfl)<|hy (fun _=>ab rfl)<|ai<|al (ρ' :=[(4,_),(21,_),(5,_),(8,_),(3,_),(0,_),(1,_)]) ⟨rfl,rfl,rfl,rfl,rfl,rfl,rfl,trivial⟩<|ag<|aV<|ax<| ?_
   rw[hM]
   exact bh trivial rfl rfl [] rfl [0] rfl ⟨_,_,_,rfl,rfl,rfl,⟨hl.symm,by omega⟩⟩
  ·obtain⟨x0,cH⟩:∃x0,l[cr l p]? =some x0:=by
    cases hq:l[cr l p]? with
    |none=>exact absurd (gO.2 hq) h1
    |some x0=>exact⟨x0,rfl⟩
   have hfl:cr l p<l.length:=(List.getElem?_eq_some_iff.1 cH).1
   obtain⟨f0,f1⟩:=jy l _ x0 cH
   have hfi:kb l p=(cr l p:Nat):=by rw[kb,if_pos hfl]
   have hwl:(cU l p).length≤l.length:=List.length_filter_le ..
   refine aD<|ag<|ah<|ah<|aj<|hy (fun _=>aL rfl vW (by decide))<|hy (fun m=>aw rfl fG (aA (m.aX 0 rfl) (i:=0) rfl))<|hy (fun _=>cx rfl rfl)<|ai<|al (ρ' :=[(25,_),(21,_),(5,_),(8,_),(4,_),(3,_),(0,_),(1,_)]) ⟨rfl,rfl,rfl,rfl,rfl,rfl,rfl,rfl,trivial⟩<|ag<| ?_
   refine cC rfl (fun h2=> ?_) (fun h2=> ?_)
   ·have hM:dw l k p t bb=cU l p:=by rw[dw,if_neg h0,cH];simp only[if_pos h2]
    refine ah<|aj<|hy (fun _=>aa rfl)<|hy (fun _=>aL rfl ot (by decide))<|hy (fun m=>yV (aw rfl lH (aA (m.aX 0 rfl) (i:=1) rfl)) ((rfl:_=SV p)))<| ?_
    refine hx (aq rfl Tryz.call221 (qk (by omega) (by omega)) [] rfl [0] rfl ?_)
    rintro _ _ _ ⟨v,k2,rfl,rfl,rfl,hp⟩
    refine aB (fun m=>(m.own 0 rfl).slice) ?_
    rintro⟨A_x,c_x,rfl,hc_x⟩
    refine aB (fun m=>(m.ord 0 rfl).2.1) fun hA_x=> ?_
    refine hy (fun _=>ab rfl)<|ai<|al (ρ' :=[(4,_),(25,_),(21,_),(5,_),(8,_),(3,_),(0,_),(1,_)]) ⟨rfl,rfl,rfl,rfl,rfl,rfl,rfl,rfl,trivial⟩<|ak (X' :=[_,_]) (S' :=[_]) (fun _ m=>m)<|ag<|aV<|ax<| ?_
    refine ak (fun w m=>m.bU 0 rfl (show _=aG 156 2 (.slice A_x k2 c_x) k2 (fc (dw l k p t bb))from by rw[hM];rfl)) ?_
    refine ak (fun w m=>(m.perm (ar [0] _ [_] _ rfl)).freeze) ?_
    refine ak (fun w m=>m.kM 0 rfl .own) ?_
    refine uh (fun m=>ki (m.rd 0 rfl)) ?_
    rintro⟨hl_xr,hA_xr⟩
    exact bh trivial rfl rfl [] rfl [0] rfl ⟨_,_,_,rfl,rfl,rfl,⟨hp.trans (congrArg List.length hM.symm),by rw[hp];show(cU l p).length≤_;omega⟩⟩
   ·have hM:dw l k p t bb=gn (cU l p) (t,x0.2):=by rw[dw,if_neg h0,cH];simp only[if_neg h2]
    refine aD<|ag<|ah<|cT [3,12] [(0,some 0),(1,some 0),(2,some 0),(4,some 1),(5,some 1),(6,some 2),(7,some 2),(8,some 1),(9,some 1),(10,some 1),(11,some 1),(3,none),(12,none),(13,some 2)] (by kernel_rfl) (by kernel_rfl) rfl 99<|an (aa rfl)<|an (aL rfl ot (by decide))<|cm (fun m=>yV (aw rfl lH (aA (m.aX 0 rfl) (i:=1) rfl)) ((rfl:_=SV p)))<|an (aL rfl AM (by decide))<|cm (fun m=>yV (aw rfl lH (aA (m.aX 0 rfl) (i:=2) rfl)) ((rfl:_=SV t)))<|an (aa rfl)<|an (aa rfl)<|an (cW rfl rfl Tryz.underlying36 eP hA_r hfi.symm (by omega))<|an (aL rfl n8 (by decide))<|cm (fun m=>yV (aw rfl lH (fy (m.rd 0 rfl) f1)) ((rfl:_=SV x0.2)))<|an (yV (cn ij rfl rfl (by kernel_rfl) (.cons (o:=0) (sz:=1) (by kernel_rfl) rfl rfl (Nat.le_of_ble_eq_true rfl) (.cons (o:=1) (sz:=1) (by kernel_rfl) rfl rfl (Nat.le_of_ble_eq_true rfl) .nil))) ((rfl:_=Value.agg [SV t,SV x0.2].toArray)))<| ?_
    refine eb (aq rfl Tryz.call221 (qk (by omega) (by omega)) [] rfl [0] rfl ?_)
    rintro _ _ _ ⟨v,k2,rfl,rfl,rfl,hp⟩
    refine⟨(fun _=>wk [1] [0] rfl rfl), ?_⟩
    refine cd (fun m=>(m.own 0 rfl).slice) ?_
    rintro⟨A_x,c_x,rfl,hc_x⟩
    refine cd (fun m=>(m.ord 0 rfl).2.1) fun hA_x=> ?_
    have hk2:k2=(cU l p).length:=hp
    clear hp
    refine eb (cI rfl Tryz.call220 (zn (by omega) (by omega) (l:=(cU l p)) (f:=(t,x0.2))) [] rfl (.x 0 rfl .own .nil) ?_)
    rintro _ _ _ ⟨v2,k3,rfl,rfl,rfl,hp2⟩
    refine⟨rfl, ?_⟩
    refine⟨(fun _=>wk [2] [0] rfl rfl), ?_⟩
    refine cd (fun m=>(m.own 0 rfl).slice) ?_
    rintro⟨A_x2,c_x2,rfl,hc_x2⟩
    refine cd (fun m=>(m.ord 0 rfl).2.1) fun hA_x2=> ?_
    refine an (ab rfl)<|bF<|al (ρ' :=[(4,_),(25,_),(21,_),(5,_),(8,_),(3,_),(0,_),(1,_)]) ⟨rfl,rfl,rfl,rfl,rfl,rfl,rfl,rfl,trivial⟩<|ak (X' :=[_,_,_]) (S' :=[_]) (fun _ m=>m)<|ag<|aV<| ?_
    rw[hM]
    refine ak (fun w m=>(m.perm (ar [0] _ [_] _ rfl)).freeze) ?_
    refine ak (fun w m=>m.kM 0 rfl .own) ?_
    refine uh (fun m=>ki (m.rd 0 rfl)) ?_
    rintro⟨hl_x2r,hA_x2r⟩
    exact bh trivial rfl rfl [] rfl [0] rfl ⟨_,_,_,rfl,rfl,rfl,⟨hp2.1,by omega⟩⟩
abbrev RC:=Int×List UInt8×List UInt8×List UInt8
def tF(l:List RC):List Value:=l.flatMap fun x=>cv x.1 x.2.1 x.2.2.1 x.2.2.2
theorem uD(a b:List RC):tF (a++b)=tF a++tF b:=by simp[tF]
theorem vQ{l:List RC}:∀u∈tF l,u.oneCell' =true:=by
 intro u hu
 obtain⟨x,_,h⟩:=List.mem_flatMap.1 hu
 simp only[cv,List.mem_cons,List.not_mem_nil,or_false]at h
 rcases h with rfl|rfl|rfl|rfl <;> rfl
theorem iO{room pw:Int}{A A2 A3:Option Addr}{n c n2 c2 n3 c3:Nat}:∀u∈dv room (.slice A n c) (.slice A2 n2 c2) (.slice A3 n3 c3) pw,u.oneCell' =true:=by
 intro u hu
 simp only[dv,List.mem_cons,List.not_mem_nil,or_false]at hu
 rcases hu with rfl|rfl|rfl|rfl|rfl <;> rfl
def dG(pw:Int):Int:=if 0<pw then pw-1 else pw
theorem DQ{room pw:Int}{A Al A3:Option Addr}{n c nl cl n3 c3:Nat}{l:List FP}{wl:List RC}{k:Int}{p t bb:List UInt8}(hl:l.length=n)(hn:n≤900000)(hw:wl.length=n3)(hn3:n3≤900000)(hp1:-10≤pw)(hp2:pw≤1000000000000):cf Tryz.prog 114 [.agg (dv room (.slice A n c) (.slice Al nl cl) (.slice A3 n3 c3) pw).toArray,.agg (cv k p t bb).toArray] [] [c6 2 A n (fc l),c6 4 A3 n3 (tF wl)] (fun v_ X_ S_=>∃A1 n1 c1 A2 n2 c2,v_=(.agg (dv room (.slice A1 n1 c1) (.slice Al nl cl) (.slice A2 n2 c2) (dG pw)).toArray)∧X_=[]∧S_=[c6 2 A1 n1 (fc (dw l k p t bb)),c6 4 A2 n2 (tF (wl++[(k,p,t,bb)]))]∧(n1=(dw l k p t bb).length∧n1≤n+1∧n2=n3+1)):=by
 refine aO (N:=28) Tryz.func114 rfl rfl (by simp) fun b=> ?_
 refine a6 (fun m=>ki (m.rd 0 rfl)) ?_
 rintro⟨hl_r,hA_r⟩
 refine a6 (fun m=>ki (m.rd 1 rfl)) ?_
 rintro⟨hl_w,hA_w⟩
 refine ah<|aj<| ?_
 refine hx (cE rfl (fun g2=> ?_))
 refine aU (fun w m=>m.bU 0 rfl (show _=aJ g2 39 (dv room (.slice A n c) (.slice Al nl cl) (.slice A3 n3 c3) pw)from congrArg (aJ _ _) (bB _))) ?_
 refine hx (cE rfl (fun g3=> ?_))
 refine aU (fun w m=>m.bU 0 rfl (show _=aJ g3 186 (cv k p t bb)from congrArg (aJ _ _) (bB _))) ?_
 refine hx (aP iJ (fun g4=> ?_))
 refine ai<|ak (X' :=[_,_,_]) (S' :=[_,_]) (fun _ m=>m)<|ag<|ah<|aj<|hy (fun _=>aL rfl jA (by decide))<|hy (fun m=>aw rfl s5 (aA (m.aX 2 rfl) (i:=1) rfl))<|hy (fun m=>yV (a7 rfl Cf Cs rfl ((m.aX 1 rfl).az)) ((rfl:_=Value.agg (cv k p t bb).toArray)))<| ?_
 refine hx (aq rfl Tryz.call162 (Ei (by omega) (by omega)) [] rfl [0] rfl ?_)
 rintro _ _ _ ⟨A1,n1,c1,rfl,rfl,rfl,hp⟩
 refine aB (fun m=>ki (m.rd 0 rfl)) ?_
 rintro⟨hl_q,hA_q⟩
 refine hy (fun _=>aL rfl jA (by decide))<| ?_
 refine cH (cA 2 rfl rfl rfl ED rfl (by first|exact Nat.le_of_ble_eq_true rfl|simp) ?_)
 refine ai<|al (ρ' :=[(4,_),(3,_),(2,_),(0,_),(1,_)]) ⟨rfl,rfl,rfl,rfl,rfl,trivial⟩<|ak (X' :=[_,_,_]) (S' :=[_,_,_]) (fun _ m=>m)<|ag<|ah<|aj<|hy (fun _=>ab rfl)<|ai<|ag<|ah<|aj<|hy (fun _=>aa rfl)<|hy (fun _=>aL rfl tT (by decide))<|hy (fun m=>aw rfl Gb (aA (m.aX 0 rfl) rfl))<| ?_
 refine aU (fun w m=>m.dy (r' :=aG 186 4 (.slice none 0 0) 0 []) (.refl _ _) (Own.nil _ _ _ _) (fun k hk=>hk.elim)) ?_
 refine hx (bI 0 rfl rfl rfl Tryz.underlying37 Tryz.underlying37 (by exact .inl rfl) qu rfl (fun m=>Src.bZ (m.rd 2 rfl)) vQ (by unfold maxLen;omega) (by omega) (fun u=> ?_))
 refine aB (fun m=>(m.own 0 rfl).slice) ?_
 rintro⟨A_o,c_o,rfl,hc_o⟩
 refine aB (fun m=>(m.ord 0 rfl).2.1) fun hA_o=> ?_
 rw[Nat.zero_add]
 refine aU (fun w m=>m.bU 0 rfl (show _=aG 186 4 (.slice A_o n3 c_o) n3 (tF wl)from rfl)) ?_
 refine hy (fun _=>ab rfl)<|ai<|al (ρ' :=[(5,_),(4,_),(3,_),(2,_),(0,_),(1,_)]) ⟨rfl,rfl,rfl,rfl,rfl,rfl,trivial⟩<|ak (X' :=[_,_,_,_]) (S' :=[_,_,_]) (fun _ m=>m)<|ag<|ah<|aj<|hy (fun _=>aa rfl)<|hy (fun m=>yV (a7 rfl Cf Cs rfl ((m.aX 3 rfl).az)) ((rfl:_=Value.agg (cv k p t bb).toArray)))<| ?_
 refine hx (b4 Tryz.underlying37 qu rfl rfl rfl (by simp[Value.cells,cv]) (by decide) (by decide) (fun g17=> ?_))
 have hA_b17:0<1→(some (⟨g17,0,none⟩:Addr))≠none:=fun _ h=>by cases h
 refine aU (fun w m=>m.bU 0 rfl (show _=aG 186 4 (.slice (some ⟨g17,0,none⟩) 1 1) 1 (tF [(k,p,t,bb)])from rfl)) ?_
 refine hx (bI 1 rfl rfl rfl Tryz.underlying37 Tryz.underlying37 (by exact .inl rfl) qu rfl (fun m=>Src.bZ (m.ord 0 rfl)) vQ (by unfold maxLen;omega) (by omega) (fun u2=> ?_))
 refine aB (fun m=>(m.own 0 rfl).slice) ?_
 rintro⟨A_o2,c_o2,rfl,hc_o⟩
 refine aB (fun m=>(m.ord 0 rfl).2.1) fun hA_o=> ?_
 refine aU (fun w m=>m.bU 0 rfl (show _=aG 186 4 (.slice A_o2 (n3+1) c_o2) (n3+1) (tF (wl++[(k,p,t,bb)]))from congrArg (aG _ _ _ _) (uD ..).symm)) ?_
 refine hy (fun _=>aL rfl tT (by decide))<| ?_
 refine cH (cA 2 rfl rfl rfl Fu rfl (by first|exact Nat.le_of_ble_eq_true rfl|simp) ?_)
 refine aU (fun w m=>m.bU 0 rfl (show _=aJ g2 39 (dv room (.slice A1 n1 c1) (.slice Al nl cl) (.slice A_o2 (n3+1) c_o2) pw)from rfl)) ?_
 refine ai<|al (ρ' :=[(5,_),(4,_),(3,_),(2,_),(0,_),(1,_)]) ⟨rfl,rfl,rfl,rfl,rfl,rfl,trivial⟩<|ak (X' :=[_,_,_,_,_]) (S' :=[_,_,_]) (fun _ m=>m)<|ag<|ah<|ah<|aj<|hy (fun _=>aL rfl jE (by decide))<|hy (fun m=>aw rfl fG (aA (m.aX 0 rfl) (i:=4) rfl))<|hy (fun _=>cQ rfl rfl)<|ai<|al (ρ' :=[(22,_),(5,_),(4,_),(3,_),(2,_),(0,_),(1,_)]) ⟨rfl,rfl,rfl,rfl,rfl,rfl,rfl,trivial⟩<|ag<| ?_
 refine bw (fun w m=>(m.perm (ar [1] _ [_] _ rfl)).freeze) ?_
 refine bw (fun w m=>m.kM 0 rfl .own) ?_
 refine cC rfl (fun h=> ?_) (fun h=> ?_)
 ·refine aj<|hy (fun _=>aL rfl jE (by decide))<|hy (fun m=>aw rfl fG (aA (m.aX 0 rfl) (i:=4) rfl))<|hy (fun _=>cg rfl rfl (bE (by omega) (by omega)))<|hy (fun _=>aL rfl jE (by decide))<| ?_
  refine cH (cA 0 rfl rfl rfl tG rfl (by first|exact Nat.le_of_ble_eq_true rfl|simp) ?_)
  refine aU (fun w m=>m.bU 0 rfl (show _=aJ g2 39 (dv room (.slice A1 n1 c1) (.slice Al nl cl) (.slice A_o2 (n3+1) c_o2) (dG pw))from by rw[dG,if_pos h];rfl)) ?_
  refine ai<|al (ρ' :=[(22,_),(5,_),(4,_),(3,_),(2,_),(0,_),(1,_)]) ⟨rfl,rfl,rfl,rfl,rfl,rfl,rfl,trivial⟩<|ak (X' :=[_,_,_,_]) (S' :=[_,_,_,_,_]) (fun _ m=>m)<|ag<|ah<|aj<|hy (fun m=>a7 rfl cD bz rfl ((m.aX 0 rfl).az))<| ?_
  refine cH (aI 2 rfl rfl rfl bz rfl iO rfl ?_)
  refine ai<|al (ρ' :=[(22,_),(5,_),(4,_),(3,_),(2,_),(0,_),(1,_)]) ⟨rfl,rfl,rfl,rfl,rfl,rfl,rfl,trivial⟩<|ak (X' :=[_,_,_,_]) (S' :=[_,_,_,_,_]) (fun _ m=>m)<|ag<|aV<| ?_
  exact fg trivial rfl rfl cD bz rfl (fun m=>(m.aX 0 rfl).az) [] rfl [2,0] rfl ⟨_,_,_,_,_,_,rfl,rfl,rfl,⟨hp.1,hp.2,rfl⟩⟩
 ·refine bw (fun w m=>m.bU 0 rfl (show _=aJ g2 39 (dv room (.slice A1 n1 c1) (.slice Al nl cl) (.slice A_o2 (n3+1) c_o2) (dG pw))from by rw[dG,if_neg h])) ?_
  refine aD<|ag<|ah<|aj<|hy (fun m=>a7 rfl cD bz rfl ((m.aX 0 rfl).az))<| ?_
  refine cH (aI 2 rfl rfl rfl bz rfl iO rfl ?_)
  refine ai<|al (ρ' :=[(22,_),(5,_),(4,_),(3,_),(2,_),(0,_),(1,_)]) ⟨rfl,rfl,rfl,rfl,rfl,rfl,rfl,trivial⟩<|ak (X' :=[_,_,_,_]) (S' :=[_,_,_,_,_]) (fun _ m=>m)<|ag<|aV<| ?_
  exact fg trivial rfl rfl cD bz rfl (fun m=>(m.aX 0 rfl).az) [] rfl [2,0] rfl ⟨_,_,_,_,_,_,rfl,rfl,rfl,⟨hp.1,hp.2,rfl⟩⟩
end Go.Proofs.YtmibdabdlgmafaaGreatDoor
end
section
set_option maxRecDepth 20000
namespace Go.Proofs.YtmibdabdlgmafaaGreatDoor
open Go.Eng Go.Hx
structure RD where
 room:Int
 seen:List FP
 cp:List FP
 waits:List RC
 pw:Int
def RD.sz(d:RD)(p:List UInt8):Nat:=((d.seen[cr d.seen p]?).map (·.2.length)).getD 0
def RD.bD(d:RD)(p bb:List UInt8):Int:=if¬fF p then 1 else if d.pw=0 then 6 else if d.room<(dm d.seen:Int)+(bb.length:Nat)-(d.sz p:Nat)then 5 else 0
def RD.gj(d:RD)(k:Int)(p t bb:List UInt8):RD:={d with seen:=dw d.seen k p t bb,waits:=d.waits++[(k,p,t,bb)],pw:=dG d.pw}
def RD.write(d:RD)(p bb:List UInt8):RD:=if d.bD p bb=0 then d.gj 0 p [] bb else d
structure z8(d:RD)(k:Nat):Prop where
 seen:d.seen.length≤k
 waits:d.waits.length≤k
 lp:dm d.seen≤k*1048576
 p1:-10≤d.pw
 p2:d.pw≤1000000000000
theorem E1(d:RD)(p:List UInt8):d.sz p≤dm d.seen:=by
 unfold RD.sz
 cases h:d.seen[cr d.seen p]? with
 |none=>simp
 |some x=>
  have h1:=qz h
  have h2:=u4 d.seen (cr d.seen p+1)
  simp only[Option.map_some,Option.getD_some]
  omega
def rv(d:RD)(A:Option Addr)(n c:Nat)(Al:Option Addr)(nl cl:Nat)(A3:Option Addr)(n3 c3:Nat):List Value:=dv d.room (.slice A n c) (.slice Al nl cl) (.slice A3 n3 c3) d.pw
theorem Ev{room:Int}:cf Tryz.prog 25 [.int .i64 room] [] [] (fun v_ X_ S_=>v_=(.agg (dv room (.slice none 0 0) (.slice none 0 0) (.slice none 0 0) (-1)).toArray)∧X_=[]∧S_=[]):=by
 refine aO (N:=5) Tryz.func25 rfl rfl (by simp) fun b=> ?_
 refine ah<|aj<| ?_
 refine hx (aP iJ (fun g2=> ?_))
 refine ai<|ak (X' :=[_]) (S' :=[]) (fun _ m=>m)<|ag<|ah<|aj<|hy (fun _=>aa rfl)<|hy (fun _=>yV (cn iJ rfl rfl (by kernel_rfl) (.cons (o:=0) (sz:=1) (by kernel_rfl) rfl rfl (Nat.le_of_ble_eq_true rfl) (.cons (o:=4) (sz:=1) (by kernel_rfl) rfl rfl (Nat.le_of_ble_eq_true rfl) .nil))) ((rfl:_=Value.agg (dv room (.slice none 0 0) (.slice none 0 0) (.slice none 0 0) (-1)).toArray)))<| ?_
 refine cH (aI 0 rfl rfl rfl bz rfl iO rfl ?_)
 refine ai<|al (ρ' :=[(2,_),(0,_)]) ⟨rfl,rfl,trivial⟩<|ak (X' :=[_]) (S' :=[]) (fun _ m=>m)<|ag<|aV<| ?_
 exact fg trivial rfl rfl cD bz rfl (fun m=>(m.aX 0 rfl).az) [] rfl [] rfl ⟨rfl,rfl,rfl⟩
theorem Am{d:RD}{kk:Nat}{A Al A3:Option Addr}{n c nl cl n3 c3:Nat}{p bb:List UInt8}(hl:d.seen.length=n)(hw:d.waits.length=n3)(ok:z8 d kk)(hkk:kk≤100000)(hpl:p.length≤1000000)(hbb:bb.length≤1000000):cf Tryz.prog 31 [.agg (rv d A n c Al nl cl A3 n3 c3).toArray,.string (strOf p),.string (strOf bb)] [] [c6 2 A n (fc d.seen),c6 4 A3 n3 (tF d.waits)] (fun v_ X_ S_=>∃A1 n1 c1 A2 n2 c2,v_=(.tuple #[.agg (rv (d.write p bb) A1 n1 c1 Al nl cl A2 n2 c2).toArray,.int .i64 (d.bD p bb)])∧X_=[]∧S_=[c6 2 A1 n1 (fc (d.write p bb).seen),c6 4 A2 n2 (tF (d.write p bb).waits)]∧((d.write p bb).seen.length=n1∧(d.write p bb).waits.length=n2)):=by
 have hk1:=ok.seen
 have hk2:=ok.waits
 have hk3:=ok.lp
 have hk4:=ok.p1
 have hk5:=ok.p2
 have hsz:=E1 d p
 refine aO (N:=50) Tryz.func31 rfl rfl (by simp) fun b=> ?_
 refine a6 (fun m=>ki (m.rd 0 rfl)) ?_
 rintro⟨hl_r,hA_r⟩
 refine a6 (fun m=>ki (m.rd 1 rfl)) ?_
 rintro⟨hl_w,hA_w⟩
 refine ah<|aj<| ?_
 refine hx (cE rfl (fun g3=> ?_))
 refine aU (fun w m=>m.bU 0 rfl (show _=aJ g3 39 (rv d A n c Al nl cl A3 n3 c3)from congrArg (aJ _ _) (bB _))) ?_
 refine hx (aP iJ (fun g6=> ?_))
 refine hy (fun _=>ab rfl)<|ai<|ak (X' :=[_,_]) (S' :=[_,_]) (fun _ m=>m)<|ag<|ah<|aj<|hy (fun _=>aa rfl)<| ?_
 refine hx (aq rfl Tryz.call112 (u0 (by omega)) [] rfl [] rfl ?_)
 rintro _ _ _ ⟨rfl,rfl,rfl⟩
 refine hy (fun _=>ab rfl)<|ai<|al (ρ' :=[(8,_),(7,_),(6,_),(3,_),(0,_),(1,_),(2,_)]) ⟨rfl,rfl,rfl,rfl,rfl,rfl,rfl,trivial⟩<|ak (X' :=[_,_]) (S' :=[_,_]) (fun _ m=>m)<|ag<|ah<|ah<|aj<|hy (fun _=>aa rfl)<|hy (fun _=>jH rfl)<|ai<|al (ρ' :=[(14,_),(8,_),(7,_),(6,_),(3,_),(0,_),(1,_),(2,_)]) ⟨rfl,rfl,rfl,rfl,rfl,rfl,rfl,rfl,trivial⟩<|ag<| ?_
 refine cC rfl (fun hN=> ?_) (fun hN=> ?_)
 ·have hE:d.bD p bb=1:=by rw[RD.bD,if_pos hN]
  have hW:d.write p bb=d:=by rw[RD.write,if_neg (by rw[hE];decide)]
  rw[hE,hW]
  refine ah<|aj<|hy (fun m=>yV (a7 rfl cD bz rfl ((m.aX 1 rfl).az)) ((rfl:_=Value.agg (rv d A n c Al nl cl A3 n3 c3).toArray)))<| ?_
  refine cH (aI 0 rfl rfl rfl bz rfl iO rfl ?_)
  refine hy (fun _=>ab rfl)<|ai<|al (ρ' :=[(7,_),(14,_),(8,_),(6,_),(3,_),(0,_),(1,_),(2,_)]) ⟨rfl,rfl,rfl,rfl,rfl,rfl,rfl,rfl,trivial⟩<|ak (X' :=[_,_]) (S' :=[_,_]) (fun _ m=>m)<|ag<|aV<|ax<| ?_
  exact ez trivial rfl rfl rfl cD bz rfl (fun m=>(m.aX 0 rfl).az) [] rfl [0,1] rfl ⟨_,_,_,_,_,_,rfl,rfl,rfl,⟨hl,hw⟩⟩
 ·refine aD<|ag<|ah<|ah<|aj<|hy (fun _=>aL rfl jE (by decide))<|hy (fun m=>aw rfl fG (aA (m.aX 1 rfl) (i:=4) rfl))<|hy (fun _=>cx rfl rfl)<|ai<|al (ρ' :=[(18,_),(14,_),(8,_),(7,_),(6,_),(3,_),(0,_),(1,_),(2,_)]) ⟨rfl,rfl,rfl,rfl,rfl,rfl,rfl,rfl,rfl,trivial⟩<|ag<| ?_
  refine cC rfl (fun h0=> ?_) (fun h0=> ?_)
  ·have hE:d.bD p bb=6:=by rw[RD.bD,if_neg hN,if_pos h0]
   have hW:d.write p bb=d:=by rw[RD.write,if_neg (by rw[hE];decide)]
   rw[hE,hW]
   refine ah<|aj<|hy (fun m=>yV (a7 rfl cD bz rfl ((m.aX 1 rfl).az)) ((rfl:_=Value.agg (rv d A n c Al nl cl A3 n3 c3).toArray)))<| ?_
   refine cH (aI 0 rfl rfl rfl bz rfl iO rfl ?_)
   refine hy (fun _=>ab rfl)<|ai<|al (ρ' :=[(7,_),(18,_),(14,_),(8,_),(6,_),(3,_),(0,_),(1,_),(2,_)]) ⟨rfl,rfl,rfl,rfl,rfl,rfl,rfl,rfl,rfl,trivial⟩<|ak (X' :=[_,_]) (S' :=[_,_]) (fun _ m=>m)<|ag<|aV<|ax<| ?_
   exact ez trivial rfl rfl rfl cD bz rfl (fun m=>(m.aX 0 rfl).az) [] rfl [0,1] rfl ⟨_,_,_,_,_,_,rfl,rfl,rfl,⟨hl,hw⟩⟩
  ·have hsb:=cV bb
   refine aD<|ag<|ah<|aj<|hy (fun m=>yV (a7 rfl cD bz rfl ((m.aX 1 rfl).az)) ((rfl:_=Value.agg (rv d A n c Al nl cl A3 n3 c3).toArray)))<| ?_
   refine hx (aq rfl Tryz.call89 (Dm (by omega) (by omega) (by omega)) [] rfl [0] rfl ?_)
   rintro _ _ _ ⟨rfl,rfl,rfl⟩
   refine hy (fun _=>aa rfl)<|hy (fun _=>cS rfl Tryz.underlying9)<|hy (fun _=>aN rfl rfl (bE (by omega) (by omega)))<|hy (fun _=>ab rfl)<|ai<|al (ρ' :=[(9,_),(18,_),(14,_),(8,_),(7,_),(6,_),(3,_),(0,_),(1,_),(2,_)]) ⟨rfl,rfl,rfl,rfl,rfl,rfl,rfl,rfl,rfl,rfl,trivial⟩<|ak (X' :=[_,_]) (S' :=[_,_]) (fun _ m=>m)<|ag<|ah<|aj<|hy (fun _=>aL rfl jA (by decide))<|hy (fun m=>aw rfl s5 (aA (m.aX 1 rfl) (i:=1) rfl))<|hy (fun _=>aa rfl)<| ?_
   refine hx (aq rfl Tryz.call113 (ui (by omega) (by omega)) [] rfl [0] rfl ?_)
   rintro _ _ _ ⟨rfl,rfl,rfl⟩
   refine hy (fun _=>ab rfl)<|ai<|al (ρ' :=[(10,_),(9,_),(18,_),(14,_),(8,_),(7,_),(6,_),(3,_),(0,_),(1,_),(2,_)]) ⟨rfl,rfl,rfl,rfl,rfl,rfl,rfl,rfl,rfl,rfl,rfl,trivial⟩<|ak (X' :=[_,_]) (S' :=[_,_]) (fun _ m=>m)<|ag<|ah<|ah<|aj<|hy (fun _=>aa rfl)<|hy (fun _=>jS rfl rfl)<|ai<|al (ρ' :=[(30,_),(10,_),(9,_),(18,_),(14,_),(8,_),(7,_),(6,_),(3,_),(0,_),(1,_),(2,_)]) ⟨rfl,rfl,rfl,rfl,rfl,rfl,rfl,rfl,rfl,rfl,rfl,rfl,trivial⟩<|ag<| ?_
   refine cC rfl (fun hf=> ?_) (fun hf=> ?_)
   ·obtain⟨x0,hfx⟩:∃x0,d.seen[cr d.seen p]? =some x0:=by
     cases hq:d.seen[cr d.seen p]? with
     |none=>exact absurd (gO.2 hq) (by omega)
     |some x0=>exact⟨x0,rfl⟩
    have hfl:cr d.seen p<d.seen.length:=(List.getElem?_eq_some_iff.1 hfx).1
    obtain⟨f0,f1⟩:=jy d.seen _ x0 hfx
    have hfi:kb d.seen p=(cr d.seen p:Nat):=by rw[kb,if_pos hfl]
    have hsx:=cV x0.2
    have hs0:d.sz p=x0.2.length:=by unfold RD.sz;rw[hfx];rfl
    refine aj<|hy (fun _=>aa rfl)<|hy (fun _=>aL rfl jA (by decide))<|hy (fun m=>aw rfl s5 (aA (m.aX 1 rfl) (i:=1) rfl))<|hy (fun _=>aa rfl)<|hy (fun _=>cW rfl rfl Tryz.underlying36 eP hA_r hfi.symm (by omega))<|hy (fun _=>aL rfl n8 (by decide))<|hy (fun m=>yV (aw rfl lH (fy (m.rd 0 rfl) f1)) ((rfl:_=Value.string (strOf x0.2))))<|hy (fun _=>cS rfl Tryz.underlying9)<|hy (fun _=>cg rfl rfl (bE (by omega) (by omega)))<|hy (fun _=>ab rfl)<|ai<|al (ρ' :=[(9,_),(30,_),(10,_),(18,_),(14,_),(8,_),(7,_),(6,_),(3,_),(0,_),(1,_),(2,_)]) ⟨rfl,rfl,rfl,rfl,rfl,rfl,rfl,rfl,rfl,rfl,rfl,rfl,trivial⟩<|ag<|ah<|ah<|aj<|hy (fun _=>aa rfl)<|hy (fun _=>aL rfl yd (by decide))<|hy (fun m=>aw rfl fG (aA (m.aX 1 rfl) (i:=0) rfl))<|hy (fun _=>cQ rfl rfl)<|ai<|al (ρ' :=[(43,_),(9,_),(30,_),(10,_),(18,_),(14,_),(8,_),(7,_),(6,_),(3,_),(0,_),(1,_),(2,_)]) ⟨rfl,rfl,rfl,rfl,rfl,rfl,rfl,rfl,rfl,rfl,rfl,rfl,rfl,trivial⟩<|ag<| ?_
    refine cC rfl (fun hR=> ?_) (fun hR=> ?_)
    ·have hE:d.bD p bb=5:=by rw[RD.bD,if_neg hN,if_neg h0,if_pos (by omega)]
     have hW:d.write p bb=d:=by rw[RD.write,if_neg (by rw[hE];decide)]
     rw[hE,hW]
     refine ah<|aj<|hy (fun m=>yV (a7 rfl cD bz rfl ((m.aX 1 rfl).az)) ((rfl:_=Value.agg (rv d A n c Al nl cl A3 n3 c3).toArray)))<| ?_
     refine cH (aI 0 rfl rfl rfl bz rfl iO rfl ?_)
     refine hy (fun _=>ab rfl)<|ai<|al (ρ' :=[(7,_),(43,_),(9,_),(30,_),(10,_),(18,_),(14,_),(8,_),(6,_),(3,_),(0,_),(1,_),(2,_)]) ⟨rfl,rfl,rfl,rfl,rfl,rfl,rfl,rfl,rfl,rfl,rfl,rfl,rfl,trivial⟩<|ak (X' :=[_,_]) (S' :=[_,_]) (fun _ m=>m)<|ag<|aV<|ax<| ?_
     exact ez trivial rfl rfl rfl cD bz rfl (fun m=>(m.aX 0 rfl).az) [] rfl [0,1] rfl ⟨_,_,_,_,_,_,rfl,rfl,rfl,⟨hl,hw⟩⟩
    ·have hE:d.bD p bb=0:=by rw[RD.bD,if_neg hN,if_neg h0,if_neg (by omega)]
     have hW:d.write p bb=d.gj 0 p [] bb:=by rw[RD.write,if_pos hE]
     rw[hE,hW]
     refine aD<|ag<|ah<|aj<|hy (fun m=>yV (a7 rfl cD bz rfl ((m.aX 1 rfl).az)) ((rfl:_=Value.agg (dv d.room (.slice A n c) (.slice Al nl cl) (.slice A3 n3 c3) d.pw).toArray)))<|hy (fun _=>aa rfl)<|hy (fun _=>aa rfl)<|hy (fun _=>yV (cn qu rfl rfl (by kernel_rfl) (.cons (o:=1) (sz:=1) (by kernel_rfl) rfl rfl (Nat.le_of_ble_eq_true rfl) (.cons (o:=3) (sz:=1) (by kernel_rfl) rfl rfl (Nat.le_of_ble_eq_true rfl) .nil))) ((rfl:_=Value.agg (cv 0 p [] bb).toArray)))<| ?_
     refine hx (aq rfl Tryz.call114 (DQ (by omega) (by omega) (by omega) (by omega) (by omega) (by omega)) [] rfl [0,1] rfl ?_)
     rintro _ _ _ ⟨A1,n1,c1,A2,n2,c2,rfl,rfl,rfl,hp⟩
     refine aB (fun m=>ki (m.rd 0 rfl)) ?_
     rintro⟨hl_q,hA_q⟩
     refine aB (fun m=>ki (m.rd 1 rfl)) ?_
     rintro⟨hl_u,hA_u⟩
     refine cH (aI 0 rfl rfl rfl bz rfl iO rfl ?_)
     refine hy (fun _=>ab rfl)<|ai<|al (ρ' :=[(7,_),(43,_),(9,_),(30,_),(10,_),(18,_),(14,_),(8,_),(6,_),(3,_),(0,_),(1,_),(2,_)]) ⟨rfl,rfl,rfl,rfl,rfl,rfl,rfl,rfl,rfl,rfl,rfl,rfl,rfl,trivial⟩<|ak (X' :=[_,_]) (S' :=[_,_,_,_]) (fun _ m=>m)<|ag<|aV<| ?_
     exact ez trivial rfl rfl rfl cD bz rfl (fun m=>(m.aX 0 rfl).az) [] rfl [0,1] rfl ⟨_,_,_,_,_,_,rfl,rfl,rfl,⟨hp.1.symm,by rw[hp.2.2,←hw];exact List.length_append⟩⟩
   ·have hs0:d.sz p=0:=by
     unfold RD.sz
     rw[gO.1 (by omega)];rfl
    refine aD<|ag<|ah<|ah<|aj<|hy (fun _=>aa rfl)<|hy (fun _=>aL rfl yd (by decide))<|hy (fun m=>aw rfl fG (aA (m.aX 1 rfl) (i:=0) rfl))<|hy (fun _=>cQ rfl rfl)<|ai<|al (ρ' :=[(43,_),(30,_),(10,_),(9,_),(18,_),(14,_),(8,_),(7,_),(6,_),(3,_),(0,_),(1,_),(2,_)]) ⟨rfl,rfl,rfl,rfl,rfl,rfl,rfl,rfl,rfl,rfl,rfl,rfl,rfl,trivial⟩<|ag<| ?_
    refine cC rfl (fun hR=> ?_) (fun hR=> ?_)
    ·have hE:d.bD p bb=5:=by rw[RD.bD,if_neg hN,if_neg h0,if_pos (by omega)]
     have hW:d.write p bb=d:=by rw[RD.write,if_neg (by rw[hE];decide)]
     rw[hE,hW]
     refine ah<|aj<|hy (fun m=>yV (a7 rfl cD bz rfl ((m.aX 1 rfl).az)) ((rfl:_=Value.agg (rv d A n c Al nl cl A3 n3 c3).toArray)))<| ?_
     refine cH (aI 0 rfl rfl rfl bz rfl iO rfl ?_)
     refine hy (fun _=>ab rfl)<|ai<|al (ρ' :=[(7,_),(43,_),(30,_),(10,_),(9,_),(18,_),(14,_),(8,_),(6,_),(3,_),(0,_),(1,_),(2,_)]) ⟨rfl,rfl,rfl,rfl,rfl,rfl,rfl,rfl,rfl,rfl,rfl,rfl,rfl,trivial⟩<|ak (X' :=[_,_]) (S' :=[_,_]) (fun _ m=>m)<|ag<|aV<|ax<| ?_
     exact ez trivial rfl rfl rfl cD bz rfl (fun m=>(m.aX 0 rfl).az) [] rfl [0,1] rfl ⟨_,_,_,_,_,_,rfl,rfl,rfl,⟨hl,hw⟩⟩
    ·have hE:d.bD p bb=0:=by rw[RD.bD,if_neg hN,if_neg h0,if_neg (by omega)]
     have hW:d.write p bb=d.gj 0 p [] bb:=by rw[RD.write,if_pos hE]
     rw[hE,hW]
     refine aD<|ag<|ah<|aj<|hy (fun m=>yV (a7 rfl cD bz rfl ((m.aX 1 rfl).az)) ((rfl:_=Value.agg (dv d.room (.slice A n c) (.slice Al nl cl) (.slice A3 n3 c3) d.pw).toArray)))<|hy (fun _=>aa rfl)<|hy (fun _=>aa rfl)<|hy (fun _=>yV (cn qu rfl rfl (by kernel_rfl) (.cons (o:=1) (sz:=1) (by kernel_rfl) rfl rfl (Nat.le_of_ble_eq_true rfl) (.cons (o:=3) (sz:=1) (by kernel_rfl) rfl rfl (Nat.le_of_ble_eq_true rfl) .nil))) ((rfl:_=Value.agg (cv 0 p [] bb).toArray)))<| ?_
     refine hx (aq rfl Tryz.call114 (DQ (by omega) (by omega) (by omega) (by omega) (by omega) (by omega)) [] rfl [0,1] rfl ?_)
     rintro _ _ _ ⟨A1,n1,c1,A2,n2,c2,rfl,rfl,rfl,hp⟩
     refine aB (fun m=>ki (m.rd 0 rfl)) ?_
     rintro⟨hl_q,hA_q⟩
     refine aB (fun m=>ki (m.rd 1 rfl)) ?_
     rintro⟨hl_u,hA_u⟩
     refine cH (aI 0 rfl rfl rfl bz rfl iO rfl ?_)
     refine hy (fun _=>ab rfl)<|ai<|al (ρ' :=[(7,_),(43,_),(30,_),(10,_),(9,_),(18,_),(14,_),(8,_),(6,_),(3,_),(0,_),(1,_),(2,_)]) ⟨rfl,rfl,rfl,rfl,rfl,rfl,rfl,rfl,rfl,rfl,rfl,rfl,rfl,trivial⟩<|ak (X' :=[_,_]) (S' :=[_,_,_,_]) (fun _ m=>m)<|ag<|aV<| ?_
     exact ez trivial rfl rfl rfl cD bz rfl (fun m=>(m.aX 0 rfl).az) [] rfl [0,1] rfl ⟨_,_,_,_,_,_,rfl,rfl,rfl,⟨hp.1.symm,by rw[hp.2.2,←hw];exact List.length_append⟩⟩
def RD.ca(d:RD)(p:List UInt8):Int:=if d.pw=0 then 6 else if d.seen[cr d.seen p]? =none then 4 else 0
def RD.ct(d:RD)(p:List UInt8):List UInt8:=if d.pw=0 then []else((d.seen[cr d.seen p]?).map (·.2)).getD []
theorem Dl{d:RD}{kk:Nat}{A Al A3:Option Addr}{n c nl cl n3 c3:Nat}{p:List UInt8}(hl:d.seen.length=n)(ok:z8 d kk)(hkk:kk≤100000):cf Tryz.prog 91 [.agg (rv d A n c Al nl cl A3 n3 c3).toArray,.string (strOf p)] [] [c6 2 A n (fc d.seen)] (fun v_ X_ S_=>v_=(.tuple #[.string (strOf (d.ct p)),.int .i64 (d.ca p)])∧X_=[]∧S_=[]):=by
 have hk1:=ok.seen
 refine aO (N:=22) Tryz.func91 rfl rfl (by simp) fun b=> ?_
 refine a6 (fun m=>ki (m.rd 0 rfl)) ?_
 rintro⟨hl_r,hA_r⟩
 refine ah<|aj<| ?_
 refine hx (cE rfl (fun g2=> ?_))
 refine aU (fun w m=>m.bU 0 rfl (show _=aJ g2 39 (rv d A n c Al nl cl A3 n3 c3)from congrArg (aJ _ _) (bB _))) ?_
 refine hy (fun _=>ab rfl)<|hy (fun _=>ab rfl)<|ai<|ak (X' :=[_]) (S' :=[_]) (fun _ m=>m)<|ag<|ah<|aj<|hy (fun _=>aL rfl jA (by decide))<|hy (fun m=>aw rfl s5 (aA (m.aX 0 rfl) (i:=1) rfl))<|hy (fun _=>aa rfl)<| ?_
 refine hx (aq rfl Tryz.call113 (ui (by omega) (by omega)) [] rfl [0] rfl ?_)
 rintro _ _ _ ⟨rfl,rfl,rfl⟩
 refine hy (fun _=>ab rfl)<|ai<|al (ρ' :=[(6,_),(5,_),(4,_),(2,_),(0,_),(1,_)]) ⟨rfl,rfl,rfl,rfl,rfl,rfl,trivial⟩<|ak (X' :=[_]) (S' :=[_]) (fun _ m=>m)<|ag<|ah<|ah<|aj<|hy (fun _=>aL rfl jE (by decide))<|hy (fun m=>aw rfl fG (aA (m.aX 0 rfl) (i:=4) rfl))<|hy (fun _=>cx rfl rfl)<|ai<|al (ρ' :=[(13,_),(6,_),(5,_),(4,_),(2,_),(0,_),(1,_)]) ⟨rfl,rfl,rfl,rfl,rfl,rfl,rfl,trivial⟩<|ag<| ?_
 refine cC rfl (fun h0=> ?_) (fun h0=> ?_)
 ·have hE:d.ca p=6:=by rw[RD.ca,if_pos h0]
  have hB:d.ct p=[]:=by rw[RD.ct,if_pos h0]
  rw[hE,hB]
  refine ah<|aj<|hy (fun _=>ab rfl)<|hy (fun _=>ab rfl)<|ai<|ag<|aV<|ax<| ?_
  exact dh trivial rfl rfl rfl [] rfl [] rfl ⟨rfl,rfl,rfl⟩
 ·refine aD<|ag<|ah<|ah<|aj<|hy (fun _=>aa rfl)<|hy (fun _=>bA rfl rfl)<|ai<|al (ρ' :=[(15,_),(13,_),(6,_),(5,_),(4,_),(2,_),(0,_),(1,_)]) ⟨rfl,rfl,rfl,rfl,rfl,rfl,rfl,rfl,trivial⟩<|ag<| ?_
  refine cC rfl (fun h1=> ?_) (fun h1=> ?_)
  ·have hq:=gO.1 h1
   have hE:d.ca p=4:=by rw[RD.ca,if_neg h0,if_pos hq]
   have hB:d.ct p=[]:=by rw[RD.ct,if_neg h0,hq];rfl
   rw[hE,hB]
   refine ah<|aj<|hy (fun _=>ab rfl)<|hy (fun _=>ab rfl)<|ai<|ag<|aV<|ax<| ?_
   exact dh trivial rfl rfl rfl [] rfl [] rfl ⟨rfl,rfl,rfl⟩
  ·obtain⟨x0,hfx⟩:∃x0,d.seen[cr d.seen p]? =some x0:=by
    cases hq:d.seen[cr d.seen p]? with
    |none=>exact absurd (gO.2 hq) h1
    |some x0=>exact⟨x0,rfl⟩
   have hfl:cr d.seen p<d.seen.length:=(List.getElem?_eq_some_iff.1 hfx).1
   obtain⟨f0,f1⟩:=jy d.seen _ x0 hfx
   have hfi:kb d.seen p=(cr d.seen p:Nat):=by rw[kb,if_pos hfl]
   have hE:d.ca p=0:=by rw[RD.ca,if_neg h0,if_neg (by rw[hfx];exact fun e=>by cases e)]
   have hB:d.ct p=x0.2:=by rw[RD.ct,if_neg h0,hfx];rfl
   rw[hE,hB]
   refine aD<|ag<|ah<|aj<|hy (fun _=>aL rfl jA (by decide))<|hy (fun m=>aw rfl s5 (aA (m.aX 0 rfl) (i:=1) rfl))<|hy (fun _=>aa rfl)<|hy (fun _=>cW rfl rfl Tryz.underlying36 eP hA_r hfi.symm (by omega))<|hy (fun _=>aL rfl n8 (by decide))<|hy (fun m=>yV (aw rfl lH (fy (m.rd 0 rfl) f1)) ((rfl:_=Value.string (strOf x0.2))))<|hy (fun _=>ab rfl)<|hy (fun _=>ab rfl)<|ai<|al (ρ' :=[(5,_),(4,_),(15,_),(13,_),(6,_),(2,_),(0,_),(1,_)]) ⟨rfl,rfl,rfl,rfl,rfl,rfl,rfl,rfl,trivial⟩<|ag<|aV<| ?_
   exact dh trivial rfl rfl rfl [] rfl [] rfl ⟨rfl,rfl,rfl⟩
end Go.Proofs.YtmibdabdlgmafaaGreatDoor
end
section
set_option maxRecDepth 20000
namespace Go.Proofs.YtmibdabdlgmafaaGreatDoor
open Go.Eng Go.Hx
theorem C7{g:Nat}{st:cF}:cf Tryz.prog 60 [.pointer (some ⟨g,0,none⟩)] [bn g st] [] (fun v_ X_ S_=>v_=(.int .i64 (st.waits.length:Nat))∧X_=[bn g st]∧S_=[]):=by
 refine aO (N:=8) Tryz.func60 rfl rfl (by simp) fun b=> ?_
 refine bw (fun w m=>(m.perm (ar [0] _ [_] _ rfl)).unpack) ?_
 refine ah<|aj<|hy (fun _=>ab rfl)<|ai<|ag<|ah<|aj<|hy (fun _=>aa rfl)<|hy (fun _=>bd rfl)<|hy (fun _=>aL rfl ir (by decide))<|hy (fun m=>aw rfl ve (aA (m.aX 0 rfl) rfl))<|hy (fun _=>aW rfl Tryz.underlying175)<|hy (fun _=>ab rfl)<|ai<|al (ρ' :=[(2,_),(0,_)]) ⟨rfl,rfl,trivial⟩<|ag<|aV<| ?_
 refine ak (X' :=bn g st::_) (fun w m=>(m.perm (ar [0,0,0,0,0] _ [_,_,_,_,_] _ rfl)).pack) ?_
 exact bh trivial rfl rfl [0] rfl [] rfl ⟨rfl,rfl,rfl⟩
theorem C1:cf Tryz.prog 258 [.slice none 0 0,.int .i64 0,.int .i64 0] [] [] (fun v_ X_ S_=>v_=(.tuple #[])∧X_=[]∧S_=[]):=by
 refine aO (N:=49) Tryz.func258 rfl rfl (by simp) fun b=> ?_
 refine ah<|aj<|hy (fun _=>aa rfl)<|hy (fun _=>aN rfl rfl (bE (by omega) (by omega)))<|hy (fun _=>ab rfl)<|ai<|al (ρ' :=[(6,_),(0,_),(1,_),(2,_)]) ⟨rfl,rfl,rfl,rfl,trivial⟩<|ag<|aK<| ?_
 refine dD (fun u=>0) (fun u=>[(6,.int .i64 1)]) (fun u=>[]) (fun u=>[]) (fun u=>u=0) 0 [(0,_),(1,_),(2,_)] ⟨rfl,rfl,rfl,trivial⟩ [] rfl [] rfl (rfl) ⟨rfl,trivial⟩ (fun u hI=> ?_)
 refine ah<|ah<|aj<|hy (fun _=>aa rfl)<|hy (fun _=>aa rfl)<|hy (fun _=>bA rfl rfl)<|ai<|al (ρ' :=[(12,_),(6,_),(0,_),(1,_),(2,_)]) ⟨rfl,rfl,rfl,rfl,rfl,trivial⟩<|ag<| ?_
 refine dO rfl (rfl) ?_
 refine bL<|ao<|ao<|aC<| ?_
 exact fE trivial rfl [] rfl [] rfl ⟨rfl,rfl,rfl⟩
theorem y9:cf Tryz.prog 255 [.int .u64 0] [] [] (fun v_ X_ S_=>v_=(.int .i64 0)∧X_=[]∧S_=[]):=by
 refine aO (N:=25) Tryz.func255 rfl rfl (by simp) fun b=> ?_
 refine ah<|aj<|hy (fun _=>ab rfl)<|ai<|ag<|ah<|ah<|aj<|hy (fun _=>aa rfl)<|hy (fun _=>jS rfl rfl)<|ai<|al (ρ' :=[(4,_),(2,_),(0,_)]) ⟨rfl,rfl,rfl,trivial⟩<|ag<| ?_
 refine dO rfl (rfl) ?_
 refine aD<|ag<|ah<|ah<|aj<|hy (fun _=>aa rfl)<|hy (fun _=>jS rfl rfl)<|ai<|al (ρ' :=[(8,_),(4,_),(2,_),(0,_)]) ⟨rfl,rfl,rfl,rfl,trivial⟩<|ag<| ?_
 refine dO rfl (rfl) ?_
 refine aD<|ag<|ah<|ah<|aj<|hy (fun _=>aa rfl)<|hy (fun _=>jS rfl rfl)<|ai<|al (ρ' :=[(14,_),(8,_),(4,_),(2,_),(0,_)]) ⟨rfl,rfl,rfl,rfl,rfl,trivial⟩<|ag<| ?_
 refine dO rfl (rfl) ?_
 refine aD<|ag<|ah<|aj<|hy (fun _=>aa rfl)<|hy (fun _=>aa rfl)<|hy (fun _=>bT rfl Tryz.underlying310 Tryz.underlying5 (show IntKind.u8.wrap 0=0 from rfl))<|hy (fun _=>fw rfl rfl Tryz.underlying9 (show((0:Nat):Int)=0 from rfl) (show _=some (0:UInt8)from rfl))<|hy (fun _=>bT rfl Tryz.underlying5 Tryz.underlying3 (show IntKind.i64.wrap ((0:UInt8).toNat:Int)=0 from rfl))<|hy (fun _=>aN rfl rfl (bE (by omega) (by omega)))<|hy (fun _=>ab rfl)<|ai<|al (ρ' :=[(2,_),(14,_),(8,_),(4,_),(0,_)]) ⟨rfl,rfl,rfl,rfl,rfl,trivial⟩<|ag<|aV<| ?_
 exact bh trivial rfl rfl [] rfl [] rfl ⟨rfl,rfl,rfl⟩
theorem D4:cf Tryz.prog 207 [.int .u64 0] [] [] (fun v_ X_ S_=>v_=(.int .i64 0)∧X_=[]∧S_=[]):=by
 refine aO (N:=8) Tryz.func207 rfl rfl (by simp) fun b=> ?_
 refine ah<|aj<|hy (fun _=>ab rfl)<|ai<|ag<|ah<| ?_
 refine dO rfl (rfl) ?_
 refine aD<|ag<|ah<|aj<|hy (fun _=>aa rfl)<| ?_
 refine hx (aq rfl Tryz.call255 (y9) [] rfl [] rfl ?_)
 rintro _ _ _ ⟨rfl,rfl,rfl⟩
 refine hy (fun _=>ab rfl)<|ai<|al (ρ' :=[(2,_),(0,_)]) ⟨rfl,rfl,trivial⟩<|ak (X' :=[]) (S' :=[]) (fun _ m=>m)<|ag<|aV<| ?_
 exact bh trivial rfl rfl [] rfl [] rfl ⟨rfl,rfl,rfl⟩
theorem DR:cf Tryz.prog 223 [.slice none 0 0,.int .i64 0,.int .i64 0,.int .i64 0] [] [] (fun v_ X_ S_=>v_=(.tuple #[])∧X_=[]∧S_=[]):=by
 refine aO (N:=134) Tryz.func223 rfl rfl (by simp) fun b=> ?_
 refine ah<|aj<|hy (fun _=>ab rfl)<|ai<|ag<|ah<|aj<|hy (fun _=>ab rfl)<|ai<|ag<|aK<| ?_
 refine dD (fun u=>0) (fun u=>[(1,.int .i64 0),(2,.int .i64 0)]) (fun u=>[]) (fun u=>[]) (fun u=>u=0) 0 [(0,_)] ⟨rfl,trivial⟩ [] rfl [] rfl (rfl) ⟨rfl,rfl,trivial⟩ (fun u hI=> ?_)
 refine aK<|ah<|aj<|hy (fun _=>aa rfl)<|hy (fun _=>aa rfl)<|hy (fun _=>cg rfl rfl (bE (by omega) (by omega)))<|hy (fun _=>ab rfl)<|ai<|al (ρ' :=[(10,_),(1,_),(2,_),(0,_)]) ⟨rfl,rfl,rfl,rfl,trivial⟩<|ag<|ah<|ah<|aj<|hy (fun _=>aa rfl)<|hy (fun _=>p9 rfl rfl)<|ai<|al (ρ' :=[(23,_),(10,_),(1,_),(2,_),(0,_)]) ⟨rfl,rfl,rfl,rfl,rfl,trivial⟩<|ag<| ?_
 refine gY rfl (rfl) ?_
 refine ah<|aj<|hy (fun _=>aa rfl)<|hy (fun _=>aa rfl)<|hy (fun _=>aa rfl)<| ?_
 refine hx (aq rfl Tryz.call258 (C1) [] rfl [] rfl ?_)
 rintro _ _ _ ⟨rfl,rfl,rfl⟩
 refine ai<|al (ρ' :=[(23,_),(10,_),(1,_),(2,_),(0,_)]) ⟨rfl,rfl,rfl,rfl,rfl,trivial⟩<|ak (X' :=[]) (S' :=[]) (fun _ m=>m)<|ag<|aV<|ax<|aY<|ax<|aY<| ?_
 exact fE trivial rfl [] rfl [] rfl ⟨rfl,rfl,rfl⟩
theorem BO:cf Tryz.prog 165 [.slice none 0 0] [] [] (fun v_ X_ S_=>v_=(.tuple #[])∧X_=[]∧S_=[]):=by
 refine aO (N:=11) Tryz.func165 rfl rfl (by simp) fun b=> ?_
 refine ah<|aj<|hy (fun _=>aa rfl)<|hy (fun _=>aW rfl Tryz.underlying152)<|hy (fun _=>ab rfl)<|ai<|al (ρ' :=[(2,_),(0,_)]) ⟨rfl,rfl,trivial⟩<|ag<|aj<|hy (fun _=>aa rfl)<|hy (fun _=>aa rfl)<|hy (fun _=>aa rfl)<|hy (fun _=>bT rfl Tryz.underlying3 Tryz.underlying263 rfl)<| ?_
 refine hx (aq rfl Tryz.call207 (D4) [] rfl [] rfl ?_)
 rintro _ _ _ ⟨rfl,rfl,rfl⟩
 refine hx (aq rfl Tryz.call223 (DR) [] rfl [] rfl ?_)
 rintro _ _ _ ⟨rfl,rfl,rfl⟩
 refine ai<|al (ρ' :=[(2,_),(0,_)]) ⟨rfl,rfl,trivial⟩<|ak (X' :=[]) (S' :=[]) (fun _ m=>m)<| ?_
 exact fE trivial rfl [] rfl [] rfl ⟨rfl,rfl,rfl⟩
end Go.Proofs.YtmibdabdlgmafaaGreatDoor
end
section
set_option maxRecDepth 20000
namespace Go.Proofs.YtmibdabdlgmafaaGreatDoor
open Go.Eng Go.Hx
def rR(l:dz):fI→dz
 | .written p r=>cJ l p r
 | .renamed a c=>match bY l a with
  |none=>l
  |some r=>cJ (ej l a) c r
 | .removed p=>ej l p
theorem CC{g:Nat}{l:dz}{a c:List UInt8}:cf Tryz.prog 337 [.agg [SV a,SV c].toArray,.map (some g)] [cY SV g (dK l)] [] (fun v_ X_ S_=>v_=(.tuple #[])∧X_=[cY SV g (dK (rR l (.renamed a c)))]∧S_=[]):=by
 refine aO (N:=21) Tryz.func337 rfl rfl (by simp) fun b=> ?_
 refine ah<|aj<| ?_
 refine hx (cE rfl (fun g2=> ?_))
 refine aU (fun w m=>m.bU 0 rfl (show _=aJ g2 257 [SV a,SV c]from congrArg (aJ _ _) (bB _))) ?_
 rcases oS (l:=l) a with⟨h1,h2⟩|⟨r,h1,h2⟩
 ·refine ai<|ak (X' :=[_,_]) (S' :=[]) (fun _ m=>m)<|ag<|ah<|aj<|hy (fun _=>aa rfl)<|hy (fun _=>aL rfl qX (by decide))<|hy (fun m=>aw rfl lH (aA (m.aX 0 rfl) (i:=0) rfl))<|hy (fun m=>yV (jC (enc:=SV) rfl rfl Tryz.underlying174 sA (jK Tryz.underlying9) (m.pk 1 rfl)) ((show gE true (.slice none 0 0) (bY (dK l) a)= .tuple #[.slice none 0 0,.bool false] by rw[h2];rfl)))<|hy (fun _=>aa rfl)<|hy (fun _=>au rfl rfl)<|hy (fun _=>au rfl rfl)<|hy (fun _=>ab rfl)<|hy (fun _=>ab rfl)<|ai<|al (ρ' :=[(5,_),(4,_),(2,_),(0,_),(1,_)]) ⟨rfl,rfl,rfl,rfl,rfl,trivial⟩<|ag<|ah<|aj<|hy (fun _=>aa rfl)<|ai<|ag<| ?_
  refine dO rfl (rfl) ?_
  refine aD<| ?_
  have e:rR l (.renamed a c)=l:=by rw[rR,h1]
  rw[e]
  exact fE trivial rfl [1] rfl [] rfl ⟨rfl,rfl,rfl⟩
 ·refine ai<|ag<|ah<|aj<|hy (fun _=>aa rfl)<|hy (fun _=>aL rfl qX (by decide))<|hy (fun m=>aw rfl lH (aA (m.aX 0 rfl) rfl))<|hy (fun m=>yV (jC (enc:=SV) rfl rfl Tryz.underlying174 sA (jK Tryz.underlying9) (m.pk 1 rfl)) ((show gE true (.slice none 0 0) (bY (dK l) a)= .tuple #[r.val,.bool true] by rw[h2];rfl)))<|hy (fun _=>aa rfl)<|hy (fun _=>au rfl rfl)<|hy (fun _=>au rfl rfl)<|hy (fun _=>ab rfl)<|hy (fun _=>ab rfl)<|ai<|al (ρ' :=[(5,_),(4,_),(2,_),(0,_),(1,_)]) ⟨rfl,rfl,rfl,rfl,rfl,trivial⟩<|ag<|ah<|aj<|hy (fun _=>aa rfl)<|ai<|ag<| ?_
  refine gY rfl (rfl) ?_
  refine ah<|aj<|hy (fun _=>aa rfl)<|hy (fun _=>aL rfl qX (by decide))<|hy (fun m=>aw rfl lH (aA (m.aX 0 rfl) (i:=0) rfl))<| ?_
  refine cH (nf (enc:=SV) 1 rfl rfl rfl Tryz.underlying174 (jK Tryz.underlying9) ?_)
  refine ai<|al (ρ' :=[(13,_),(5,_),(4,_),(2,_),(0,_),(1,_)]) ⟨rfl,rfl,rfl,rfl,rfl,rfl,trivial⟩<|ak (X' :=[_,_]) (S' :=[]) (fun _ m=>m)<|ag<|aj<|hy (fun _=>aa rfl)<|hy (fun _=>aL rfl Ba (by decide))<|hy (fun m=>aw rfl lH (aA (m.aX 1 rfl) (i:=1) rfl))<|hy (fun _=>aa rfl)<| ?_
  refine cH (pI (enc:=SV) 0 rfl rfl rfl rfl Tryz.underlying174 (jK Tryz.underlying9) ?_)
  refine ai<|al (ρ' :=[(13,_),(5,_),(4,_),(2,_),(0,_),(1,_)]) ⟨rfl,rfl,rfl,rfl,rfl,rfl,trivial⟩<|ak (X' :=[_,_]) (S' :=[]) (fun _ m=>m)<| ?_
  have e:cJ (ej (dK l) a) c r.val=dK (rR l (.renamed a c)):=by rw[rR,h1,o9,pF]
  refine ak (fun w m=>m.bU 0 rfl (show _=cY SV g (dK (rR l (.renamed a c)))from congrArg (cY SV g) e)) ?_
  exact fE trivial rfl [0] rfl [] rfl ⟨rfl,rfl,rfl⟩
theorem Dz{g:Nat}{l:dz}{p:List UInt8}:cf Tryz.prog 335 [.agg [SV p].toArray,.map (some g)] [cY SV g (dK l)] [] (fun v_ X_ S_=>v_=(.tuple #[])∧X_=[cY SV g (dK (rR l (.removed p)))]∧S_=[]):=by
 refine aO (N:=7) Tryz.func335 rfl rfl (by simp) fun b=> ?_
 refine ah<|aj<| ?_
 refine hx (cE rfl (fun g2=> ?_))
 refine aU (fun w m=>m.bU 0 rfl (show _=aJ g2 237 [SV p]from congrArg (aJ _ _) (bB _))) ?_
 refine ai<|ak (X' :=[_,_]) (S' :=[]) (fun _ m=>m)<|ag<|aj<|hy (fun _=>aa rfl)<|hy (fun _=>aL rfl Bh (by decide))<|hy (fun m=>aw rfl lH (aA (m.aX 0 rfl) (i:=0) rfl))<| ?_
 refine cH (nf (enc:=SV) 1 rfl rfl rfl Tryz.underlying174 (jK Tryz.underlying9) ?_)
 refine ai<|al (ρ' :=[(2,_),(0,_),(1,_)]) ⟨rfl,rfl,rfl,trivial⟩<|ak (X' :=[_,_]) (S' :=[]) (fun _ m=>m)<| ?_
 rw[o9]
 exact fE trivial rfl [0] rfl [] rfl ⟨rfl,rfl,rfl⟩
def cF.gj(st:cF)(c:fI)(A:Option Addr)(k:Nat):cF:={st.eu with seen:=rR st.seen c,waits:=st.waits++[c],wA:=A,wc:=k}
theorem m8{l:dz}{p:List UInt8}{x:fi}(h:x∈(ej l p).map (·.2)):x∈l.map (·.2):=by
 induction l with
 |nil=>exact h
 |cons a q ih=>
  obtain⟨k,u⟩:=a
  simp only[ej]at h
  split at h
  ·exact List.mem_cons_of_mem _ h
  ·simp only[List.map_cons,List.mem_cons]at h ⊢
   rcases h with rfl|h
   ·exact .inl rfl
   ·exact .inr (ih h)
theorem yt{l:dz}{c:fI}(hc:c.row=none){x:fi}(h:x∈(rR l c).map (·.2)):x∈l.map (·.2):=by
 cases c with
 |written p r=>cases hc
 |renamed a b=>
  simp only[rR]at h
  split at h
  ·exact h
  ·rename_i r hr
   rcases mS h with h|h
   ·exact m8 h
   ·exact h▸List.mem_map.2 ⟨_,jd hr,rfl⟩
 |removed p=>exact m8 h
theorem Bo(l:dz)(c:fI):(rR l c).length≤l.length+1:=by
 cases c with
 |written p r=>exact oQ l p r
 |renamed a b=>
  simp only[rR]
  split
  ·omega
  ·rename_i r hr
   have h1:=oQ (ej l a) b r
   have h2:=r5 l a
   omega
 |removed p=>have h2:=r5 l p;show(ej l p).length≤_;omega
theorem pg{st:cF}{c:fI}{A:Option Addr}{k:Nat}(hc:c.row=none):∀x∈rowsOf (st.gj c A k),x∈rowsOf st:=by
 intro x hx
 unfold rowsOf cF.gj at hx
 simp only[cF.eu,List.mem_append,List.filterMap_append]at hx
 unfold rowsOf
 simp only[List.mem_append]
 rcases hx with(h|h)|h|h
 ·exact .inl (.inl (yt hc h))
 ·exact .inl (.inr h)
 ·exact .inr h
 ·simp[hc]at h
theorem nU.gj{st:cF}{k:Nat}(h:nU st k){c:fI}(hc:c.row=none)(A:Option Addr)(j:Nat):nU (st.gj c A j) (k+1):=by
 refine⟨ke h.cj,h.room, ?_, ?_,fun x hx=>h.small x (pg hc x hx)⟩
 ·have:=Bo st.seen c
  have:=h.seen
  show(rR st.seen c).length≤k+1
  omega
 ·have:=h.rest
  show st.cp.length+(st.waits++[c]).length≤k+1
  simp only[List.length_append,List.length_cons,List.length_nil]
  omega
theorem FY{g:Nat}{st:cF}{a c:List UInt8}(hp:st.cj≤1000000000000)(hw:st.waits.length≤1000000):cf Tryz.prog 116 [.pointer (some ⟨g,0,none⟩),(fI.renamed a c).val] [bn g st] [] (fun v_ X_ S_=>∃A k,v_=(.tuple #[])∧X_=[bn g (st.gj (.renamed a c) A k)]∧S_=[]):=by
 have hsw:st.eu.waits.length=st.waits.length:=rfl
 refine aO (N:=25) Tryz.func116 rfl rfl (by simp) fun b=> ?_
 refine ah<|aj<|hy (fun _=>aa rfl)<| ?_
 refine hx (aq rfl Tryz.call181 (rU (by omega)) [0] rfl [] rfl ?_)
 rintro _ _ _ ⟨rfl,rfl,rfl⟩
 refine aU (fun w m=>(m.perm (ar [0] _ [_] _ rfl)).unpack) ?_
 refine ai<|al (ρ' :=[(0,_),(1,_)]) ⟨rfl,rfl,trivial⟩<|ak (X' :=[_,_,_,_,_]) (S' :=[]) (fun _ m=>m)<|ag<|ah<|cT [8] [(0,some 0),(1,some 0),(2,some 0),(3,some 0),(4,some 0),(5,some 0),(6,some 0),(7,some 0),(8,none)] (by kernel_rfl) (by kernel_rfl) rfl 0<|an (aa rfl)<|an (aa rfl)<|an (bd rfl)<|an (aL rfl gF (by decide))<|cm (fun m=>aw rfl mi (aA (m.aX 0 rfl) rfl))<|an (jV rfl rfl)<|an (uk rfl (by kernel_rfl))<|an (aa rfl)<| ?_
 refine eb (tY rfl rfl (fun w=>by kernel_rfl) Tryz.call337 (CC) [1] rfl [] rfl ?_)
 rintro _ _ _ ⟨rfl,rfl,rfl⟩
 refine⟨(fun h=>absurd h (by decide)), ?_⟩
 refine bF<|al (ρ' :=[(0,_),(1,_)]) ⟨rfl,rfl,trivial⟩<|ak (X' :=[_,_,_,_,_]) (S' :=[]) (fun _ m=>m)<|ag<|aj<|hy (fun _=>aa rfl)<|hy (fun _=>aa rfl)<|hy (fun _=>bd rfl)<|hy (fun _=>aL rfl ir (by decide))<|hy (fun m=>aw rfl ve (aA (m.aX 1 rfl) rfl))<|hy (fun _=>aa rfl)<| ?_
 refine hx (b4 Tryz.underlying175 p6 rfl rfl rfl (by simp[Value.cells,fI.val]) (by decide) (by decide) (fun g21=> ?_))
 have hA_b21:0<1→(some (⟨g21,0,none⟩:Addr))≠none:=fun _ h=>by cases h
 refine aU (fun w m=>m.bU 0 rfl (show _=aG 232 1 (.slice (some ⟨g21,0,none⟩) 1 1) 1 [((fI.renamed a c)).val]from rfl)) ?_
 refine hx (bI 4 rfl rfl rfl Tryz.underlying175 Tryz.underlying175 (by exact .inl rfl) p6 rfl (fun m=>Src.bZ (m.ord 0 rfl)) (by simp[fI.val,Value.oneCell']) (by unfold maxLen;omega) (by omega) (fun u=> ?_))
 refine aB (fun m=>(m.own 0 rfl).slice) ?_
 rintro⟨A_d3,c_d3,rfl,hc_d3⟩
 refine aB (fun m=>(m.ord 0 rfl).2.1) fun hA_d3=> ?_
 refine hy (fun _=>bd rfl)<|hy (fun _=>aL rfl ir (by decide))<| ?_
 refine cH (cA 3 rfl rfl rfl vU rfl (by first|exact Nat.le_of_ble_eq_true rfl|simp) ?_)
 refine ai<|al (ρ' :=[(0,_),(1,_)]) ⟨rfl,rfl,trivial⟩<|ak (X' :=[_,_,_,_,_,_]) (S' :=[]) (fun _ m=>m)<| ?_
 refine ak (fun w m=>m.bU 0 rfl (show _=aJ g 177 (jv (st.gj ((fI.renamed a c)) A_d3 c_d3))from by simp[jv,cF.gj,cF.eu])) ?_
 refine ak (fun w m=>m.bU 3 rfl (show _=cY SV st.gs (dK (st.gj ((fI.renamed a c)) A_d3 c_d3).seen)from rfl)) ?_
 refine ak (fun w m=>m.bU 2 rfl (show _=aG 232 1 (.slice A_d3 (st.gj ((fI.renamed a c)) A_d3 c_d3).waits.length c_d3) (st.gj ((fI.renamed a c)) A_d3 c_d3).waits.length ((st.gj ((fI.renamed a c)) A_d3 c_d3).waits.map fI.val)from by simp[cF.gj,cF.eu])) ?_
 refine ak (X' :=iv (rowsOf (st.gj ((fI.renamed a c)) A_d3 c_d3))::_) (fun w m=>(m.perm (ar [5] _ [_] _ rfl)).tP ((pg rfl))) ?_
 refine ak (X' :=bn g (st.gj ((fI.renamed a c)) A_d3 c_d3)::_) (fun w m=>(m.perm (ar [3,2,3,1,0] _ [_,_,_,_,_] _ rfl)).pack) ?_
 exact fE trivial rfl [0] rfl [] rfl ⟨_,_,rfl,rfl,rfl⟩
theorem Gp{g:Nat}{st:cF}{p:List UInt8}(hp:st.cj≤1000000000000)(hw:st.waits.length≤1000000):cf Tryz.prog 116 [.pointer (some ⟨g,0,none⟩),(fI.removed p).val] [bn g st] [] (fun v_ X_ S_=>∃A k,v_=(.tuple #[])∧X_=[bn g (st.gj (.removed p) A k)]∧S_=[]):=by
 have hsw:st.eu.waits.length=st.waits.length:=rfl
 refine aO (N:=25) Tryz.func116 rfl rfl (by simp) fun b=> ?_
 refine ah<|aj<|hy (fun _=>aa rfl)<| ?_
 refine hx (aq rfl Tryz.call181 (rU (by omega)) [0] rfl [] rfl ?_)
 rintro _ _ _ ⟨rfl,rfl,rfl⟩
 refine aU (fun w m=>(m.perm (ar [0] _ [_] _ rfl)).unpack) ?_
 refine ai<|al (ρ' :=[(0,_),(1,_)]) ⟨rfl,rfl,trivial⟩<|ak (X' :=[_,_,_,_,_]) (S' :=[]) (fun _ m=>m)<|ag<|ah<|cT [8] [(0,some 0),(1,some 0),(2,some 0),(3,some 0),(4,some 0),(5,some 0),(6,some 0),(7,some 0),(8,none)] (by kernel_rfl) (by kernel_rfl) rfl 0<|an (aa rfl)<|an (aa rfl)<|an (bd rfl)<|an (aL rfl gF (by decide))<|cm (fun m=>aw rfl mi (aA (m.aX 0 rfl) rfl))<|an (jV rfl rfl)<|an (uk rfl (by kernel_rfl))<|an (aa rfl)<| ?_
 refine eb (tY rfl rfl (fun w=>by kernel_rfl) Tryz.call335 (Dz) [1] rfl [] rfl ?_)
 rintro _ _ _ ⟨rfl,rfl,rfl⟩
 refine⟨(fun h=>absurd h (by decide)), ?_⟩
 refine bF<|al (ρ' :=[(0,_),(1,_)]) ⟨rfl,rfl,trivial⟩<|ak (X' :=[_,_,_,_,_]) (S' :=[]) (fun _ m=>m)<|ag<|aj<|hy (fun _=>aa rfl)<|hy (fun _=>aa rfl)<|hy (fun _=>bd rfl)<|hy (fun _=>aL rfl ir (by decide))<|hy (fun m=>aw rfl ve (aA (m.aX 1 rfl) rfl))<|hy (fun _=>aa rfl)<| ?_
 refine hx (b4 Tryz.underlying175 p6 rfl rfl rfl (by simp[Value.cells,fI.val]) (by decide) (by decide) (fun g21=> ?_))
 have hA_b21:0<1→(some (⟨g21,0,none⟩:Addr))≠none:=fun _ h=>by cases h
 refine aU (fun w m=>m.bU 0 rfl (show _=aG 232 1 (.slice (some ⟨g21,0,none⟩) 1 1) 1 [((fI.removed p)).val]from rfl)) ?_
 refine hx (bI 4 rfl rfl rfl Tryz.underlying175 Tryz.underlying175 (by exact .inl rfl) p6 rfl (fun m=>Src.bZ (m.ord 0 rfl)) (by simp[fI.val,Value.oneCell']) (by unfold maxLen;omega) (by omega) (fun u=> ?_))
 refine aB (fun m=>(m.own 0 rfl).slice) ?_
 rintro⟨A_d3,c_d3,rfl,hc_d3⟩
 refine aB (fun m=>(m.ord 0 rfl).2.1) fun hA_d3=> ?_
 refine hy (fun _=>bd rfl)<|hy (fun _=>aL rfl ir (by decide))<| ?_
 refine cH (cA 3 rfl rfl rfl vU rfl (by first|exact Nat.le_of_ble_eq_true rfl|simp) ?_)
 refine ai<|al (ρ' :=[(0,_),(1,_)]) ⟨rfl,rfl,trivial⟩<|ak (X' :=[_,_,_,_,_,_]) (S' :=[]) (fun _ m=>m)<| ?_
 refine ak (fun w m=>m.bU 0 rfl (show _=aJ g 177 (jv (st.gj ((fI.removed p)) A_d3 c_d3))from by simp[jv,cF.gj,cF.eu])) ?_
 refine ak (fun w m=>m.bU 3 rfl (show _=cY SV st.gs (dK (st.gj ((fI.removed p)) A_d3 c_d3).seen)from rfl)) ?_
 refine ak (fun w m=>m.bU 2 rfl (show _=aG 232 1 (.slice A_d3 (st.gj ((fI.removed p)) A_d3 c_d3).waits.length c_d3) (st.gj ((fI.removed p)) A_d3 c_d3).waits.length ((st.gj ((fI.removed p)) A_d3 c_d3).waits.map fI.val)from by simp[cF.gj,cF.eu])) ?_
 refine ak (X' :=iv (rowsOf (st.gj ((fI.removed p)) A_d3 c_d3))::_) (fun w m=>(m.perm (ar [5] _ [_] _ rfl)).tP ((pg rfl))) ?_
 refine ak (X' :=bn g (st.gj ((fI.removed p)) A_d3 c_d3)::_) (fun w m=>(m.perm (ar [3,2,3,1,0] _ [_,_,_,_,_] _ rfl)).pack) ?_
 exact fE trivial rfl [0] rfl [] rfl ⟨_,_,rfl,rfl,rfl⟩
def bQ(st:cF)(a c:List UInt8):Int:=if¬fF c then 1 else dE st a
theorem AX{g:Nat}{st:cF}{a c:List UInt8}{k:Nat}(ok:nU st k)(hk:k≤100000):cf Tryz.prog 108 [.pointer (some ⟨g,0,none⟩),.string (strOf a),.string (strOf c)] [bn g st] [] (fun v_ X_ S_=>∃st1 A j,v_=(.int .i64 (bQ st a c))∧X_=[bn g st1]∧S_=[]∧((bQ st a c≠0∧st1=st)∨(bQ st a c=0∧st1=st.gj (.renamed a c) A j))):=by
 have hp:=ok.cj
 have hw:st.waits.length≤1000000:=by have:=ok.rest;omega
 refine aO (N:=23) Tryz.func108 rfl rfl (by simp) fun b=> ?_
 refine ah<|aj<|hy (fun _=>ab rfl)<|ai<|ag<|ah<|ah<|aj<|hy (fun _=>aa rfl)<| ?_
 refine hx (aq rfl Tryz.call115 (yc) [] rfl [] rfl ?_)
 rintro _ _ _ ⟨rfl,rfl,rfl⟩
 refine hy (fun _=>jH rfl)<|ai<|al (ρ' :=[(10,_),(6,_),(0,_),(1,_),(2,_)]) ⟨rfl,rfl,rfl,rfl,rfl,trivial⟩<|ak (X' :=[_]) (S' :=[]) (fun _ m=>m)<|ag<| ?_
 refine cC rfl (fun h1=> ?_) (fun h1=> ?_)
 ·have e:bQ st a c=1:=by rw[bQ,if_pos h1]
  rw[e]
  refine ah<|aj<|hy (fun _=>ab rfl)<|ai<|ag<|aV<|ax<| ?_
  exact bh trivial rfl rfl [0] rfl [] rfl ⟨_,none,0,rfl,rfl,rfl,.inl ⟨by decide,rfl⟩⟩
 ·have e:bQ st a c=dE st a:=by rw[bQ,if_neg h1]
  rw[e]
  refine aD<|ag<|ah<|ah<|aj<|hy (fun _=>aa rfl)<|hy (fun _=>aa rfl)<| ?_
  refine hx (aq rfl Tryz.call158 (um) [0] rfl [] rfl ?_)
  rintro _ _ _ ⟨rfl,rfl,rfl⟩
  refine hy (fun _=>ab rfl)<|ai<|al (ρ' :=[(7,_),(10,_),(6,_),(0,_),(1,_),(2,_)]) ⟨rfl,rfl,rfl,rfl,rfl,rfl,trivial⟩<|ak (X' :=[_]) (S' :=[]) (fun _ m=>m)<|ag<|ah<|aj<|hy (fun _=>aa rfl)<|hy (fun _=>dL rfl rfl)<|ai<|al (ρ' :=[(15,_),(7,_),(10,_),(6,_),(0,_),(1,_),(2,_)]) ⟨rfl,rfl,rfl,rfl,rfl,rfl,rfl,trivial⟩<|ag<| ?_
  refine cC rfl (fun h2=> ?_) (fun h2=> ?_)
  ·refine ah<|aj<|hy (fun _=>aa rfl)<|hy (fun _=>ab rfl)<|ai<|al (ρ' :=[(6,_),(15,_),(7,_),(10,_),(0,_),(1,_),(2,_)]) ⟨rfl,rfl,rfl,rfl,rfl,rfl,rfl,trivial⟩<|ag<|aV<|ax<| ?_
   exact bh trivial rfl rfl [0] rfl [] rfl ⟨_,none,0,rfl,rfl,rfl,.inl ⟨h2,rfl⟩⟩
  ·have h0:=Decidable.not_not.1 h2
   rw[h0]
   refine aD<|ag<|ah<|aj<|hy (fun _=>aa rfl)<|hy (fun _=>aa rfl)<|hy (fun _=>aa rfl)<|hy (fun _=>yV (cn EF rfl rfl (by kernel_rfl) (.cons (o:=0) (sz:=1) (by kernel_rfl) rfl rfl (Nat.le_of_ble_eq_true rfl) (.cons (o:=1) (sz:=1) (by kernel_rfl) rfl rfl (Nat.le_of_ble_eq_true rfl) .nil))) ((rfl:_=Value.agg [SV a,SV c].toArray)))<|hy (fun _=>yV (ku rfl Tryz.underlying257 (fun _ h=>by cases h)) ((rfl:_=(fI.renamed a c).val)))<| ?_
   refine hx (aq rfl Tryz.call116 (FY (by omega) (by omega)) [0] rfl [] rfl ?_)
   rintro _ _ _ ⟨A,k2,rfl,rfl,rfl⟩
   refine ai<|al (ρ' :=[(15,_),(7,_),(10,_),(6,_),(0,_),(1,_),(2,_)]) ⟨rfl,rfl,rfl,rfl,rfl,rfl,rfl,trivial⟩<|ak (X' :=[_]) (S' :=[]) (fun _ m=>m)<|ag<|ah<|aj<|hy (fun _=>ab rfl)<|ai<|ag<|aV<| ?_
   exact bh trivial rfl rfl [0] rfl [] rfl ⟨_,_,_,rfl,rfl,rfl,.inr ⟨rfl,rfl⟩⟩
theorem A7{g:Nat}{st:cF}{p:List UInt8}{k:Nat}(ok:nU st k)(hk:k≤100000):cf Tryz.prog 79 [.pointer (some ⟨g,0,none⟩),.string (strOf p)] [bn g st] [] (fun v_ X_ S_=>∃st1 A j,v_=(.int .i64 (dE st p))∧X_=[bn g st1]∧S_=[]∧((dE st p≠0∧st1=st)∨(dE st p=0∧st1=st.gj (.removed p) A j))):=by
 have hp:=ok.cj
 have hw:st.waits.length≤1000000:=by have:=ok.rest;omega
 refine aO (N:=17) Tryz.func79 rfl rfl (by simp) fun b=> ?_
 refine ah<|aj<|hy (fun _=>ab rfl)<|ai<|ag<|ah<|ah<|aj<|hy (fun _=>aa rfl)<|hy (fun _=>aa rfl)<| ?_
 refine hx (aq rfl Tryz.call158 (um) [0] rfl [] rfl ?_)
 rintro _ _ _ ⟨rfl,rfl,rfl⟩
 refine hy (fun _=>ab rfl)<|ai<|al (ρ' :=[(5,_),(4,_),(0,_),(1,_)]) ⟨rfl,rfl,rfl,rfl,trivial⟩<|ak (X' :=[_]) (S' :=[]) (fun _ m=>m)<|ag<|ah<|aj<|hy (fun _=>aa rfl)<|hy (fun _=>dL rfl rfl)<|ai<|al (ρ' :=[(10,_),(5,_),(4,_),(0,_),(1,_)]) ⟨rfl,rfl,rfl,rfl,rfl,trivial⟩<|ag<| ?_
 refine cC rfl (fun h2=> ?_) (fun h2=> ?_)
 ·refine ah<|aj<|hy (fun _=>aa rfl)<|hy (fun _=>ab rfl)<|ai<|al (ρ' :=[(4,_),(10,_),(5,_),(0,_),(1,_)]) ⟨rfl,rfl,rfl,rfl,rfl,trivial⟩<|ag<|aV<|ax<| ?_
  exact bh trivial rfl rfl [0] rfl [] rfl ⟨_,none,0,rfl,rfl,rfl,.inl ⟨h2,rfl⟩⟩
 ·have h0:=Decidable.not_not.1 h2
  rw[h0]
  refine aD<|ag<|ah<|aj<|hy (fun _=>aa rfl)<|hy (fun _=>aa rfl)<|hy (fun _=>yV (cn EB rfl rfl (by kernel_rfl) (.cons (o:=0) (sz:=1) (by kernel_rfl) rfl rfl (Nat.le_of_ble_eq_true rfl) .nil)) ((rfl:_=Value.agg [SV p].toArray)))<|hy (fun _=>yV (ku rfl Tryz.underlying237 (fun _ h=>by cases h)) ((rfl:_=(fI.removed p).val)))<| ?_
  refine hx (aq rfl Tryz.call116 (Gp (by omega) (by omega)) [0] rfl [] rfl ?_)
  rintro _ _ _ ⟨A,k2,rfl,rfl,rfl⟩
  refine ai<|al (ρ' :=[(10,_),(5,_),(4,_),(0,_),(1,_)]) ⟨rfl,rfl,rfl,rfl,rfl,trivial⟩<|ak (X' :=[_]) (S' :=[]) (fun _ m=>m)<|ag<|ah<|aj<|hy (fun _=>ab rfl)<|ai<|ag<|aV<| ?_
  exact bh trivial rfl rfl [0] rfl [] rfl ⟨_,_,_,rfl,rfl,rfl,.inr ⟨rfl,rfl⟩⟩
end Go.Proofs.YtmibdabdlgmafaaGreatDoor
end
section
namespace Go.Proofs.YtmibdabdlgmafaaGreatDoor
open Go.Eng Go.Hx
theorem Cd:∀(x y:List UInt8),Op.bytesLess x y=decide (x<y)
 | [],[]=>by simp[Op.bytesLess]
 |_::_,[]=>by simp[Op.bytesLess]
 | [],_::_=>by simp[Op.bytesLess]
 |a::x,b::y=>by
  rw[Op.bytesLess,Cd x y]
  simp only[List.cons_lt_cons_iff]
  by_cases h1:a<b <;> by_cases h2:a=b <;> by_cases h3:x<y <;> simp[h1,h2,h3]
theorem pW{a b:List UInt8}:l6 a b=decide (a<b):=by
 unfold l6
 rw[Cd,Lib.toList_data,Lib.toList_data]
 rfl
def gJ:List FP→FP→List FP
 | [],f=>[f]
 |x::r,f=>if x.1<f.1 then x::gJ r f else f::(x::r).filter fun y=>decide (y.1≠f.1)
theorem kA(f:FP):∀(l acc:List FP),l.foldl (gW f) (acc,true)=(acc++l.filter (fun y=>decide (y.1≠f.1)),true)
 | [],acc=>by simp
 |x::r,acc=>by
  rw[List.foldl_cons]
  by_cases h:x.1=f.1
  ·have:gW f (acc,true) x=(acc,true):=by simp[gW,h]
   rw[this,kA f r acc];simp[h]
  ·have:gW f (acc,true) x=(acc++[x],true):=by simp[gW,h]
   rw[this,kA f r (acc++[x])];simp[h]
def yp(f:FP)(st:List FP×Bool):List FP:=if st.2 then st.1 else st.1++[f]
theorem o1(f:FP):∀(l acc:List FP),yp f (l.foldl (gW f) (acc,false))=acc++gJ l f
 | [],acc=>by simp[gJ,yp]
 |x::r,acc=>by
  rw[List.foldl_cons]
  by_cases h:x.1<f.1
  ·have hne:x.1≠f.1:=fun e=>by rw[e]at h;exact List.lt_irrefl _ h
   have:gW f (acc,false) x=(acc++[x],false):=by simp[gW,pW,h,hne]
   rw[this,o1 f r (acc++[x]),gJ,if_pos h];simp
  ·have hs:l6 x.1 f.1=false:=by rw[pW];simpa using h
   rw[gJ,if_neg h]
   by_cases he:x.1=f.1
   ·have hs' :l6 f.1 f.1=false:=he▸hs
    have:gW f (acc,false) x=(acc++[f],true):=by simp[gW,hs',he]
    rw[this,kA];simp[he,yp]
   ·have:gW f (acc,false) x=(acc++[f]++[x],true):=by simp[gW,hs,he]
    rw[this,kA];simp[he,yp]
theorem iY(l:List FP)(f:FP):gn l f=gJ l f:=by
 have:=o1 f l []
 rw[List.nil_append]at this
 rw[←this]
 unfold gn Cb yp
 rw[List.take_of_length_le (Nat.le_refl _)]
def lk:List FP→List UInt8→Option (List UInt8)
 | [],_=>none
 |x::r,p=>if x.1=p then some x.2 else lk r p
theorem fu:∀(l:List FP) (p:List UInt8),(l[cr l p]?).map (·.2)=lk l p
 | [],p=>rfl
 |x::r,p=>by
  have:=fu r p
  unfold cr at this ⊢
  rw[List.findIdx_cons]
  by_cases h:x.1=p
  ·simp[h,lk]
  ·simp[h,lk,this]
theorem gM(q:List UInt8):∀(l:List FP) (p:List UInt8),lk (l.filter fun y=>decide (y.1≠q)) p=if p=q then none else lk l p
 | [],p=>by simp[lk]
 |x::r,p=>by
  have ih:=gM q r p
  by_cases h:x.1=q
  ·rw[List.filter_cons,if_neg (by simp[h]),ih]
   by_cases hp:p=q
   ·simp[hp]
   ·rw[if_neg hp,if_neg hp,lk,if_neg (fun e=>hp (e.symm.trans h))]
  ·rw[List.filter_cons,if_pos (by simp[h]),lk,ih]
   by_cases hp:p=q
   ·rw[if_pos hp,if_pos hp,if_neg (fun e=>h (e.trans hp))]
   ·rw[if_neg hp,if_neg hp,lk]
theorem rK:∀(l:List FP) (f:FP) (p:List UInt8),lk (gJ l f) p=if p=f.1 then some f.2 else lk l p
 | [],f,p=>by simp only[gJ,lk,eq_comm]
 |x::r,f,p=>by
  unfold gJ
  by_cases h:x.1<f.1
  ·rw[if_pos h,lk,rK r f p,lk]
   have hne:x.1≠f.1:=fun e=>by rw[e]at h;exact List.lt_irrefl _ h
   by_cases hp:p=f.1
   ·rw[if_pos hp,if_pos hp,if_neg (fun e=>hne (e.trans hp))]
   ·rw[if_neg hp,if_neg hp]
  ·rw[if_neg h,lk,gM]
   by_cases hp:p=f.1
   ·rw[if_pos hp.symm,if_pos hp]
   ·rw[if_neg (fun e=>hp e.symm),if_neg hp,if_neg hp]
def jZ(l:List FP):Prop:=(l.map (·.1)).Pairwise (· <·)
theorem nz{l:List FP}(q:FP→Bool)(h:jZ l):jZ (l.filter q):=List.Pairwise.sublist (List.Sublist.map _ List.filter_sublist) h
theorem vK{l:List FP}{f y:FP}(h:y∈gJ l f):y=f∨y∈l:=by
 induction l with
 |nil=>exact .inl (by simpa[gJ]using h)
 |cons x r ih=>
  unfold gJ at h
  split at h
  ·rcases List.mem_cons.1 h with h|h
   ·exact .inr (by rw[h];exact List.mem_cons_self ..)
   ·rcases ih h with h|h
    ·exact .inl h
    ·exact .inr (List.mem_cons_of_mem _ h)
  ·rcases List.mem_cons.1 h with h|h
   ·exact .inl h
   ·exact .inr ((List.mem_filter.1 h).1)
theorem xt{l:List FP}{f:FP}(h:jZ l):jZ (gJ l f):=by
 induction l with
 |nil=>simp[jZ,gJ]
 |cons x r ih=>
  have hx:∀y∈r,x.1<y.1:=by
   intro y hy
   exact(List.pairwise_cons.1 h).1 _ (List.mem_map.2 ⟨y,hy,rfl⟩)
  have hr:jZ r:=(List.pairwise_cons.1 h).2
  unfold gJ
  by_cases hlt:x.1<f.1
  ·rw[if_pos hlt]
   refine List.pairwise_cons.2 ⟨?_,ih hr⟩
   intro a ha
   obtain⟨y,hy,rfl⟩:=List.mem_map.1 ha
   rcases vK hy with rfl|hy
   ·exact hlt
   ·exact hx y hy
  ·rw[if_neg hlt]
   refine List.pairwise_cons.2 ⟨?_,nz _ h⟩
   intro a ha
   obtain⟨y,hy,rfl⟩:=List.mem_map.1 ha
   have hy1:=(List.mem_filter.1 hy).1
   have hy2:y.1≠f.1:=by simpa using(List.mem_filter.1 hy).2
   have hge:¬y.1<f.1:=by
    rcases List.mem_cons.1 hy1 with rfl|h1
    ·exact hlt
    ·exact fun e=>hlt (List.lt_trans (hx y h1) e)
   exact Decidable.byContradiction fun hn=>hy2 (List.le_antisymm (List.not_lt.1 hn) (List.not_lt.1 hge))
structure fS(fs:dz)(l:List FP):Prop where
 ord:jZ l
 nd:(b7 fs).Nodup
 look:∀p,(bY fs p).map (·.l)=lk l p
 len:∀x∈fs,x.2.n=x.2.l.length
theorem fS.nil:fS [] []:=⟨by simp[jZ],by simp[b7],fun p=>rfl,fun x h=>by cases h⟩
theorem uz{l:List FP}{p:List UInt8}:lk l p≠none↔p∈l.map (·.1):=by
 induction l with
 |nil=>simp[lk]
 |cons x r ih=>
  unfold lk
  by_cases h:x.1=p
  ·simp[h]
  ·rw[if_neg h,ih];simp[Ne.symm h]
theorem fS.keys{fs:dz}{l:List FP}(h:fS fs l):(b7 fs).Perm (l.map (·.1)):=by
 have hn:(l.map (·.1)).Nodup:=List.Pairwise.imp (fun hlt e=>by rw[e]at hlt;exact List.lt_irrefl _ hlt) h.ord
 refine(List.perm_ext_iff_of_nodup h.nd hn).2 fun p=> ?_
 rw[←uz,←h.look p]
 have:= @je (List UInt8) fi _ fs p
 cases hq:bY fs p with
 |none=>simp[this.1 hq]
 |some r=>simp;exact Decidable.byContradiction fun hm=>by rw[this.2 hm]at hq;cases hq
theorem fS.put{fs:dz}{l:List FP}(h:fS fs l){p:List UInt8}{r:fi}(hr:r.n=r.l.length):fS (cJ fs p r) (gn l (p,r.l)):=by
 rw[iY]
 refine⟨xt h.ord,fM h.nd,fun q=> ?_,fun x hx=> ?_⟩
 ·rw[p5,rK]
  by_cases hq:p=q
  ·rw[if_pos hq,if_pos hq.symm];rfl
  ·rw[if_neg hq,if_neg (fun e=>hq e.symm)];exact h.look q
 ·rcases mS (List.mem_map.2 ⟨x,hx,rfl⟩)with h1|h1
  ·obtain⟨y,hy,e⟩:=List.mem_map.1 h1
   rw[←e];exact h.len y hy
  ·rw[h1];exact hr
theorem yH{a b:List Nat}(h:a.Perm b):a.sum=b.sum:=by
 induction h with
 |nil=>rfl
 |cons x _ ih=>simp[ih]
 |swap x y l=>simp;omega
 |trans _ _ h1 h2=>rw[h1,h2]
theorem BU{l:List FP}(h:jZ l){x:FP}(hx:x∈l):lk l x.1=some x.2:=by
 induction l with
 |nil=>cases hx
 |cons y r ih=>
  unfold lk
  rcases List.mem_cons.1 hx with rfl|h1
  ·rw[if_pos rfl]
  ·have hlt:y.1<x.1:=(List.pairwise_cons.1 h).1 _ (List.mem_map.2 ⟨x,h1,rfl⟩)
   rw[if_neg (fun e=>by rw[e]at hlt;exact List.lt_irrefl _ hlt)]
   exact ih (List.pairwise_cons.1 h).2 h1
theorem fS.lp{fs:dz}{l:List FP}(h:fS fs l):lp fs=dm l:=by
 let g:List UInt8→Nat:=fun p=>((lk l p).getD []).length
 have h1:fs.map (fun x=>x.2.n)=(b7 fs).map g:=by
  rw[b7,List.map_map]
  refine List.map_congr_left fun x hx=> ?_
  have:=h.look x.1
  rw[nK h.nd (show(x.1,x.2)∈fs from hx)]at this
  show x.2.n=((lk l x.1).getD []).length
  rw[←this,h.len x hx];rfl
 have h2:l.map (fun x=>x.2.length)=(l.map (·.1)).map g:=by
  rw[List.map_map]
  refine List.map_congr_left fun x hx=> ?_
  show x.2.length=((lk l x.1).getD []).length
  rw[BU h.ord hx];rfl
 show(fs.map fun x=>x.2.n).sum=(l.map fun x=>x.2.length).sum
 rw[h1,h2]
 exact yH (h.keys.map g)
theorem fS.DH{fs:dz}{l:List FP}(h:fS fs l):fs.length=l.length:=by
 have:=h.keys.length_eq
 simpa[b7]using this
theorem fS.sz{fs:dz}{l:List FP}(h:fS fs l)(p:List UInt8):((bY fs p).map (·.n)).getD 0=((l[cr l p]?).map (·.2.length)).getD 0:=by
 have h1:=h.look p
 rw[←fu]at h1
 cases hq:bY fs p with
 |none=>
  rw[hq]at h1
  cases hl:l[cr l p]? with
  |none=>rfl
  |some x=>rw[hl]at h1;cases h1
 |some r=>
  rw[hq]at h1
  cases hl:l[cr l p]? with
  |none=>rw[hl]at h1;cases h1
  |some x=>
   rw[hl]at h1
   have e:r.l=x.2:=Option.some.inj h1
   have:=h.len _ (jd hq)
   simp only[Option.map_some,Option.getD_some]
   rw[←e];exact this
structure uJ(st:cF)(d:RD):Prop where
 room:st.room=d.room
 cj:st.cj=d.pw
 files:fS st.seen d.seen
 waits:st.waits.length=d.waits.length
theorem uJ.bD{st:cF}{d:RD}(h:uJ st d)(p bb:List UInt8):bD st p bb.length=d.bD p bb:=by
 have h1:=h.files.sz p
 have h2:=h.files.lp
 unfold Go.Proofs.YtmibdabdlgmafaaGreatDoor.bD RD.bD RD.sz
 rw[h.cj,h.room,h1,h2]
 by_cases hn:¬fF p
 ·rw[if_pos hn,if_pos hn]
 ·rw[if_neg hn,if_neg hn]
  by_cases h0:d.pw=0
  ·rw[if_pos h0,if_pos h0]
  ·rw[if_neg h0,if_neg h0]
   by_cases hr:d.room<(dm d.seen:Int)+(bb.length:Nat)-(((d.seen[cr d.seen p]?).map (·.2.length)).getD 0:Nat)
   ·rw[if_pos hr,if_pos (by omega)]
   ·rw[if_neg hr,if_neg (by omega)]
theorem uJ.ca{st:cF}{d:RD}(h:uJ st d)(p:List UInt8):dE st p=d.ca p:=by
 have h1:=h.files.look p
 rw[←fu]at h1
 unfold dE RD.ca
 rw[h.cj]
 by_cases h0:d.pw=0
 ·rw[if_pos h0,if_pos h0]
 ·rw[if_neg h0,if_neg h0]
  cases ha:bY st.seen p with
  |none=>
   rw[ha]at h1
   cases hb:d.seen[cr d.seen p]? with
   |none=>simp
   |some y=>rw[hb]at h1;cases h1
  |some r=>
   rw[ha]at h1
   cases hb:d.seen[cr d.seen p]? with
   |none=>rw[hb]at h1;cases h1
   |some y=>simp
theorem uJ.ct{st:cF}{d:RD}(h:uJ st d)(p:List UInt8):ct st p=d.ct p:=by
 have h1:=h.files.look p
 rw[←fu]at h1
 have h2:=h.ca p
 unfold Go.Proofs.YtmibdabdlgmafaaGreatDoor.ct RD.ct
 rw[h2,←h1]
 unfold RD.ca
 by_cases h0:d.pw=0
 ·rw[if_pos h0,if_pos h0,if_neg (by decide)]
 ·rw[if_neg h0,if_neg h0]
  cases hb:d.seen[cr d.seen p]? with
  |none=>
   rw[hb]at h1
   cases ha:bY st.seen p with
   |none=>simp
   |some r=>rw[ha]at h1;cases h1
  |some y=>simp
end Go.Proofs.YtmibdabdlgmafaaGreatDoor
end
section
set_option maxRecDepth 20000
namespace Go.Proofs.YtmibdabdlgmafaaGreatDoor
open Go.Eng Go.Hx
structure RX where
 d:RD
 A:Option Addr
 c:Nat
 Al:Option Addr
 cl:Nat
 A3:Option Addr
 c3:Nat
def RX.cs(x:RX):List Value:=rv x.d x.A x.d.seen.length x.c x.Al x.d.cp.length x.cl x.A3 x.d.waits.length x.c3
abbrev RX.parts(x:RX):List bg:=[c6 2 x.A x.d.seen.length (fc x.d.seen),c6 2 x.Al x.d.cp.length (fc x.d.cp),c6 4 x.A3 x.d.waits.length (tF x.d.waits)]
def dH(x:RX):bg:=mX x.parts
theorem bO{x:RX}:∀u∈x.cs,u.oneCell' =true:=iO
theorem View.C2{x:RX}:View (dH x) (c6 2 x.A x.d.seen.length (fc x.d.seen)):=View.pj 0 rfl
theorem View.Eu{x:RX}:View (dH x) (c6 2 x.Al x.d.cp.length (fc x.d.cp)):=View.pj 1 rfl
theorem View.FW{x:RX}:View (dH x) (c6 4 x.A3 x.d.waits.length (tF x.d.waits)):=View.pj 2 rfl
def RD.new(room:Int):RD:=⟨room,[],[],[],-1⟩
def RX.new(room:Int):RX:=⟨RD.new room,none,0,none,0,none,0⟩
theorem vO{y:RX}{S:List bg}(h0:∃t∈S,View t (c6 2 y.A y.d.seen.length (fc y.d.seen)))(h1:∃t∈S,View t (c6 2 y.Al y.d.cp.length (fc y.d.cp)))(h2:∃t∈S,View t (c6 4 y.A3 y.d.waits.length (tF y.d.waits))):q7 S [dH y]:=by
 refine q7.cons (fun s hs=> ?_) q7.nil
 simp only[List.mem_cons,List.not_mem_nil,or_false]at hs
 rcases hs with rfl|rfl|rfl
 ·exact h0
 ·exact h1
 ·exact h2
theorem Ap{room:Int}:q7 [] [dH (RX.new room)]:=by
 intro s hs
 obtain rfl:=List.mem_singleton.1 hs
 refine⟨fun w _ x hx=> ?_,fun k hk=> ?_⟩
 ·simp only[List.mem_cons,List.not_mem_nil,or_false]at hx
  rcases hx with rfl|rfl|rfl <;> exact Rd.nil _ _ _
 ·obtain⟨x,hx,hk⟩:=hk
  simp only[List.mem_cons,List.not_mem_nil,or_false]at hx
  rcases hx with rfl|rfl|rfl <;> exact absurd rfl hk.1
theorem FN{r:bg}{S:List bg}:∃t∈r::S,View t r:=⟨r,List.mem_cons_self ..,.same⟩
theorem inr{r a:bg}{S:List bg}(h:∃t∈S,View t r):∃t∈a::S,View t r:=by
 obtain⟨t,ht,hv⟩:=h
 exact⟨t,List.mem_cons_of_mem _ ht,hv⟩
theorem inv1{r a:bg}{S:List bg}(h:View a r):∃t∈a::S,View t r:=⟨a,List.mem_cons_self ..,h⟩
theorem EU{room:Int}:cf Tryz.prog 25 [.int .i64 room] [] [] (fun v_ X_ S_=>∃y,v_=(.agg y.cs.toArray)∧X_=[]∧S_=[dH y]∧(y.d=RD.new room)):=by
 exact cf.tO Ev (fun s hs=>by cases hs) (fun v X S h=>by
  obtain⟨rfl,rfl,rfl⟩:=h
  exact⟨_,⟨RX.new room,rfl,rfl,rfl,rfl⟩,Ap⟩)
theorem ye{x:RX}{kk:Nat}{p:List UInt8}(ok:z8 x.d kk)(hkk:kk≤100000):cf Tryz.prog 91 [.agg x.cs.toArray,.string (strOf p)] [] [dH x] (fun v_ X_ S_=>v_=(.tuple #[.string (strOf (x.d.ct p)),.int .i64 (x.d.ca p)])∧X_=[]∧S_=[]):=by
 exact cf.tO (Dl rfl ok hkk) (fun s hs=>⟨_,List.mem_singleton_self _,by rw[List.mem_singleton.1 hs];exact View.C2⟩) (fun v X S h=>⟨[],⟨h.1,h.2.1,rfl⟩,q7.nil⟩)
theorem nv(d:RD)(p bb:List UInt8):(d.write p bb).cp=d.cp:=by
 unfold RD.write
 split <;> rfl
theorem vA{x:RX}:∀s∈ [c6 2 x.A x.d.seen.length (fc x.d.seen),c6 4 x.A3 x.d.waits.length (tF x.d.waits)],∃t∈ [dH x],View t s:=by
 intro s hs
 refine⟨_,List.mem_singleton_self _, ?_⟩
 simp only[List.mem_cons,List.not_mem_nil,or_false]at hs
 rcases hs with rfl|rfl
 ·exact View.C2
 ·exact View.FW
theorem mg{x:RX}{kk:Nat}{p bb:List UInt8}(ok:z8 x.d kk)(hkk:kk≤100000)(hpl:p.length≤1000000)(hbb:bb.length≤1000000):cf Tryz.prog 31 [.agg x.cs.toArray,.string (strOf p),.string (strOf bb)] [] [dH x] (fun v_ X_ S_=>∃y,v_=(.tuple #[.agg y.cs.toArray,.int .i64 (x.d.bD p bb)])∧X_=[]∧S_=[dH y]∧(y.d=x.d.write p bb)):=by
 refine cf.tO (Am rfl rfl ok hkk hpl hbb) vA (fun v X S h=> ?_)
 obtain⟨A1,n1,c1,A2,n2,c2,rfl,rfl,rfl,rfl,rfl⟩:=h
 refine⟨_,⟨⟨x.d.write p bb,A1,c1,x.Al,x.cl,A2,c2⟩,by unfold RX.cs;simp only[nv],rfl,rfl,rfl⟩,vO FN (inr (inr (inv1 ?_))) (inr FN)⟩
 simp only[nv]
 exact View.Eu
theorem Gc{x:RX}{kk:Nat}{k:Int}{p t bb:List UInt8}(ok:z8 x.d kk)(hkk:kk≤100000):cf Tryz.prog 114 [.agg x.cs.toArray,.agg (cv k p t bb).toArray] [] [dH x] (fun v_ X_ S_=>∃y,v_=(.agg y.cs.toArray)∧X_=[]∧S_=[dH y]∧(y.d=x.d.gj k p t bb)):=by
 have h1:=ok.seen
 have h2:=ok.waits
 refine cf.tO (DQ rfl (by omega) rfl (by omega) ok.p1 ok.p2) vA (fun v X S h=> ?_)
 obtain⟨A1,n1,c1,A2,n2,c2,rfl,rfl,rfl,rfl,_,rfl⟩:=h
 have e:(x.d.waits++[(k,p,t,bb)]).length=x.d.waits.length+1:=by simp
 refine⟨_,⟨⟨x.d.gj k p t bb,A1,c1,x.Al,x.cl,A2,c2⟩,by unfold RX.cs;simp only[RD.gj,e];rfl,rfl,rfl,rfl⟩,vO FN (inr (inr (inv1 View.Eu))) (inr (inv1 ?_))⟩
 simp only[RD.gj,e]
 exact .same
def RD.bQ(d:RD)(a c:List UInt8):Int:=if¬fF c then 1 else d.ca a
def RD.rename(d:RD)(a c:List UInt8):RD:=if d.bQ a c=0 then d.gj 1 a c []else d
def RD.remove(d:RD)(p:List UInt8):RD:=if d.ca p=0 then d.gj 2 p [] []else d
theorem yI{x:RX}{kk:Nat}{a c:List UInt8}(ok:z8 x.d kk)(hkk:kk≤100000)(hcl:c.length≤1000000):cf Tryz.prog 100 [.agg x.cs.toArray,.string (strOf a),.string (strOf c)] [] [dH x] (fun v_ X_ S_=>∃y,v_=(.tuple #[.agg y.cs.toArray,.int .i64 (x.d.bQ a c)])∧X_=[]∧S_=[dH y]∧(y.d=x.d.rename a c)):=by
 refine aO (N:=31) Tryz.func100 rfl rfl (by simp) fun b=> ?_
 refine ah<|aj<| ?_
 refine hx (cE rfl (fun g3=> ?_))
 refine aU (fun w m=>m.bU 0 rfl (show _=aJ g3 39 x.cs from congrArg (aJ _ _) (bB _))) ?_
 refine hx (aP iJ (fun g6=> ?_))
 refine hy (fun _=>ab rfl)<|ai<|ak (X' :=[_,_]) (S' :=[_]) (fun _ m=>m)<|ag<|ah<|aj<|hy (fun _=>aa rfl)<| ?_
 refine hx (aq rfl Tryz.call112 (u0 (by omega)) [] rfl [] rfl ?_)
 rintro _ _ _ ⟨rfl,rfl,rfl⟩
 refine hy (fun _=>ab rfl)<|ai<|al (ρ' :=[(8,_),(7,_),(6,_),(3,_),(0,_),(1,_),(2,_)]) ⟨rfl,rfl,rfl,rfl,rfl,rfl,rfl,trivial⟩<|ak (X' :=[_,_]) (S' :=[_]) (fun _ m=>m)<|ag<|ah<|ah<|aj<|hy (fun _=>aa rfl)<|hy (fun _=>jH rfl)<|ai<|al (ρ' :=[(14,_),(8,_),(7,_),(6,_),(3,_),(0,_),(1,_),(2,_)]) ⟨rfl,rfl,rfl,rfl,rfl,rfl,rfl,rfl,trivial⟩<|ag<| ?_
 refine cC rfl (fun hN=> ?_) (fun hN=> ?_)
 ·have hE:x.d.bQ a c=1:=by rw[RD.bQ,if_pos hN]
  have hE0:¬(1:Int)=0:=by decide
  have hW:x.d.rename a c=x.d:=by rw[RD.rename,if_neg (by rw[hE];exact hE0)]
  rw[hE,hW]
  refine ah<|aj<|hy (fun m=>yV (a7 rfl cD bz rfl ((m.aX 1 rfl).az)) ((rfl:_=Value.agg x.cs.toArray)))<| ?_
  refine cH (aI 0 rfl rfl rfl bz rfl bO rfl ?_)
  refine hy (fun _=>ab rfl)<|ai<|al (ρ' :=[(7,_),(14,_),(8,_),(6,_),(3,_),(0,_),(1,_),(2,_)]) ⟨rfl,rfl,rfl,rfl,rfl,rfl,rfl,rfl,trivial⟩<|ak (X' :=[_,_]) (S' :=[_]) (fun _ m=>m)<|ag<|aV<|ax<| ?_
  exact ez trivial rfl rfl rfl cD bz rfl (fun m=>(m.aX 0 rfl).az) [] rfl [0] rfl ⟨x,rfl,rfl,rfl,rfl⟩
 ·have hE:x.d.bQ a c=x.d.ca a:=by rw[RD.bQ,if_neg hN]
  refine aD<|ag<|ah<|aj<|hy (fun m=>yV (a7 rfl cD bz rfl ((m.aX 1 rfl).az)) ((rfl:_=Value.agg x.cs.toArray)))<|hy (fun _=>aa rfl)<| ?_
  refine hx (aq rfl Tryz.call91 (ye (by omega) (by omega)) [] rfl [0] rfl ?_)
  rintro _ _ _ ⟨rfl,rfl,rfl⟩
  refine hy (fun _=>aa rfl)<|hy (fun _=>au rfl rfl)<|hy (fun _=>au rfl rfl)<|hy (fun _=>ab rfl)<|hy (fun _=>ab rfl)<|ai<|al (ρ' :=[(10,_),(14,_),(8,_),(7,_),(6,_),(3,_),(0,_),(1,_),(2,_)]) ⟨rfl,rfl,rfl,rfl,rfl,rfl,rfl,rfl,rfl,trivial⟩<|ak (X' :=[_,_]) (S' :=[_]) (fun _ m=>m)<|ag<|ah<|ah<|aj<|hy (fun _=>aa rfl)<|hy (fun _=>dL rfl rfl)<|ai<|al (ρ' :=[(23,_),(10,_),(14,_),(8,_),(7,_),(6,_),(3,_),(0,_),(1,_),(2,_)]) ⟨rfl,rfl,rfl,rfl,rfl,rfl,rfl,rfl,rfl,rfl,trivial⟩<|ag<| ?_
  refine cC rfl (fun hE0=> ?_) (fun hE0=> ?_)
  ·have hW:x.d.rename a c=x.d:=by rw[RD.rename,if_neg (by rw[hE];exact hE0)]
   rw[hE,hW]
   refine ah<|aj<|hy (fun m=>yV (a7 rfl cD bz rfl ((m.aX 1 rfl).az)) ((rfl:_=Value.agg x.cs.toArray)))<|hy (fun _=>aa rfl)<| ?_
   refine cH (aI 0 rfl rfl rfl bz rfl bO rfl ?_)
   refine hy (fun _=>ab rfl)<|ai<|al (ρ' :=[(7,_),(23,_),(10,_),(14,_),(8,_),(6,_),(3,_),(0,_),(1,_),(2,_)]) ⟨rfl,rfl,rfl,rfl,rfl,rfl,rfl,rfl,rfl,rfl,trivial⟩<|ak (X' :=[_,_]) (S' :=[_]) (fun _ m=>m)<|ag<|aV<|ax<| ?_
   exact ez trivial rfl rfl rfl cD bz rfl (fun m=>(m.aX 0 rfl).az) [] rfl [0] rfl ⟨x,rfl,rfl,rfl,rfl⟩
  ·have hr0:=Decidable.not_not.1 hE0
   have hW:x.d.rename a c=x.d.gj 1 a c []:=by rw[RD.rename,if_pos (by rw[hE];exact hr0)]
   rw[hE,hW,hr0]
   refine aD<|ag<|ah<|aj<|hy (fun m=>yV (a7 rfl cD bz rfl ((m.aX 1 rfl).az)) ((rfl:_=Value.agg x.cs.toArray)))<|hy (fun _=>aa rfl)<|hy (fun _=>aa rfl)<|hy (fun _=>yV (cn qu rfl rfl (by kernel_rfl) (.cons (o:=0) (sz:=1) (by kernel_rfl) rfl rfl (Nat.le_of_ble_eq_true rfl) (.cons (o:=1) (sz:=1) (by kernel_rfl) rfl rfl (Nat.le_of_ble_eq_true rfl) (.cons (o:=2) (sz:=1) (by kernel_rfl) rfl rfl (Nat.le_of_ble_eq_true rfl) .nil)))) ((rfl:_=Value.agg (cv 1 a c []).toArray)))<| ?_
   refine hx (aq rfl Tryz.call114 (Gc (by omega) (by omega)) [] rfl [0] rfl ?_)
   rintro _ _ _ ⟨y,rfl,rfl,rfl,hp⟩
   refine cH (aI 0 rfl rfl rfl bz rfl bO rfl ?_)
   refine hy (fun _=>ab rfl)<|ai<|al (ρ' :=[(7,_),(23,_),(10,_),(14,_),(8,_),(6,_),(3,_),(0,_),(1,_),(2,_)]) ⟨rfl,rfl,rfl,rfl,rfl,rfl,rfl,rfl,rfl,rfl,trivial⟩<|ak (X' :=[_,_]) (S' :=[_,_]) (fun _ m=>m)<|ag<|aV<| ?_
   exact ez trivial rfl rfl rfl cD bz rfl (fun m=>(m.aX 0 rfl).az) [] rfl [0] rfl ⟨y,rfl,rfl,rfl,hp⟩
def RD.cR(d:RD):Int:=if d.pw=0 then 6 else 0
def RD.sync(d:RD):RD:=if d.pw=0 then d else{d with cp:=d.seen,waits:=[],pw:=dG d.pw}
theorem uj{x:RX}{kk:Nat}(ok:z8 x.d kk):cf Tryz.prog 99 [.agg x.cs.toArray] [] [dH x] (fun v_ X_ S_=>∃y,v_=(.tuple #[.agg y.cs.toArray,.int .i64 x.d.cR])∧X_=[]∧S_=[dH y]∧(y.d=x.d.sync)):=by
 have hp1:=ok.p1
 have hp2:=ok.p2
 refine aO (N:=20) Tryz.func99 rfl rfl (by simp) fun b=> ?_
 refine ah<|aj<| ?_
 refine hx (cE rfl (fun g1=> ?_))
 refine aU (fun w m=>m.bU 0 rfl (show _=aJ g1 39 x.cs from congrArg (aJ _ _) (bB _))) ?_
 refine hx (aP iJ (fun g2=> ?_))
 refine hy (fun _=>ab rfl)<|ai<|ak (X' :=[_,_]) (S' :=[_]) (fun _ m=>m)<|ag<|ah<|ah<|aj<|hy (fun _=>aL rfl jE (by decide))<|hy (fun m=>aw rfl fG (aA (m.aX 1 rfl) (i:=4) rfl))<|hy (fun _=>cx rfl rfl)<|ai<|al (ρ' :=[(6,_),(3,_),(2,_),(1,_),(0,_)]) ⟨rfl,rfl,rfl,rfl,rfl,trivial⟩<|ag<| ?_
 refine cC rfl (fun h0=> ?_) (fun h0=> ?_)
 ·have hE:x.d.cR=6:=by rw[RD.cR,if_pos h0]
  have hW:x.d.sync=x.d:=by rw[RD.sync,if_pos h0]
  rw[hE,hW]
  refine ah<|aj<|hy (fun m=>yV (a7 rfl cD bz rfl ((m.aX 1 rfl).az)) ((rfl:_=Value.agg x.cs.toArray)))<| ?_
  refine cH (aI 0 rfl rfl rfl bz rfl bO rfl ?_)
  refine hy (fun _=>ab rfl)<|ai<|al (ρ' :=[(3,_),(6,_),(2,_),(1,_),(0,_)]) ⟨rfl,rfl,rfl,rfl,rfl,trivial⟩<|ak (X' :=[_,_]) (S' :=[_]) (fun _ m=>m)<|ag<|aV<|ax<| ?_
  exact ez trivial rfl rfl rfl cD bz rfl (fun m=>(m.aX 0 rfl).az) [] rfl [0] rfl ⟨x,rfl,rfl,rfl,rfl⟩
 ·have hE:x.d.cR=0:=by rw[RD.cR,if_neg h0]
  have hW:x.d.sync={x.d with cp:=x.d.seen,waits:=[],pw:=dG x.d.pw}:=by rw[RD.sync,if_neg h0]
  rw[hE]
  refine bw (fun w m=>m.kM 0 rfl View.C2) ?_
  refine a6 (fun m=>ki (m.rd 0 rfl)) ?_
  rintro⟨hl_r0,hA_r0⟩
  refine bw (fun w m=>m.nT (r' :=c6 4 none 0 []) (.refl _ _) (Rd.nil _ _ _) (fun k hk=>absurd rfl hk.1)) ?_
  have hA_z:0<0→(none:Option Addr)≠none:=fun h=>absurd h (by decide)
  refine aD<|ag<|ah<|aj<|hy (fun _=>aL rfl jA (by decide))<|hy (fun m=>aw rfl s5 (aA (m.aX 1 rfl) (i:=1) rfl))<|hy (fun _=>aL rfl Dc (by decide))<| ?_
  refine cH (cA 1 rfl rfl rfl ED rfl (by first|exact Nat.le_of_ble_eq_true rfl|simp) ?_)
  refine ai<|al (ρ' :=[(6,_),(3,_),(2,_),(1,_),(0,_)]) ⟨rfl,rfl,rfl,rfl,rfl,trivial⟩<|ak (X' :=[_,_]) (S' :=[_,_,_]) (fun _ m=>m)<|ag<|ah<|aj<|hy (fun _=>aL rfl tT (by decide))<| ?_
  refine cH (cA 0 rfl rfl rfl Fu rfl (by first|exact Nat.le_of_ble_eq_true rfl|simp) ?_)
  refine ai<|al (ρ' :=[(6,_),(3,_),(2,_),(1,_),(0,_)]) ⟨rfl,rfl,rfl,rfl,rfl,trivial⟩<|ak (X' :=[_,_]) (S' :=[_,_,_]) (fun _ m=>m)<|ag<|ah<|ah<|aj<|hy (fun _=>aL rfl jE (by decide))<|hy (fun m=>aw rfl fG (aA (m.aX 0 rfl) (i:=4) rfl))<|hy (fun _=>cQ rfl rfl)<|ai<|al (ρ' :=[(14,_),(6,_),(3,_),(2,_),(1,_),(0,_)]) ⟨rfl,rfl,rfl,rfl,rfl,rfl,trivial⟩<|ag<| ?_
  refine bw (S' :=dH ⟨{x.d with cp:=x.d.seen,waits:=[],pw:=dG x.d.pw},x.A,x.c,x.A,x.c,none,0⟩::_) (fun w m=>m.A5 [1,1,0] rfl) ?_
  refine cC rfl (fun h1=> ?_) (fun h1=> ?_)
  ·refine aj<|hy (fun _=>aL rfl jE (by decide))<|hy (fun m=>aw rfl fG (aA (m.aX 0 rfl) (i:=4) rfl))<|hy (fun _=>cg rfl rfl (bE (by omega) (by omega)))<|hy (fun _=>aL rfl jE (by decide))<| ?_
   refine cH (cA 0 rfl rfl rfl tG rfl (by first|exact Nat.le_of_ble_eq_true rfl|simp) ?_)
   refine ai<|al (ρ' :=[(14,_),(6,_),(3,_),(2,_),(1,_),(0,_)]) ⟨rfl,rfl,rfl,rfl,rfl,rfl,trivial⟩<|ak (X' :=[_,_]) (S' :=[_,_,_,_]) (fun _ m=>m)<|ag<|ah<|aj<| ?_
   refine aU (fun w m=>m.bU 0 rfl (show _=aJ g1 39 (RX.cs ⟨{x.d with cp:=x.d.seen,waits:=[],pw:=dG x.d.pw},x.A,x.c,x.A,x.c,none,0⟩)from by rw[dG,if_pos h1];rfl)) ?_
   refine hy (fun m=>yV (a7 rfl cD bz rfl ((m.aX 0 rfl).az)) ((rfl:_=Value.agg (RX.cs ⟨{x.d with cp:=x.d.seen,waits:=[],pw:=dG x.d.pw},x.A,x.c,x.A,x.c,none,0⟩).toArray)))<| ?_
   refine cH (aI 1 rfl rfl rfl bz rfl bO rfl ?_)
   refine hy (fun _=>ab rfl)<|ai<|al (ρ' :=[(3,_),(14,_),(6,_),(2,_),(1,_),(0,_)]) ⟨rfl,rfl,rfl,rfl,rfl,rfl,trivial⟩<|ak (X' :=[_,_]) (S' :=[_,_,_,_]) (fun _ m=>m)<|ag<|aV<| ?_
   exact ez trivial rfl rfl rfl cD bz rfl (fun m=>(m.aX 0 rfl).az) [] rfl [0] rfl ⟨_,rfl,rfl,rfl,hW.symm⟩
  ·refine aD<|ag<|ah<|aj<| ?_
   refine aU (fun w m=>m.bU 0 rfl (show _=aJ g1 39 (RX.cs ⟨{x.d with cp:=x.d.seen,waits:=[],pw:=dG x.d.pw},x.A,x.c,x.A,x.c,none,0⟩)from by rw[dG,if_neg h1];rfl)) ?_
   refine hy (fun m=>yV (a7 rfl cD bz rfl ((m.aX 0 rfl).az)) ((rfl:_=Value.agg (RX.cs ⟨{x.d with cp:=x.d.seen,waits:=[],pw:=dG x.d.pw},x.A,x.c,x.A,x.c,none,0⟩).toArray)))<| ?_
   refine cH (aI 1 rfl rfl rfl bz rfl bO rfl ?_)
   refine hy (fun _=>ab rfl)<|ai<|al (ρ' :=[(3,_),(14,_),(6,_),(2,_),(1,_),(0,_)]) ⟨rfl,rfl,rfl,rfl,rfl,rfl,trivial⟩<|ak (X' :=[_,_]) (S' :=[_,_,_,_]) (fun _ m=>m)<|ag<|aV<| ?_
   exact ez trivial rfl rfl rfl cD bz rfl (fun m=>(m.aX 0 rfl).az) [] rfl [0] rfl ⟨_,rfl,rfl,rfl,hW.symm⟩
end Go.Proofs.YtmibdabdlgmafaaGreatDoor
end
section
set_option maxRecDepth 20000
namespace Go.Proofs.YtmibdabdlgmafaaGreatDoor
open Go.Eng Go.Hx
theorem r6{α:Type}{f:α→List Value}{k:Nat}(hf:∀x,(f x).length=k):∀(l:List α) (i j:Nat) (x:α),l[i]? =some x→j<k→(l.flatMap f)[i*k+j]? =(f x)[j]?
 | [],i,j,x,h,hj=>by simp at h
 |a::r,0,j,x,h,hj=>by
  simp only[List.getElem?_cons_zero,Option.some.injEq]at h
  subst h
  rw[List.flatMap_cons,Nat.zero_mul,Nat.zero_add,List.getElem?_append_left (by rw[hf];exact hj)]
 |a::r,i+1,j,x,h,hj=>by
  rw[List.flatMap_cons,List.getElem?_append_right (by rw[hf,Nat.succ_mul];omega),hf,show(i+1)*k+j-k=i*k+j by rw[Nat.succ_mul];omega]
  exact r6 hf r i j x (by simpa using h) hj
theorem pn{α:Type}{f:α→List Value}{k:Nat}{w:World}{A:Option Addr}{n i:Nat}{l:List α}{x:α}(hf:∀x,(f x).length=k)(h:Rd w k A n (l.flatMap f))(hx:l[i]? =some x):∀(j:Nat) (u:Value),(f x)[j]? =some u→w.cell? (((A.getD d0).add (i*k)).add j)=some u:=by
 intro j u hu
 have hj:j<k:=by have:=(List.getElem?_eq_some_iff.1 hu).1;rwa [hf]at this
 exact fy h (by rw[r6 hf l i j x hx hj];exact hu)
end Go.Proofs.YtmibdabdlgmafaaGreatDoor
end
section
namespace Go.Proofs.YtmibdabdlgmafaaGreatDoor
open Go.Eng Go.Hx
theorem fS.del{fs:dz}{l:List FP}(h:fS fs l)(p:List UInt8):fS (ej fs p) (cU l p):=by
 refine⟨nz _ h.ord,lE h.nd,fun q=> ?_,fun x hx=> ?_⟩
 ·rw[w8 h.nd]
  have:=gM p l q
  unfold cU
  rw[this]
  by_cases hq:p=q
  ·rw[if_pos hq,if_pos hq.symm];rfl
  ·rw[if_neg hq,if_neg (fun e=>hq e.symm)];exact h.look q
 ·have h1:=m8 (List.mem_map.2 ⟨x,hx,rfl⟩)
  obtain⟨y,hy,e⟩:=List.mem_map.1 h1
  rw[←e];exact h.len y hy
theorem fS.at{fs:dz}{l:List FP}(h:fS fs l)(p:List UInt8):(bY fs p=none∧l[cr l p]? =none)∨∃r x,bY fs p=some r∧l[cr l p]? =some x∧r.l=x.2∧r.n=r.l.length:=by
 have h1:=h.look p
 rw[←fu]at h1
 cases ha:bY fs p with
 |none=>
  rw[ha]at h1
  cases hb:l[cr l p]? with
  |none=>exact .inl ⟨rfl,rfl⟩
  |some y=>rw[hb]at h1;cases h1
 |some r=>
  rw[ha]at h1
  cases hb:l[cr l p]? with
  |none=>rw[hb]at h1;cases h1
  |some y=>
   rw[hb]at h1
   exact .inr ⟨r,y,rfl,rfl,Option.some.inj h1,h.len _ (jd ha)⟩
def fI.rc:fI→RC
 | .written p r=>(0,p,[],r.l)
 | .renamed a c=>(1,a,c,[])
 | .removed p=>(2,p,[],[])
def fI.wl(c:fI):Prop:=∀r,c.row=some r→r.n=r.l.length
theorem fS.rR{fs:dz}{l:List FP}(h:fS fs l){c:fI}(hc:c.wl):fS (rR fs c) (dw l c.rc.1 c.rc.2.1 c.rc.2.2.1 c.rc.2.2.2):=by
 cases c with
 |written p r=>
  rw[dw]
  exact h.put (hc r rfl)
 |renamed a b=>
  rw[dw]
  simp only[fI.rc,Go.Proofs.YtmibdabdlgmafaaGreatDoor.rR]
  rcases h.at a with⟨h1,h2⟩|⟨r,x,h1,h2,h3,h4⟩
  ·simp only[h1,h2];exact h
  ·simp only[h1,h2]
   rw[←h3]
   exact(h.del a).put h4
 |removed p=>
  rw[dw]
  simp only[fI.rc,Go.Proofs.YtmibdabdlgmafaaGreatDoor.rR]
  rcases h.at p with⟨h1,h2⟩|⟨r,x,h1,h2,h3,h4⟩
  ·simp only[h2]
   have e:ej fs p=fs:=by
    have hk:¬p∈b7 fs:=je.1 h1
    clear h h2 h1
    induction fs with
    |nil=>rfl
    |cons a q ih=>
     obtain⟨k,u⟩:=a
     simp only[b7,List.map_cons,List.mem_cons,not_or]at hk
     simp only[ej]
     rw[if_neg (fun e=>hk.1 e.symm),ih hk.2]
   rw[if_neg (by decide),e];exact h
  ·simp only[h2]
   rw[if_neg (by decide)]
   exact h.del p
structure DS(st:cF)(d:RD)(k:Nat):Prop where
 mH:uJ st d
 ok:nU st k
 low:-1≤d.pw
 cp:fS st.cp d.cp
 waits:st.waits.map fI.rc=d.waits
 Fj:∀c∈st.waits,c.wl
theorem DS.le{st:cF}{d:RD}{k k' :Nat}(h:DS st d k)(hk:k≤k'):DS st d k' :=⟨h.mH,h.ok.le hk,h.low,h.cp,h.waits,h.Fj⟩
theorem DS.ug{st:cF}{d:RD}{k:Nat}(h:DS st d k):z8 d k:=by
 refine⟨?_, ?_, ?_,by have:=h.low;omega, ?_⟩
 ·rw[←h.mH.files.DH];exact h.ok.seen
 ·rw[←h.mH.waits];have:=h.ok.rest;omega
 ·rw[←h.mH.files.lp];exact h.ok.lp
 ·rw[←h.mH.cj];exact h.ok.cj
theorem DS.init{n:Int}{gs gl:Nat}(h:n≤1048576):DS (mE n gs gl) (RD.new n) 0:=
 ⟨⟨rfl,rfl,fS.nil,rfl⟩,nU.init h,Int.le_refl _,fS.nil,rfl,fun c hc=>by cases hc⟩
theorem qb{p:Int}(h:-1≤p):-1≤dG p:=by
 unfold dG
 split <;> omega
theorem DS.gj{st:cF}{d:RD}{k:Nat}(h:DS st d k){c:fI}(hc:c.wl){st1:cF}(hs:st1.room=st.room∧st1.cp=st.cp∧st1.cj=st.eu.cj∧st1.seen=rR st.seen c∧st1.waits=st.waits++[c])(ok:nU st1 (k+1)):
  DS st1 (d.gj c.rc.1 c.rc.2.1 c.rc.2.2.1 c.rc.2.2.2) (k+1):=by
 obtain⟨h1,h2,h3,h4,h5⟩:=hs
 refine⟨⟨h1.trans h.mH.room, ?_, ?_, ?_⟩,ok,qb h.low, ?_, ?_,fun x hx=> ?_⟩
 ·rw[h3]
  show(if 0<st.cj then st.cj-1 else st.cj)=dG d.pw
  rw[h.mH.cj];rfl
 ·rw[h4];exact h.mH.files.rR hc
 ·rw[h5,List.length_append,h.mH.waits]
  show _=(d.waits++[_]).length
  rw[List.length_append];rfl
 ·rw[h2];exact h.cp
 ·rw[h5,List.map_append,h.waits];rfl
 ·rw[h5]at hx
  rcases List.mem_append.1 hx with hx|hx
  ·exact h.Fj x hx
  ·rw[List.mem_singleton.1 hx];exact hc
theorem DS.write{st st1:cF}{d:RD}{k n:Nat}(h:DS st d k){p l:List UInt8}{B A:Option Addr}{c1 c2:Nat}(hl:l.length=n)(hn:n≤1048576)
  (hw:(bD st p n≠0∧st1=st)∨(bD st p n=0∧st1=st.wrote p ⟨B,n,c1,l⟩ A c2)):DS st1 (d.write p l) (k+1)∧d.bD p l=bD st p n:=by
 subst hl
 have e:=h.mH.bD p l
 refine⟨?_,e.symm⟩
 unfold RD.write
 rw[←e]
 rcases hw with⟨h1,rfl⟩|⟨h1,rfl⟩
 ·rw[if_neg h1];exact h.le (Nat.le_succ _)
 ·rw[if_pos h1]
  exact h.gj (c:=.written p ⟨B,l.length,c1,l⟩) (fun r hr=>by cases hr;rfl) ⟨rfl,rfl,rfl,rfl,rfl⟩ (h.ok.wrote hn A c2)
theorem DS.ca{st:cF}{d:RD}{k:Nat}(h:DS st d k)(p:List UInt8):d.ca p=dE st p:=(h.mH.ca p).symm
theorem DS.ct{st:cF}{d:RD}{k:Nat}(h:DS st d k)(p:List UInt8):d.ct p=ct st p:=(h.mH.ct p).symm
theorem DS.rename{st st1:cF}{d:RD}{k:Nat}(h:DS st d k){a c:List UInt8}{A:Option Addr}{j:Nat}
  (hw:(bQ st a c≠0∧st1=st)∨(bQ st a c=0∧st1=st.gj (.renamed a c) A j)):DS st1 (d.rename a c) (k+1)∧d.bQ a c=bQ st a c:=by
 have e:d.bQ a c=bQ st a c:=by
  unfold RD.bQ Go.Proofs.YtmibdabdlgmafaaGreatDoor.bQ
  rw[h.ca]
 refine⟨?_,e⟩
 unfold RD.rename
 rw[e]
 rcases hw with⟨h1,rfl⟩|⟨h1,rfl⟩
 ·rw[if_neg h1];exact h.le (Nat.le_succ _)
 ·rw[if_pos h1]
  exact h.gj (c:=.renamed a c) (fun r hr=>by cases hr) ⟨rfl,rfl,rfl,rfl,rfl⟩ (h.ok.gj rfl A j)
theorem DS.remove{st st1:cF}{d:RD}{k:Nat}(h:DS st d k){p:List UInt8}{A:Option Addr}{j:Nat}
  (hw:(dE st p≠0∧st1=st)∨(dE st p=0∧st1=st.gj (.removed p) A j)):DS st1 (d.remove p) (k+1):=by
 unfold RD.remove
 rw[h.ca]
 rcases hw with⟨h1,rfl⟩|⟨h1,rfl⟩
 ·rw[if_neg h1];exact h.le (Nat.le_succ _)
 ·rw[if_pos h1]
  exact h.gj (c:=.removed p) (fun r hr=>by cases hr) ⟨rfl,rfl,rfl,rfl,rfl⟩ (h.ok.gj rfl A j)
theorem DS.sync{st st1:cF}{d:RD}{k gl:Nat}(h:DS st d k)(hw:(st.cj=0∧st1=st)∨(st.cj≠0∧st1=st.synced gl)):DS st1 d.sync k∧d.cR=cR st:=by
 have e:d.cR=cR st:=by unfold RD.cR Go.Proofs.YtmibdabdlgmafaaGreatDoor.cR;rw[h.mH.cj]
 refine⟨?_,e⟩
 unfold RD.sync
 rw[←h.mH.cj]
 rcases hw with⟨h1,rfl⟩|⟨h1,rfl⟩
 ·rw[if_pos h1];exact h
 ·rw[if_neg h1]
  refine⟨⟨h.mH.room, ?_,h.mH.files,rfl⟩,h.ok.synced gl, ?_,h.mH.files,rfl,fun c hc=>by cases hc⟩
  ·rfl
  ·rw[h.mH.cj];exact qb h.low
def RD.ok(d:RD)(k:Nat):Prop:=∃st,DS st d k
theorem RD.ok.ug{d:RD}{k:Nat}(h:d.ok k):z8 d k:=by obtain⟨st,h⟩:=h;exact h.ug
theorem RD.ok.write{d:RD}{k:Nat}(h:d.ok k){p l:List UInt8}(hl:l.length≤1048576):(d.write p l).ok (k+1):=by
 obtain⟨st,h⟩:=h
 by_cases he:Go.Proofs.YtmibdabdlgmafaaGreatDoor.bD st p l.length=0
 ·exact⟨_,(h.write (st1:=st.wrote p ⟨none,l.length,0,l⟩ none 0) rfl hl (.inr ⟨he,rfl⟩)).1⟩
 ·exact⟨_,(h.write (B:=none) (A:=none) (c1:=0) (c2:=0) (st1:=st) rfl hl (.inl ⟨he,rfl⟩)).1⟩
theorem RD.ok.rename{d:RD}{k:Nat}(h:d.ok k){a c:List UInt8}:(d.rename a c).ok (k+1):=by
 obtain⟨st,h⟩:=h
 by_cases he:Go.Proofs.YtmibdabdlgmafaaGreatDoor.bQ st a c=0
 ·exact⟨_,(h.rename (st1:=st.gj (.renamed a c) none 0) (.inr ⟨he,rfl⟩)).1⟩
 ·exact⟨_,(h.rename (A:=none) (j:=0) (st1:=st) (.inl ⟨he,rfl⟩)).1⟩
theorem RD.ok.sync{d:RD}{k:Nat}(h:d.ok k):d.sync.ok k:=by
 obtain⟨st,h⟩:=h
 by_cases he:st.cj=0
 ·exact⟨_,(h.sync (gl:=0) (st1:=st) (.inl ⟨he,rfl⟩)).1⟩
 ·exact⟨_,(h.sync (st1:=st.synced 0) (.inr ⟨he,rfl⟩)).1⟩
end Go.Proofs.YtmibdabdlgmafaaGreatDoor
end
section
namespace Go.Hx
open Go.Eng
def chunks(k:Nat)(l:List UInt8):List (List UInt8):=(List.range k).map fun i=>(l.drop (32*i)).take 32
def j5(l:List UInt8):Nat:=(l.getD 0 0).toNat+256*(l.getD 1 0).toNat+65536*(l.getD 2 0).toNat+16777216*(l.getD 3 0).toNat
theorem AT(l:List UInt8):j5 l<4294967296:=by
 have h0:=(l.getD 0 0).toNat_lt
 have h1:=(l.getD 1 0).toNat_lt
 have h2:=(l.getD 2 0).toNat_lt
 have h3:=(l.getD 3 0).toNat_lt
 unfold j5
 omega
theorem xE{n:Nat}(h:n<4294967296):j5 (gk n)=n:=by
 simp only[gk,j5,List.getD_cons_zero,List.getD_cons_succ,UInt8.toNat_ofNat']
 omega
end Go.Hx
end
section
namespace Go.Hx
open Go.Eng
def acc(l:List UInt8):Nat→Nat
 |0=>0
 |j+1=>acc l j*256+(l.getD (3-j) 0).toNat
theorem yx(l:List UInt8):∀j,acc l j<256 ^ j
 |0=>by simp[acc]
 |j+1=>by
  have h1:=yx l j
  have h2:=(l.getD (3-j) 0).toNat_lt
  rw[acc,Nat.pow_succ]
  omega
theorem C3(l:List UInt8){j:Nat}(h:j≤4):acc l j<4294967296:=by
 have h1:=yx l j
 have h2:256 ^ j≤256 ^ 4:=Nat.pow_le_pow_right (by decide) h
 have h3:256 ^ 4=4294967296:=by decide
 omega
theorem Gi(l:List UInt8):acc l 4=j5 l:=by
 have e:(3-0=3)∧(3-1=2)∧(3-2=1)∧(3-3=0):=by decide
 simp only[acc,j5,e.1,e.2.1,e.2.2.1,e.2.2.2]
 omega
theorem AL(a b:Nat)(ha:a<4294967296)(hb:b<256):bits .or .i64 (a*256:Int) (b:Int)=((a*256+b:Nat):Int):=by
 have h1:(a*256:Int)=((a*256:Nat):Int):=by simp
 have h2:a*256 ||| b=a*256+b:=by rw[Nat.mul_comm a 256,show 256=2 ^ 8 from rfl,Nat.two_pow_add_eq_or_of_lt (by simpa using hb)]
 have e0:∀n:Nat,n<18446744073709551616→(BitVec.ofInt 64 (n:Int)).toNat=n:=fun n hn=>by
  rw[BitVec.toNat_ofInt]
  simp
  omega
 rw[h1]
 show IntKind.i64.wrap ((BitVec.ofInt 64 ((a*256:Nat):Int) ||| BitVec.ofInt 64 (b:Int)).toNat:Int)=_
 rw[BitVec.toNat_or,e0 _ (by omega),e0 _ (by omega),h2]
 exact bE (by omega) (by omega)
end Go.Hx
end
section
namespace Go.Hx
open Go.Eng
def cB(l:List UInt8):Nat×Nat×Nat×Bool:=
 if(l.getD 0 0).toNat<128 then((l.getD 0 0).toNat+2,(l.getD 0 0).toNat+1,0,decide ((l.getD 0 0).toNat+2≤l.length))
 else if l.length<3 then(0,0,0,false)else(3,(l.getD 0 0).toNat-124,1+(l.getD 1 0).toNat+256*(l.getD 2 0).toNat,true)
def again(d:Nat):Nat→List UInt8→List UInt8
 |0,o=>o
 |k+1,o=>again d k (o++[o.getD (o.length-d) 0])
theorem l0(d:Nat):∀(k:Nat) (o:List UInt8),(again d k o).length=o.length+k
 |0,o=>rfl
 |k+1,o=>by rw[again,l0 d k];simp;omega
theorem kV{l:List UInt8}(h:(cB l).2.2.2=true):2≤(cB l).1∧(cB l).1≤l.length:=by
 unfold cB at h ⊢
 split at h
 ·rename_i h1
  rw[if_pos h1]
  have:=of_decide_eq_true h
  exact⟨by show 2≤_+2;omega,this⟩
 ·rename_i h1
  rw[if_neg h1]
  split at h
  ·cases h
  ·rename_i h2
   rw[if_neg h2]
   exact⟨by show 2≤3;decide,by show 3≤_;omega⟩
theorem Ds(l:List UInt8):(cB l).2.1≤131∧(cB l).2.2.1≤65536:=by
 have h0:=(l.getD 0 0).toNat_lt
 have h1:=(l.getD 1 0).toNat_lt
 have h2:=(l.getD 2 0).toNat_lt
 unfold cB
 split
 ·exact⟨by show _+1≤_;omega,by show 0≤_;omega⟩
 ·split
  ·exact⟨by show 0≤_;omega,by show 0≤_;omega⟩
  ·exact⟨by show _-124≤_;omega,by show 1+_+256*_≤_;omega⟩
def made(l o:List UInt8):List UInt8:=if(cB l).2.2.1=0 then o++(l.drop 1).take ((cB l).1-1)else again (cB l).2.2.1 (cB l).2.1 o
def jo(most:Int)(l o:List UInt8):List UInt8×Int:=
 if h0:l=[]then(o,0)
 else if h1:(cB l).2.2.2=true then
  if o.length<(cB l).2.2.1 then([],2)else if most<(o.length:Int)+((cB l).2.1:Nat)then([],3)else jo most (l.drop (cB l).1) (made l o)
 else([],2)
termination_by l.length
decreasing_by
 obtain⟨h2,h3⟩:=kV h1
 rw[List.length_drop]
 omega
theorem oa(most:Int)(o:List UInt8):jo most [] o=(o,0):=by
 rw[jo]
 rfl
theorem kL{most:Int}{l o:List UInt8}(h0:l≠ [])(h:¬((cB l).2.2.2=true∧(cB l).2.2.1≤o.length)):jo most l o=([],2):=by
 rw[jo,dif_neg h0]
 split
 ·rename_i h1
  rw[if_pos (Nat.lt_of_not_le fun h2=>h ⟨h1,h2⟩)]
 ·rfl
theorem om{most:Int}{l o:List UInt8}(h0:l≠ [])(h1:(cB l).2.2.2=true)(h2:(cB l).2.2.1≤o.length)(h3:most<(o.length:Int)+((cB l).2.1:Nat)):jo most l o=([],3):=by
 rw[jo,dif_neg h0,dif_pos h1,if_neg (by omega),if_pos h3]
theorem mR{most:Int}{l o:List UInt8}(h0:l≠ [])(h1:(cB l).2.2.2=true)(h2:(cB l).2.2.1≤o.length)(h3:¬most<(o.length:Int)+((cB l).2.1:Nat)):jo most l o=jo most (l.drop (cB l).1) (made l o):=by
 rw[jo,dif_neg h0,dif_pos h1,if_neg (by omega),if_neg h3]
theorem nr{l o:List UInt8}(h1:(cB l).2.2.2=true):(made l o).length=o.length+(cB l).2.1:=by
 unfold made
 split
 ·rename_i h0
  obtain⟨h2,h3⟩:=kV h1
  have e:(cB l).1-1=(cB l).2.1:=by
   unfold cB at h0 h1 ⊢
   split
   ·show _+2-1=_+1;omega
   ·split
    ·rename_i a1 a2;rw[if_neg a1,if_pos a2]at h1;cases h1
    ·rename_i a1 a2;rw[if_neg a1,if_neg a2]at h0;simp at h0
  rw[List.length_append,List.length_take,List.length_drop,e]
  omega
 ·exact l0 _ _ _
end Go.Hx
end
section
namespace Go.Hx
open Go.Eng
def kY(b:List UInt8)(i k:Nat):Nat→Nat→Nat
 |0,n=>n
 |f+1,n=>if i+n<b.length∧b.getD (i+n) 0=b.getD (k+n) 0 then kY b i k f (n+1)else n
def lv(b:List UInt8)(i k:Nat):Nat:=kY b i k 131 0
theorem gh(b:List UInt8)(i k:Nat):∀f n,n≤kY b i k f n∧kY b i k f n≤n+f∧(i+n≤b.length→i+kY b i k f n≤b.length)∧∀j,n≤j→j<kY b i k f n→b.getD (i+j) 0=b.getD (k+j) 0
 |0,n=>⟨Nat.le_refl _,Nat.le_refl _,fun h=>h,fun j h1 h2=>by simp only[kY]at h2;omega⟩
 |f+1,n=>by
  unfold kY
  split
  ·rename_i h
   obtain⟨h1,h2,h3,h4⟩:=gh b i k f (n+1)
   refine⟨by omega,by omega,fun _=>h3 (by omega),fun j hj hj2=> ?_⟩
   rcases Nat.eq_or_lt_of_le hj with e|e
   ·rw[←e];exact h.2
   ·exact h4 j e hj2
  ·exact⟨Nat.le_refl _,by omega,fun h=>h,fun j h1 h2=>by omega⟩
theorem CT(b:List UInt8)(i k:Nat):lv b i k≤131:=by have:=(gh b i k 131 0).2.1;unfold lv;omega
theorem yQ{b:List UInt8}{i:Nat}(k:Nat)(h:i≤b.length):i+lv b i k≤b.length:=(gh b i k 131 0).2.2.1 (by omega)
theorem oZ{b:List UInt8}{i k j:Nat}(h:j<lv b i k):b.getD (i+j) 0=b.getD (k+j) 0:=(gh b i k 131 0).2.2.2 j (Nat.zero_le _) h
theorem kR{b:List UInt8}{i k f n:Nat}(h:¬(i+n<b.length∧b.getD (i+n) 0=b.getD (k+n) 0)):kY b i k f n=n:=by
 cases f with
 |zero=>rfl
 |succ f=>rw[kY,if_neg h]
theorem gK{b:List UInt8}{i k f n:Nat}(hf:0<f)(h:i+n<b.length∧b.getD (i+n) 0=b.getD (k+n) 0):kY b i k f n=kY b i k (f-1) (n+1):=by
 cases f with
 |zero=>omega
 |succ f=>rw[kY,if_pos h];rfl
def ee(b:List UInt8)(p:Nat):List UInt8:=(b.drop p).take 4
theorem bC{b:List UInt8}{p:Nat}(h:p+4≤b.length):(ee b p).length=4:=by unfold ee;rw[List.length_take,List.length_drop];omega
theorem Bq{b:List UInt8}{i p:Nat}(hi:i+4≤b.length)(hp:p<i):ee b p=ee b i↔3<lv b i p:=by
 have e:∀q,q+4≤b.length→ee b q=[b.getD (q+0) 0,b.getD (q+1) 0,b.getD (q+2) 0,b.getD (q+3) 0]:=by
  intro q hq
  apply List.ext_getElem?
  intro j
  unfold ee
  rw[List.getElem?_take,List.getElem?_drop]
  rcases j with _|_|_|_|j
  all_goals simp
  all_goals (try (rw[List.getElem?_eq_getElem (by omega)];rfl))
  all_goals (try (intro h;omega))
 rw[e p (by omega),e i hi]
 constructor
 ·intro h
  simp only[List.cons.injEq,and_true]at h
  have e0:lv b i p=kY b i p 127 4:=by
   unfold lv
   rw[gK (by decide) ⟨by omega,h.1.symm⟩,gK (by decide) ⟨by omega,h.2.1.symm⟩,gK (by decide) ⟨by omega,h.2.2.1.symm⟩,gK (by decide) ⟨by omega,h.2.2.2.symm⟩]
  rw[e0]
  exact(gh b i p 127 4).1
 ·intro h
  simp only[List.cons.injEq,and_true]
  exact⟨(oZ (by omega)).symm,(oZ (by omega)).symm,(oZ (by omega)).symm,(oZ (by omega)).symm⟩
def fX(b:List UInt8)(i:Nat)(s:Nat×Nat)(d:Nat):Nat×Nat:=if 3<lv b i (i-d)∧s.1<lv b i (i-d)then(lv b i (i-d),d)else s
def b8(b:List UInt8)(i k:Nat):Nat×Nat:=(List.range' 1 k).foldl (fX b i) (0,0)
theorem dC(b:List UInt8)(i k:Nat):b8 b i (k+1)=fX b i (b8 b i k) (k+1):=by
 unfold b8
 rw[List.range'_concat,List.foldl_append]
 simp[Nat.add_comm]
def aT(b:List UInt8)(i:Nat):Nat×Nat:=b8 b i (min i 1024)
def fB(b:List UInt8)(i:Nat)(s:Nat×Nat)(p:Nat):Nat×Nat:=if 1024<i-p then s else if s.1<lv b i p then(lv b i p,i-p)else s
def j4(b:List UInt8)(n:Nat)(k:List UInt8):List Nat:=(List.range n).filter fun p=>decide (ee b p=k)
theorem xf(b:List UInt8)(n:Nat)(k:List UInt8):j4 b (n+1) k=j4 b n k++if ee b n=k then [n]else []:=by
 unfold j4
 rw[List.range_succ,List.filter_append]
 congr 1
 by_cases h:ee b n=k <;> simp[h]
theorem By{b:List UInt8}{n p:Nat}{k:List UInt8}(h:p∈j4 b n k):p<n∧ee b p=k:=by
 unfold j4 at h
 simpa using h
theorem np(b:List UInt8)(n:Nat)(k:List UInt8):(j4 b n k).length≤n:=by
 unfold j4
 exact Nat.le_trans (List.length_filter_le _ _) (by simp)
theorem xp(i:Nat):(List.range i).reverse=(List.range' 1 i).map fun d=>i-d:=by
 apply List.ext_getElem
 ·simp
 ·intro j h1 h2
  simp
  omega
theorem jF{α β:Type}(f:β→α→β)(s:β):∀(l:List α),(∀x∈l,∀t,f t x=t)→l.foldl f s=s
 | [],_=>rfl
 |x::l,h=>by
  rw[List.foldl_cons,h x (by simp) s]
  exact jF f s l (fun y hy=>h y (List.mem_cons_of_mem _ hy))
theorem sP{b:List UInt8}{i:Nat}(hi:i+4≤b.length):(j4 b i (ee b i)).reverse.foldl (fB b i) (0,0)=aT b i:=by
 unfold j4 aT
 rw[←List.filter_reverse,xp,List.filter_map,List.foldl_map,List.foldl_filter]
 have h1:∀(l:List Nat) (s:Nat×Nat),(∀d∈l,1≤d∧d≤i)→l.foldl (fun s d=>if((fun p=>decide (ee b p=ee b i)) ∘ fun d=>i-d) d=true then fB b i s (i-d)else s) s=l.foldl (fun s d=>if 1024<d then s else fX b i s d) s:=by
  intro l
  induction l with
  |nil=>intro s _;rfl
  |cons d l ih=>
   intro s hd
   simp only[List.foldl_cons]
   rw[ih _ (fun x hx=>hd x (List.mem_cons_of_mem _ hx))]
   congr 1
   obtain⟨hd1,hd2⟩:=hd d (by simp)
   have e:=Bq (p:=i-d) hi (by omega)
   simp only[Function.comp_apply,decide_eq_true_eq]
   unfold fB fX
   rw[show i-(i-d)=d by omega]
   by_cases hk:ee b (i-d)=ee b i
   ·rw[if_pos hk]
    have:=e.1 hk
    split
    ·rfl
    ·by_cases h:s.1<lv b i (i-d)
     ·rw[if_pos h,if_pos ⟨this,h⟩]
     ·rw[if_neg h,if_neg (fun q=>h q.2)]
   ·rw[if_neg hk]
    split
    ·rfl
    ·rw[if_neg (fun q=>hk (e.2 q.1))]
 rw[h1 _ _ (fun d hd=>by simp at hd;omega)]
 have h2:List.range' 1 i=List.range' 1 (min i 1024)++List.range' (1+min i 1024) (i-min i 1024):=by
  rw[List.range'_append_1]
  congr 1
  omega
 rw[h2,List.foldl_append,jF _ _ (List.range' (1+min i 1024) (i-min i 1024))]
 ·unfold b8
  have h3:∀(l:List Nat) (s:Nat×Nat),(∀d∈l,d≤1024)→l.foldl (fun s d=>if 1024<d then s else fX b i s d) s=l.foldl (fX b i) s:=by
   intro l
   induction l with
   |nil=>intro s _;rfl
   |cons d l ih=>
    intro s hd
    simp only[List.foldl_cons]
    rw[if_neg (by have:=hd d (by simp);omega)]
    exact ih _ (fun x hx=>hd x (List.mem_cons_of_mem _ hx))
  exact h3 _ _ (fun d hd=>by simp at hd;omega)
 ·intro d hd t
  simp at hd
  rw[if_pos (by omega)]
theorem s3(b:List UInt8)(n:Nat)(k:List UInt8):(j4 b n k).Pairwise (· <·):=(List.pairwise_lt_range).filter _
theorem we{b:List UInt8}{i n x:Nat}{k:List UInt8}{pre rest:List Nat}{s:Nat×Nat}(h:(j4 b n k).reverse=pre++x::rest)(hx:1024<i-x):(j4 b n k).reverse.foldl (fB b i) s=pre.foldl (fB b i) s:=by
 have hs:(pre++x::rest).Pairwise (· >·):=by
  rw[←h,List.pairwise_reverse]
  exact s3 b n k
 rw[h,List.foldl_append]
 refine jF _ _ _ fun y hy t=> ?_
 have h1:=(List.pairwise_cons.1 (List.pairwise_append.1 hs).2.1).1
 unfold fB
 rw[if_pos]
 rcases List.mem_cons.1 hy with rfl|hy
 ·exact hx
 ·have:=h1 y hy
  omega
theorem sQ{b:List UInt8}{i:Nat}(hi:i≤b.length)(h:b.length<i+4):aT b i=(0,0):=by
 unfold aT b8
 refine jF _ _ _ fun d hd t=> ?_
 unfold fX
 rw[if_neg]
 intro q
 have:=yQ (i-d) hi
 omega
theorem qK(b:List UInt8)(i:Nat)(hi:i≤b.length):∀k,k≤i→(b8 b i k=(0,0))∨(4≤(b8 b i k).1∧(b8 b i k).1≤131∧1≤(b8 b i k).2∧(b8 b i k).2≤k∧i+(b8 b i k).1≤b.length∧(b8 b i k).1=lv b i (i-(b8 b i k).2))
 |0,_=>.inl rfl
 |k+1,hk=>by
  rw[dC]
  unfold fX
  split
  ·rename_i h
   exact .inr ⟨by show 4≤lv _ _ _;omega,CT _ _ _,by show 1≤k+1;omega,Nat.le_refl _,yQ _ hi,rfl⟩
  ·rcases qK b i hi k (by omega)with h|h
   ·exact .inl h
   ·exact .inr ⟨h.1,h.2.1,h.2.2.1,by omega,h.2.2.2.2.1,h.2.2.2.2.2⟩
theorem kB{b:List UInt8}{i:Nat}(hi:i≤b.length):(aT b i=(0,0))∨(4≤(aT b i).1∧(aT b i).1≤131∧1≤(aT b i).2∧(aT b i).2≤min i 1024∧i+(aT b i).1≤b.length∧(aT b i).1=lv b i (i-(aT b i).2)):=qK b i hi _ (by omega)
def ef(l:List UInt8):List UInt8:=if h:l=[]then []else UInt8.ofNat (min l.length 128-1)::l.take 128++ef (l.drop 128)
termination_by l.length
decreasing_by
 have:=List.length_pos_iff.2 h
 rw[List.length_drop]
 omega
theorem l5:ef []=[]:=by rw[ef];rfl
theorem kC{l:List UInt8}(h:l≠ []):ef l=UInt8.ofNat (min l.length 128-1)::l.take 128++ef (l.drop 128):=by rw[ef,dif_neg h]
theorem fa(l:List UInt8):(ef l).length≤2*l.length:=by
 by_cases h:l=[]
 ·subst h;rw[l5];simp
 ·have hp:=List.length_pos_iff.2 h
  have hd:(l.drop 128).length=l.length-128:=List.length_drop
  have:=fa (l.drop 128)
  rw[kC h]
  simp only[List.length_append,List.length_cons,List.length_take]
  omega
termination_by l.length
decreasing_by
 rw[List.length_drop]
 have:=List.length_pos_iff.2 h
 omega
def fJ(m:Nat×Nat):List UInt8:=[UInt8.ofNat (124+m.1),UInt8.ofNat (m.2-1),UInt8.ofNat ((m.2-1)/256)]
def gp(b:List UInt8)(i:Nat)(own out:List UInt8):List UInt8:=
 if h:i<b.length then
  if h0:(aT b i).1=0 then gp b (i+1) (own++[b.getD i 0]) out
  else gp b (i+(aT b i).1) [] (out++ef own++fJ (aT b i))
 else out++ef own
termination_by b.length-i
def ei(b:List UInt8):List UInt8:=gp b 0 [] []
theorem kH{b own out:List UInt8}{i:Nat}(h:¬i<b.length):gp b i own out=out++ef own:=by rw[gp,dif_neg h]
theorem kK{b own out:List UInt8}{i:Nat}(h:i<b.length)(h0:(aT b i).1=0):gp b i own out=gp b (i+1) (own++[b.getD i 0]) out:=by rw[gp,dif_pos h,dif_pos h0]
theorem iw{b own out:List UInt8}{i:Nat}(h:i<b.length)(h0:(aT b i).1≠0):gp b i own out=gp b (i+(aT b i).1) [] (out++ef own++fJ (aT b i)):=by rw[gp,dif_pos h,dif_neg h0]
theorem jD:∀(b:List UInt8) (i:Nat) (own out:List UInt8),i≤b.length→out.length+2*own.length≤2*i→(gp b i own out).length≤2*b.length
 |b,i,own,out,hi,h=>by
  by_cases hlt:i<b.length
  ·by_cases h0:(aT b i).1=0
   ·rw[kK hlt h0]
    exact jD b (i+1) _ _ (by omega) (by simp;omega)
   ·rw[iw hlt h0]
    rcases kB hi with hm|hm
    ·rw[hm]at h0;exact absurd rfl h0
    ·have:=fa own
     exact jD b _ _ _ (by omega) (by simp[fJ];omega)
  ·rw[kH hlt,List.length_append]
   have:=fa own
   omega
termination_by b i=>b.length-i
theorem lU(b:List UInt8):(ei b).length≤2*b.length:=jD b 0 [] [] (Nat.zero_le _) (by simp)
theorem AE{k:Nat}{l r:List UInt8}(hk:k<128)(hl:l.length=k+1):cB (UInt8.ofNat k::(l++r))=(k+2,k+1,0,true):=by
 have e:(UInt8.ofNat k).toNat=k:=by rw[UInt8.toNat_ofNat',Nat.mod_eq_of_lt (by omega)]
 unfold cB
 rw[List.getD_cons_zero,e,if_pos hk]
 simp only[List.length_cons,List.length_append,hl]
 congr 3
 exact decide_eq_true (by omega)
theorem pr{most:Int}(l r o:List UInt8)(hm:(o.length:Int)+l.length≤most):jo most (ef l++r) o=jo most r (o++l):=by
 by_cases h:l=[]
 ·subst h;rw[l5];simp
 ·have hp:=List.length_pos_iff.2 h
  have hk:min l.length 128-1<128:=by omega
  have htl:(l.take 128).length=(min l.length 128-1)+1:=by rw[List.length_take];omega
  have hsp:l.take 128++l.drop 128=l:=List.take_append_drop 128 l
  have hlen:l.length=(l.take 128).length+(l.drop 128).length:=by rw[←List.length_append,hsp]
  rw[kC h,List.append_assoc,List.cons_append]
  have ht:=AE (r:=ef (l.drop 128)++r) hk htl
  rw[mR (by simp) (by rw[ht]) (by rw[ht];exact Nat.zero_le _) (by rw[ht];simp only;omega)]
  have hmd:made (UInt8.ofNat (min l.length 128-1)::(l.take 128++(ef (l.drop 128)++r))) o=o++l.take 128:=by
   unfold made
   rw[ht,if_pos rfl]
   simp only[List.drop_succ_cons,List.drop_zero]
   rw[List.take_append_of_le_length (by omega),List.take_of_length_le (by omega)]
  rw[hmd,ht]
  have hdr:(UInt8.ofNat (min l.length 128-1)::(l.take 128++(ef (l.drop 128)++r))).drop (min l.length 128-1+2)=ef (l.drop 128)++r:=by
   rw[show min l.length 128-1+2=(l.take 128).length+1 by omega,List.drop_succ_cons,List.drop_left]
  simp only
  rw[hdr,pr (l.drop 128) r (o++l.take 128) (by rw[List.length_append];omega),List.append_assoc,hsp]
termination_by l.length
decreasing_by
 rw[List.length_drop]
 have:=List.length_pos_iff.2 h
 omega
theorem nP{b:List UInt8}{i d:Nat}(hd:1≤d)(hdi:d≤i):∀(n k:Nat),i+k+n≤b.length→(∀j,k≤j→j<k+n→b.getD (i+j) 0=b.getD (i-d+j) 0)→again d n (b.take (i+k))=b.take (i+k+n)
 |0,k,_,_=>rfl
 |n+1,k,hb,h=>by
  have hl:(b.take (i+k)).length=i+k:=by rw[List.length_take];omega
  rw[again,hl]
  have e:(b.take (i+k)).getD (i+k-d) 0=b.getD (i+k) 0:=by
   rw[h k (Nat.le_refl _) (by omega)]
   rw[List.getD_eq_getElem?_getD,List.getElem?_take,if_pos (by omega),←List.getD_eq_getElem?_getD]
   congr 1
   omega
  rw[e]
  have e2:b.take (i+k)++[b.getD (i+k) 0]=b.take (i+(k+1)):=by
   rw[show i+(k+1)=(i+k)+1 by omega,eD (by omega)]
  rw[e2,nP hd hdi n (k+1) (by omega) (fun j h1 h2=>h j (by omega) (by omega))]
  congr 1
  omega
theorem wV{m:Nat×Nat}{r:List UInt8}(h1:4≤m.1)(h2:m.1≤131)(h3:1≤m.2)(h4:m.2≤1024):cB (fJ m++r)=(3,m.1,m.2,true):=by
 have e0:(UInt8.ofNat (124+m.1)).toNat=124+m.1:=by rw[UInt8.toNat_ofNat',Nat.mod_eq_of_lt (by omega)]
 have e1:(UInt8.ofNat (m.2-1)).toNat=(m.2-1) % 256:=UInt8.toNat_ofNat'
 have e2:(UInt8.ofNat ((m.2-1)/256)).toNat=(m.2-1)/256:=by rw[UInt8.toNat_ofNat',Nat.mod_eq_of_lt (by omega)]
 unfold cB fJ
 simp only[List.cons_append,List.nil_append,List.getD_cons_zero,List.getD_cons_succ,List.length_cons,e0,e1,e2]
 rw[if_neg (by omega),if_neg (by omega)]
 simp only[Prod.mk.injEq,true_and,and_true]
 omega
theorem nb{most:Int}:∀(b:List UInt8) (i:Nat) (own out o:List UInt8),(b.length:Int)≤most→i≤b.length→o++own=b.take i→(∀r,jo most (out++r) []=jo most r o)→jo most (gp b i own out) []=(b,0)
 |b,i,own,out,o,hm,hi,hown,hout=>by
  have hol:o.length+own.length=i:=by
   have:=congrArg List.length hown
   rw[List.length_append,List.length_take]at this
   omega
  by_cases hlt:i<b.length
  ·by_cases h0:(aT b i).1=0
   ·rw[kK hlt h0]
    refine nb b (i+1) _ _ o hm (by omega) ?_ hout
    rw[←List.append_assoc,hown,eD hlt]
   ·rw[iw hlt h0]
    rcases kB hi with hk|⟨m1,m2,m3,m4,m5,m6⟩
    ·rw[hk]at h0;exact absurd rfl h0
    ·have hd1:(aT b i).2≤i:=by omega
     have hd2:(aT b i).2≤1024:=by omega
     refine nb b _ _ _ (b.take (i+(aT b i).1)) hm m5 (by simp) fun r=> ?_
     rw[List.append_assoc,List.append_assoc,hout,pr _ _ _ (by omega),hown]
     have ht:=wV (r:=r) m1 m2 m3 hd2
     have hl:(b.take i).length=i:=by rw[List.length_take];omega
     rw[mR (by simp[fJ]) (by rw[ht]) (by rw[ht,hl];exact hd1) (by rw[ht,hl];simp only;omega)]
     rw[ht]
     have hdr:(fJ (aT b i)++r).drop 3=r:=rfl
     simp only
     rw[hdr]
     congr 1
     unfold made
     rw[ht,if_neg (by simp only;omega)]
     have:=nP (b:=b) (i:=i) m3 hd1 (aT b i).1 0 (by omega) (fun j _ hj=>oZ (by omega))
     exact this
  ·rw[kH hlt,hout]
   have:=pr (most:=most) own [] o (by omega)
   rw[List.append_nil]at this
   rw[this,oa,hown,List.take_of_length_le (by omega)]
termination_by b i=>b.length-i
theorem xj{b:List UInt8}{most:Int}(h:(b.length:Int)≤most):jo most (ei b) []=(b,0):=nb b 0 [] [] [] h (Nat.zero_le _) rfl (fun r=>rfl)
end Go.Hx
end
section
namespace Go.Hx
open Go.Eng
def ue(b:List UInt8):Bool:=decide ((ei b).length<b.length)
def gT(b:List UInt8):List UInt8:=if ue b then ei b else b
def bx(b:List UInt8):List UInt8:=[76,if ue b then 1 else 0]++gk b.length++gT b++gk (cG b)
theorem qV(b:List UInt8):(gT b).length≤b.length:=by
 unfold gT ue
 split
 ·rename_i h;have:=of_decide_eq_true h;omega
 ·exact Nat.le_refl _
theorem jJ(b:List UInt8):(bx b).length=(gT b).length+10:=by simp[bx,eX];omega
theorem kj(b:List UInt8):10≤(bx b).length∧(bx b).length≤b.length+10:=by
 have:=qV b
 rw[jJ]
 omega
def gr(f:List UInt8):Option Nat:=if f.length<10∨f.getD 0 0≠76∨1<(f.getD 1 0).toNat then none else some (j5 (f.drop 2))
def dg(f:List UInt8):List UInt8:=(f.drop 6).take (f.length-10)
def uH(f:List UInt8)(n:Nat):List UInt8×Int:=if f.getD 1 0=1 then jo n (dg f) []else(dg f,0)
def fC(f:List UInt8)(n:Nat):List UInt8×Int:=
 if(uH f n).2≠0 then([],2)else if(uH f n).1.length≠n then([],2)else if gk (cG (uH f n).1)≠f.drop (f.length-4)then([],7)else((uH f n).1,0)
def cP(f:List UInt8)(most:Int):List UInt8×Int:=
 match gr f with
 |none=>([],2)
 |some n=>if most<n then([],3)else fC f n
theorem ou{most:Int}:∀(l o:List UInt8),(o.length:Int)≤most→(((jo most l o).1.length:Int)≤most∨(jo most l o).1=[])∧((jo most l o).2=0∨(jo most l o).2=2∨(jo most l o).2=3)∧((jo most l o).2≠0→(jo most l o).1=[])
 |l,o,hm=>by
  by_cases h0:l=[]
  ·subst h0;rw[oa];exact⟨.inl hm,.inl rfl,fun h=>absurd rfl h⟩
  ·by_cases h1:(cB l).2.2.2=true∧(cB l).2.2.1≤o.length
   ·by_cases h2:most<(o.length:Int)+((cB l).2.1:Nat)
    ·rw[om h0 h1.1 h1.2 h2];exact⟨.inr rfl,.inr (.inr rfl),fun _=>rfl⟩
    ·rw[mR h0 h1.1 h1.2 h2]
     exact ou _ _ (by rw[nr h1.1];omega)
   ·rw[kL h0 h1];exact⟨.inr rfl,.inr (.inl rfl),fun _=>rfl⟩
termination_by l=>l.length
decreasing_by
 obtain⟨h2,h3⟩:=kV h1.1
 rw[List.length_drop]
 omega
theorem xS{f:List UInt8}{n:Nat}(h:(fC f n).2=0):(fC f n).1.length=n:=by
 unfold fC at h ⊢
 split at h
 ·cases h
 ·rename_i h1
  rw[if_neg h1]
  split at h
  ·cases h
  ·rename_i h2
   rw[if_neg h2]
   split at h
   ·cases h
   ·rename_i h3
    rw[if_neg h3]
    exact Decidable.not_not.1 h2
theorem wH{f:List UInt8}{n:Nat}(h:(fC f n).2≠0):(fC f n).1=[]:=by
 unfold fC at h ⊢
 split at h
 ·rename_i h1;rw[if_pos h1]
 ·rename_i h1
  rw[if_neg h1]
  split at h
  ·rename_i h2;rw[if_pos h2]
  ·rename_i h2
   rw[if_neg h2]
   split at h
   ·rename_i h3;rw[if_pos h3]
   ·exact absurd rfl h
theorem wI{f:List UInt8}{most:Int}(h:(cP f most).2≠0):(cP f most).1=[]:=by
 unfold cP at h ⊢
 split at h
 ·rfl
 ·rename_i n hn
  split at h
  ·rename_i h1;rw[if_pos h1]
  ·rename_i h1;rw[if_neg h1];exact wH h
theorem zH{f:List UInt8}{most:Int}(h:(cP f most).2=0):((cP f most).1.length:Int)≤most:=by
 unfold cP at h ⊢
 split at h
 ·cases h
 ·rename_i n hn
  split at h
  ·cases h
  ·rename_i h1;rw[if_neg h1,xS h];omega
theorem qx{f:List UInt8}{most:Int}(hm:0≤most):((cP f most).1.length:Int)≤most:=by
 by_cases h:(cP f most).2=0
 ·exact zH h
 ·rw[wI h];simpa using hm
theorem lJ(b:List UInt8):(bx b).getD 0 0=76∧(bx b).getD 1 0=(if ue b then 1 else 0)∧(bx b).drop 2=gk b.length++(gT b++gk (cG b))∧dg (bx b)=gT b∧(bx b).drop ((bx b).length-4)=gk (cG b):=by
 refine⟨by simp[bx],by simp[bx],by simp[bx], ?_, ?_⟩
 ·unfold dg
  have h6:(bx b).drop 6=gT b++gk (cG b):=by simp[bx,gk]
  rw[h6,jJ,Nat.add_sub_cancel]
  exact List.take_left
 ·rw[jJ]
  have:bx b=([76,if ue b then 1 else 0]++gk b.length++gT b)++gk (cG b):=rfl
  rw[this,List.drop_append_of_le_length (by simp[eX];omega),List.drop_of_length_le (by simp[eX];omega)]
  rfl
theorem xh{b:List UInt8}(h:b.length<4294967296):gr (bx b)=some b.length:=by
 obtain⟨h0,h1,h2,_,_⟩:=lJ b
 have hl:=kj b
 unfold gr
 rw[if_neg,h2]
 ·congr 1
  have:j5 (gk b.length++(gT b++gk (cG b)))=j5 (gk b.length):=by simp[j5,gk]
  rw[this,xE h]
 ·rw[h0,h1]
  rintro(q|q|q)
  ·omega
  ·exact q rfl
  ·cases hp:ue b <;> rw[hp]at q <;> exact absurd q (by decide)
theorem xz(b:List UInt8):uH (bx b) b.length=(b,0):=by
 obtain⟨_,h1,_,h3,_⟩:=lJ b
 unfold uH
 rw[h1,h3]
 cases hp:ue b with
 |true=>
  rw[if_pos rfl]
  unfold gT
  rw[hp,if_pos rfl]
  exact xj (Int.le_refl _)
 |false=>
  rw[if_neg (by decide)]
  unfold gT
  rw[hp]
  rfl
theorem wg{b:List UInt8}{most:Int}(h:b.length<4294967296)(hm:(b.length:Int)≤most):cP (bx b) most=(b,0):=by
 unfold cP
 rw[xh h]
 simp only
 rw[if_neg (by omega)]
 unfold fC
 rw[xz,(lJ b).2.2.2.2,if_neg (by simp),if_neg (by simp),if_neg (by simp)]
end Go.Hx
end
section
namespace Go.Proofs.YtmibdabdlgmafaaGreatDoor
open Go.Eng Go.Hx
def aF(nm:List UInt8):List UInt8:=[99,47]++(bV nm).take 2++[47]++bV nm
def bJ(nm:List UInt8):List UInt8:=[116,47]++bV nm
theorem dP{nm:List UInt8}(h:nm.length=32):(aF nm).length=69:=by simp[aF,dB,h]
theorem iC{nm:List UInt8}(h:nm.length=32):(bJ nm).length=66:=by simp[bJ,dB,h]
theorem ik{nm:List UInt8}(h:nm.length=32):(aF nm).drop 5=bV nm:=by
 have h2:((bV nm).take 2).length=2:=by rw[List.length_take,dB,h];rfl
 unfold aF
 rw[List.drop_append_of_le_length (by simp[h2]),List.drop_of_length_le (by simp[h2])]
 rfl
theorem gZ{a b:List UInt8}(ha:a.length=32)(hb:b.length=32)(h:aF a=aF b):a=b:=by
 have:=congrArg (List.drop 5) h
 rw[ik ha,ik hb]at this
 exact zp this
def RD.wh(d:RD)(nm:List UInt8):List UInt8×Int:=cP (d.ct (aF nm)) 4096
def RD.eI(d:RD)(nm:List UInt8):Int:=if d.ca (aF nm)≠0 then d.ca (aF nm)else if(d.wh nm).2≠0∨ba (d.wh nm).1≠nm then 7 else 0
def RD.o6(d:RD)(nm:List UInt8):List UInt8:=if d.eI nm=0 then(d.wh nm).1 else []
theorem iX{d:RD}{nm:List UInt8}(h:d.ca (aF nm)≠0):d.eI nm=d.ca (aF nm):=by unfold RD.eI;rw[if_pos h]
theorem lP{d:RD}{nm:List UInt8}(h:d.ca (aF nm)=0)(h2:(d.wh nm).2≠0∨ba (d.wh nm).1≠nm):d.eI nm=7:=by unfold RD.eI;rw[if_neg (fun q=>q h),if_pos h2]
theorem rJ{d:RD}{nm:List UInt8}(h:d.ca (aF nm)=0)(h2:¬((d.wh nm).2≠0∨ba (d.wh nm).1≠nm)):d.eI nm=0:=by unfold RD.eI;rw[if_neg (fun q=>q h),if_neg h2]
theorem kv{d:RD}{nm:List UInt8}(h:d.eI nm≠0):d.o6 nm=[]:=by unfold RD.o6;rw[if_neg h]
theorem rl{d:RD}{nm:List UInt8}(h:d.eI nm=0):d.o6 nm=(d.wh nm).1:=by unfold RD.o6;rw[if_pos h]
def b6:List (RD→RD×Int)→RD→RD×Int
 | [],d=>(d,0)
 |f::r,d=>if(f d).2≠0 then f d else b6 r (f d).1
def re(p b:List UInt8)(d:RD):RD×Int:=(d.write p b,d.bD p b)
def cq(d:RD):RD×Int:=(d.sync,d.cR)
def rp(a c:List UInt8)(d:RD):RD×Int:=(d.rename a c,d.bQ a c)
def mQ(p:List UInt8)(d:RD):RD×Int:=(d.remove p,d.ca p)
def dN:List UInt8:=List.replicate 32 0
def RD.gQ(d:RD)(b:List UInt8):RD×Int:=b6 [re (bJ (ba b)) (bx b),cq,rp (bJ (ba b)) (aF (ba b)),cq] d
def RD.put(d:RD)(b:List UInt8):RD×List UInt8×Int:=
 if 4096<b.length then(d,dN,3)
 else if d.eI (ba b)=6 then(d,dN,6)
 else if d.eI (ba b)=0 then(d,ba b,0)
 else((d.gQ b).1,if(d.gQ b).2=0 then ba b else dN,(d.gQ b).2)
end Go.Proofs.YtmibdabdlgmafaaGreatDoor
end
section
set_option maxRecDepth 20000
set_option maxHeartbeats 2000000
namespace Go.Proofs.YtmibdabdlgmafaaGreatDoor
open Go.Eng Go.Hx
theorem ix{a b:List UInt8}(h:a.length+b.length≤1000000):(strOf a).size+(strOf b).size≤9223372036854775807:=by rw[cV,cV];omega
theorem rH{nm:List UInt8}(hm:nm.length=32):cf Tryz.prog 94 [.agg (aQ nm).toArray] [] [] (fun v_ X_ S_=>v_=(.string (strOf (aF nm)))∧X_=[]∧S_=[]):=by
 have hhl:(bV nm).length=64:=by rw[dB,hm]
 have h2:((bV nm).take 2).length=2:=by rw[List.length_take,hhl];rfl
 refine aO (N:=12) Tryz.func94 rfl rfl (by simp) fun b=> ?_
 refine ah<|aj<| ?_
 refine hx (cE rfl (fun g1=> ?_))
 refine aU (fun w m=>m.bU 0 rfl (show _=aJ g1 53 (aQ nm)from congrArg (aJ _ _) (bB _))) ?_
 refine hy (fun _=>ab rfl)<|ai<|ak (X' :=[_]) (S' :=[]) (fun _ m=>m)<|ag<|ah<|aj<|hy (fun m=>a7 rfl cy bp (by rw[ay];exact hm) ((m.aX 0 rfl).az))<| ?_
 refine hx (aq rfl Tryz.call104 (zU hm) [] rfl [] rfl ?_)
 rintro _ _ _ ⟨rfl,rfl,rfl⟩
 refine hy (fun _=>ab rfl)<|ai<|al (ρ' :=[(3,_),(2,_),(1,_),(0,_)]) ⟨rfl,rfl,rfl,rfl,trivial⟩<|ak (X' :=[_]) (S' :=[]) (fun _ m=>m)<|ag<|ah<|aj<|hy (fun _=>aa rfl)<|hy (fun _=>yV (ry rfl rfl Tryz.underlying9 (show((2:Nat):Int)=2 from rfl) (show 2≤(bV nm).length by omega)) ((rfl:_=Value.string (strOf ((bV nm).take 2)))))<|hy (fun _=>yV (iP rfl rfl (ix (a:=[99,47]) (b:=(bV nm).take 2) (by simp[h2]))) ((show Value.string (strOf [99,47]++strOf ((bV nm).take 2))= .string (strOf ([99,47]++(bV nm).take 2))from congrArg Value.string (cZ _ _))))<|hy (fun _=>yV (iP rfl rfl (ix (a:=[99,47]++(bV nm).take 2) (b:=[47]) (by simp[h2]))) ((show Value.string (strOf ([99,47]++(bV nm).take 2)++strOf [47])= .string (strOf ([99,47]++(bV nm).take 2++[47]))from congrArg Value.string (cZ _ _))))<|hy (fun _=>aa rfl)<|hy (fun _=>yV (iP rfl rfl (ix (a:=[99,47]++(bV nm).take 2++[47]) (b:=bV nm) (by simp[h2,hhl]))) ((show Value.string (strOf ([99,47]++(bV nm).take 2++[47])++strOf (bV nm))= .string (strOf (aF nm))from congrArg Value.string (cZ _ _))))<|hy (fun _=>ab rfl)<|ai<|al (ρ' :=[(2,_),(3,_),(1,_),(0,_)]) ⟨rfl,rfl,rfl,rfl,trivial⟩<|ag<|aV<| ?_
 exact bh trivial rfl rfl [] rfl [] rfl ⟨rfl,rfl,rfl⟩
theorem rT{nm:List UInt8}(hm:nm.length=32):cf Tryz.prog 29 [.agg (aQ nm).toArray] [] [] (fun v_ X_ S_=>v_=(.string (strOf (aF nm)))∧X_=[]∧S_=[]):=by
 have hhl:(bV nm).length=64:=by rw[dB,hm]
 have h2:((bV nm).take 2).length=2:=by rw[List.length_take,hhl];rfl
 refine aO (N:=12) Tryz.func29 rfl rfl (by simp) fun b=> ?_
 refine ah<|aj<| ?_
 refine hx (cE rfl (fun g1=> ?_))
 refine aU (fun w m=>m.bU 0 rfl (show _=aJ g1 53 (aQ nm)from congrArg (aJ _ _) (bB _))) ?_
 refine hy (fun _=>ab rfl)<|ai<|ak (X' :=[_]) (S' :=[]) (fun _ m=>m)<|ag<|ah<|aj<|hy (fun m=>a7 rfl cy bp (by rw[ay];exact hm) ((m.aX 0 rfl).az))<| ?_
 refine hx (aq rfl Tryz.call111 (vM hm) [] rfl [] rfl ?_)
 rintro _ _ _ ⟨rfl,rfl,rfl⟩
 refine hy (fun _=>ab rfl)<|ai<|al (ρ' :=[(3,_),(2,_),(1,_),(0,_)]) ⟨rfl,rfl,rfl,rfl,trivial⟩<|ak (X' :=[_]) (S' :=[]) (fun _ m=>m)<|ag<|ah<|aj<|hy (fun _=>aa rfl)<|hy (fun _=>yV (ry rfl rfl Tryz.underlying9 (show((2:Nat):Int)=2 from rfl) (show 2≤(bV nm).length by omega)) ((rfl:_=Value.string (strOf ((bV nm).take 2)))))<|hy (fun _=>yV (iP rfl rfl (ix (a:=[99,47]) (b:=(bV nm).take 2) (by simp[h2]))) ((show Value.string (strOf [99,47]++strOf ((bV nm).take 2))= .string (strOf ([99,47]++(bV nm).take 2))from congrArg Value.string (cZ _ _))))<|hy (fun _=>yV (iP rfl rfl (ix (a:=[99,47]++(bV nm).take 2) (b:=[47]) (by simp[h2]))) ((show Value.string (strOf ([99,47]++(bV nm).take 2)++strOf [47])= .string (strOf ([99,47]++(bV nm).take 2++[47]))from congrArg Value.string (cZ _ _))))<|hy (fun _=>aa rfl)<|hy (fun _=>yV (iP rfl rfl (ix (a:=[99,47]++(bV nm).take 2++[47]) (b:=bV nm) (by simp[h2,hhl]))) ((show Value.string (strOf ([99,47]++(bV nm).take 2++[47])++strOf (bV nm))= .string (strOf (aF nm))from congrArg Value.string (cZ _ _))))<|hy (fun _=>ab rfl)<|ai<|al (ρ' :=[(2,_),(3,_),(1,_),(0,_)]) ⟨rfl,rfl,rfl,rfl,trivial⟩<|ag<|aV<| ?_
 exact bh trivial rfl rfl [] rfl [] rfl ⟨rfl,rfl,rfl⟩
end Go.Proofs.YtmibdabdlgmafaaGreatDoor
end
section
set_option maxRecDepth 20000
namespace Go.Proofs.YtmibdabdlgmafaaGreatDoor
open Go.Eng Go.Hx
theorem Cz{g:Nat}{st:cF}{d:RD}{kk:Nat}{p:List UInt8}(hD:DS st d kk):cf Tryz.prog 90 [.pointer (some ⟨g,0,none⟩),.string (strOf p)] [bn g st] [] (fun v_ X_ S_=>∃v,v_=(.tuple #[v,.int .i64 (d.ca p)])∧X_=[bn g st,aG 5 1 v (d.ct p).length (aQ (d.ct p))]∧S_=[]):=by
 rw[hD.ca,hD.ct]
 exact EC hD.ok.sm
theorem uQ{g:Nat}{st:cF}{d:RD}{kk:Nat}{p:List UInt8}{A:Option Addr}{n c:Nat}{l:List UInt8}(hD:DS st d kk)(hkk:kk≤99000)(hl:l.length=n)(hn:n≤1048576):cf Tryz.prog 33 [.pointer (some ⟨g,0,none⟩),.string (strOf p),.slice A n c] [bn g st] [c6 1 A n (aQ l)] (fun v_ X_ S_=>∃st1,v_=(.int .i64 (d.bD p l))∧X_=[bn g st1]∧S_=[]∧(DS st1 (d.write p l) (kk+1))):=by
 exact cf.mono (DC hD.ok (by omega) hn) (fun v X S h=>by
  obtain⟨st1,B,c1,A1,c2,h1,h2,h3,hw⟩:=h
  have hW:=hD.write hl hn hw
  exact⟨st1,by rw[hW.2];exact h1,h2,h3,hW.1⟩)
theorem uA{g:Nat}{st:cF}{d:RD}{kk:Nat}(hD:DS st d kk):cf Tryz.prog 110 [.pointer (some ⟨g,0,none⟩)] [bn g st] [] (fun v_ X_ S_=>∃st1,v_=(.int .i64 d.cR)∧X_=[bn g st1]∧S_=[]∧(DS st1 d.sync kk)):=by
 exact cf.mono (Fv hD.ok) (fun v X S h=>by
  obtain⟨st1,gl,h1,h2,h3,hw⟩:=h
  have hW:=hD.sync hw
  exact⟨st1,by rw[hW.2];exact h1,h2,h3,hW.1⟩)
theorem xR{g:Nat}{st:cF}{d:RD}{kk:Nat}{a c:List UInt8}(hD:DS st d kk)(hkk:kk≤99000):cf Tryz.prog 108 [.pointer (some ⟨g,0,none⟩),.string (strOf a),.string (strOf c)] [bn g st] [] (fun v_ X_ S_=>∃st1,v_=(.int .i64 (d.bQ a c))∧X_=[bn g st1]∧S_=[]∧(DS st1 (d.rename a c) (kk+1))):=by
 exact cf.mono (AX hD.ok (by omega)) (fun v X S h=>by
  obtain⟨st1,A,j,h1,h2,h3,hw⟩:=h
  have hW:=hD.rename hw
  exact⟨st1,by rw[hW.2];exact h1,h2,h3,hW.1⟩)
theorem DS.zI{st:cF}{d:RD}{kk:Nat}(h:DS st d kk)(p:List UInt8):(d.ct p).length≤1048576:=by
 rw[h.ct]
 by_cases he:dE st p=0
 ·obtain⟨r,hr⟩:=sb he
  rw[tb he hr]
  have h1:=h.ok.small r (List.mem_append_left _ (List.mem_append_left _ (List.mem_map.2 ⟨_,jd hr,rfl⟩)))
  have h2:r.n=r.l.length:=h.mH.files.len _ (jd hr)
  omega
 ·rw[sY he];exact Nat.zero_le _
end Go.Proofs.YtmibdabdlgmafaaGreatDoor
end
section
set_option maxRecDepth 20000
namespace Go.Proofs.YtmibdabdlgmafaaGreatDoor
open Go.Eng Go.Hx
theorem Rd.part{w:World}{a:Addr}{n k m:Nat}{B:List UInt8}(h:Rd w 1 (some a) n (aQ B)):∀(j:Nat) (u:Value),(aQ ((B.drop k).take m))[j]? =some u→w.cell? ((a.add k).add j)=some u:=by
 intro j u hu
 rw[add_add]
 refine h.cell ?_
 unfold aQ at hu ⊢
 rw[List.getElem?_map,List.getElem?_take]at hu
 rw[List.getElem?_map]
 split at hu
 ·rw[List.getElem?_drop]at hu;exact hu
 ·simp at hu
end Go.Proofs.YtmibdabdlgmafaaGreatDoor
end
section
set_option maxRecDepth 20000
set_option maxHeartbeats 2000000
namespace Go.Proofs.YtmibdabdlgmafaaGreatDoor
open Go.Eng Go.Hx
theorem Co{A:Option Addr}{n c i k:Nat}{l:List UInt8}(hn:n≤1000000000)(hl:l.length=n)(hi:i≤n)(hk:k≤i):cf Tryz.prog 272 [.slice A n c,.int .i64 (i:Nat),.int .i64 (k:Nat)] [] [c6 1 A n (aQ l)] (fun v_ X_ S_=>v_=(.int .i64 (lv l i k:Nat))∧X_=[]∧S_=[]):=by
 refine aO (N:=36) Tryz.func272 rfl rfl (by simp) fun b=> ?_
 refine a6 (fun m=>gz (m.rd 0 rfl)) ?_
 rintro⟨hl_r,hA_r⟩
 refine ah<|aj<|hy (fun _=>ab rfl)<|ai<|ag<|ah<|aj<|hy (fun _=>ab rfl)<|ai<|ag<|ah<|aK<| ?_
 refine dD (fun m=>131-m) (fun m=>[(7,.int .i64 (m:Nat))]) (fun m=>[]) (fun m=>[]) (fun m=>m≤131∧i+m≤n∧kY l i k (131-m) m=lv l i k) 0 [(6,_),(0,_),(1,_),(2,_)] ⟨rfl,rfl,rfl,rfl,trivial⟩ [] rfl [] rfl (⟨by decide,hi,rfl⟩) ⟨rfl,trivial⟩ (fun m ⟨hm,him,hL⟩=> ?_)
 refine ah<|ah<|cT [] [(0,some 0),(1,some 0),(2,some 0),(3,some 0),(4,some 0),(5,some 0),(6,some 0),(7,some 0),(8,some 0),(9,some 0),(10,some 0),(11,some 0),(12,some 0),(13,some 0),(14,some 0),(15,some 0),(16,some 0),(17,some 0),(18,some 0),(19,some 0),(20,some 0),(21,some 0),(22,some 0),(23,some 0),(24,some 0)] (by kernel_rfl) (by kernel_rfl) rfl 99<|an (aa rfl)<|an (bA rfl rfl)<|an (aa rfl)<| ?_
 refine kP 10 rfl (fun h1=> ?_) (fun h1=> ?_)
 ·refine bP (o:=_) rfl rfl rfl (aa rfl)<|bP (o:=_) rfl rfl rfl (aa rfl)<|bP (o:=_) rfl rfl rfl (aN rfl rfl (bE (by omega) (by omega)))<|bP (o:=_) rfl rfl rfl (aa rfl)<|bP (o:=_) rfl rfl rfl (aW rfl Tryz.underlying27)<|bP (o:=_) rfl rfl rfl (bA rfl rfl)<|an (bK rfl rfl)<|an (aa rfl)<| ?_
  refine kP 18 rfl (fun h2=> ?_) (fun h2=> ?_)
  ·refine bP (o:=_) rfl rfl rfl (aa rfl)<|bP (o:=_) rfl rfl rfl (aa rfl)<|bP (o:=_) rfl rfl rfl (aa rfl)<|bP (o:=_) rfl rfl rfl (aN rfl rfl (bE (by omega) (by omega)))<|bP (o:=_) rfl rfl rfl (aM rfl rfl Tryz.underlying27 dW hA_r (show((i+m:Nat):Int)=_ by omega) (by omega))<|mU (o:=_) rfl rfl rfl (fun m=>aw rfl jn ((m.rd 0 rfl).cell (bH (by omega))))<|bP (o:=_) rfl rfl rfl (aa rfl)<|bP (o:=_) rfl rfl rfl (aa rfl)<|bP (o:=_) rfl rfl rfl (aa rfl)<|bP (o:=_) rfl rfl rfl (aN rfl rfl (bE (by omega) (by omega)))<|bP (o:=_) rfl rfl rfl (aM rfl rfl Tryz.underlying27 dW hA_r (show((k+m:Nat):Int)=_ by omega) (by omega))<|mU (o:=_) rfl rfl rfl (fun m=>aw rfl jn ((m.rd 0 rfl).cell (bH (by omega))))<|bP (o:=_) rfl rfl rfl (cx rfl rfl)<|an (bK rfl rfl)<|bF<|al (ρ' :=[(32,_),(7,_),(6,_),(0,_),(1,_),(2,_)]) ⟨rfl,rfl,rfl,rfl,rfl,rfl,trivial⟩<|ag<| ?_
   refine cC rfl (fun h3=> ?_) (fun h3=> ?_)
   ·have e3:l.getD (i+m) 0=l.getD (k+m) 0:=UInt8.toNat_inj.1 (by omega)
    rw[gK (by omega) ⟨by omega,e3⟩]at hL
    refine aD<|ag<|aK<|aj<|hy (fun _=>aa rfl)<|hy (fun _=>aN rfl rfl (bE (by omega) (by omega)))<|hy (fun _=>ab rfl)<|ai<|al (ρ' :=[(7,_),(32,_),(6,_),(0,_),(1,_),(2,_)]) ⟨rfl,rfl,rfl,rfl,rfl,rfl,trivial⟩<|aS<| ?_
    refine cM (m+1) ⟨rfl,rfl,rfl,rfl,rfl,trivial⟩ [] rfl [0] rfl (⟨by omega,by omega,by rw[←hL];rfl⟩) (by omega)
   ·rw[kR (fun q=>h3 (by rw[q.2]))]at hL
    rw[←hL]
    refine bL<|ao<|ao<|aC<|ag<|ah<|aj<|hy (fun _=>aa rfl)<|hy (fun _=>ab rfl)<|ai<|al (ρ' :=[(6,_),(32,_),(7,_),(0,_),(1,_),(2,_)]) ⟨rfl,rfl,rfl,rfl,rfl,rfl,trivial⟩<|ag<|aV<| ?_
    exact bh trivial rfl rfl [] rfl [] rfl ⟨rfl,rfl,rfl⟩
  ·rw[kR (fun q=>h2 (by omega))]at hL
   rw[←hL]
   refine aZ rfl rfl rfl (by decide)<|aZ rfl rfl rfl (by decide)<|aZ rfl rfl rfl (by decide)<|aZ rfl rfl rfl (by decide)<|aZ rfl rfl rfl (by decide)<|aZ rfl rfl rfl (by decide)<|aZ rfl rfl rfl (by decide)<|aZ rfl rfl rfl (by decide)<|aZ rfl rfl rfl (by decide)<|aZ rfl rfl rfl (by decide)<|aZ rfl rfl rfl (by decide)<|aZ rfl rfl rfl (by decide)<|aZ rfl rfl rfl (by decide)<|an (bN rfl rfl)<|bF<|al (ρ' :=[(32,_),(7,_),(6,_),(0,_),(1,_),(2,_)]) ⟨rfl,rfl,rfl,rfl,rfl,rfl,trivial⟩<|ag<| ?_
   refine dO rfl (rfl) ?_
   refine bL<|ao<|ao<|aC<|ag<|ah<|aj<|hy (fun _=>aa rfl)<|hy (fun _=>ab rfl)<|ai<|al (ρ' :=[(6,_),(32,_),(7,_),(0,_),(1,_),(2,_)]) ⟨rfl,rfl,rfl,rfl,rfl,rfl,trivial⟩<|ag<|aV<| ?_
   exact bh trivial rfl rfl [] rfl [] rfl ⟨rfl,rfl,rfl⟩
 ·obtain rfl:m=131:=by omega
  have hL:131=lv l i k:=hL
  rw[←hL]
  refine aZ rfl rfl rfl (by decide)<|aZ rfl rfl rfl (by decide)<|aZ rfl rfl rfl (by decide)<|aZ rfl rfl rfl (by decide)<|aZ rfl rfl rfl (by decide)<|aZ rfl rfl rfl (by decide)<|an (bN rfl rfl)<|an (aa rfl)<| ?_
  refine aZ rfl rfl rfl (by decide)<|aZ rfl rfl rfl (by decide)<|aZ rfl rfl rfl (by decide)<|aZ rfl rfl rfl (by decide)<|aZ rfl rfl rfl (by decide)<|aZ rfl rfl rfl (by decide)<|aZ rfl rfl rfl (by decide)<|aZ rfl rfl rfl (by decide)<|aZ rfl rfl rfl (by decide)<|aZ rfl rfl rfl (by decide)<|aZ rfl rfl rfl (by decide)<|aZ rfl rfl rfl (by decide)<|aZ rfl rfl rfl (by decide)<|an (bN rfl rfl)<|bF<|al (ρ' :=[(32,_),(7,_),(6,_),(0,_),(1,_),(2,_)]) ⟨rfl,rfl,rfl,rfl,rfl,rfl,trivial⟩<|ag<| ?_
  refine dO rfl (rfl) ?_
  refine bL<|ao<|ao<|aC<|ag<|ah<|aj<|hy (fun _=>aa rfl)<|hy (fun _=>ab rfl)<|ai<|al (ρ' :=[(6,_),(32,_),(7,_),(0,_),(1,_),(2,_)]) ⟨rfl,rfl,rfl,rfl,rfl,rfl,trivial⟩<|ag<|aV<| ?_
  exact bh trivial rfl rfl [] rfl [] rfl ⟨rfl,rfl,rfl⟩
structure j6 where
 A:Option Addr
 c:Nat
 l:List Nat
def j6.val(r:j6):Value:=.slice r.A r.l.length r.c
def Ar(l:List Nat):List Value:=l.map fun n=>Value.int .i64 (n:Nat)
theorem vm{l:List Nat}:∀u∈Ar l,u.oneCell' =true:=by
 intro u hu
 obtain⟨n,_,rfl⟩:=List.mem_map.1 hu
 rfl
def j6.res(r:j6):bg:=aG 3 1 (.slice r.A r.l.length r.c) r.l.length (Ar r.l)
abbrev tN:=List (Bn 4×j6)
def ja(es:tN):List (Bn 4×Value):=es.map fun x=>(x.1,x.2.val)
def fD(es:tN):List bg:=es.map fun x=>x.2.res
abbrev na(g gm:Nat)(A:Option Addr)(n c m:Nat)(es:tN):bg:=fv [aJ g 359 [.slice A n c,.map (some gm),.int .i64 (m:Nat)],cY (KN (n:=4)) gm (ja es),fv (fD es)]
def xq(l:List UInt8)(m:Nat)(es:tN):Prop:=∀k:Bn 4,((bY es k).map j6.l).getD []=j4 l m k.1
theorem kF(k:Bn 4):∀es:tN,bY (ja es) k=(bY es k).map j6.val
 | []=>rfl
 |(q,r)::t=>by
  have ih:=kF k t
  unfold ja at ih ⊢
  simp only[List.map_cons,bY]
  split
  ·rfl
  ·exact ih
theorem mT(k:Bn 4)(r:j6):∀es:tN,cJ (ja es) k r.val=ja (cJ es k r)
 | []=>rfl
 |(q,x)::t=>by
  have ih:=mT k r t
  unfold ja at ih ⊢
  simp only[List.map_cons,cJ]
  split
  ·rfl
  ·rw[ih];rfl
theorem ov{k:Bn 4}(r:j6):∀{es:tN},bY es k=none→fD (cJ es k r)=fD es++[r.res]
 | [],_=>rfl
 |(q,x)::t,h=>by
  simp only[bY]at h
  split at h
  ·cases h
  ·rename_i hq
   have ih:=ov r h
   unfold fD at ih ⊢
   simp only[cJ,if_neg hq,List.map_cons,ih,List.cons_append]
theorem kr{k:Bn 4}:∀{es:tN} {x:j6},bY es k=some x→∃i,(fD es)[i]? =some x.res∧∀r:j6,fD (cJ es k r)=(fD es).set i r.res
 | [],_,h=>by cases h
 |(q,y)::t,x,h=>by
  simp only[bY]at h
  split at h
  ·rename_i hq
   cases h
   exact⟨0,rfl,fun r=>by simp[fD,cJ,hq]⟩
  ·rename_i hq
   obtain⟨i,h1,h2⟩:=kr h
   refine⟨i+1,by simpa[fD]using h1,fun r=> ?_⟩
   have h2:=h2 r
   unfold fD at h2 ⊢
   simp only[cJ,if_neg hq,List.map_cons,h2,List.set_cons_succ]
theorem set_perm{α:Type}:∀(l:List α) (i:Nat) (x:α),i<l.length→(l.set i x).Perm (x::l.eraseIdx i)
 | [],i,x,h=>by simp at h
 |a::t,0,x,h=>by simp
 |a::t,i+1,x,h=>by
  have:=set_perm t i x (by simpa using h)
  simp only[List.set_cons_succ,List.eraseIdx_cons_succ]
  exact(this.cons a).trans (List.Perm.swap ..)
theorem vX{l:List UInt8}{m:Nat}{es:tN}{A:Option Addr}{c:Nat}(h:xq l m es)(hm:m+4≤l.length):xq l (m+1) (cJ es ⟨ee l m,bC hm⟩ ⟨A,c,j4 l m (ee l m)++[m]⟩):=by
 intro k
 rw[p5,xf]
 by_cases hk:ee l m=k.1
 ·rw[if_pos (Subtype.ext hk),if_pos hk,←hk];rfl
 ·rw[if_neg (fun e=>hk (congrArg Subtype.val e)),if_neg hk,List.append_nil]
  exact h k
theorem BC(l:List UInt8):xq l 0 []:=fun k=>rfl
theorem tw{es:tN}{l:List UInt8}{m:Nat}{k:Bn 4}{r:j6}(h:xq l m es)(hr:bY es k=some r):r.l=j4 l m k.1:=by
 have:=h k
 rw[hr]at this
 exact this
theorem qE{es:tN}{l:List UInt8}{m:Nat}{k:Bn 4}(h:xq l m es)(hr:bY es k=none):j4 l m k.1=[]:=by
 have:=h k
 rw[hr]at this
 exact this.symm
theorem Ez{g gm:Nat}{A:Option Addr}{n c p i:Nat}{l:List UInt8}{es:tN}(hc:n≤c)(hn:n≤1000000000)(hl:l.length=n)(hpi:p≤i)(hi:i+4≤n)(hF:xq l p es):cf Tryz.prog 270 [.pointer (some ⟨g,0,none⟩),.int .i64 (i:Nat)] [na g gm A n c p es] [c6 1 A n (aQ l)] (fun v_ X_ S_=>∃es1,v_=(.tuple #[])∧X_=[na g gm A n c i es1]∧S_=[]∧(xq l i es1)):=by
 refine aO (N:=61) Tryz.func270 rfl rfl (by simp) fun b=> ?_
 refine a6 (fun m=>gz (m.rd 0 rfl)) ?_
 rintro⟨hl_r,hA_r⟩
 refine bw (fun w m=>(m.perm (ar [0] _ [_] _ rfl)).unpack) ?_
 refine aK<| ?_
 refine yM (fun p es=>i-p) (fun p es=>[]) (fun p es=>[aJ g 359 [.slice A n c,.map (some gm),.int .i64 (p:Nat)],cY (KN (n:=4)) gm (ja es),fv (fD es)]) (fun p es=>[]) (fun p es=>p≤i∧xq l p es) p es [(0,_),(1,_)] ⟨rfl,rfl,trivial⟩ [0,0,0] rfl [] rfl (⟨hpi,hF⟩) trivial (fun p es ⟨hpi,hF⟩=> ?_)
 refine ah<|ah<|cT [] [(0,some 0),(1,some 0),(2,some 0),(3,some 0),(4,some 0),(5,some 0),(6,some 0),(7,some 0),(8,some 0),(9,some 0),(10,some 0),(11,some 0),(12,some 0),(13,some 0),(14,some 0),(15,some 0),(16,some 0),(17,some 0),(18,some 0)] (by kernel_rfl) (by kernel_rfl) rfl 99<|an (aa rfl)<|an (bd rfl)<|an (aL rfl gI (by decide))<|cm (fun m=>aw rfl fG (aA (m.aX 0 rfl) rfl))<|an (aa rfl)<|an (bA rfl rfl)<|an (aa rfl)<| ?_
 refine kP 11 rfl (fun h1=> ?_) (fun h1=> ?_)
 ·refine bP (o:=_) rfl rfl rfl (aa rfl)<|bP (o:=_) rfl rfl rfl (bd rfl)<|bP (o:=_) rfl rfl rfl (aL rfl gI (by decide))<|mU (o:=_) rfl rfl rfl (fun m=>aw rfl fG (aA (m.aX 0 rfl) rfl))<|bP (o:=_) rfl rfl rfl (aN rfl rfl (bE (by omega) (by omega)))<|bP (o:=_) rfl rfl rfl (aa rfl)<|bP (o:=_) rfl rfl rfl (bd rfl)<|bP (o:=_) rfl rfl rfl (aL rfl jx (by decide))<|mU (o:=_) rfl rfl rfl (fun m=>aw rfl dU (aA (m.aX 0 rfl) rfl))<|bP (o:=_) rfl rfl rfl (aW rfl Tryz.underlying27)<|bP (o:=_) rfl rfl rfl (p9 rfl rfl)<|an (bK rfl rfl)<|bF<|al (ρ' :=[(23,_),(0,_),(1,_)]) ⟨rfl,rfl,rfl,trivial⟩<|ag<| ?_
  refine gY rfl ((decide_eq_true (by omega))) ?_
  refine a6 (fun m=>(m.rd 0 rfl).some (by omega)) fun h_=> ?_
  obtain⟨a,rfl⟩:∃a_,A=some a_:=⟨_,h_⟩
  clear h_
  refine aD<|ag<|ah<|aK<|ah<|cT [16,17] [(0,some 1),(1,some 1),(2,some 1),(3,some 1),(4,some 1),(5,some 1),(6,some 1),(7,some 1),(8,some 1),(9,some 1),(10,some 1),(11,some 1),(12,some 1),(13,some 1),(14,some 1),(15,some 1),(16,none),(17,none)] (by kernel_rfl) (by kernel_rfl) rfl 1<|an (aa rfl)<|an (bd rfl)<|an (aL rfl jx (by decide))<|cm (fun m=>aw rfl dU (aA (m.aX 0 rfl) rfl))<|an (aa rfl)<|an (bd rfl)<|an (aL rfl gI (by decide))<|cm (fun m=>aw rfl fG (aA (m.aX 0 rfl) rfl))<|an (aa rfl)<|an (bd rfl)<|an (aL rfl gI (by decide))<|cm (fun m=>aw rfl fG (aA (m.aX 0 rfl) rfl))<|an (aN rfl rfl (bE (by omega) (by omega)))<|an (yV (eA rfl rfl rfl Tryz.underlying27 dW rfl (show((p+4:Nat):Int)=_ by omega) (by omega) (by omega)) ((show Value.slice (if c=p then some a else(some a).map (·.add (p*1))) (p+4-p) (c-p)= .slice (some (a.add p)) 4 (c-p) by rw[if_neg (by omega),Nat.mul_one,Nat.add_sub_cancel_left];rfl)))<|an (n7 rfl Tryz.underlying364 (by omega))<|cm (fun m=>yV (a7 rfl uX sT (by rw[ay];exact bC (by omega)) (Rd.part (m.rd 0 rfl))) ((rfl:Value.agg _= .agg (aQ (ee l p)).toArray)))<| ?_
  refine eb (aP E0 (fun g4=>⟨(fun _=>wk [1,1,1] [0] rfl rfl), ?_⟩))
  refine jY (aI 0 rfl rfl rfl sT (by rw[ay];exact bC (by omega)) aR rfl ⟨(fun h=>absurd h (by decide)), ?_⟩)
  refine bF<|al (ρ' :=[(4,_),(23,_),(0,_),(1,_)]) ⟨rfl,rfl,rfl,rfl,trivial⟩<|ak (X' :=[_,_,_,_]) (S' :=[_]) (fun _ m=>m)<|ag<| ?_
  refine cT [9,10,12,14] [(0,some 1),(1,some 1),(2,some 1),(3,some 1),(4,some 1),(5,some 0),(6,some 0),(7,some 0),(8,some 0),(9,none),(10,none),(11,some 2),(13,some 3),(12,none),(14,none)] (by kernel_rfl) (by kernel_rfl) rfl 1<|an (aa rfl)<|an (bd rfl)<|an (aL rfl rb (by decide))<|cm (fun m=>aw rfl yY (aA (m.aX 1 rfl) rfl))<|cm (fun m=>yV (a7 rfl uX sT (by rw[ay];exact bC (by omega)) ((m.aX 0 rfl).az)) ((rfl:Value.agg _=KN ⟨ee l p,bC (by omega)⟩)))<|an (aa rfl)<|an (bd rfl)<|an (aL rfl gI (by decide))<|cm (fun m=>aw rfl fG (aA (m.aX 1 rfl) rfl))<| ?_
  refine eb (b4 Tryz.underlying44 DU rfl rfl rfl (by simp[Value.cells,B8]) (by decide) (by decide) (fun g57=>⟨(fun _=>wk [1,1,1,1] [0] rfl rfl), ?_⟩))
  have hA_b57:0<1→(some (⟨g57,0,none⟩:Addr))≠none:=fun _ h=>by cases h
  refine gb (fun w m=>m.bU 0 rfl (show _=aG 3 1 (.slice (some ⟨g57,0,none⟩) 1 1) 1 (Ar [p])from rfl)) ?_
  refine eb (zQ (enc:=(KN (n:=4))) (k:=⟨ee l p,bC (by omega)⟩) 3 rfl rfl rfl Tryz.underlying357 DA (x6 Tryz.underlying364 Tryz.underlying5 (by kernel_rfl) (by kernel_rfl) (by kernel_rfl)) (fun st58=>⟨(fun h=>absurd h (by decide)), ?_⟩))
  rw[kF]
  rcases hq:bY es ⟨ee l p,bC (by omega)⟩with _|x
  ·have e0:=qE hF hq
   refine gb (fun w m=>m.dy (r' :=aG 3 1 (.slice none 0 0) 0 []) (.refl _ _) (Own.nil _ _ _ _) (fun k hk=>hk.elim)) ?_
   refine an (au rfl rfl)<|an (au rfl rfl)<| ?_
   refine eb (bI 0 rfl rfl rfl Tryz.underlying44 Tryz.underlying44 (by exact .inl rfl) DU rfl (fun m=>Src.bZ (m.ord 2 rfl)) (vm (l:=[p])) (by unfold maxLen;omega) (by omega) (fun u=>⟨(fun h=>absurd h (by decide)), ?_⟩))
   refine cd (fun m=>(m.own 0 rfl).slice) ?_
   rintro⟨A_x,c_x,rfl,hc_x⟩
   refine cd (fun m=>(m.ord 0 rfl).2.1) fun hA_x=> ?_
   refine jY (qR (enc:=(KN (n:=4))) 1 rfl rfl rfl rfl ⟨(fun h=>absurd h (by decide)), ?_⟩)
   refine bF<|al (ρ' :=[(4,_),(23,_),(0,_),(1,_)]) ⟨rfl,rfl,rfl,rfl,trivial⟩<|ak (X' :=[_,_,_,_,_,_]) (S' :=[_]) (fun _ m=>m)<|aS<|ag<|aj<|hy (fun _=>aa rfl)<|hy (fun _=>bd rfl)<|hy (fun _=>aL rfl gI (by decide))<|hy (fun m=>aw rfl fG (aA (m.aX 4 rfl) rfl))<|hy (fun _=>aN rfl rfl (bE (by omega) (by omega)))<|hy (fun _=>bd rfl)<|hy (fun _=>aL rfl gI (by decide))<| ?_
   refine cH (cA 4 rfl rfl rfl tG rfl (by first|exact Nat.le_of_ble_eq_true rfl|simp) ?_)
   refine ai<|al (ρ' :=[(4,_),(23,_),(0,_),(1,_)]) ⟨rfl,rfl,rfl,rfl,trivial⟩<|ak (X' :=[_,_,_,_,_,_]) (S' :=[_]) (fun _ m=>m)<| ?_
   refine ak (fun w m=>m.bU 0 rfl (show _=aJ g 359 [.slice (some a) n c,.map (some gm),.int .i64 ((p+1:Nat):Int)]from rfl)) ?_
   refine ak (fun w m=>m.bU 1 rfl (show _=cY (KN (n:=4)) gm (ja (cJ es ⟨ee l p,bC (by omega)⟩ ⟨A_x,c_x,[p]⟩))from congrArg (cY _ _) (qf.trans (mT _ ⟨A_x,c_x,[p]⟩ es)))) ?_
   refine ak (X' :=fv (fD (cJ es ⟨ee l p,bC (by omega)⟩ ⟨A_x,c_x,[p]⟩))::_) (fun w m=>(Mem.rI (m.perm (ar [2,4] _ [_,_] _ rfl))).mu (by rw[ov _ hq];exact(List.perm_append_singleton _ _).symm)) ?_
   refine uB (p+1) (cJ es ⟨ee l p,bC (by omega)⟩ ⟨A_x,c_x,[p]⟩) ⟨rfl,rfl,trivial⟩ [2,1,0] rfl [0] rfl (⟨by omega,by have:=vX (A:=A_x) (c:=c_x) hF (by omega);rw[e0]at this;exact this⟩) (by omega)
  ·obtain⟨j,hj1,hj2⟩:=kr hq
   have e0:=tw hF hq
   have hxl:x.l.length≤n:=by rw[e0];exact Nat.le_trans (np _ _ _) (by omega)
   refine gb (X' :=aG 3 1 (.slice x.A x.l.length x.c) x.l.length (Ar x.l)::_) (fun w m=>(m.perm (ar [4] _ [_] _ rfl)).tc j hj1) ?_
   refine an (au rfl rfl)<|an (au rfl rfl)<| ?_
   refine eb (bI 0 rfl rfl rfl Tryz.underlying44 Tryz.underlying44 (by exact .inl rfl) DU rfl (fun m=>Src.bZ (m.ord 3 rfl)) (vm (l:=[p])) (by unfold maxLen;omega) (by omega) (fun u=>⟨(fun h=>absurd h (by decide)), ?_⟩))
   refine cd (fun m=>(m.own 0 rfl).slice) ?_
   rintro⟨A_y,c_y,rfl,hc_y⟩
   refine cd (fun m=>(m.ord 0 rfl).2.1) fun hA_y=> ?_
   refine jY (qR (enc:=(KN (n:=4))) 2 rfl rfl rfl rfl ⟨(fun h=>absurd h (by decide)), ?_⟩)
   refine bF<|al (ρ' :=[(4,_),(23,_),(0,_),(1,_)]) ⟨rfl,rfl,rfl,rfl,trivial⟩<|ak (X' :=[_,_,_,_,_,_]) (S' :=[_]) (fun _ m=>m)<|aS<|ag<|aj<|hy (fun _=>aa rfl)<|hy (fun _=>bd rfl)<|hy (fun _=>aL rfl gI (by decide))<|hy (fun m=>aw rfl fG (aA (m.aX 5 rfl) rfl))<|hy (fun _=>aN rfl rfl (bE (by omega) (by omega)))<|hy (fun _=>bd rfl)<|hy (fun _=>aL rfl gI (by decide))<| ?_
   refine cH (cA 5 rfl rfl rfl tG rfl (by first|exact Nat.le_of_ble_eq_true rfl|simp) ?_)
   refine ai<|al (ρ' :=[(4,_),(23,_),(0,_),(1,_)]) ⟨rfl,rfl,rfl,rfl,trivial⟩<|ak (X' :=[_,_,_,_,_,_]) (S' :=[_]) (fun _ m=>m)<| ?_
   refine ak (fun w m=>m.bU 0 rfl (show _=aJ g 359 [.slice (some a) n c,.map (some gm),.int .i64 ((p+1:Nat):Int)]from rfl)) ?_
   have h1e:cJ (ja es) ⟨ee l p,bC (by omega)⟩ (.slice A_y (x.l.length+1) c_y)=ja (cJ es ⟨ee l p,bC (by omega)⟩ ⟨A_y,c_y,x.l++[p]⟩):=by rw[←mT];simp[j6.val]
   refine ak (fun w m=>m.bU 1 rfl (show _=cY (KN (n:=4)) gm (ja (cJ es ⟨ee l p,bC (by omega)⟩ ⟨A_y,c_y,x.l++[p]⟩))from congrArg (cY _ _) (qf.trans h1e))) ?_
   have h2e:aG 3 1 (.slice A_y (x.l.length+1) c_y) (x.l.length+1) (Ar x.l++Ar [p])=(⟨A_y,c_y,x.l++[p]⟩:j6).res:=by simp[j6.res,Ar]
   refine ak (fun w m=>m.bU 2 rfl (show _=(⟨A_y,c_y,x.l++[p]⟩:j6).res from h2e)) ?_
   have hjl:=(List.getElem?_eq_some_iff.1 hj1).1
   refine ak (X' :=fv (fD (cJ es ⟨ee l p,bC (by omega)⟩ ⟨A_y,c_y,x.l++[p]⟩))::_) (fun w m=>(Mem.rI (m.perm (ar [0,2] _ [_,_] _ rfl))).mu (by rw[hj2];exact(set_perm _ _ _ hjl).symm)) ?_
   refine uB (p+1) (cJ es ⟨ee l p,bC (by omega)⟩ ⟨A_y,c_y,x.l++[p]⟩) ⟨rfl,rfl,trivial⟩ [2,1,0] rfl [0] rfl (⟨by omega,by have:=vX (A:=A_y) (c:=c_y) hF (by omega);rw[←e0]at this;exact this⟩) (by omega)
 ·obtain rfl:p=i:=by omega
  refine aZ rfl rfl rfl (by decide)<|aZ rfl rfl rfl (by decide)<|aZ rfl rfl rfl (by decide)<|aZ rfl rfl rfl (by decide)<|aZ rfl rfl rfl (by decide)<|aZ rfl rfl rfl (by decide)<|aZ rfl rfl rfl (by decide)<|aZ rfl rfl rfl (by decide)<|aZ rfl rfl rfl (by decide)<|aZ rfl rfl rfl (by decide)<|aZ rfl rfl rfl (by decide)<|an (bN rfl rfl)<|bF<|al (ρ' :=[(23,_),(0,_),(1,_)]) ⟨rfl,rfl,rfl,trivial⟩<|ag<| ?_
  refine dO rfl (rfl) ?_
  refine bL<|ao<|ao<|aC<| ?_
  refine ak (X' :=na g gm A n c p es::_) (fun w m=>(m.perm (ar [0,0,0] _ [_,_,_] _ rfl)).pack) ?_
  exact fE trivial rfl [0] rfl [] rfl ⟨es,rfl,rfl,rfl,hF⟩
end Go.Proofs.YtmibdabdlgmafaaGreatDoor
end
section
namespace Go.Eng
open Go.RowKit
def qq:Op→Bool
 | .defer _=>true
 |_=>false
abbrev mK(l:Nat):Fence:=Fence.wide.inRound l
section
variable{P:Program}{Q:Exit→Act→World→Prop}{a:Act}{w:World}{l n:Nat}
theorem Ey{o:Oper}{next next' :Act→World→Prop}(h:o.wp P a w next Q)(hd:qq o.op=false)(hn:∀a w,next a w→next' a w):o.wpIn (mK l) n P a w next' Q:=by
 refine⟨fun _ _=>trivial, ?_⟩
 have e:o.semAt (mK l).round a.eval=execOp a.eval o:=Oper.semAt_eq _ _ _ (fun c hc=>by rw[hc]at hd;cases hd)
 rw[e]
 unfold Oper.wp at h
 generalize(execOp a.eval o).run P w=r at h
 match r,h with
 | .ok (.value v) w',h=>exact hn _ _ h
 | .ok .skip w',h=>exact hn _ _ h
 | .ok (.defer d) w',h=>exact hn _ _ h
 | .ok (.enter f args) w',h=>
  refine⟨fun h=>by simp[Fence.wide]at h,CallsIn.inRound l (callsIn_wide.2 (Calls.mono h ?_))⟩
  intro e w'' q
  cases e with
  |returned v=>exact hn _ _ q
  |panicked c=>exact q
  |outgrown=>exact q
 | .ok (.row row args) w',h=>exact⟨fun h=>by simp[Fence.wide]at h,fun c cs _=>let⟨v,w'',r,s⟩:=h c cs;⟨v,w'',hn _ _ r,stepsIn_wide.2 s⟩⟩
 | .halt (.panic v) w',h=>exact h
theorem mI{ops:Array Oper}(hQ:¬LetsOut Q)(hd:ops.toList.all (fun o=> !qq o.op)=true):∀(il:List Nat) (a:Act) (w:World),wpOps P ops Q il a w→wpOpsIn (mK l) n P ops Q il a w
 | [],a,w,h=>h
 |i::rest,a,w,h=>by
  unfold wpOps at h
  unfold wpOpsIn
  cases ho:ops[i]? with
  |none=>simp only[ho]at h ⊢;exact mI hQ hd rest a w h
  |some o=>
   simp only[ho]at h ⊢
   have hod:qq o.op=false:=by
    have h1:=List.all_eq_true.1 hd o (by obtain⟨hi,he⟩:=Array.getElem?_eq_some_iff.1 ho;rw[←he];exact Array.getElem_mem_toList ..)
    simpa using h1
   split
   ·rename_i hw
    rw[if_pos hw]at h
    rcases h with h|⟨_,h⟩
    ·exact Ey h hod (fun a w h=>mI hQ hd rest a w h)
    ·exact absurd h hQ
   ·rename_i hw
    rw[if_neg hw]at h
    exact⟨fun _ _=>trivial,mI hQ hd rest _ w h⟩
end
def tK(l n:Nat)(P:Program)(Q:Exit→Act→World→Prop)(N:Nat)(D:List Deferred)(c:Code)(ρ:Env)(b:cw)(X S:List bg):Prop:=
 ¬LetsOut Q→∀w,Mem b X S w→∀a,Ag N D ρ a→c.wpIn (mK l) n P Q a w
section
variable{P:Program}{Q:Exit→Act→World→Prop}{N:Nat}{D:List Deferred}{ρ ρ' :Env}{b:cw}{X X' X1 Xr S S' S1:List bg}{c c' :Code}{l n:Nat}{ops:Array Oper}
theorem rf{K:Act→World→Prop}:LetsOut (Exit.then K Q)→LetsOut Q:=fun⟨a,w,h⟩=>⟨a,w,h⟩
theorem pV{id:Nat}:LetsOut (Exit.inBlock id Q)→LetsOut Q:=fun⟨a,w,h⟩=>⟨a,w,h⟩
theorem kZ:LetsOut (eG Q)→LetsOut Q:=fun⟨a,w,h⟩=>⟨a,w,by first|exact h|exact h.elim⟩
theorem ny(h:tK l n P (Exit.then (fun a w=>¬LetsOut Q→c'.wpIn (mK l) n P Q a w) Q) N D c ρ b X S):tK l n P Q N D (.seq c c') ρ b X S:=fun hQ w m a ha=>
 wpIn_seq (wpIn_mono (h (fun k=>hQ (rf k)) w m a ha) (fun e a w q=>by cases e <;> first|exact q hQ|exact q))
theorem qQ{id:Nat}{il:List Oper}(h:HL P il.toArray Q N D il ρ b X S)(hd:il.all (fun o=> !qq o.op)=true:=by rfl):tK l n P Q N D (.region id il.toArray false) ρ b X S:=fun hQ w m a ha=>by
 refine wpIn_region (mI hQ (by simpa using hd) _ _ _ ?_)
 have h1:=h w m a ha
 rw[List.range_eq_range',←Array.length_toList,wpOps_eq_wpList il.toArray.toList 0 (by simp)]
 simpa using h1
theorem oo(h:HQ Q N D .normal ρ b X S):tK l n P Q N D .skip ρ b X S:=fun hQ w m a ha=>wpIn_skip (h w m a ha)
theorem zc{id:Nat}(h:HQ Q N D (.exit id) ρ b X S):tK l n P Q N D (.exit id) ρ b X S:=fun hQ w m a ha=>wpIn_exit (h w m a ha)
theorem vy{id:Nat}(h:tK l n P (Exit.inBlock id Q) N D c ρ b X S):tK l n P Q N D (.block id c) ρ b X S:=fun hQ w m a ha=>wpIn_block (h (fun k=>hQ (pV k)) w m a ha)
theorem BQ{p:Prop}[Decidable p]{x:Operand}(hc:ev ρ x=some (.bool (decide p)))(ht:p→tK l n P Q N D c ρ b X S)(he:¬p→tK l n P Q N D c' ρ b X S):tK l n P Q N D (.cond x c c') ρ b X S:=
 fun hQ w m a ha=>wpIn_cond_split (ha.eval hc) (fun h=>ht (of_decide_eq_true h) hQ w m a ha) (fun h=>he (of_decide_eq_false h) hQ w m a ha)
theorem kl(h:tK l n P Q N D c ρ b X S):HQ (Exit.then (fun a w=>¬LetsOut Q→c.wpIn (mK l) n P Q a w) Q) N D .normal ρ b X S:=fun w m a ha hQ=>h hQ w m a ha
theorem Ce{id:Nat}{il:List (Option Nat×Oper)}(Xs:List Nat)(L:List (Nat×Option Nat))(hm:P.follows .mixedOrders=true)(hk:(Region.noSelect ops && eg ops Xs L (Array.replicate ops.size false) && decide (L.length≤ops.size))=true)
  (hp:hO ops L=some il) (cc:Nat) (h:HT P ops (eG Q) (TT b X S cc) N D 0 il ρ b X S) (hd:ops.toList.all (fun o=> !qq o.op)=true:=by rfl):tK l n P Q N D (.region id ops true) ρ b X S:=fun hQ w m a ha=>by
 simp only[Bool.and_eq_true,decide_eq_true_eq]at hk
 refine wpIn_mono (Q:=eG Q) ?_ (fun e a w q=>by cases e <;> first|exact q|exact q.elim)
 refine wpIn_region_draw fun t=>mI (fun k=>hQ (kZ k)) hd _ _ _ ?_
 simp only[Region.schedule,hm,Bool.true_or,if_true]
 refine wpAny_sound ops.size t _ a _ ?_
 refine eF _ _ _ _ (fH (X:=Xs) hk.1.1 (fun c a d v w q=>q.elim) L il _ a _ _ 0 hp hk.1.2 hk.2 ?_ ?_ (T:=TT b X S cc) (fun _=>m.lift (Fr.drew w)) (h _ (m.lift (Fr.drew w)) a ha))
 ·intro j hj
  simp[Array.getElem?_replicate]at hj
  split at hj <;> cases hj
 ·unfold iK
  rw[List.countP_eq_zero]
  intro x _
  simp[Array.getElem?_replicate]
  split <;> rfl
theorem xH{id:Nat}{il:List (Option Nat×Oper)}(is js:List Nat)(hX:bR is X=some (X1,Xr))(hS:dJ js S=some S1)(Xs:List Nat)(L:List (Nat×Option Nat))(hm:P.follows .mixedOrders=true)(hk:(Region.noSelect ops && eg ops Xs L (Array.replicate ops.size false) && decide (L.length≤ops.size))=true)
  (hp:hO ops L=some il) (cc:Nat) (h:HT P ops (eG Q) (TT b X1 S1 cc) N D 0 il ρ b X S) (hd:ops.toList.all (fun o=> !qq o.op)=true:=by rfl):tK l n P Q N D (.region id ops true) ρ b X S:=fun hQ w m a ha=>by
 simp only[Bool.and_eq_true,decide_eq_true_eq]at hk
 refine wpIn_mono (Q:=eG Q) ?_ (fun e a w q=>by cases e <;> first|exact q|exact q.elim)
 refine wpIn_region_draw fun t=>mI (fun k=>hQ (kZ k)) hd _ _ _ ?_
 simp only[Region.schedule,hm,Bool.true_or,if_true]
 refine wpAny_sound ops.size t _ a _ ?_
 refine eF _ _ _ _ (fH (X:=Xs) hk.1.1 (fun c a d v w q=>q.elim) L il _ a _ _ 0 hp hk.1.2 hk.2 ?_ ?_ (T:=TT b X1 S1 cc) (fun _=>(wk is js hX hS).mem (m.lift (Fr.drew w))) (h _ (m.lift (Fr.drew w)) a ha))
 ·intro j hj
  simp[Array.getElem?_replicate]at hj
  split at hj <;> cases hj
 ·unfold iK
  rw[List.countP_eq_zero]
  intro x _
  simp[Array.getElem?_replicate]
  split <;> rfl
end
end Go.Eng
end
