/- Part. -/
import Derived.Test.YtmibdabdlgmafaaGreatDoorSWK2
import Derived.ProofKit
import Derived.OpenShut
import Derived.ShutString
import Derived.ChangeOld
import Derived.SizedLaws
import Derived.ChangeSame
import Derived.Laws.BitsAllLaws
set_option linter.all false
section
set_option maxRecDepth 20000
namespace Go.Proofs.YtmibdabdlgmafaaGreatDoor
open Go.Eng Go.Hx
theorem sY{st:cA}{p:List UInt8}{r:ei}(h:b8 st.seen p=some r):r∈rowsOf st:=by
 unfold rowsOf
 refine List.mem_append_left _ (List.mem_append_left _ ?_)
 exact List.mem_map.2 ⟨_,iG h,rfl⟩
def cz(st:cA)(p:List UInt8):List UInt8:=if dM st p=0 then((b8 st.seen p).map (·.l)).getD []else []
theorem tb{st:cA}{p:List UInt8}(h:dM st p≠0):cz st p=[]:=by rw[cz,if_neg h]
theorem tg{st:cA}{p:List UInt8}{r:ei}(h:dM st p=0)(hr:b8 st.seen p=some r):cz st p=r.l:=by rw[cz,if_pos h,hr];rfl
theorem tL{st:cA}{p:List UInt8}(h:dM st p=0):∃r,b8 st.seen p=some r:=by
 unfold dM at h
 split at h
 ·omega
 ·split at h
  ·omega
  ·rename_i h2
   cases hq:b8 st.seen p with
   |none=>exact absurd hq h2
   |some r=>exact⟨r,rfl⟩
def Small(st:cA):Prop:=∀r∈rowsOf st,r.n≤1000000000
theorem Fi{g:Nat}{st:cA}{p:List UInt8}(hs:Small st):cj Tryz.prog 90 [.pointer (some ⟨g,0,none⟩),.string (strOf p)] [bj g st] [] (fun v_ X_ S_=>∃v,v_=(.tuple #[v,.int .i64 (dM st p)])∧X_=[bj g st,aG 5 1 v (cz st p).length (aR (cz st p))]∧S_=[]):=by
 refine aQ (N:=20) Tryz.func90 rfl rfl (by simp) fun b=> ?_
 refine ah<|aj<|hy (fun _=>ab rfl)<|hy (fun _=>ab rfl)<|ai<|ag<|ah<|ah<|aj<|hy (fun _=>aa rfl)<|hy (fun _=>aa rfl)<| ?_
 refine hx (aq rfl Tryz.call158 (vc) [0] rfl [] rfl ?_)
 rintro _ _ _ ⟨rfl,rfl,rfl⟩
 refine hy (fun _=>ab rfl)<|ai<|al (ρ' :=[(6,_),(5,_),(4,_),(0,_),(1,_)]) ⟨rfl,rfl,rfl,rfl,rfl,trivial⟩<|ak (X' :=[_]) (S' :=[]) (fun _ m=>m)<|ag<|ah<|aj<|hy (fun _=>aa rfl)<|hy (fun _=>dP rfl rfl)<|ai<|al (ρ' :=[(11,_),(6,_),(5,_),(4,_),(0,_),(1,_)]) ⟨rfl,rfl,rfl,rfl,rfl,rfl,trivial⟩<|ag<| ?_
 refine cD rfl (fun h=> ?_) (fun h=> ?_)
 ·rw[tb h]
  refine ah<|aj<|hy (fun _=>aa rfl)<|hy (fun _=>ab rfl)<|hy (fun _=>ab rfl)<|ai<|al (ρ' :=[(5,_),(4,_),(11,_),(6,_),(0,_),(1,_)]) ⟨rfl,rfl,rfl,rfl,rfl,rfl,trivial⟩<|ag<|aX<|ax<| ?_
  refine ak (fun w m=>m.dG (r' :=aG 5 1 (.slice none 0 0) 0 []) (.refl _ _) (Own.nil _ _ _ _) (fun k hk=>hk.elim)) ?_
  exact dy trivial rfl rfl rfl [1,0] rfl [] rfl ⟨_,rfl,rfl,rfl⟩
 ·have h0:=Decidable.not_not.1 h
  obtain⟨r,hr⟩:=tL h0
  have hv:b8 (dC st.seen) p=some r.val:=by rw[nu,hr];rfl
  rw[tg h0 hr,h0]
  have hmem:=sY hr
  obtain⟨i,hi⟩:=List.mem_iff_getElem?.1 hmem
  have hsm:=hs r hmem
  refine bw (fun w m=>(m.perm (ar [0] _ [_] _ rfl)).unpack) ?_
  refine aY (fun m=>ig ((View.ok (View.row hi)).1 _ (m.FE 4 rfl))) fun hrl=> ?_
  have hrl:=hrl.1
  refine aC<|ag<|ah<|aj<|hy (fun _=>aa rfl)<|hy (fun _=>a7 rfl)<|hy (fun _=>aH rfl gv (by decide))<|hy (fun m=>aw rfl iR (aA (m.aZ 0 rfl) rfl))<|hy (fun _=>aa rfl)<|hy (fun m=>yV (jS (enc:=SV) rfl rfl Tryz.underlying174 ui (jY Tryz.underlying9) (m.p4 1 rfl)) ((show hC false (.slice none 0 0) (b8 (dC st.seen) p)= .slice r.A r.n r.c by rw[hv];rfl)))<| ?_
  refine hx (cN rfl Tryz.call117 (rT (by omega)) [] rfl (.x 4 rfl (View.row hi) .nil) ?_)
  rintro _ _ _ ⟨v,rfl,rfl,rfl⟩
  refine⟨rfl, ?_⟩
  refine aD (fun m=>(m.own 0 rfl).slice) ?_
  rintro⟨A_x,c_x,rfl,hc_x⟩
  refine aD (fun m=>(m.ord 0 rfl).2.1) fun hA_x=> ?_
  refine hy (fun _=>ab rfl)<|hy (fun _=>ab rfl)<|ai<|al (ρ' :=[(5,_),(4,_),(11,_),(6,_),(0,_),(1,_)]) ⟨rfl,rfl,rfl,rfl,rfl,rfl,trivial⟩<|ak (X' :=[_,_,_,_,_,_]) (S' :=[]) (fun _ m=>m)<|ag<|aX<| ?_
  refine ak (X' :=bj g st::_) (fun w m=>(m.perm (ar [1,1,1,1,1] _ [_,_,_,_,_] _ rfl)).pack) ?_
  exact dy trivial rfl rfl rfl [0,0] rfl [] rfl ⟨_,rfl,(by rw[hrl]),rfl⟩
theorem vu{g:Nat}{l:List (List UInt8×Value)}{p:List UInt8}{r:ei}:cj Tryz.prog 153 [.agg [SV p,r.val].toArray,.map (some g)] [cT SV g l] [] (fun v_ X_ S_=>v_=(.tuple #[])∧X_=[cT SV g (cE l p r.val)]∧S_=[]):=by
 refine aQ (N:=9) Tryz.func153 rfl rfl (by simp) fun b=> ?_
 refine ah<|aj<| ?_
 refine hx (cI rfl (fun g2=> ?_))
 refine ai<|ak (X' :=[_,_]) (S' :=[]) (fun _ m=>m)<|ag<|aj<|hy (fun _=>aa rfl)<|hy (fun _=>aH rfl B1 (by decide))<|hy (fun m=>aw rfl l0 (aA (m.aZ 0 rfl) rfl))<|hy (fun _=>aH rfl oS (by decide))<|hy (fun m=>aw rfl ea (aA (m.aZ 0 rfl) rfl))<| ?_
 refine cJ (pP (enc:=SV) 1 rfl rfl rfl rfl Tryz.underlying174 (jY Tryz.underlying9) ?_)
 refine ai<|al (ρ' :=[(2,_),(0,_),(1,_)]) ⟨rfl,rfl,rfl,trivial⟩<|ak (X' :=[_,_]) (S' :=[]) (fun _ m=>m)<| ?_
 exact fD trivial rfl [0] rfl [] rfl ⟨rfl,rfl,rfl⟩
theorem jE{l:c6}{p:List UInt8}{r x:ei}(h:x∈(cE l p r).map (·.2)):x∈l.map (·.2)∨x=r:=by
 induction l with
 |nil=>simp only[cE,List.map_cons,List.map_nil,List.mem_singleton]at h;exact .inr h
 |cons a q ih=>
  obtain⟨k,u⟩:=a
  simp only[cE]at h
  split at h
  ·simp only[List.map_cons,List.mem_cons]at h ⊢
   rcases h with rfl|h
   ·exact .inr rfl
   ·exact .inl (.inr h)
  ·simp only[List.map_cons,List.mem_cons]at h ⊢
   rcases h with rfl|h
   ·exact .inl (.inl rfl)
   ·rcases ih h with h|h
    ·exact .inl (.inr h)
    ·exact .inr h
def cA.wrote(st:cA)(p:List UInt8)(r:ei)(A:Option Addr)(c:Nat):cA:={st.eH with seen:=cE st.seen p r,waits:=st.waits++[.written p r],wA:=A,wc:=c}
theorem pH{st:cA}{p:List UInt8}{r:ei}{A:Option Addr}{c:Nat}:∀x∈rowsOf (st.wrote p r A c),x∈rowsOf st∨x=r:=by
 intro x hx
 unfold rowsOf cA.wrote at hx
 simp only[cA.eH,List.mem_append,List.filterMap_append]at hx
 unfold rowsOf
 simp only[List.mem_append]
 rcases hx with(h|h)|h|h
 ·rcases jE h with h|h
  ·exact .inl (.inl (.inl h))
  ·exact .inr h
 ·exact .inl (.inl (.inr h))
 ·exact .inl (.inr h)
 ·simp[fj.row]at h
  exact .inr h
theorem G8{g:Nat}{st:cA}{p:List UInt8}{r:ei}{e:TypeId}(hp:st.bF≤1000000000000)(hw:st.waits.length≤1000000):cj Tryz.prog 116 [.pointer (some ⟨g,0,none⟩),(fj.written p r).val] [bj g st,aG e 1 (.slice r.A r.n r.c) r.n (aR r.l)] [] (fun v_ X_ S_=>∃A c,v_=(.tuple #[])∧X_=[bj g (st.wrote p r A c)]∧S_=[]):=by
 have hsw:st.eH.waits.length=st.waits.length:=rfl
 refine aQ (N:=25) Tryz.func116 rfl rfl (by simp) fun b=> ?_
 refine ah<|aj<|hy (fun _=>aa rfl)<| ?_
 refine hx (aq rfl Tryz.call181 (su (by omega)) [0] rfl [] rfl ?_)
 rintro _ _ _ ⟨rfl,rfl,rfl⟩
 refine aT (fun w m=>(m.perm (ar [0] _ [_] _ rfl)).unpack) ?_
 refine ai<|al (ρ' :=[(0,_),(1,_)]) ⟨rfl,rfl,trivial⟩<|ak (X' :=[_,_,_,_,_,_]) (S' :=[]) (fun _ m=>m)<|ag<|ah<|cG [8] [(0,some 0),(1,some 0),(2,some 0),(3,some 0),(4,some 0),(5,some 0),(6,some 0),(7,some 0),(8,none)] (by kernel_rfl) (by kernel_rfl) rfl 0<|an (aa rfl)<|an (aa rfl)<|an (a7 rfl)<|an (aH rfl gv (by decide))<|ca (fun m=>aw rfl iR (aA (m.aZ 0 rfl) rfl))<|an (iy rfl rfl)<|an (pT rfl (by kernel_rfl))<|an (aa rfl)<| ?_
 refine dV (qg rfl rfl (fun w=>by kernel_rfl) Tryz.call153 (vu) [1] rfl [] rfl ?_)
 rintro _ _ _ ⟨rfl,rfl,rfl⟩
 refine⟨(fun h=>absurd h (by decide)), ?_⟩
 refine br<|al (ρ' :=[(0,_),(1,_)]) ⟨rfl,rfl,trivial⟩<|ak (X' :=[_,_,_,_,_,_]) (S' :=[]) (fun _ m=>m)<|ag<|aj<|hy (fun _=>aa rfl)<|hy (fun _=>aa rfl)<|hy (fun _=>a7 rfl)<|hy (fun _=>aH rfl ib (by decide))<|hy (fun m=>aw rfl vR (aA (m.aZ 1 rfl) rfl))<|hy (fun _=>aa rfl)<| ?_
 refine hx (bY Tryz.underlying175 rb rfl rfl rfl (by simp[Value.cells,fj.val]) (by decide) (by decide) (fun g21=> ?_))
 have hA_b21:0<1→(some (⟨g21,0,none⟩:Addr))≠none:=fun _ h=>by cases h
 refine aT (fun w m=>m.bQ 0 rfl (show _=aG 232 1 (.slice (some ⟨g21,0,none⟩) 1 1) 1 [(fj.written p r).val]from rfl)) ?_
 refine hx (bL 4 rfl rfl rfl Tryz.underlying175 Tryz.underlying175 (by exact .inl rfl) rb rfl (fun m=>Src.b7 (m.ord 0 rfl)) (by simp[fj.val,Value.oneCell']) (by unfold maxLen;omega) (by omega) (fun u=> ?_))
 refine aD (fun m=>(m.own 0 rfl).slice) ?_
 rintro⟨A_d3,c_d3,rfl,hc_d3⟩
 refine aD (fun m=>(m.ord 0 rfl).2.1) fun hA_d3=> ?_
 refine hy (fun _=>a7 rfl)<|hy (fun _=>aH rfl ib (by decide))<| ?_
 refine cJ (cm 3 rfl rfl rfl tZ rfl (by first|exact Nat.le_of_ble_eq_true rfl|simp) ?_)
 refine ai<|al (ρ' :=[(0,_),(1,_)]) ⟨rfl,rfl,trivial⟩<|ak (X' :=[_,_,_,_,_,_,_]) (S' :=[]) (fun _ m=>m)<| ?_
 refine ak (fun w m=>m.bQ 0 rfl (show _=aL g 177 (gM (st.wrote p r A_d3 c_d3))from by simp[gM,cA.wrote,cA.eH])) ?_
 refine ak (fun w m=>m.bQ 3 rfl (show _=cT SV st.gs (dC (st.wrote p r A_d3 c_d3).seen)from congrArg (cT SV st.gs) (kG _ _ _))) ?_
 refine ak (fun w m=>m.bQ 2 rfl (show _=aG 232 1 (.slice A_d3 (st.wrote p r A_d3 c_d3).waits.length c_d3) (st.wrote p r A_d3 c_d3).waits.length ((st.wrote p r A_d3 c_d3).waits.map fj.val)from by simp[cA.wrote,cA.eH])) ?_
 refine ak (X' :=fM (rowsOf (st.wrote p r A_d3 c_d3))::_) (fun w m=>(m.perm (ar [5,5] _ [_,_] _ rfl)).DC (pH)) ?_
 refine ak (X' :=bj g (st.wrote p r A_d3 c_d3)::_) (fun w m=>(m.perm (ar [3,2,3,1,0] _ [_,_,_,_,_] _ rfl)).pack) ?_
 exact fD trivial rfl [0] rfl [] rfl ⟨_,_,rfl,rfl,rfl⟩
def bH(st:cA)(p:List UInt8)(n:Nat):Int:=if¬fV p then 1 else if st.bF=0 then 6 else if st.room<(me st.seen:Int)-(((b8 st.seen p).map (·.n)).getD 0:Nat)+n then 5 else 0
theorem A8:∀{l:c6} {m:Nat},(∀x∈l,x.2.n≤m)→me l≤l.length*m
 | [],m,h=>by simp[me]
 |a::q,m,h=>by
  have:=A8 (l:=q) (m:=m) (fun x hx=>h x (List.mem_cons_of_mem _ hx))
  have h1:=h a (List.mem_cons_self ..)
  simp only[me,List.map_cons,List.sum_cons,List.length_cons,Nat.add_mul]at this ⊢
  omega
structure nB(st:cA)(k:Nat):Prop where
 bF:st.bF≤1000000000000
 room:st.room≤1048576
 seen:st.seen.length≤k
 rest:st.bO.length+st.waits.length≤k
 small:∀r∈rowsOf st,r.n≤1048576
theorem nB.le{st:cA}{k k' :Nat}(h:nB st k)(hk:k≤k'):nB st k' :=⟨h.bF,h.room,Nat.le_trans h.seen hk,Nat.le_trans h.rest hk,h.small⟩
theorem nB.me{st:cA}{k:Nat}(h:nB st k):me st.seen≤k*1048576:=Nat.le_trans (A8 (m:=1048576) (fun x hx=>h.small _ (by unfold rowsOf;exact List.mem_append_left _ (List.mem_append_left _ (List.mem_map.2 ⟨x,hx,rfl⟩))))) (Nat.mul_le_mul_right _ h.seen)
theorem nB.sm{st:cA}{k:Nat}(h:nB st k):Small st:=fun r hr=>Nat.le_trans (h.small r hr) (by decide)
theorem nB.init{n:Int}{gs gl:Nat}(h:n≤1048576):nB (mI n gs gl) 0:=⟨by simp[mI],h,Nat.le_refl _,Nat.le_refl _,fun r hr=>by simp[rowsOf,mI]at hr⟩
theorem kW(l:c6)(p:List UInt8)(r:ei):(cE l p r).length≤l.length+1:=by
 induction l with
 |nil=>simp[cE]
 |cons a q ih=>
  obtain⟨k,u⟩:=a
  simp only[cE]
  split <;> simp only[List.length_cons] <;> omega
theorem nc(l:c6)(p:List UInt8):(ec l p).length≤l.length:=by
 induction l with
 |nil=>simp[ec]
 |cons a q ih=>
  obtain⟨k,u⟩:=a
  simp only[ec]
  split <;> simp only[List.length_cons] <;> omega
theorem kH{st:cA}(h:st.bF≤1000000000000):st.eH.bF≤1000000000000:=by
 simp only[cA.eH]
 split <;> omega
theorem nB.wrote{st:cA}{k:Nat}(h:nB st k){p:List UInt8}{r:ei}(hr:r.n≤1048576)(A:Option Addr)(c:Nat):nB (st.wrote p r A c) (k+1):=by
 refine⟨kH h.bF,h.room, ?_, ?_,fun x hx=> ?_⟩
 ·have:=kW st.seen p r
  have:=h.seen
  show(cE st.seen p r).length≤k+1
  omega
 ·have:=h.rest
  show st.bO.length+(st.waits++[fj.written p r]).length≤k+1
  simp only[List.length_append,List.length_cons,List.length_nil]
  omega
 ·rcases pH x hx with h' |rfl
  ·exact h.small x h'
  ·exact hr
theorem Ed{g:Nat}{st:cA}{p:List UInt8}{A:Option Addr}{n c:Nat}{l:List UInt8}{k:Nat}(ok:nB st k)(hk:k≤100000)(hn:n≤1048576):cj Tryz.prog 33 [.pointer (some ⟨g,0,none⟩),.string (strOf p),.slice A n c] [bj g st] [cV 1 A n (aR l)] (fun v_ X_ S_=>∃st1 B c1 A1 c2,v_=(.int .i64 (bH st p n))∧X_=[bj g st1]∧S_=[]∧((bH st p n≠0∧st1=st)∨(bH st p n=0∧st1=st.wrote p ⟨B,n,c1,l⟩ A1 c2))):=by
 have hp:=ok.bF
 have hw:st.waits.length≤1000000:=by have:=ok.rest;omega
 have ht:me st.seen≤1000000000000:=by have:=ok.me;omega
 have hs:=ok.sm
 refine aQ (N:=41) Tryz.func33 rfl rfl (by simp) fun b=> ?_
 refine aY (fun m=>ig (m.rd 0 rfl)) ?_
 rintro⟨hl_r,hA_r⟩
 refine ah<|aj<|hy (fun _=>ab rfl)<|ai<|ag<|ah<|aI<|ah<|aj<|hy (fun _=>aa rfl)<| ?_
 refine hx (aq rfl Tryz.call115 (yx) [] rfl [] rfl ?_)
 rintro _ _ _ ⟨rfl,rfl,rfl⟩
 refine hy (fun _=>kb rfl)<|hy (fun _=>ab rfl)<|ai<|al (ρ' :=[(7,_),(6,_),(0,_),(1,_),(2,_)]) ⟨rfl,rfl,rfl,rfl,rfl,trivial⟩<|ak (X' :=[_]) (S' :=[_]) (fun _ m=>m)<|ag<| ?_
 refine cD rfl (fun h1=> ?_) (fun h1=> ?_)
 ·have e:bH st p n=1:=by rw[bH,if_pos h1]
  rw[e]
  refine ah<|aj<|hy (fun _=>ab rfl)<|ai<|ag<|aX<|a8<|ax<| ?_
  exact bf trivial rfl rfl [0] rfl [] rfl ⟨_,none,0,none,0,rfl,rfl,rfl,.inl ⟨by decide,rfl⟩⟩
 ·refine ah<|aj<|hy (fun _=>aa rfl)<| ?_
  refine hx (aq rfl Tryz.call87 (GD) [0] rfl [] rfl ?_)
  rintro _ _ _ ⟨rfl,rfl,rfl⟩
  refine hy (fun _=>kb rfl)<|hy (fun _=>ab rfl)<|ai<|al (ρ' :=[(11,_),(7,_),(6,_),(0,_),(1,_),(2,_)]) ⟨rfl,rfl,rfl,rfl,rfl,rfl,trivial⟩<|ak (X' :=[_]) (S' :=[_]) (fun _ m=>m)<|ag<| ?_
  refine cD rfl (fun h2=> ?_) (fun h2=> ?_)
  ·have e:bH st p n=6:=by rw[bH,if_neg h1,if_pos (by omega)]
   rw[e]
   refine ah<|aj<|hy (fun _=>ab rfl)<|ai<|ag<|aX<|a8<|ax<| ?_
   exact bf trivial rfl rfl [0] rfl [] rfl ⟨_,none,0,none,0,rfl,rfl,rfl,.inl ⟨by decide,rfl⟩⟩
  ·have hwe:bH st p n=if st.room<(me st.seen:Int)-(((b8 st.seen p).map (·.n)).getD 0:Nat)+n then 5 else 0:=by rw[bH,if_neg h1,if_neg (by omega)]
   have hv:∃B m c0,hC false (.slice none 0 0) (b8 (dC st.seen) p)= .slice B m c0∧m=((b8 st.seen p).map (·.n)).getD 0∧m≤1000000000:=by
    rw[nu]
    cases hq:b8 st.seen p with
    |none=>exact⟨none,0,0,rfl,rfl,by decide⟩
    |some r=>exact⟨r.A,r.n,r.c,rfl,rfl,hs r (sY hq)⟩
   obtain⟨B,m,c0,hv1,hv2,hv3⟩:=hv
   rw[←hv2]at hwe
   refine ah<|cG [1] [(0,some 0),(2,some 1),(3,some 1),(4,some 1),(5,some 1),(6,some 1),(7,some 1),(8,some 1),(10,some 1),(11,some 1),(13,some 1),(14,some 1),(15,some 1),(16,some 1),(1,none),(9,some 1),(12,some 1),(17,some 1),(18,some 1)] (by kernel_rfl) (by kernel_rfl) rfl 99<|an (aa rfl)<|an (aa rfl)<|an (a7 rfl)<|an (aH rfl gv (by decide))<|ca (fun m=>aw rfl iR (aA (show fE _ _ _ _ from m.GG 0 rfl 0 rfl) rfl))<|an (aa rfl)<|ca (fun m=>yV (jS (enc:=SV) rfl rfl Tryz.underlying174 ui (jY Tryz.underlying9) (show gH _ _ _ _ from m.GG 0 rfl 1 rfl)) (hv1))<|an (aU rfl Tryz.underlying27)<|an (aa rfl)<|an (aU rfl Tryz.underlying27)<|an (aa rfl)<|an (a7 rfl)<|an (aH rfl BN (by decide))<|ca (fun m=>aw rfl fS (aA (show fE _ _ _ _ from m.GG 0 rfl 0 rfl) rfl))<| ?_
   refine dV (aq rfl Tryz.call88 (Gz (by omega)) [0] rfl [] rfl ?_)
   rintro _ _ _ ⟨rfl,rfl,rfl⟩
   refine⟨(fun _=>wk [0] [0] rfl rfl), ?_⟩
   refine an (cw rfl rfl (bC (by omega) (by omega)))<|an (aN rfl rfl (bC (by omega) (by omega)))<|an (cY rfl rfl)<|an (ab rfl)<|br<|al (ρ' :=[(15,_),(11,_),(7,_),(6,_),(0,_),(1,_),(2,_)]) ⟨rfl,rfl,rfl,rfl,rfl,rfl,rfl,trivial⟩<|ak (X' :=[_]) (S' :=[_]) (fun _ m=>m)<|ag<| ?_
   refine cD rfl (fun h3=> ?_) (fun h3=> ?_)
   ·rw[if_pos (by omega)]at hwe
    rw[hwe]
    refine ah<|aj<|hy (fun _=>ab rfl)<|ai<|ag<|aX<|a8<|ax<| ?_
    exact bf trivial rfl rfl [0] rfl [] rfl ⟨_,none,0,none,0,rfl,rfl,rfl,.inl ⟨by decide,rfl⟩⟩
   ·rw[if_neg (by omega)]at hwe
    rw[hwe]
    refine aC<|aM<|ag<|ah<|aj<|hy (fun _=>aa rfl)<|hy (fun _=>aa rfl)<|hy (fun _=>aa rfl)<| ?_
    refine hx (aq rfl Tryz.call117 (rT (by omega)) [] rfl [0] rfl ?_)
    rintro _ _ _ ⟨v,rfl,rfl,rfl⟩
    refine aD (fun m=>(m.own 0 rfl).slice) ?_
    rintro⟨A_x,c_x,rfl,hc_x⟩
    refine aD (fun m=>(m.ord 0 rfl).2.1) fun hA_x=> ?_
    refine hy (fun _=>yV (cy Dm rfl rfl (by kernel_rfl) (.cons (o:=0) (sz:=1) (by kernel_rfl) rfl rfl (Nat.le_of_ble_eq_true rfl) (.cons (o:=1) (sz:=1) (by kernel_rfl) rfl rfl (Nat.le_of_ble_eq_true rfl) .nil))) ((rfl:_=Value.agg [SV p,Value.slice A_x n c_x].toArray)))<|hy (fun _=>kv rfl Tryz.underlying189 (fun _ h=>by cases h))<| ?_
    refine hx (aq rfl Tryz.call116 (G8 (by omega) (by omega) (r:=⟨A_x,n,c_x,l⟩)) [1,0] rfl [] rfl ?_)
    rintro _ _ _ ⟨A2,c2,rfl,rfl,rfl⟩
    refine ai<|al (ρ' :=[(15,_),(11,_),(7,_),(6,_),(0,_),(1,_),(2,_)]) ⟨rfl,rfl,rfl,rfl,rfl,rfl,rfl,trivial⟩<|ak (X' :=[_]) (S' :=[_]) (fun _ m=>m)<|ag<|ah<|aj<|hy (fun _=>ab rfl)<|ai<|ag<|aX<| ?_
    exact bf trivial rfl rfl [0] rfl [] rfl ⟨_,_,_,_,_,rfl,rfl,rfl,.inr ⟨rfl,rfl⟩⟩
theorem wv{g:Nat}{l:List (List UInt8×Value)}:cj Tryz.prog 154 [.map (some g)] [cT SV g l] [] (fun v_ X_ S_=>∃g1,v_=(.map (some g1))∧X_=[cT SV g l,cT SV g1 l]∧S_=[]):=by
 refine aQ (N:=9) Tryz.func154 rfl rfl (by simp) fun b=> ?_
 refine ah<|aj<|hy (fun _=>ab rfl)<|ai<|ag<|ah<|ah<|aj<|hy (fun _=>aa rfl)<|hy (fun _=>EA rfl rfl Tryz.underlying174)<|ai<|al (ρ' :=[(4,_),(2,_),(0,_)]) ⟨rfl,rfl,rfl,trivial⟩<|ag<| ?_
 refine dL rfl (rfl) ?_
 refine aC<|ag<|ah<|aj<|hy (fun _=>aa rfl)<|hy (fun _=>kv rfl Tryz.underlying174 (fun _ h=>by cases h))<| ?_
 refine hx (x9 0 rfl rfl Tryz.func209 (by kernel_rfl) (by kernel_rfl) (by kernel_rfl) (by kernel_rfl) (fun g1=> ?_))
 refine hy (fun _=>mN rfl (show _=Result.ok (Value.map (some g1)) _ by kernel_rfl))<|hy (fun _=>ab rfl)<|ai<|al (ρ' :=[(2,_),(4,_),(0,_)]) ⟨rfl,rfl,rfl,trivial⟩<|ak (X' :=[_,_]) (S' :=[]) (fun _ m=>m)<|ag<|aX<| ?_
 exact bf trivial rfl rfl [1,0] rfl [] rfl ⟨_,rfl,rfl,rfl⟩
def cA.synced(st:cA)(gl:Nat):cA:={st.eH with gl:=gl,bO:=st.seen,waits:=[],wA:=none,wc:=0}
def c7(st:cA):Int:=if st.bF=0 then 6 else 0
theorem og{st:cA}{gl:Nat}:∀x∈rowsOf (st.synced gl),x∈rowsOf st:=by
 intro x hx
 unfold rowsOf cA.synced at hx
 simp only[cA.eH,List.filterMap_nil,List.append_nil,List.mem_append,or_self]at hx
 unfold rowsOf
 exact List.mem_append_left _ (List.mem_append_left _ hx)
theorem nB.synced{st:cA}{k:Nat}(h:nB st k)(gl:Nat):nB (st.synced gl) k:=
 ⟨kH h.bF,h.room,h.seen,by show st.seen.length+0≤k;have:=h.seen;omega,fun x hx=>h.small x (og x hx)⟩
theorem Fy{g:Nat}{st:cA}{k:Nat}(ok:nB st k):cj Tryz.prog 110 [.pointer (some ⟨g,0,none⟩)] [bj g st] [] (fun v_ X_ S_=>∃st1 gl,v_=(.int .i64 (c7 st))∧X_=[bj g st1]∧S_=[]∧((st.bF=0∧st1=st)∨(st.bF≠0∧st1=st.synced gl))):=by
 refine aQ (N:=19) Tryz.func110 rfl rfl (by simp) fun b=> ?_
 refine ah<|aj<|hy (fun _=>ab rfl)<|ai<|ag<|ah<|ah<|aj<|hy (fun _=>aa rfl)<| ?_
 refine hx (aq rfl Tryz.call87 (GD) [0] rfl [] rfl ?_)
 rintro _ _ _ ⟨rfl,rfl,rfl⟩
 refine hy (fun _=>kb rfl)<|ai<|al (ρ' :=[(5,_),(2,_),(0,_)]) ⟨rfl,rfl,rfl,trivial⟩<|ak (X' :=[_]) (S' :=[]) (fun _ m=>m)<|ag<| ?_
 refine cD rfl (fun h1=> ?_) (fun h1=> ?_)
 ·have h0:st.bF=0:=Decidable.not_not.1 h1
  have e:c7 st=6:=by rw[c7,if_pos h0]
  rw[e]
  refine ah<|aj<|hy (fun _=>ab rfl)<|ai<|ag<|aX<|ax<| ?_
  exact bf trivial rfl rfl [0] rfl [] rfl ⟨_,0,rfl,rfl,rfl,.inl ⟨h0,rfl⟩⟩
 ·have h0:st.bF≠0:=fun e=>h1 (fun h=>h e)
  have e:c7 st=0:=by rw[c7,if_neg h0]
  rw[e]
  have hp:=ok.bF
  refine aC<|ag<|ah<|aj<|hy (fun _=>aa rfl)<| ?_
  refine hx (aq rfl Tryz.call181 (su (by omega)) [0] rfl [] rfl ?_)
  rintro _ _ _ ⟨rfl,rfl,rfl⟩
  refine aT (fun w m=>(m.perm (ar [0] _ [_] _ rfl)).unpack) ?_
  refine ai<|al (ρ' :=[(5,_),(2,_),(0,_)]) ⟨rfl,rfl,rfl,trivial⟩<|ak (X' :=[_,_,_,_,_]) (S' :=[]) (fun _ m=>m)<|ag<|ah<|aj<|hy (fun _=>aa rfl)<|hy (fun _=>aa rfl)<|hy (fun _=>aa rfl)<|hy (fun _=>a7 rfl)<|hy (fun _=>aH rfl gv (by decide))<|hy (fun m=>aw rfl iR (aA (m.aZ 0 rfl) rfl))<| ?_
  refine hx (aq rfl Tryz.call154 (wv) [1] rfl [] rfl ?_)
  rintro _ _ _ ⟨g1,rfl,rfl,rfl⟩
  refine hy (fun _=>a7 rfl)<|hy (fun _=>aH rfl lB (by decide))<| ?_
  refine cJ (cm 2 rfl rfl rfl Dd rfl (by first|exact Nat.le_of_ble_eq_true rfl|simp) ?_)
  refine hy (fun _=>a7 rfl)<|hy (fun _=>aH rfl ib (by decide))<| ?_
  refine cJ (cm 0 rfl rfl rfl tZ rfl (by first|exact Nat.le_of_ble_eq_true rfl|simp) ?_)
  refine ai<|al (ρ' :=[(5,_),(2,_),(0,_)]) ⟨rfl,rfl,rfl,trivial⟩<|ak (X' :=[_,_,_,_,_,_]) (S' :=[]) (fun _ m=>m)<|ag<|ah<|aj<|hy (fun _=>ab rfl)<|ai<|ag<|aX<| ?_
  refine ak (fun w m=>m.dG (r' :=aG 232 1 (.slice none 0 0) 0 []) (.refl _ _) (Own.nil _ _ _ _) (fun k hk=>hk.elim)) ?_
  refine ak (fun w m=>Mem.AE (X:=[_]) (m.perm (ar [4] _ [_] _ rfl))) ?_
  refine ak (fun w m=>Mem.AE (X:=[_]) (m.perm (ar [4] _ [_] _ rfl))) ?_
  refine ak (fun w m=>m.bQ 1 rfl (show _=aL g 177 (gM (st.synced g1))from rfl)) ?_
  refine ak (X' :=fM (rowsOf (st.synced g1))::_) (fun w m=>(m.perm (ar [4] _ [_] _ rfl)).uK (og)) ?_
  refine ak (X' :=bj g (st.synced g1)::_) (fun w m=>(m.perm (ar [1,2,2,1,0] _ [_,_,_,_,_] _ rfl)).pack) ?_
  exact bf trivial rfl rfl [0] rfl [] rfl ⟨_,_,rfl,rfl,rfl,.inr ⟨h0,rfl⟩⟩
end Go.Proofs.YtmibdabdlgmafaaGreatDoor
end
section
set_option maxRecDepth 20000
namespace Go.Proofs.YtmibdabdlgmafaaGreatDoor
open Go.Eng Go.Hx
def jJ(l:List Bool):List Value:=l.map Value.bool
theorem ti{g n c:Nat}{A:Option Addr}{bs:List Bool}(hc:n≤c):cj Tryz.prog 152 [.pointer (some ⟨g,0,none⟩)] [aL g 28 [.slice A n c]] [cV 1 A n (jJ bs)] (fun v_ X_ S_=>∃A1 n1 c1,v_=(.bool (bs.headD false))∧X_=[aL g 28 [.slice A1 n1 c1]]∧S_=[cV 1 A1 n1 (jJ bs.tail)]∧(n1≤c1)):=by
 refine aQ (N:=12) Tryz.func152 rfl rfl (by simp) fun b=> ?_
 refine aY (fun m=>gY (m.rd 0 rfl)) ?_
 rintro⟨hl_r,hA_r⟩
 have hbl:bs.length=n:=by simpa[jJ]using hl_r
 refine ah<|aj<|hy (fun _=>ab rfl)<|ai<|ag<|ah<|ah<|aj<|hy (fun m=>aw rfl E1 (aA (m.aZ 0 rfl) rfl))<|hy (fun _=>aU rfl Tryz.underlying28)<|hy (fun _=>cM rfl rfl)<|ai<|al (ρ' :=[(5,_),(1,_),(0,_)]) ⟨rfl,rfl,rfl,trivial⟩<|ag<| ?_
 refine cD rfl (fun h=> ?_) (fun h=> ?_)
 ·obtain rfl:bs=[]:=List.eq_nil_of_length_eq_zero (by omega)
  refine ah<|aj<|hy (fun _=>ab rfl)<|ai<|ag<|aX<|ax<| ?_
  refine ak (fun w m=>m.jN 0 rfl .same) ?_
  refine so (fun m=>gY (m.rd 0 rfl)) ?_
  rintro⟨hl_q,hA_q⟩
  exact bf trivial rfl rfl [0] rfl [0] rfl ⟨_,_,_,rfl,rfl,rfl,hc⟩
 ·obtain⟨b1,t,rfl⟩:∃b1 t,bs=b1::t:=by
   cases bs with
   |nil=>simp at hbl;omega
   |cons b1 t=>exact⟨b1,t,rfl⟩
  refine bw (fun w m=>m.jN 0 rfl (View.FZ (k:=1) hc (by omega))) ?_
  refine aY (fun m=>gY (m.rd 0 rfl)) ?_
  rintro⟨hl_q,hA_q⟩
  refine aC<|ag<|ah<|aj<|hy (fun m=>aw rfl E1 (aA (m.aZ 0 rfl) rfl))<|hy (fun _=>aO rfl rfl Tryz.underlying28 GZ hA_r (show((0:Nat):Int)=0 from rfl) (by omega))<|hy (fun m=>aw rfl HG ((m.rd 1 rfl).cell (j:=0) rfl))<|hy (fun _=>ab rfl)<|ai<|al (ρ' :=[(2,_),(5,_),(1,_),(0,_)]) ⟨rfl,rfl,rfl,rfl,trivial⟩<|ag<|ah<|aj<|hy (fun m=>aw rfl E1 (aA (m.aZ 0 rfl) rfl))<|hy (fun _=>ej rfl rfl Tryz.underlying28 GZ (show((1:Nat):Int)=1 from rfl) (by omega))<| ?_
  refine cJ (dH 0 rfl rfl rfl Hl rfl (by first|exact Nat.le_of_ble_eq_true rfl|simp) ?_)
  refine ai<|al (ρ' :=[(2,_),(5,_),(1,_),(0,_)]) ⟨rfl,rfl,rfl,rfl,trivial⟩<|ak (X' :=[_]) (S' :=[_,_]) (fun _ m=>m)<|ag<|ah<|aj<|hy (fun _=>aa rfl)<|hy (fun _=>ab rfl)<|ai<|al (ρ' :=[(1,_),(2,_),(5,_),(0,_)]) ⟨rfl,rfl,rfl,rfl,trivial⟩<|ag<|aX<| ?_
  exact bf trivial rfl rfl [0] rfl [0] rfl ⟨_,_,_,rfl,rfl,rfl,(by omega)⟩
def gT(st:List Bool×c6)(c:fj):List Bool×c6:=
 if st.1.headD false then
  match c with
  | .written p r=>(st.1.tail.tail,cE st.2 p (if st.1.tail.headD false then r else r.half))
  | .renamed a b=>(st.1.tail,match b8 st.2 a with
   |none=>st.2
   |some r=>cE (ec st.2 a) b r)
  | .removed p=>(st.1.tail,ec st.2 p)
 else(st.1.tail,st.2)
def ee(keep:List Bool)(st:cA)(i:Nat):List Bool×c6:=(st.waits.take i).foldl gT (keep,st.bO)
theorem l5{keep:List Bool}{st:cA}{i:Nat}{c:fj}(h:st.waits[i]? =some c):ee keep st (i+1)=gT (ee keep st i) c:=by
 unfold ee
 obtain⟨hi,rfl⟩:=List.getElem?_eq_some_iff.1 h
 rw[List.take_succ_eq_append_getElem hi,List.foldl_append]
 rfl
def D6(rows:List ei)(r:ei):Prop:=∃q∈rows,r=q∨∃k,k≤q.n∧r=⟨q.A,k,q.c,q.l.take k⟩
theorem uQ{keep:List Bool}{st:cA}(i:Nat):∀r∈(ee keep st i).2.map (·.2),D6 (rowsOf st) r:=by
 have base:∀r∈st.bO.map (·.2),D6 (rowsOf st) r:=fun r hr=>⟨r,by unfold rowsOf;exact List.mem_append_left _ (List.mem_append_right _ hr),.inl rfl⟩
 have iv:∀{l:c6} {p:List UInt8} {x:ei},x∈(ec l p).map (·.2)→x∈l.map (·.2):=fun{l p x} h=>by
  induction l with
  |nil=>exact h
  |cons a q ih=>
   obtain⟨k,u⟩:=a
   simp only[ec]at h
   split at h
   ·exact List.mem_cons_of_mem _ h
   ·simp only[List.map_cons,List.mem_cons]at h ⊢
    rcases h with rfl|h
    ·exact .inl rfl
    ·exact .inr (ih h)
 induction i with
 |zero=>intro r hr;exact base r (by simpa[ee]using hr)
 |succ i ih=>
  cases hc:st.waits[i]? with
  |none=>
   have:ee keep st (i+1)=ee keep st i:=by
    unfold ee
    have:=List.getElem?_eq_none_iff.1 hc
    rw[List.take_of_length_le (by omega),List.take_of_length_le this]
   rw[this]
   exact ih
  |some c=>
   rw[l5 hc]
   have hcm:=List.mem_of_getElem? hc
   intro r hr
   unfold gT at hr
   split at hr
   ·cases c with
    |written p q=>
     have hq:q∈rowsOf st:=by
      unfold rowsOf
      exact List.mem_append_right _ (List.mem_filterMap.2 ⟨_,hcm,rfl⟩)
     rcases jE hr with h|h
     ·exact ih r h
     ·rw[h]
      split
      ·exact⟨q,hq,.inl rfl⟩
      ·exact⟨q,hq,.inr ⟨q.n/2,by omega,rfl⟩⟩
    |renamed a b=>
     simp only at hr
     split at hr
     ·exact ih r hr
     ·rename_i u hu
      rcases jE hr with h|h
      ·exact ih r (iv h)
      ·rw[h];exact ih u (List.mem_map.2 ⟨_,iG hu,rfl⟩)
    |removed p=>exact ih r (iv hr)
   ·exact ih r hr
def cA.started(st:cA)(keep:List Bool)(gs:Nat):cA:=
 let L:=(ee keep st st.waits.length).2
 {st with gs:=gs,seen:=L,bO:=L,waits:=[],wA:=none,wc:=0,bF:=-1}
theorem mE{st:cA}{keep:List Bool}(gs:Nat):∀r∈rowsOf (st.started keep gs),D6 (rowsOf st) r:=by
 intro r hr
 unfold rowsOf cA.started at hr
 simp only[List.filterMap_nil,List.append_nil,List.mem_append,or_self]at hr
 exact uQ _ r hr
theorem xX(keep:List Bool)(st:cA)(i:Nat):(ee keep st i).2.length≤st.bO.length+i:=by
 induction i with
 |zero=>simp[ee]
 |succ i ih=>
  cases hc:st.waits[i]? with
  |none=>
   have:ee keep st (i+1)=ee keep st i:=by
    unfold ee
    have:=List.getElem?_eq_none_iff.1 hc
    rw[List.take_of_length_le (by omega),List.take_of_length_le this]
   rw[this];omega
  |some c=>
   rw[l5 hc]
   unfold gT
   split
   ·cases c with
    |written p r=>
     have:=kW (ee keep st i).2 p (if(ee keep st i).1.tail.headD false then r else r.half)
     show(cE _ _ _).length≤_
     omega
    |renamed a b=>
     simp only
     split
     ·omega
     ·rename_i u hu
      have h1:=kW (ec (ee keep st i).2 a) b u
      have h2:=nc (ee keep st i).2 a
      omega
    |removed p=>
     have h2:=nc (ee keep st i).2 p
     show(ec _ _).length≤_
     omega
   ·show(ee keep st i).2.length≤_
    omega
theorem nB.started{st:cA}{k:Nat}(h:nB st k)(keep:List Bool)(gs:Nat):nB (st.started keep gs) k:=by
 have hl:=xX keep st st.waits.length
 have hr:=h.rest
 refine⟨by show(-1:Int)≤_;omega,h.room, ?_, ?_,fun x hx=> ?_⟩
 ·show(ee keep st st.waits.length).2.length≤k
  omega
 ·show(ee keep st st.waits.length).2.length+0≤k
  omega
 ·obtain⟨q,hq,rfl|⟨j,hj,rfl⟩⟩:=mE gs x hx
  ·exact h.small _ hq
  ·exact Nat.le_trans hj (h.small q hq)
end Go.Proofs.YtmibdabdlgmafaaGreatDoor
end
section
namespace Go.Eng
open Go.RowKit Go.ChangeShapes Go.WideShapes
theorem yA{H:Type}{enc:TypeId×Value→H}{P:Program}{w:World}{base:Nat}{spare:Nat→Bool}{held:Bool}{r:Reach}{b0:Nat}{t:TypeId}{v:Value}{d:DataW H}{ps:List MemPlace}(ht:P.underlying t=some (.int .i64))(hval:Value.okWide P w r b0 t v)(hd:DataW.Trod enc P w base spare held t v d ps):
  ∃n:Int,v= .int .i64 n∧(-9223372036854775808≤n∧n≤9223372036854775807)∧ps=[]:=by
 obtain⟨n,rfl,_,rfl,hw⟩:=open_int ht hval hd
 refine⟨n,rfl, ?_,rfl⟩
 simp only[Lit.wf,IntKind.min,IntKind.max,IntKind.signed,IntKind.bits]at hw
 simp at hw
 omega
end Go.Eng
end
section
namespace Go.Eng
open Go.RowKit Go.ChangeShapes Go.WideShapes
inductive Cell
 |v (x:Value)
 |s (sz:Nat) (A:Option Addr) (n c:Nat) (xs:List Cell)
def Cell.val:Cell→Value
 | .v x=>x
 | .s _ A n c _=>.slice A n c
mutual
def Cell.dm:Cell→Nat→Prop
 | .v _=>fun _=>False
 | .s _ A _ _ xs=>fun k=>(xs≠ []∧∃a,A=some a∧k=a.block)∨wb xs k
def wb:List Cell→Nat→Prop
 | []=>fun _=>False
 |x::r=>fun k=>x.dm k∨wb r k
end
mutual
def Cell.holds(w:World):Cell→Prop
 | .v _=>True
 | .s sz A n c xs=>Rd w sz A n (xs.map Cell.val)∧n≤c∧iU w xs
def iU(w:World):List Cell→Prop
 | []=>True
 |x::r=>x.holds w∧iU w r
end
theorem fZ{w:World}:∀{xs:List Cell},iU w xs↔∀x∈xs,x.holds w
 | []=>by simp[iU]
 |x::r=>by simp only[iU,fZ (xs:=r),List.mem_cons,forall_eq_or_imp]
mutual
theorem Cell.keep{S:Nat→Prop}{w w' :World}(f:Fr S w w'):∀(c:Cell),(∀k,c.dm k→¬S k)→c.holds w→c.holds w'
 | .v _,_,_=>trivial
 | .s sz A n c xs,h,hh=>by
  obtain⟨h1,h2,h3⟩:=hh
  refine⟨Rd.keep h1 f (fun k hk=>h k ?_),h2,C7 f xs (fun k hk=>h k (.inr hk)) h3⟩
  obtain⟨hne,a,ha,hk⟩:=hk
  exact .inl ⟨fun e=>hne (by rw[e];rfl),a,ha,hk⟩
theorem C7{S:Nat→Prop}{w w' :World}(f:Fr S w w'):∀(xs:List Cell),(∀k,wb xs k→¬S k)→iU w xs→iU w' xs
 | [],_,_=>trivial
 |x::r,h,hh=>⟨Cell.keep f x (fun k hk=>h k (.inl hk)) hh.1,C7 f r (fun k hk=>h k (.inr hk)) hh.2⟩
end
mutual
theorem Cell.low{w:World}:∀(c:Cell) {k:Nat},c.holds w→c.dm k→k<w.heap.size
 | .v _,_,_,h=>h.elim
 | .s sz A n c xs,k,hh,hk=>by
  obtain⟨h1,h2,h3⟩:=hh
  rcases hk with⟨hne,a,ha,hk⟩|hk
  ·exact(cV sz A n (xs.map Cell.val)).low h1 ⟨fun e=>hne (List.map_eq_nil_iff.1 e),a,ha,hk⟩
  ·exact Gg xs h3 hk
theorem Gg{w:World}:∀(xs:List Cell) {k:Nat},iU w xs→wb xs k→k<w.heap.size
 | [],_,_,h=>h.elim
 |x::r,k,hh,hk=>by
  rcases hk with hk|hk
  ·exact Cell.low x hh.1 hk
  ·exact Gg r hh.2 hk
end
def rz(c:Cell):bh:=⟨c.dm,fun w=>c.holds w,fun f h x=>c.keep f h x,fun x hk=>c.low x hk⟩
theorem View.GI{sz n c:Nat}{A:Option Addr}{xs:List Cell}:View (rz (.s sz A n c xs)) (cV sz A n (xs.map Cell.val)):=
 .of (fun w h=>h.1) (fun k hk=>by
  obtain⟨hne,a,ha,hk⟩:=hk
  exact .inl ⟨fun e=>hne (by rw[e];rfl),a,ha,hk⟩)
inductive Ty(P:Program):TypeId→List Cell→Prop
 |int {t:TypeId} {k:IntKind} {z:Int} (ht:P.underlying t=some (.int k)) (hw:(Lit.int k z).wf=true):Ty P t [.v (.int k z)]
 |bool {t:TypeId} {b:Bool} (ht:P.underlying t=some .bool):Ty P t [.v (.bool b)]
 |str {t:TypeId} {s:List UInt8} (ht:P.underlying t=some .string) (hs:s.length≤140737488351232):Ty P t [.v (.string (strOf s))]
 |slice {t e:TypeId} {A:Option Addr} {n c:Nat} {xs:List Cell} (ht:P.underlying t=some (.slice e)) (hc:n≤c) (hn:n*P.bytesOf e≤140737488351232) (hl:xs.length=n*P.cellsOf e)
   (h:∀i,i<n→Ty P e ((xs.drop (i*P.cellsOf e)).take (P.cellsOf e))):Ty P t [.s (P.cellsOf e) A n c xs]
 |arr {t e:TypeId} {n:Nat} {xs:List Cell} (ht:P.underlying t=some (.array n e)) (hl:xs.length=P.cellsOf t) (h:∀i,i<n→Ty P e ((xs.drop (i*P.cellsOf e)).take (P.cellsOf e))):Ty P t xs
 |struct {t:TypeId} {fs:Array Field} {xs:List Cell} (ht:P.underlying t=some (.struct fs)) (hl:xs.length=P.cellsOf t) (h:∀(i:Nat) (f:Field),fs[i]? =some f→Ty P f.type ((xs.drop f.offset).take (P.cellsOf f.type))):Ty P t xs
def jk(P:Program):List Field→Nat→Nat→Bool
 | [],o,e=>o == e
 |f::r,o,e=>f.offset == o && jk P r (o+P.cellsOf f.type) e
def parts(P:Program):Nat→TypeId→Bool
 |0,_=>false
 |n+1,t=>match P.underlying t with
  |some (.int _)|some .bool|some .string=>true
  |some (.slice e)=>parts P n e && decide (0<P.cellsOf e)
  |some (.array m e)=>parts P n e && (P.cellsOf t == m*P.cellsOf e)
  |some (.struct fs)=>fs.toList.all (fun f=>parts P n f.type) && jk P fs.toList 0 (P.cellsOf t)
  |_=>false
section
variable{H:Type}{enc:TypeId×Value→H}{P:Program}{w:World}{base:Nat}{spare:Nat→Bool}{held:Bool}
theorem xC{b:Nat}{a:Addr}{n:Nat}{cs:List Value}(h:w.cells? b a n=some cs):cs.length=n∧∀j u,cs[j]? =some u→w.cell? (a.add j)=some u:=by
 obtain⟨hb,hl,hcell⟩:=World.cells?_some h
 refine⟨hl,fun j u hu=> ?_⟩
 have hj:j<n:=by rw[←hl];exact(List.getElem?_eq_some_iff.1 hu).1
 rw[hcell j hj,hu]
theorem iH{e:TypeId}{d:DataW H}{n:Nat}:∀{ds:List (DataW H)},d∈ds→n∈d.weights P e→n∈DataW.weightsAll P e ds
 | [],h,_=>by cases h
 |a::r,h,hn=>by
  simp only[DataW.weightsAll,List.mem_append]
  rcases List.mem_cons.1 h with rfl|h
  ·exact .inl hn
  ·exact .inr (iH h hn)
theorem pieces{sz:Nat}{Q:List Cell→Prop}{R:Nat→List Value→Prop}:∀(m:Nat),(∀i,i<m→∃ys:List Cell,ys.length=sz∧Q ys∧R i (ys.map Cell.val)∧iU w ys)→
  ∃xs:List Cell,xs.length=m*sz∧(∀i,i<m→Q ((xs.drop (i*sz)).take sz)∧R i (((xs.drop (i*sz)).take sz).map Cell.val))∧iU w xs
 |0,_=>⟨[],by simp,fun i hi=>absurd hi (by omega),trivial⟩
 |m+1,h=>by
  obtain⟨xs,h1,h2,h3⟩:=pieces m (fun i hi=>h i (by omega))
  obtain⟨ys,h4,h5,h6,h7⟩:=h m (by omega)
  have hlen:(m+1)*sz=m*sz+sz:=by rw[Nat.add_mul,Nat.one_mul]
  refine⟨xs++ys,by rw[List.length_append,h1,h4,hlen],fun i hi=> ?_,fZ.2 fun x hx=> ?_⟩
  ·by_cases hm:i=m
   ·subst hm
    have e:((xs++ys).drop (i*sz)).take sz=ys:=by
     rw[←h1,List.drop_left,List.take_of_length_le (by omega)]
    rw[e]
    exact⟨h5,h6⟩
   ·have hi' :i<m:=by omega
    have hle:i*sz+sz≤m*sz:=by
     have:=Nat.mul_le_mul_right sz (show i+1≤m by omega)
     rwa [Nat.add_mul,Nat.one_mul]at this
    have e:((xs++ys).drop (i*sz)).take sz=(xs.drop (i*sz)).take sz:=by
     rw[List.drop_append_of_le_length (by omega),List.take_append_of_le_length (by rw[List.length_drop];omega)]
    rw[e]
    exact h2 i hi'
  ·rcases List.mem_append.1 hx with hx|hx
   ·exact fZ.1 h3 x hx
   ·exact fZ.1 h7 x hx
theorem nH{xs:List Value}{sz i j:Nat}(hj:j<sz):((xs.drop (i*sz)).take sz)[j]? =xs[i*sz+j]? :=by
 rw[List.getElem?_take,if_pos hj,List.getElem?_drop]
theorem mH{cs:List Value}:∀(fs:List Field) (o e:Nat),jk P fs o e=true→(∀f∈fs,∃ys:List Cell,ys.length=P.cellsOf f.type∧Ty P f.type ys∧ys.map Cell.val=(cs.drop f.offset).take (P.cellsOf f.type)∧iU w ys)→
  o≤e∧∃xs:List Cell,xs.length=e-o∧xs.map Cell.val=(cs.drop o).take (e-o)∧iU w xs∧∀f∈fs,o≤f.offset∧Ty P f.type ((xs.drop (f.offset-o)).take (P.cellsOf f.type))
 | [],o,e,hc,_=>by
  have:o=e:=by simpa[jk]using hc
  subst this
  exact⟨Nat.le_refl _,[],by simp,by simp,trivial,by simp⟩
 |f::r,o,e,hc,h=>by
  simp only[jk,Bool.and_eq_true,beq_iff_eq]at hc
  obtain⟨h0,hc⟩:=hc
  obtain⟨hle,xs,h1,h2,h3,h4⟩:=mH r _ e hc (fun g hg=>h g (List.mem_cons_of_mem _ hg))
  obtain⟨ys,h5,h6,h7,h8⟩:=h f (List.mem_cons_self ..)
  rw[h0]at h7
  refine⟨by omega,ys++xs,by rw[List.length_append,h1,h5];omega, ?_,fZ.2 fun x hx=> ?_,fun g hg=> ?_⟩
  ·rw[List.map_append,h7,h2,←List.drop_drop,show e-o=P.cellsOf f.type+(e-(o+P.cellsOf f.type)) by omega,List.take_add]
  ·rcases List.mem_append.1 hx with hx|hx
   ·exact fZ.1 h8 x hx
   ·exact fZ.1 h3 x hx
  ·rcases List.mem_cons.1 hg with rfl|hg
   ·refine⟨by omega, ?_⟩
    rw[h0,Nat.sub_self,List.drop_zero,←h5,List.take_left]
    exact h6
   ·obtain⟨h9,h10⟩:=h4 g hg
    refine⟨by omega, ?_⟩
    have e1:(ys++xs).drop (g.offset-o)=xs.drop (g.offset-(o+P.cellsOf f.type)):=by
     rw[List.drop_append,List.drop_of_length_le (by omega),List.nil_append]
     congr 1
     omega
    rw[e1]
    exact h10
theorem j6:∀(k fuel:Nat) (t:TypeId) (cs:List Value) (x:DataW H×List MemPlace),parts P k t=true→DataW.trod enc P w 0 spare held fuel t cs=some x→(∀q∈DataW.weights P t x.1,q≤140737488351232)→∃xs:List Cell,xs.map Cell.val=cs∧iU w xs∧Ty P t xs
 |0,fuel,t,cs,x,hp,_,_=>by simp[parts]at hp
 |k+1,fuel,t,cs,x,hp,h,hw=>by
  unfold parts at hp
  split at hp
  ·rename_i q ht
   obtain⟨z,rfl,_,hz⟩:=DataW.trod_int ht h
   exact⟨[.v (.int q z)],rfl,⟨trivial,trivial⟩,.int ht hz⟩
  ·rename_i ht
   obtain⟨b,rfl,_⟩:=DataW.trod_bool ht h
   exact⟨[.v (.bool b)],rfl,⟨trivial,trivial⟩,.bool ht⟩
  ·rename_i ht
   obtain⟨s,rfl,hx,_⟩:=DataW.trod_string ht h
   have h1:=hw s.data.toList.length (by rw[hx];simp[DataW.weights])
   exact⟨[.v (.string s)],rfl,⟨trivial,trivial⟩,.str (s:=bytesOf s) ht h1⟩
  ·rename_i e ht
   simp only[Bool.and_eq_true,decide_eq_true_eq]at hp
   rcases DataW.trod_slice ht h with⟨rfl,rfl⟩|⟨a,len,cap,elems,rest,m,_,rfl,hx,hb,hl,hm,hlen,hel,_,_⟩
   ·exact⟨[.s (P.cellsOf e) none 0 0 []],rfl,⟨⟨Rd.nil _ _ _,Nat.le_refl _,trivial⟩,trivial⟩,.slice ht (Nat.le_refl _) (by simp) (by simp) (fun i hi=>absurd hi (by omega))⟩
   ·have hwe:∀d∈elems.map (·.1),∀q∈DataW.weights P e d,q≤140737488351232:=fun d hd q hq=>hw q (by
     rw[hx]
     simp only[DataW.weights,ht,List.mem_cons,List.mem_append]
     exact .inr (.inl (iH hd hq)))
    obtain⟨xs,h1,h2,h3⟩:=pieces (w:=w) (sz:=P.cellsOf e) (Q:=Ty P e) (R:=fun i vs=>∀j u,vs[j]? =some u→w.cell? (a.add (i*P.cellsOf e+j))=some u) len (fun i hi=>by
     have h1:=hel i hi
     rw[List.getElem?_eq_getElem (by omega)]at h1
     obtain⟨c,hc1,hc2⟩:=Option.bind_eq_some_iff.1 h1
     obtain⟨hcl,hcc⟩:=xC hc1
     obtain⟨ys,h4,h5,h6⟩:=j6 k _ e c _ hp.1 hc2 (fun q hq=>hwe _ (List.mem_map.2 ⟨_,List.getElem_mem _,rfl⟩) q hq)
     refine⟨ys,by rw[←hcl,←h4,List.length_map],h6,fun j u hu=> ?_,h5⟩
     rw[h4]at hu
     have:=hcc j u hu
     rwa [add_add]at this)
    have hR:Rd w (P.cellsOf e) (some a) len (xs.map Cell.val):=⟨by rw[List.length_map,h1],fun _ e=>(by cases e),fun q u hu=>by
     have hq:q<len*P.cellsOf e:=by
      have:=(List.getElem?_eq_some_iff.1 hu).1
      rwa [List.length_map,h1]at this
     have hd:q/P.cellsOf e<len:=(Nat.div_lt_iff_lt_mul hp.2).2 hq
     have hmod:=Nat.mod_lt q hp.2
     have hqe:q/P.cellsOf e*P.cellsOf e+q % P.cellsOf e=q:=by
      have:=Nat.div_add_mod q (P.cellsOf e)
      rw[Nat.mul_comm]at this
      exact this
     have:=(h2 _ hd).2 (q % P.cellsOf e) u (by rw[List.map_take,List.map_drop,nH hmod,hqe];exact hu)
     rw[hqe]at this
     simpa using this⟩
    have hn:len*P.bytesOf e≤140737488351232:=by
     have:=hw ((elems.length+rest.length)*P.bytesOf e) (by rw[hx];simp[DataW.weights,ht])
     rw[hlen,Nat.add_mul]at this
     omega
    exact⟨[.s (P.cellsOf e) (some a) len cap xs],rfl,⟨⟨hR,hl,h3⟩,trivial⟩,.slice ht hl hn h1 (fun i hi=>(h2 i hi).1)⟩
  ·rename_i m e ht
   simp only[Bool.and_eq_true,beq_iff_eq]at hp
   obtain⟨ys,n,_,hx,hlen,hyl,hel⟩:=DataW.trod_array ht h
   have hwe:∀d∈ys.map (·.1),∀q∈DataW.weights P e d,q≤140737488351232:=fun d hd q hq=>hw q (by
    rw[hx]
    simp only[DataW.weights,ht]
    exact iH hd hq)
   obtain⟨xs,h1,h2,h3⟩:=pieces (w:=w) (sz:=P.cellsOf e) (Q:=Ty P e) (R:=fun i vs=>vs=(cs.drop (i*P.cellsOf e)).take (P.cellsOf e)) m (fun i hi=>by
    have h1:=hel i hi
    rw[List.getElem?_eq_getElem (by omega)]at h1
    obtain⟨zs,h4,h5,h6⟩:=j6 k _ e _ _ hp.1 h1 (fun q hq=>hwe _ (List.mem_map.2 ⟨_,List.getElem_mem _,rfl⟩) q hq)
    refine⟨zs, ?_,h6,h4,h5⟩
    have:=congrArg List.length h4
    rw[List.length_map,List.length_take,List.length_drop,hlen,hp.2]at this
    have hle:i*P.cellsOf e+P.cellsOf e≤m*P.cellsOf e:=by
     have:=Nat.mul_le_mul_right (P.cellsOf e) (show i+1≤m by omega)
     rwa [Nat.add_mul,Nat.one_mul]at this
    omega)
   refine⟨xs, ?_,h3,.arr ht (by rw[h1,hp.2]) (fun i hi=>(h2 i hi).1)⟩
   apply List.ext_getElem?
   intro q
   by_cases hq:q<m*P.cellsOf e
   ·have hpos:0<P.cellsOf e:=by
     rcases Nat.eq_zero_or_pos (P.cellsOf e)with h0|h0
     ·rw[h0,Nat.mul_zero]at hq;omega
     ·exact h0
    have hd:q/P.cellsOf e<m:=(Nat.div_lt_iff_lt_mul hpos).2 hq
    have hmod:=Nat.mod_lt q hpos
    have hqe:q/P.cellsOf e*P.cellsOf e+q % P.cellsOf e=q:=by
     have:=Nat.div_add_mod q (P.cellsOf e)
     rw[Nat.mul_comm]at this
     exact this
    have h4:=congrArg (fun l:List Value=>l[q % P.cellsOf e]?) (h2 _ hd).2
    simp only[List.map_take,List.map_drop]at h4
    rwa [nH hmod,nH hmod,hqe]at h4
   ·rw[List.getElem?_eq_none (by rw[List.length_map,h1];omega),List.getElem?_eq_none (by rw[hlen,hp.2];omega)]
  ·rename_i fs ht
   simp only[Bool.and_eq_true,List.all_eq_true]at hp
   obtain⟨ys,n,_,hx,hlen,hyl,hel⟩:=DataW.trod_struct ht h
   have hw2:∀(i:Nat) (f:Field) (d:DataW H),fs[i]? =some f→(ys.map (·.1))[i]? =some d→∀q∈DataW.weights P f.type d,q≤140737488351232:=fun i f d hf hd q hq=>hw q (by
    rw[hx]
    simp only[DataW.weights,ht]
    exact DataW.weights_mem_each (j:=i) (t:=f.type) (d:=d) (by simp[hf]) hd q hq)
   obtain⟨_,xs,h1,h2,h3,h4⟩:=mH (P:=P) (w:=w) (cs:=cs) fs.toList 0 (P.cellsOf t) hp.2 (fun f hf=>by
    obtain⟨i,hi⟩:=List.mem_iff_getElem?.1 hf
    have hi' :fs[i]? =some f:=by simpa using hi
    have h1:=hel i f hi'
    have hlt:i<ys.length:=by
     rw[hyl]
     exact(Array.getElem?_eq_some_iff.1 hi').1
    rw[List.getElem?_eq_getElem hlt]at h1
    obtain⟨zs,h5,h6,h7⟩:=j6 k _ f.type _ _ (hp.1 f hf) h1 (fun q hq=>hw2 i f _ hi' (by rw[List.getElem?_map,List.getElem?_eq_getElem hlt];rfl) q hq)
    have hz:zs.length=P.cellsOf f.type:=by
     have hz:=congrArg List.length h5
     rw[List.length_map,List.length_take,List.length_drop,hlen]at hz
     have hin:∀(l:List Field) (o e:Nat),jk P l o e=true→f∈l→f.offset+P.cellsOf f.type≤e∧o≤e:=by
      intro l
      induction l with
      |nil=>intro o e _ hm;cases hm
      |cons g r ih=>
       intro o e hc hm
       simp only[jk,Bool.and_eq_true,beq_iff_eq]at hc
       have hge:∀(l:List Field) (o e:Nat),jk P l o e=true→o≤e:=by
        intro l
        induction l with
        |nil=>intro o e hc;simp[jk]at hc;omega
        |cons g r ih=>intro o e hc;simp only[jk,Bool.and_eq_true,beq_iff_eq]at hc;have:=ih _ _ hc.2;omega
       rcases List.mem_cons.1 hm with rfl|hm
       ·have:=hge _ _ _ hc.2
        omega
       ·have:=ih _ _ hc.2 hm
        omega
     have:=hin _ _ _ hp.2 hf
     omega
    exact⟨zs,hz,h7,h5,h6⟩)
   refine⟨xs, ?_,h3,.struct ht (by rw[h1];omega) (fun i f hf=> ?_)⟩
   ·rw[h2,List.drop_zero,Nat.sub_zero,←hlen,List.take_length]
   ·have:=(h4 f (by rw[Array.mem_toList_iff];exact Array.mem_of_getElem? hf)).2
    rwa [Nat.sub_zero]at this
  ·cases hp
end
section
variable{P:Program}{t e:TypeId}{xs:List Cell}
theorem D8{k:IntKind}(ht:P.underlying t=some (.int k))(h:Ty P t xs):∃z,xs=[.v (.int k z)]∧(Lit.int k z).wf=true:=by
 cases h with
 |int ht' hw=>rw[ht]at ht';cases ht';exact⟨_,rfl,hw⟩
 |bool ht' =>rw[ht]at ht';cases ht'
 |str ht' =>rw[ht]at ht';cases ht'
 |slice ht' =>rw[ht]at ht';cases ht'
 |arr ht' =>rw[ht]at ht';cases ht'
 |struct ht' =>rw[ht]at ht';cases ht'
theorem Eo(ht:P.underlying t=some (.int .i64))(h:Ty P t xs):∃z,xs=[.v (.int .i64 z)]∧-9223372036854775808≤z∧z≤9223372036854775807:=by
 obtain⟨z,rfl,hw⟩:=D8 ht h
 refine⟨z,rfl, ?_⟩
 simp only[Lit.wf,IntKind.min,IntKind.max,IntKind.signed,IntKind.bits]at hw
 simp at hw
 omega
theorem CT(ht:P.underlying t=some .bool)(h:Ty P t xs):∃b,xs=[.v (.bool b)]:=by
 cases h with
 |int ht' =>rw[ht]at ht';cases ht'
 |bool ht' =>exact⟨_,rfl⟩
 |str ht' =>rw[ht]at ht';cases ht'
 |slice ht' =>rw[ht]at ht';cases ht'
 |arr ht' =>rw[ht]at ht';cases ht'
 |struct ht' =>rw[ht]at ht';cases ht'
theorem pj(ht:P.underlying t=some (.slice e))(h:Ty P t xs):∃A n c ys,xs=[.s (P.cellsOf e) A n c ys]∧n≤c∧n*P.bytesOf e≤140737488351232∧ys.length=n*P.cellsOf e∧∀i,i<n→Ty P e ((ys.drop (i*P.cellsOf e)).take (P.cellsOf e)):=by
 cases h with
 |int ht' =>rw[ht]at ht';cases ht'
 |bool ht' =>rw[ht]at ht';cases ht'
 |str ht' =>rw[ht]at ht';cases ht'
 |slice ht' hc hn hl h=>rw[ht]at ht';cases ht';exact⟨_,_,_,_,rfl,hc,hn,hl,h⟩
 |arr ht' =>rw[ht]at ht';cases ht'
 |struct ht' =>rw[ht]at ht';cases ht'
end
theorem fH{w:World}{sz n i o:Nat}{A:Option Addr}{xs:List Value}{u:Value}(h:Rd w sz A n xs)(hu:xs[i*sz+o]? =some u):w.cell? (((A.getD d0).add (i*sz)).add o)=some u:=by
 rw[add_add]
 exact h.cell hu
theorem View.rowOf{sz n c:Nat}{A:Option Addr}{xs:List Cell}{vs:List Value}(h:xs.map Cell.val=vs):View (rz (.s sz A n c xs)) (cV sz A n vs):=h▸View.GI
section
variable{H:Type}{enc:TypeId×Value→H}{P:Program}{W:World}{spare:Nat→Bool}{held:Bool}{tss:List TypeId}{dss:List (DataW H)}
theorem vC{t:TypeId}{v:Value}{d:DataW H}{ps:List MemPlace}{j:Nat}(k:Nat)(hp:parts P k t=true)(h:DataW.Trod enc P W 0 spare held t v d ps)(hsz:(DataW.weightsEach P tss dss).all (· ≤reachBytes)=true)(hjt:tss[j]? =some t)(hjd:dss[j]? =some d):
  ∃xs:List Cell,xs.map Cell.val=v.cells.toList∧iU W xs∧Ty P t xs:=by
 obtain⟨fuel,hf⟩:=h
 refine j6 k fuel t _ _ hp hf (fun q hq=> ?_)
 have:=List.all_eq_true.1 hsz q (DataW.weights_mem_each hjt hjd q hq)
 have hr:reachBytes=140737488351232:=rfl
 simp at this
 omega
theorem sE{t e:TypeId}{A:Option Addr}{n c:Nat}{d:DataW H}{ps:List MemPlace}{j:Nat}(k:Nat)(hp:parts P k t=true)(ht:P.underlying t=some (.slice e))(h:DataW.Trod enc P W 0 spare held t (.slice A n c) d ps)(hsz:(DataW.weightsEach P tss dss).all (· ≤reachBytes)=true)(hjt:tss[j]? =some t)(hjd:dss[j]? =some d):
  ∃ys:List Cell,(rz (.s (P.cellsOf e) A n c ys)).holds W∧Ty P t [.s (P.cellsOf e) A n c ys]:=by
 obtain⟨xs,h1,h2,h3⟩:=vC k hp h hsz hjt hjd
 obtain⟨A',n',c',ys,rfl,_⟩:=pj ht h3
 have e1:[Cell.val (.s (P.cellsOf e) A' n' c' ys)]=[Value.slice A n c]:=h1
 simp only[Cell.val,List.cons.injEq,Value.slice.injEq,and_true]at e1
 obtain⟨rfl,rfl,rfl⟩:=e1
 exact⟨ys,h2.1,h3⟩
end
end Go.Eng
end
section
set_option maxRecDepth 20000
namespace Go.Proofs.YtmibdabdlgmafaaGreatDoor
open Go.Eng Go.Hx
theorem C8{P:Program}{N:Nat}{D:List Deferred}{ρ:Env}{w:World}{x y:Operand}{ty t t' :TypeId}{a b:ByteArray}(hx:ev ρ x=some (.string a))(hy:ev ρ y=some (.string b)):Yl P N D ρ w (.binOp .geq t x y t') ty (.bool (!Op.bytesLess a.toList b.toList)):=
 fun _ _ _ _ _ ha=>by simp[execOp,ha.eval hx,ha.eval hy,eqGuard,binOp,Op.stringOp]
abbrev FP:=List UInt8×List UInt8
def fc(l:List FP):List Value:=l.flatMap fun x=>[SV x.1,SV x.2]
theorem im(a b:List FP):fc (a++b)=fc a++fc b:=by simp[fc]
theorem ka:∀(l:List FP) (i:Nat) (x:FP),l[i]? =some x→(fc l)[i*2]? =some (SV x.1)∧(fc l)[i*2+1]? =some (SV x.2)
 | [],i,x,h=>by simp at h
 |a::r,0,x,h=>by
  simp only[List.getElem?_cons_zero,Option.some.injEq]at h
  subst h
  exact⟨rfl,rfl⟩
 |a::r,i+1,x,h=>by
  have ih:=ka r i x (by simpa using h)
  have e:fc (a::r)=SV a.1::SV a.2::fc r:=by simp[fc]
  rw[e,show(i+1)*2=i*2+2 by omega]
  exact ih
theorem nh{w:World}{A:Option Addr}{n i:Nat}{l:List FP}{x:FP}(h:Rd w 2 A n (fc l))(hx:l[i]? =some x):∀(j:Nat) (u:Value),[SV x.1,SV x.2][j]? =some u→w.cell? (((A.getD d0).add (i*2)).add j)=some u:=by
 obtain⟨g0,g1⟩:=ka l i x hx
 intro j u hu
 match j,hu with
 |0,hu=>cases hu;exact fH h g0
 |1,hu=>cases hu;exact fH h g1
 |j+2,hu=>simp at hu
theorem nM{l:List FP}:∀u∈fc l,u.oneCell' =true:=by
 intro u hu
 obtain⟨x,_,h⟩:=List.mem_flatMap.1 hu
 simp only[List.mem_cons,List.not_mem_nil,or_false]at h
 rcases h with rfl|rfl <;> rfl
theorem wO{p:List UInt8}(hp:p.length≤1000000000):cj Tryz.prog 112 [.string (strOf p)] [] [] (fun v_ X_ S_=>v_=(.bool (decide (fV p)))∧X_=[]∧S_=[]):=by
 have hsz:=di p
 refine aQ (N:=22) Tryz.func112 rfl rfl (by simp) fun b=> ?_
 refine ah<|aj<|hy (fun _=>ab rfl)<|ai<|ag<|ah<|ah<|aj<|hy (fun _=>ab rfl)<|ai<|ag<|aI<| ?_
 refine dD (fun i=>p.length-i) (fun i=>[(3,.int .i64 (i:Nat))]) (fun i=>[]) (fun i=>[]) (fun i=>i≤p.length∧¬(0:UInt8)∈p.take i) 0 [(0,_)] ⟨rfl,trivial⟩ [] rfl [] rfl (⟨Nat.zero_le _,by simp⟩) ⟨rfl,trivial⟩ (fun i hI=> ?_)
 obtain⟨hip,hno⟩:=hI
 refine ah<|ah<|aj<|hy (fun _=>aa rfl)<|hy (fun _=>aa rfl)<|hy (fun _=>db rfl Tryz.underlying9)<|hy (fun _=>bu rfl rfl)<|ai<|al (ρ' :=[(7,_),(3,_),(0,_)]) ⟨rfl,rfl,rfl,trivial⟩<|ag<| ?_
 refine cD rfl (fun h=> ?_) (fun h=> ?_)
 ·have hil:i<p.length:=by omega
  refine aC<|ag<|ah<|aI<|ah<|aj<|hy (fun _=>aa rfl)<|hy (fun _=>aa rfl)<|hy (fun _=>fO rfl rfl Tryz.underlying9 rfl (k7 hil))<|hy (fun _=>cM rfl rfl)<|ai<|al (ρ' :=[(13,_),(7,_),(3,_),(0,_)]) ⟨rfl,rfl,rfl,rfl,trivial⟩<|ag<| ?_
  refine cD rfl (fun h0=> ?_) (fun h0=> ?_)
  ·have h00:p.getD i 0=0:=UInt8.toNat_inj.1 (by simpa using h0)
   refine ah<|aj<|hy (fun _=>ab rfl)<|ai<|ag<|aX<|a8<|ax<|ax<|a8<|ax<| ?_
   exact bf trivial rfl rfl [] rfl [] rfl ⟨(congrArg Value.bool (decide_eq_false (fun hN=>hN.2.2 (by rw[←h00];rw[List.getD,List.getElem?_eq_getElem hil];exact List.getElem_mem hil))).symm),rfl,rfl⟩
  ·have hno2:¬(0:UInt8)∈p.take (i+1):=fun hm=>by
    rw[List.take_succ_eq_append_getElem hil]at hm
    rcases List.mem_append.1 hm with h1|h1
    ·exact hno h1
    ·apply h0
     have:=List.mem_singleton.1 h1
     rw[List.getD,List.getElem?_eq_getElem hil]
     simp[←this]
   refine aC<|aM<|ag<|aj<|hy (fun _=>aa rfl)<|hy (fun _=>aN rfl rfl (bC (by omega) (by omega)))<|hy (fun _=>ab rfl)<|ai<|al (ρ' :=[(3,_),(13,_),(7,_),(0,_)]) ⟨rfl,rfl,rfl,rfl,trivial⟩<| ?_
   refine cR (i+1) ⟨rfl,rfl,trivial⟩ [] rfl [] rfl (⟨by omega,hno2⟩) (by omega)
 ·obtain rfl:i=p.length:=by omega
  rw[List.take_of_length_le (Nat.le_refl _)]at hno
  by_cases h1:0<p.length
  ·refine bK<|ao<|ao<|aB<|ag<|ah<|aj<|hy (fun _=>aa rfl)<|hy (fun _=>db rfl Tryz.underlying9)<|hy (fun _=>yT (cY rfl rfl) ((decide_eq_true (by omega))))<|hy (fun _=>aa rfl)<|dU (o:=_) rfl rfl rfl (fun _=>aa rfl)<|dU (o:=_) rfl rfl rfl (fun _=>db rfl Tryz.underlying9)<|dU (o:=_) rfl rfl rfl (fun _=>bu rfl rfl)<|hy (fun _=>bX rfl rfl)<|hy (fun _=>ab rfl)<|ai<|al (ρ' :=[(2,_),(7,_),(3,_),(0,_)]) ⟨rfl,rfl,rfl,rfl,trivial⟩<|ag<|aX<| ?_
   exact bf trivial rfl rfl [] rfl [] rfl ⟨(congrArg Value.bool (decide_eq_decide.2 ⟨fun h=>⟨fun e=>by rw[e]at h1;exact absurd h1 (by decide),by omega,hno⟩,fun h=>by have:=h.2.1;omega⟩)),rfl,rfl⟩
  ·refine bK<|ao<|ao<|aB<|ag<|ah<|aj<|hy (fun _=>aa rfl)<|hy (fun _=>db rfl Tryz.underlying9)<|hy (fun _=>yF (cY rfl rfl) ((decide_eq_false (by omega))))<|hy (fun _=>aa rfl)<|bD rfl rfl rfl (by decide)<|bD rfl rfl rfl (by decide)<|bD rfl rfl rfl (by decide)<|hy (fun _=>bP rfl rfl)<|hy (fun _=>ab rfl)<|ai<|al (ρ' :=[(2,_),(7,_),(3,_),(0,_)]) ⟨rfl,rfl,rfl,rfl,trivial⟩<|ag<|aX<| ?_
   exact bf trivial rfl rfl [] rfl [] rfl ⟨(congrArg Value.bool (decide_eq_false (fun hN=>hN.1 (List.eq_nil_of_length_eq_zero (by omega)))).symm),rfl,rfl⟩
def cB(l:List FP)(p:List UInt8):Nat:=l.findIdx (fun x=>decide (x.1=p))
def kS(l:List FP)(p:List UInt8):Int:=if cB l p<l.length then(cB l p:Nat)else-1
theorem A7{l:List FP}{p:List UInt8}{i:Nat}{x:FP}(hx:l[i]? =some x)(h:x.1=p)(hno:∀j,j<i→∀y,l[j]? =some y→y.1≠p):cB l p=i:=by
 obtain⟨hi,rfl⟩:=List.getElem?_eq_some_iff.1 hx
 unfold cB
 rw[List.findIdx_eq hi]
 exact⟨by simpa using h,fun j hj=>by simpa using hno j hj _ (List.getElem?_eq_getElem (by omega))⟩
theorem yy{l:List FP}{p:List UInt8}(hno:∀j,j<l.length→∀y,l[j]? =some y→y.1≠p):¬cB l p<l.length:=by
 intro h
 have h1:=List.findIdx_getElem (w:=h)
 exact hno _ h _ (List.getElem?_eq_getElem h) (of_decide_eq_true h1)
theorem vx{A:Option Addr}{n c:Nat}{l:List FP}{p:List UInt8}(hl:l.length=n)(hn:n≤1000000000):cj Tryz.prog 113 [.slice A n c,.string (strOf p)] [] [cV 2 A n (fc l)] (fun v_ X_ S_=>v_=(.int .i64 (kS l p))∧X_=[]∧S_=[]):=by
 refine aQ (N:=20) Tryz.func113 rfl rfl (by simp) fun b=> ?_
 refine aY (fun m=>gY (m.rd 0 rfl)) ?_
 rintro⟨hl_r,hA_r⟩
 refine ah<|aj<|hy (fun _=>ab rfl)<|ai<|ag<|ah<|ah<|aj<|hy (fun _=>ab rfl)<|ai<|ag<|aI<| ?_
 refine dD (fun i=>n-i) (fun i=>[(5,.int .i64 (i:Nat))]) (fun i=>[]) (fun i=>[]) (fun i=>i≤n∧∀j,j<i→∀y,l[j]? =some y→y.1≠p) 0 [(0,_),(1,_)] ⟨rfl,rfl,trivial⟩ [] rfl [] rfl (⟨Nat.zero_le _,fun j hj=>absurd hj (Nat.not_lt_zero j)⟩) ⟨rfl,trivial⟩ (fun i hI=> ?_)
 obtain⟨hin,hno⟩:=hI
 refine ah<|ah<|aj<|hy (fun _=>aa rfl)<|hy (fun _=>aa rfl)<|hy (fun _=>aU rfl Tryz.underlying36)<|hy (fun _=>bu rfl rfl)<|ai<|al (ρ' :=[(9,_),(5,_),(0,_),(1,_)]) ⟨rfl,rfl,rfl,rfl,trivial⟩<|ag<| ?_
 refine cD rfl (fun h=> ?_) (fun h=> ?_)
 ·have hil:i<l.length:=by omega
  obtain⟨x,hx⟩:∃x,l[i]? =some x:=⟨_,List.getElem?_eq_getElem hil⟩
  obtain⟨g0,g1⟩:=ka l i x hx
  refine aC<|ag<|ah<|aI<|ah<|aj<|hy (fun _=>aa rfl)<|hy (fun _=>aa rfl)<|hy (fun _=>cH rfl rfl Tryz.underlying36 fh hA_r rfl (by omega))<|hy (fun _=>aH rfl fk (by decide))<|hy (fun m=>yV (aw rfl l0 (fH (m.rd 0 rfl) g0)) ((rfl:_=Value.string (strOf x.1))))<|hy (fun _=>aa rfl)<|hy (fun _=>tj rfl rfl)<|ai<|al (ρ' :=[(18,_),(9,_),(5,_),(0,_),(1,_)]) ⟨rfl,rfl,rfl,rfl,rfl,trivial⟩<|ag<| ?_
  refine cD rfl (fun h0=> ?_) (fun h0=> ?_)
  ·have he:x.1=p:=cF.1 h0
   have hN:=A7 hx he hno
   refine ah<|aj<|hy (fun _=>aa rfl)<|hy (fun _=>ab rfl)<|ai<|al (ρ' :=[(4,_),(18,_),(9,_),(5,_),(0,_),(1,_)]) ⟨rfl,rfl,rfl,rfl,rfl,rfl,trivial⟩<|ag<|aX<|a8<|ax<|ax<|a8<|ax<| ?_
   exact bf trivial rfl rfl [] rfl [] rfl ⟨(by rw[kS,hN,if_pos hil]),rfl,rfl⟩
  ·have he:x.1≠p:=fun e=>h0 (cF.2 e)
   have hno2:∀j,j<i+1→∀y,l[j]? =some y→y.1≠p:=fun j hj y hy=>by
    rcases Nat.lt_succ_iff_lt_or_eq.1 hj with h1|h1
    ·exact hno j h1 y hy
    ·rw[h1,hx]at hy;cases hy;exact he
   refine aC<|aM<|ag<|aj<|hy (fun _=>aa rfl)<|hy (fun _=>aN rfl rfl (bC (by omega) (by omega)))<|hy (fun _=>ab rfl)<|ai<|al (ρ' :=[(5,_),(18,_),(9,_),(0,_),(1,_)]) ⟨rfl,rfl,rfl,rfl,rfl,trivial⟩<| ?_
   refine cR (i+1) ⟨rfl,rfl,rfl,trivial⟩ [] rfl [0] rfl (⟨by omega,hno2⟩) (by omega)
 ·obtain rfl:i=n:=by omega
  refine bK<|ao<|ao<|aB<|ag<|ah<|aj<|hy (fun _=>ab rfl)<|ai<|ag<|aX<| ?_
  exact bf trivial rfl rfl [] rfl [] rfl ⟨(by rw[kS,if_neg (yy (fun j hj=>hno j (by omega)))]),rfl,rfl⟩
def dF(l:List FP):Nat:=(l.map fun x=>x.2.length).sum
theorem q6{l:List FP}{i:Nat}{x:FP}(h:l[i]? =some x):dF (l.take (i+1))=dF (l.take i)+x.2.length:=by
 obtain⟨hi,rfl⟩:=List.getElem?_eq_some_iff.1 h
 rw[List.take_succ_eq_append_getElem hi]
 unfold dF
 rw[List.map_append,List.sum_append]
 simp
theorem we(l:List FP)(i:Nat):dF (l.take i)≤dF l:=by
 have:dF l=dF (l.take i)+dF (l.drop i):=by
  conv=>lhs;rw[←List.take_append_drop i l]
  simp only[dF,List.map_append,List.sum_append]
 omega
def dv(room:Int)(s l w:Value)(pw:Int):List Value:=[.int .i64 room,s,l,w,.int .i64 pw]
theorem EN{room pw:Int}{vl vw:Value}{A:Option Addr}{n c:Nat}{l:List FP}(hl:l.length=n)(hn:n≤1000000000)(ht:dF l≤1000000000000):cj Tryz.prog 89 [.agg (dv room (.slice A n c) vl vw pw).toArray] [] [cV 2 A n (fc l)] (fun v_ X_ S_=>v_=(.int .i64 (dF l:Nat))∧X_=[]∧S_=[]):=by
 refine aQ (N:=22) Tryz.func89 rfl rfl (by simp) fun b=> ?_
 refine aY (fun m=>gY (m.rd 0 rfl)) ?_
 rintro⟨hl_r,hA_r⟩
 refine ah<|aj<| ?_
 refine hx (cI rfl (fun g1=> ?_))
 refine aT (fun w m=>m.bQ 0 rfl (show _=aL g1 39 (dv room (.slice A n c) vl vw pw)from congrArg (aL _ _) (bA _))) ?_
 refine hy (fun _=>ab rfl)<|ai<|ak (X' :=[_]) (S' :=[_]) (fun _ m=>m)<|ag<|ah<|aj<|hy (fun _=>ab rfl)<|ai<|ag<|ah<|ah<|aj<|hy (fun _=>ab rfl)<|ai<|ag<|aI<| ?_
 refine dD (fun i=>n-i) (fun i=>[(3,.int .i64 (dF (l.take i):Nat)),(4,.int .i64 (i:Nat))]) (fun i=>[aL g1 39 (dv room (.slice A n c) vl vw pw)]) (fun i=>[]) (fun i=>i≤n) 0 [(2,_),(1,_),(0,_)] ⟨rfl,rfl,rfl,trivial⟩ [0] rfl [] rfl (Nat.zero_le _) ⟨rfl,rfl,trivial⟩ (fun i hI=> ?_)
 refine ah<|ah<|aj<|hy (fun _=>aa rfl)<|hy (fun _=>aH rfl j1 (by decide))<|hy (fun m=>aw rfl tJ (aA (m.aZ 0 rfl) rfl))<|hy (fun _=>aU rfl Tryz.underlying36)<|hy (fun _=>bu rfl rfl)<|ai<|al (ρ' :=[(9,_),(3,_),(4,_),(2,_),(1,_),(0,_)]) ⟨rfl,rfl,rfl,rfl,rfl,rfl,trivial⟩<|ag<| ?_
 refine cD rfl (fun h=> ?_) (fun h=> ?_)
 ·have hil:i<l.length:=by omega
  obtain⟨x,hx⟩:∃x,l[i]? =some x:=⟨_,List.getElem?_eq_getElem hil⟩
  obtain⟨g0,g2⟩:=ka l i x hx
  have h1:=q6 hx
  have h2:=we l (i+1)
  have hsz:=di x.2
  refine aC<|ag<|ah<|aI<|aj<|hy (fun _=>aa rfl)<|hy (fun _=>aH rfl j1 (by decide))<|hy (fun m=>aw rfl tJ (aA (m.aZ 0 rfl) (i:=1) rfl))<|hy (fun _=>aa rfl)<|hy (fun _=>cH rfl rfl Tryz.underlying36 fh hA_r rfl (by omega))<|hy (fun _=>aH rfl oY (by decide))<|hy (fun m=>yV (aw rfl l0 (fH (m.rd 0 rfl) g2)) ((rfl:_=Value.string (strOf x.2))))<|hy (fun _=>db rfl Tryz.underlying9)<|hy (fun _=>yV (aN rfl rfl (bC (by omega) (by omega))) ((show Value.int .i64 ((dF (l.take i):Nat)+((strOf x.2).size:Nat))= .int .i64 (dF (l.take (i+1)):Nat) by rw[hsz,h1];rfl)))<|hy (fun _=>ab rfl)<|ai<|al (ρ' :=[(3,_),(9,_),(4,_),(2,_),(1,_),(0,_)]) ⟨rfl,rfl,rfl,rfl,rfl,rfl,trivial⟩<|aM<|ag<|aj<|hy (fun _=>aa rfl)<|hy (fun _=>aN rfl rfl (bC (by omega) (by omega)))<|hy (fun _=>ab rfl)<|ai<|al (ρ' :=[(4,_),(3,_),(9,_),(2,_),(1,_),(0,_)]) ⟨rfl,rfl,rfl,rfl,rfl,rfl,trivial⟩<| ?_
  refine cR (i+1) ⟨rfl,rfl,rfl,rfl,rfl,trivial⟩ [0] rfl [0] rfl (by omega) (by omega)
 ·obtain rfl:i=n:=by omega
  refine bK<|ao<|ao<|aB<|ag<|ah<|aj<|hy (fun _=>aa rfl)<|hy (fun _=>ab rfl)<|ai<|al (ρ' :=[(2,_),(9,_),(3,_),(4,_),(1,_),(0,_)]) ⟨rfl,rfl,rfl,rfl,rfl,rfl,trivial⟩<|ag<|aX<| ?_
  exact bf trivial rfl rfl [] rfl [] rfl ⟨(by rw[←hl,List.take_of_length_le (Nat.le_refl _)]),rfl,rfl⟩
theorem rh{A:Option Addr}{n c:Nat}{l:List FP}{p:List UInt8}(hl:l.length=n)(hn:n≤1000000):cj Tryz.prog 221 [.slice A n c,.string (strOf p)] [] [cV 2 A n (fc l)] (fun v_ X_ S_=>∃v k,v_=v∧X_=[aG 156 2 v k (fc (l.filter fun x=>decide (x.1≠p)))]∧S_=[]∧(k=(l.filter fun x=>decide (x.1≠p)).length)):=by
 refine aQ (N:=28) Tryz.func221 rfl rfl (by simp) fun b=> ?_
 refine aY (fun m=>gY (m.rd 0 rfl)) ?_
 rintro⟨hl_r,hA_r⟩
 refine ah<|aj<|hy (fun _=>ab rfl)<|ai<|ag<|ah<|aj<|hy (fun _=>ab rfl)<|ai<|ag<|ah<|ah<|aj<|hy (fun _=>ab rfl)<|ai<|ag<|aI<| ?_
 refine bw (fun w m=>m.dG (r' :=aG 156 2 (.slice none 0 0) 0 []) (.refl _ _) (Own.nil _ _ _ _) (fun k hk=>hk.elim)) ?_
 refine kZ (fun i A1 k c1=>n-i) (fun i A1 k c1=>[(5,.slice A1 k c1),(6,.int .i64 (i:Nat))]) (fun i A1 k c1=>[aG 156 2 (.slice A1 k c1) k (fc ((l.take i).filter fun x=>decide (x.1≠p)))]) (fun i A1 k c1=>[]) (fun i A1 k c1=>i≤n∧k=((l.take i).filter fun x=>decide (x.1≠p)).length) 0 none 0 0 [(4,_),(0,_),(1,_)] ⟨rfl,rfl,rfl,trivial⟩ [0] rfl [] rfl (⟨Nat.zero_le _,rfl⟩) ⟨rfl,rfl,trivial⟩ (fun i A1 k c1 hI=> ?_)
 obtain⟨hin,hk⟩:=hI
 have hkl:((l.take i).filter fun x=>decide (x.1≠p)).length≤i:=Nat.le_trans (List.length_filter_le ..) (by rw[List.length_take];omega)
 refine ah<|ah<|aj<|hy (fun _=>aa rfl)<|hy (fun _=>aa rfl)<|hy (fun _=>aU rfl Tryz.underlying36)<|hy (fun _=>bu rfl rfl)<|ai<|al (ρ' :=[(10,_),(5,_),(6,_),(4,_),(0,_),(1,_)]) ⟨rfl,rfl,rfl,rfl,rfl,rfl,trivial⟩<|ag<| ?_
 refine cD rfl (fun h=> ?_) (fun h=> ?_)
 ·have hil:i<l.length:=by omega
  obtain⟨x,hgx⟩:∃x,l[i]? =some x:=⟨_,List.getElem?_eq_getElem hil⟩
  obtain⟨g0,g2⟩:=ka l i x hgx
  have Fa:(l.take (i+1)).filter (fun x=>decide (x.1≠p))=(l.take i).filter (fun x=>decide (x.1≠p))++[x].filter (fun x=>decide (x.1≠p)):=by
   obtain⟨hi,rfl⟩:=List.getElem?_eq_some_iff.1 hgx
   rw[List.take_succ_eq_append_getElem hi,List.filter_append]
  refine aC<|ag<|ah<|aI<|ah<|aj<|hy (fun _=>aa rfl)<|hy (fun _=>aa rfl)<|hy (fun _=>cH rfl rfl Tryz.underlying36 fh hA_r rfl (by omega))<|hy (fun _=>aH rfl fk (by decide))<|hy (fun m=>yV (aw rfl l0 (fH (m.rd 0 rfl) g0)) ((rfl:_=Value.string (strOf x.1))))<|hy (fun _=>aa rfl)<|hy (fun _=>oG rfl rfl)<|ai<|al (ρ' :=[(19,_),(10,_),(5,_),(6,_),(4,_),(0,_),(1,_)]) ⟨rfl,rfl,rfl,rfl,rfl,rfl,rfl,trivial⟩<|ag<| ?_
  refine cD rfl (fun h0=> ?_) (fun h0=> ?_)
  ·have hF:(l.take i).filter (fun x=>decide (x.1≠p))++[x]=(l.take (i+1)).filter (fun x=>decide (x.1≠p)):=by
    have hne:x.1≠p:=fun e=>h0 (cF.2 e)
    rw[Fa];simp[hne]
   refine aj<|hy (fun _=>aa rfl)<|hy (fun _=>aa rfl)<|hy (fun _=>aa rfl)<|hy (fun _=>cH rfl rfl Tryz.underlying36 fh hA_r rfl (by omega))<|hy (fun m=>yV (a6 rfl rp fh rfl (nh (m.rd 0 rfl) hgx)) ((rfl:_=Value.agg [SV x.1,SV x.2].toArray)))<| ?_
   refine hx (bY Tryz.underlying36 iY rfl rfl rfl (by simp[Value.cells,B8]) (by decide) (by decide) (fun g25=> ?_))
   have hA_b25:0<1→(some (⟨g25,0,none⟩:Addr))≠none:=fun _ h=>by cases h
   refine aT (fun w m=>m.bQ 0 rfl (show _=aG 156 2 (.slice (some ⟨g25,0,none⟩) 1 1) 1 (fc [x])from rfl)) ?_
   refine hx (bL 1 rfl rfl rfl Tryz.underlying36 Tryz.underlying36 (by exact .inl rfl) iY rfl (fun m=>Src.b7 (m.ord 0 rfl)) nM (by unfold maxLen;omega) (by omega) (fun u=> ?_))
   refine aD (fun m=>(m.own 0 rfl).slice) ?_
   rintro⟨A_o,c_o,rfl,hc_o⟩
   refine aD (fun m=>(m.ord 0 rfl).2.1) fun hA_o=> ?_
   refine aT (fun w m=>m.bQ 0 rfl (show _=aG 156 2 (.slice A_o (k+1) c_o) (k+1) (fc ((l.take (i+1)).filter fun x=>decide (x.1≠p)))from congrArg (aG _ _ _ _) ((im ..).symm.trans (congrArg fc hF)))) ?_
   refine hy (fun _=>ab rfl)<|ai<|al (ρ' :=[(5,_),(19,_),(10,_),(6,_),(4,_),(0,_),(1,_)]) ⟨rfl,rfl,rfl,rfl,rfl,rfl,rfl,trivial⟩<|ak (X' :=[_,_]) (S' :=[_]) (fun _ m=>m)<|aM<|ag<|aj<|hy (fun _=>aa rfl)<|hy (fun _=>aN rfl rfl (bC (by omega) (by omega)))<|hy (fun _=>ab rfl)<|ai<|al (ρ' :=[(6,_),(5,_),(19,_),(10,_),(4,_),(0,_),(1,_)]) ⟨rfl,rfl,rfl,rfl,rfl,rfl,rfl,trivial⟩<| ?_
   refine gN (i+1) A_o (k+1) c_o ⟨rfl,rfl,rfl,rfl,rfl,trivial⟩ [0] rfl [0] rfl (⟨by omega,by rw[←hF,hk,List.length_append];rfl⟩) (by omega)
  ·have hF:(l.take (i+1)).filter (fun x=>decide (x.1≠p))=(l.take i).filter (fun x=>decide (x.1≠p)):=by
    have hne:x.1=p:=cF.1 (Decidable.not_not.1 h0)
    rw[Fa];simp[hne]
   refine bw (fun w m=>m.bQ 0 rfl (show _=aG 156 2 (.slice A1 k c1) k (fc ((l.take (i+1)).filter fun x=>decide (x.1≠p)))from by rw[hF])) ?_
   refine aC<|aM<|ag<|aj<|hy (fun _=>aa rfl)<|hy (fun _=>aN rfl rfl (bC (by omega) (by omega)))<|hy (fun _=>ab rfl)<|ai<|al (ρ' :=[(6,_),(19,_),(10,_),(5,_),(4,_),(0,_),(1,_)]) ⟨rfl,rfl,rfl,rfl,rfl,rfl,rfl,trivial⟩<| ?_
   refine gN (i+1) A1 k c1 ⟨rfl,rfl,rfl,rfl,rfl,trivial⟩ [0] rfl [0] rfl (⟨by omega,by rw[hF];exact hk⟩) (by omega)
 ·obtain rfl:i=n:=by omega
  rw[←hl,List.take_of_length_le (Nat.le_refl _)]at hk
  refine bw (fun w m=>m.bQ 0 rfl (show _=aG 156 2 (.slice A1 k c1) k (fc (l.filter fun x=>decide (x.1≠p)))from by rw[←hl,List.take_of_length_le (Nat.le_refl _)])) ?_
  refine bK<|ao<|ao<|aB<|ag<|ah<|aj<|hy (fun _=>aa rfl)<|hy (fun _=>ab rfl)<|ai<|al (ρ' :=[(4,_),(10,_),(5,_),(6,_),(0,_),(1,_)]) ⟨rfl,rfl,rfl,rfl,rfl,rfl,trivial⟩<|ag<|aX<| ?_
  exact bf trivial rfl rfl [0] rfl [] rfl ⟨_,_,rfl,rfl,rfl,hk⟩
end Go.Proofs.YtmibdabdlgmafaaGreatDoor
end
section
set_option maxRecDepth 20000
namespace Go.Proofs.YtmibdabdlgmafaaGreatDoor
open Go.Eng Go.Hx
def mM(a b:List UInt8):Bool:=Op.bytesLess (strOf a).toList (strOf b).toList
def iw(f:FP)(st:List FP×Bool)(x:FP):List FP×Bool:=
 let s1:=if st.2=false∧mM x.1 f.1=false then(st.1++[f],true)else st
 (if x.1≠f.1 then s1.1++[x]else s1.1,s1.2)
def BL(f:FP)(l:List FP)(i:Nat):List FP×Bool:=(l.take i).foldl (iw f) ([],false)
theorem y0{f:FP}{l:List FP}{i:Nat}{x:FP}(h:l[i]? =some x):BL f l (i+1)=iw f (BL f l i) x:=by
 obtain⟨hi,rfl⟩:=List.getElem?_eq_some_iff.1 h
 unfold BL
 rw[List.take_succ_eq_append_getElem hi,List.foldl_append]
 rfl
def gG(l:List FP)(f:FP):List FP:=if(BL f l l.length).2 then(BL f l l.length).1 else(BL f l l.length).1++[f]
theorem yt{A:Option Addr}{n c:Nat}{l:List FP}{f:FP}(hl:l.length=n)(hn:n≤1000000):cj Tryz.prog 220 [.slice A n c,.agg [SV f.1,SV f.2].toArray] [] [cV 2 A n (fc l)] (fun v_ X_ S_=>∃v k,v_=v∧X_=[aG 156 2 v k (fc (gG l f))]∧S_=[]∧(k=(gG l f).length∧k≤n+1)):=by
 refine aQ (N:=52) Tryz.func220 rfl rfl (by simp) fun b=> ?_
 refine aY (fun m=>gY (m.rd 0 rfl)) ?_
 rintro⟨hl_r,hA_r⟩
 refine ah<|aj<| ?_
 refine hx (cI rfl (fun g3=> ?_))
 refine aT (fun w m=>m.bQ 0 rfl (show _=aL g3 156 [SV f.1,SV f.2]from congrArg (aL _ _) (bA _))) ?_
 refine hy (fun _=>ab rfl)<|ai<|ak (X' :=[_]) (S' :=[_]) (fun _ m=>m)<|ag<|ah<|aj<|hy (fun _=>ab rfl)<|ai<|ag<|ah<|aj<|hy (fun _=>ab rfl)<|ai<|ag<|ah<|ah<|aj<|hy (fun _=>ab rfl)<|ai<|ag<|aI<| ?_
 refine bw (fun w m=>m.dG (r' :=aG 156 2 (.slice none 0 0) 0 []) (.refl _ _) (Own.nil _ _ _ _) (fun k hk=>hk.elim)) ?_
 refine nP (fun i A1 k c1 out pt=>n-i) (fun i A1 k c1 out pt=>[(5,.slice A1 k c1),(6,.bool pt),(7,.int .i64 (i:Nat))]) (fun i A1 k c1 out pt=>[aG 156 2 (.slice A1 k c1) k (fc out),aL g3 156 [SV f.1,SV f.2]]) (fun i A1 k c1 out pt=>[]) (fun i A1 k c1 out pt=>i≤n∧BL f l i=(out,pt)∧k=out.length∧k≤i+pt.toNat) 0 none 0 0 [] false [(4,_),(3,_),(0,_),(1,_)] ⟨rfl,rfl,rfl,rfl,trivial⟩ [0,0] rfl [] rfl (⟨Nat.zero_le _,rfl,rfl,Nat.le_refl _⟩) ⟨rfl,rfl,rfl,trivial⟩ (fun i A1 k c1 out pt ⟨hin,hw,hk,hki⟩=> ?_)
 have hpt:pt.toNat≤1:=by cases pt <;> decide
 refine ah<|ah<|aj<|hy (fun _=>aa rfl)<|hy (fun _=>aa rfl)<|hy (fun _=>aU rfl Tryz.underlying36)<|hy (fun _=>bu rfl rfl)<|ai<|al (ρ' :=[(11,_),(5,_),(6,_),(7,_),(4,_),(3,_),(0,_),(1,_)]) ⟨rfl,rfl,rfl,rfl,rfl,rfl,rfl,rfl,trivial⟩<|ag<| ?_
 refine cD rfl (fun h=> ?_) (fun h=> ?_)
 ·have hil:i<l.length:=by omega
  obtain⟨x,hgx⟩:∃x,l[i]? =some x:=⟨_,List.getElem?_eq_getElem hil⟩
  obtain⟨g0,g2⟩:=ka l i x hgx
  have hs:=y0 (f:=f) hgx
  rw[hw]at hs
  unfold iw at hs
  by_cases hp:pt=true
  ·subst hp
   simp only[Bool.true_eq_false,false_and,if_false]at hs
   refine aC<|ag<|ah<|aI<|ah<|ah<|cG [] [(0,some 0),(1,some 0),(2,some 0),(3,some 0),(4,some 0),(5,some 0),(6,some 0),(7,some 0),(8,some 0),(9,some 0),(10,some 0),(11,some 0)] (by kernel_rfl) (by kernel_rfl) rfl 99<|an (aa rfl)<|an ((kE rfl))<|an (aa rfl)<|aV rfl rfl rfl (by decide)<|aV rfl rfl rfl (by decide)<|aV rfl rfl rfl (by decide)<|aV rfl rfl rfl (by decide)<|aV rfl rfl rfl (by decide)<|aV rfl rfl rfl (by decide)<|aV rfl rfl rfl (by decide)<|aV rfl rfl rfl (by decide)<|an (bP rfl rfl)<|br<|al (ρ' :=[(25,_),(11,_),(5,_),(6,_),(7,_),(4,_),(3,_),(0,_),(1,_)]) ⟨rfl,rfl,rfl,rfl,rfl,rfl,rfl,rfl,rfl,trivial⟩<|ag<| ?_
   refine dL rfl (rfl) ?_
   refine aC<|ag<|ah<|cG [] [(0,some 0),(1,some 0),(2,some 0),(3,some 0),(4,some 0),(5,some 0),(6,some 0),(7,some 0)] (by kernel_rfl) (by kernel_rfl) rfl 99<|an (aa rfl)<|an (aa rfl)<|an (cH rfl rfl Tryz.underlying36 fh hA_r rfl (by omega))<|an (aH rfl fk (by decide))<|ca (fun m=>yV (aw rfl l0 (fH (m.rd 0 rfl) g0)) ((rfl:_=Value.string (strOf x.1))))<|an (aH rfl fk (by decide))<|ca (fun m=>yV (aw rfl l0 (aA (m.aZ 1 rfl) (i:=0) rfl)) ((rfl:_=Value.string (strOf f.1))))<|an (oG rfl rfl)<|br<|al (ρ' :=[(37,_),(25,_),(11,_),(5,_),(6,_),(7,_),(4,_),(3,_),(0,_),(1,_)]) ⟨rfl,rfl,rfl,rfl,rfl,rfl,rfl,rfl,rfl,rfl,trivial⟩<|ag<| ?_
   refine cD rfl (fun h1=> ?_) (fun h1=> ?_)
   ·have hne:x.1≠f.1:=fun e=>h1 (cF.2 e)
    refine aj<|hy (fun _=>aa rfl)<|hy (fun _=>aa rfl)<|hy (fun _=>aa rfl)<|hy (fun _=>cH rfl rfl Tryz.underlying36 fh hA_r rfl (by omega))<|hy (fun m=>yV (a6 rfl rp fh rfl (nh (m.rd 0 rfl) hgx)) ((rfl:_=Value.agg [SV x.1,SV x.2].toArray)))<| ?_
    refine hx (bY Tryz.underlying36 iY rfl rfl rfl (by simp[Value.cells,B8]) (by decide) (by decide) (fun g43=> ?_))
    have hA_b43:0<1→(some (⟨g43,0,none⟩:Addr))≠none:=fun _ h=>by cases h
    refine aT (fun w m=>m.bQ 0 rfl (show _=aG 156 2 (.slice (some ⟨g43,0,none⟩) 1 1) 1 (fc [x])from rfl)) ?_
    refine hx (bL 1 rfl rfl rfl Tryz.underlying36 Tryz.underlying36 (by exact .inl rfl) iY rfl (fun m=>Src.b7 (m.ord 0 rfl)) nM (by unfold maxLen;omega) (by omega) (fun u=> ?_))
    refine aD (fun m=>(m.own 0 rfl).slice) ?_
    rintro⟨A_o,c_o,rfl,hc_o⟩
    refine aD (fun m=>(m.ord 0 rfl).2.1) fun hA_o=> ?_
    refine aT (fun w m=>m.bQ 0 rfl (show _=aG 156 2 (.slice A_o (k+1) c_o) (k+1) (fc (out++[x]))from congrArg (aG _ _ _ _) (im ..).symm)) ?_
    refine hy (fun _=>ab rfl)<|ai<|al (ρ' :=[(5,_),(37,_),(25,_),(11,_),(6,_),(7,_),(4,_),(3,_),(0,_),(1,_)]) ⟨rfl,rfl,rfl,rfl,rfl,rfl,rfl,rfl,rfl,rfl,trivial⟩<|ak (X' :=[_,_,_]) (S' :=[_]) (fun _ m=>m)<|aM<|ag<|aj<|hy (fun _=>aa rfl)<|hy (fun _=>aN rfl rfl (bC (by omega) (by omega)))<|hy (fun _=>ab rfl)<|ai<|al (ρ' :=[(7,_),(5,_),(37,_),(25,_),(11,_),(6,_),(4,_),(3,_),(0,_),(1,_)]) ⟨rfl,rfl,rfl,rfl,rfl,rfl,rfl,rfl,rfl,rfl,trivial⟩<| ?_
    refine eM (i+1) A_o (k+1) c_o (out++[x]) true ⟨rfl,rfl,rfl,rfl,rfl,rfl,rfl,trivial⟩ [0,1] rfl [0] rfl (⟨by omega,by rw[hs,if_pos hne],by rw[List.length_append,hk.symm];rfl,by simp at hki ⊢;omega⟩) (by omega)
   ·have hne:¬x.1≠f.1:=fun e=>h1 (fun h=>e (cF.1 h))
    refine aC<|aM<|ag<|aj<|hy (fun _=>aa rfl)<|hy (fun _=>aN rfl rfl (bC (by omega) (by omega)))<|hy (fun _=>ab rfl)<|ai<|al (ρ' :=[(7,_),(37,_),(25,_),(11,_),(5,_),(6,_),(4,_),(3,_),(0,_),(1,_)]) ⟨rfl,rfl,rfl,rfl,rfl,rfl,rfl,rfl,rfl,rfl,trivial⟩<| ?_
    refine eM (i+1) A1 (k) c1 (out) true ⟨rfl,rfl,rfl,rfl,rfl,rfl,rfl,trivial⟩ [0,0] rfl [0] rfl (⟨by omega,by rw[hs,if_neg hne],hk.symm.symm,by simp at hki ⊢;omega⟩) (by omega)
  ·obtain rfl:pt=false:=by simpa using hp
   by_cases hge:mM x.1 f.1=false
   ·simp only[hge,and_self,if_true]at hs
    refine aC<|ag<|ah<|aI<|ah<|ah<|cG [] [(0,some 0),(1,some 0),(2,some 0),(3,some 0),(4,some 0),(5,some 0),(6,some 0),(7,some 0),(8,some 0),(9,some 0),(10,some 0),(11,some 0)] (by kernel_rfl) (by kernel_rfl) rfl 99<|an (aa rfl)<|an ((kE rfl))<|an (aa rfl)<|bI (o:=_) rfl rfl rfl (aa rfl)<|bI (o:=_) rfl rfl rfl (aa rfl)<|bI (o:=_) rfl rfl rfl (cH rfl rfl Tryz.underlying36 fh hA_r rfl (by omega))<|bI (o:=_) rfl rfl rfl (aH rfl fk (by decide))<|lL (o:=_) rfl rfl rfl (fun m=>yV (aw rfl l0 (fH (m.rd 0 rfl) g0)) ((rfl:_=Value.string (strOf x.1))))<|bI (o:=_) rfl rfl rfl (aH rfl fk (by decide))<|lL (o:=_) rfl rfl rfl (fun m=>yV (aw rfl l0 (aA (m.aZ 1 rfl) (i:=0) rfl)) ((rfl:_=Value.string (strOf f.1))))<|bI (o:=_) rfl rfl rfl (yT (C8 rfl rfl) ((by show(!mM x.1 f.1)=true;rw[hge];rfl)))<|an (bX rfl rfl)<|br<|al (ρ' :=[(25,_),(11,_),(5,_),(6,_),(7,_),(4,_),(3,_),(0,_),(1,_)]) ⟨rfl,rfl,rfl,rfl,rfl,rfl,rfl,rfl,rfl,trivial⟩<|ag<| ?_
    refine ic rfl (rfl) ?_
    refine ah<|aj<|hy (fun _=>aa rfl)<|hy (fun m=>yV (a6 rfl rp fh rfl ((m.aZ 1 rfl).az)) ((rfl:_=Value.agg [SV f.1,SV f.2].toArray)))<| ?_
    refine hx (bY Tryz.underlying36 iY rfl rfl rfl (by simp[Value.cells,B8]) (by decide) (by decide) (fun g28=> ?_))
    have hA_b28:0<1→(some (⟨g28,0,none⟩:Addr))≠none:=fun _ h=>by cases h
    refine aT (fun w m=>m.bQ 0 rfl (show _=aG 156 2 (.slice (some ⟨g28,0,none⟩) 1 1) 1 (fc [f])from rfl)) ?_
    refine hx (bL 1 rfl rfl rfl Tryz.underlying36 Tryz.underlying36 (by exact .inl rfl) iY rfl (fun m=>Src.b7 (m.ord 0 rfl)) nM (by unfold maxLen;omega) (by omega) (fun u=> ?_))
    refine aD (fun m=>(m.own 0 rfl).slice) ?_
    rintro⟨A_o,c_o,rfl,hc_o⟩
    refine aD (fun m=>(m.ord 0 rfl).2.1) fun hA_o=> ?_
    refine aT (fun w m=>m.bQ 0 rfl (show _=aG 156 2 (.slice A_o (k+1) c_o) (k+1) (fc (out++[f]))from congrArg (aG _ _ _ _) (im ..).symm)) ?_
    have hk1:(out++[f]).length=k+1:=by rw[List.length_append,hk];rfl
    refine hy (fun _=>ab rfl)<|ai<|al (ρ' :=[(5,_),(25,_),(11,_),(6,_),(7,_),(4,_),(3,_),(0,_),(1,_)]) ⟨rfl,rfl,rfl,rfl,rfl,rfl,rfl,rfl,rfl,trivial⟩<|ak (X' :=[_,_,_]) (S' :=[_]) (fun _ m=>m)<|ag<|aj<|hy (fun _=>ab rfl)<|ai<|ag<|ah<|cG [] [(0,some 0),(1,some 0),(2,some 0),(3,some 0),(4,some 0),(5,some 0),(6,some 0),(7,some 0)] (by kernel_rfl) (by kernel_rfl) rfl 99<|an (aa rfl)<|an (aa rfl)<|an (cH rfl rfl Tryz.underlying36 fh hA_r rfl (by omega))<|an (aH rfl fk (by decide))<|ca (fun m=>yV (aw rfl l0 (fH (m.rd 0 rfl) g0)) ((rfl:_=Value.string (strOf x.1))))<|an (aH rfl fk (by decide))<|ca (fun m=>yV (aw rfl l0 (aA (m.aZ 2 rfl) (i:=0) rfl)) ((rfl:_=Value.string (strOf f.1))))<|an (oG rfl rfl)<|br<|al (ρ' :=[(37,_),(6,_),(5,_),(25,_),(11,_),(7,_),(4,_),(3,_),(0,_),(1,_)]) ⟨rfl,rfl,rfl,rfl,rfl,rfl,rfl,rfl,rfl,rfl,trivial⟩<|ag<| ?_
    refine cD rfl (fun h1=> ?_) (fun h1=> ?_)
    ·have hne:x.1≠f.1:=fun e=>h1 (cF.2 e)
     refine aj<|hy (fun _=>aa rfl)<|hy (fun _=>aa rfl)<|hy (fun _=>aa rfl)<|hy (fun _=>cH rfl rfl Tryz.underlying36 fh hA_r rfl (by omega))<|hy (fun m=>yV (a6 rfl rp fh rfl (nh (m.rd 0 rfl) hgx)) ((rfl:_=Value.agg [SV x.1,SV x.2].toArray)))<| ?_
     refine hx (bY Tryz.underlying36 iY rfl rfl rfl (by simp[Value.cells,B8]) (by decide) (by decide) (fun g43=> ?_))
     have hA_b43:0<1→(some (⟨g43,0,none⟩:Addr))≠none:=fun _ h=>by cases h
     refine aT (fun w m=>m.bQ 0 rfl (show _=aG 156 2 (.slice (some ⟨g43,0,none⟩) 1 1) 1 (fc [x])from rfl)) ?_
     refine hx (bL 1 rfl rfl rfl Tryz.underlying36 Tryz.underlying36 (by exact .inl rfl) iY rfl (fun m=>Src.b7 (m.ord 0 rfl)) nM (by unfold maxLen;omega) (by omega) (fun u2=> ?_))
     refine aD (fun m=>(m.own 0 rfl).slice) ?_
     rintro⟨A_o2,c_o2,rfl,hc_o⟩
     refine aD (fun m=>(m.ord 0 rfl).2.1) fun hA_o=> ?_
     refine aT (fun w m=>m.bQ 0 rfl (show _=aG 156 2 (.slice A_o2 (k+1+1) c_o2) (k+1+1) (fc ((out++[f])++[x]))from congrArg (aG _ _ _ _) (im ..).symm)) ?_
     refine hy (fun _=>ab rfl)<|ai<|al (ρ' :=[(5,_),(37,_),(6,_),(25,_),(11,_),(7,_),(4,_),(3,_),(0,_),(1,_)]) ⟨rfl,rfl,rfl,rfl,rfl,rfl,rfl,rfl,rfl,rfl,trivial⟩<|ak (X' :=[_,_,_,_]) (S' :=[_]) (fun _ m=>m)<|aM<|ag<|aj<|hy (fun _=>aa rfl)<|hy (fun _=>aN rfl rfl (bC (by omega) (by omega)))<|hy (fun _=>ab rfl)<|ai<|al (ρ' :=[(7,_),(5,_),(37,_),(6,_),(25,_),(11,_),(4,_),(3,_),(0,_),(1,_)]) ⟨rfl,rfl,rfl,rfl,rfl,rfl,rfl,rfl,rfl,rfl,trivial⟩<| ?_
     refine eM (i+1) A_o2 (k+1+1) c_o2 ((out++[f])++[x]) true ⟨rfl,rfl,rfl,rfl,rfl,rfl,rfl,trivial⟩ [0,2] rfl [0] rfl (⟨by omega,by rw[hs,if_pos hne],by rw[List.length_append,hk1];rfl,by simp at hki ⊢;omega⟩) (by omega)
    ·have hne:¬x.1≠f.1:=fun e=>h1 (fun h=>e (cF.1 h))
     refine aC<|aM<|ag<|aj<|hy (fun _=>aa rfl)<|hy (fun _=>aN rfl rfl (bC (by omega) (by omega)))<|hy (fun _=>ab rfl)<|ai<|al (ρ' :=[(7,_),(37,_),(6,_),(5,_),(25,_),(11,_),(4,_),(3,_),(0,_),(1,_)]) ⟨rfl,rfl,rfl,rfl,rfl,rfl,rfl,rfl,rfl,rfl,trivial⟩<| ?_
     refine eM (i+1) A_o (k+1) c_o ((out++[f])) true ⟨rfl,rfl,rfl,rfl,rfl,rfl,rfl,trivial⟩ [0,1] rfl [0] rfl (⟨by omega,by rw[hs,if_neg hne],hk1.symm,by simp at hki ⊢;omega⟩) (by omega)
   ·have hlt:mM x.1 f.1=true:=by simpa using hge
    simp only[hlt,Bool.true_eq_false,and_false,if_false]at hs
    refine aC<|ag<|ah<|aI<|ah<|ah<|cG [] [(0,some 0),(1,some 0),(2,some 0),(3,some 0),(4,some 0),(5,some 0),(6,some 0),(7,some 0),(8,some 0),(9,some 0),(10,some 0),(11,some 0)] (by kernel_rfl) (by kernel_rfl) rfl 99<|an (aa rfl)<|an ((kE rfl))<|an (aa rfl)<|bI (o:=_) rfl rfl rfl (aa rfl)<|bI (o:=_) rfl rfl rfl (aa rfl)<|bI (o:=_) rfl rfl rfl (cH rfl rfl Tryz.underlying36 fh hA_r rfl (by omega))<|bI (o:=_) rfl rfl rfl (aH rfl fk (by decide))<|lL (o:=_) rfl rfl rfl (fun m=>yV (aw rfl l0 (fH (m.rd 0 rfl) g0)) ((rfl:_=Value.string (strOf x.1))))<|bI (o:=_) rfl rfl rfl (aH rfl fk (by decide))<|lL (o:=_) rfl rfl rfl (fun m=>yV (aw rfl l0 (aA (m.aZ 1 rfl) (i:=0) rfl)) ((rfl:_=Value.string (strOf f.1))))<|bI (o:=_) rfl rfl rfl (yF (C8 rfl rfl) ((by show(!mM x.1 f.1)=false;rw[hlt];rfl)))<|an (bX rfl rfl)<|br<|al (ρ' :=[(25,_),(11,_),(5,_),(6,_),(7,_),(4,_),(3,_),(0,_),(1,_)]) ⟨rfl,rfl,rfl,rfl,rfl,rfl,rfl,rfl,rfl,trivial⟩<|ag<| ?_
    refine dL rfl (rfl) ?_
    refine aC<|ag<|ah<|cG [] [(0,some 0),(1,some 0),(2,some 0),(3,some 0),(4,some 0),(5,some 0),(6,some 0),(7,some 0)] (by kernel_rfl) (by kernel_rfl) rfl 99<|an (aa rfl)<|an (aa rfl)<|an (cH rfl rfl Tryz.underlying36 fh hA_r rfl (by omega))<|an (aH rfl fk (by decide))<|ca (fun m=>yV (aw rfl l0 (fH (m.rd 0 rfl) g0)) ((rfl:_=Value.string (strOf x.1))))<|an (aH rfl fk (by decide))<|ca (fun m=>yV (aw rfl l0 (aA (m.aZ 1 rfl) (i:=0) rfl)) ((rfl:_=Value.string (strOf f.1))))<|an (oG rfl rfl)<|br<|al (ρ' :=[(37,_),(25,_),(11,_),(5,_),(6,_),(7,_),(4,_),(3,_),(0,_),(1,_)]) ⟨rfl,rfl,rfl,rfl,rfl,rfl,rfl,rfl,rfl,rfl,trivial⟩<|ag<| ?_
    refine cD rfl (fun h1=> ?_) (fun h1=> ?_)
    ·have hne:x.1≠f.1:=fun e=>h1 (cF.2 e)
     refine aj<|hy (fun _=>aa rfl)<|hy (fun _=>aa rfl)<|hy (fun _=>aa rfl)<|hy (fun _=>cH rfl rfl Tryz.underlying36 fh hA_r rfl (by omega))<|hy (fun m=>yV (a6 rfl rp fh rfl (nh (m.rd 0 rfl) hgx)) ((rfl:_=Value.agg [SV x.1,SV x.2].toArray)))<| ?_
     refine hx (bY Tryz.underlying36 iY rfl rfl rfl (by simp[Value.cells,B8]) (by decide) (by decide) (fun g43=> ?_))
     have hA_b43:0<1→(some (⟨g43,0,none⟩:Addr))≠none:=fun _ h=>by cases h
     refine aT (fun w m=>m.bQ 0 rfl (show _=aG 156 2 (.slice (some ⟨g43,0,none⟩) 1 1) 1 (fc [x])from rfl)) ?_
     refine hx (bL 1 rfl rfl rfl Tryz.underlying36 Tryz.underlying36 (by exact .inl rfl) iY rfl (fun m=>Src.b7 (m.ord 0 rfl)) nM (by unfold maxLen;omega) (by omega) (fun u=> ?_))
     refine aD (fun m=>(m.own 0 rfl).slice) ?_
     rintro⟨A_o,c_o,rfl,hc_o⟩
     refine aD (fun m=>(m.ord 0 rfl).2.1) fun hA_o=> ?_
     refine aT (fun w m=>m.bQ 0 rfl (show _=aG 156 2 (.slice A_o (k+1) c_o) (k+1) (fc (out++[x]))from congrArg (aG _ _ _ _) (im ..).symm)) ?_
     refine hy (fun _=>ab rfl)<|ai<|al (ρ' :=[(5,_),(37,_),(25,_),(11,_),(6,_),(7,_),(4,_),(3,_),(0,_),(1,_)]) ⟨rfl,rfl,rfl,rfl,rfl,rfl,rfl,rfl,rfl,rfl,trivial⟩<|ak (X' :=[_,_,_]) (S' :=[_]) (fun _ m=>m)<|aM<|ag<|aj<|hy (fun _=>aa rfl)<|hy (fun _=>aN rfl rfl (bC (by omega) (by omega)))<|hy (fun _=>ab rfl)<|ai<|al (ρ' :=[(7,_),(5,_),(37,_),(25,_),(11,_),(6,_),(4,_),(3,_),(0,_),(1,_)]) ⟨rfl,rfl,rfl,rfl,rfl,rfl,rfl,rfl,rfl,rfl,trivial⟩<| ?_
     refine eM (i+1) A_o (k+1) c_o (out++[x]) false ⟨rfl,rfl,rfl,rfl,rfl,rfl,rfl,trivial⟩ [0,1] rfl [0] rfl (⟨by omega,by rw[hs,if_pos hne],by rw[List.length_append,hk.symm];rfl,by simp at hki ⊢;omega⟩) (by omega)
    ·have hne:¬x.1≠f.1:=fun e=>h1 (fun h=>e (cF.1 h))
     refine aC<|aM<|ag<|aj<|hy (fun _=>aa rfl)<|hy (fun _=>aN rfl rfl (bC (by omega) (by omega)))<|hy (fun _=>ab rfl)<|ai<|al (ρ' :=[(7,_),(37,_),(25,_),(11,_),(5,_),(6,_),(4,_),(3,_),(0,_),(1,_)]) ⟨rfl,rfl,rfl,rfl,rfl,rfl,rfl,rfl,rfl,rfl,trivial⟩<| ?_
     refine eM (i+1) A1 (k) c1 (out) false ⟨rfl,rfl,rfl,rfl,rfl,rfl,rfl,trivial⟩ [0,0] rfl [0] rfl (⟨by omega,by rw[hs,if_neg hne],hk.symm.symm,by simp at hki ⊢;omega⟩) (by omega)
 ·obtain rfl:i=n:=by omega
  have hww:BL f l l.length=(out,pt):=by rw[hl];exact hw
  by_cases hp:pt=true
  ·subst hp
   have hW:gG l f=out:=by rw[gG,hww];rfl
   refine bK<|ao<|ao<|aB<|ag<|ah<|ah<|aj<|hy (fun _=>aa rfl)<|hy (fun _=>(kE rfl))<|ai<|al (ρ' :=[(46,_),(11,_),(5,_),(6,_),(7,_),(4,_),(3,_),(0,_),(1,_)]) ⟨rfl,rfl,rfl,rfl,rfl,rfl,rfl,rfl,rfl,trivial⟩<|ag<| ?_
   refine dL rfl (rfl) ?_
   refine aC<|ag<|ah<|aj<|hy (fun _=>aa rfl)<|hy (fun _=>ab rfl)<|ai<|al (ρ' :=[(4,_),(46,_),(11,_),(5,_),(6,_),(7,_),(3,_),(0,_),(1,_)]) ⟨rfl,rfl,rfl,rfl,rfl,rfl,rfl,rfl,rfl,trivial⟩<|ag<|aX<| ?_
   refine ak (fun w m=>m.bQ 0 rfl (show _=aG 156 2 (.slice A1 k c1) k (fc (gG l f))from by rw[hW])) ?_
   exact bf trivial rfl rfl [0] rfl [] rfl ⟨_,_,rfl,rfl,rfl,⟨by rw[hW];exact hk,by simp at hki;omega⟩⟩
  ·obtain rfl:pt=false:=by simpa using hp
   have hW:gG l f=out++[f]:=by rw[gG,hww];rfl
   refine bK<|ao<|ao<|aB<|ag<|ah<|ah<|aj<|hy (fun _=>aa rfl)<|hy (fun _=>(kE rfl))<|ai<|al (ρ' :=[(46,_),(11,_),(5,_),(6,_),(7,_),(4,_),(3,_),(0,_),(1,_)]) ⟨rfl,rfl,rfl,rfl,rfl,rfl,rfl,rfl,rfl,trivial⟩<|ag<| ?_
   refine ic rfl (rfl) ?_
   refine aj<|hy (fun _=>aa rfl)<|hy (fun m=>yV (a6 rfl rp fh rfl ((m.aZ 1 rfl).az)) ((rfl:_=Value.agg [SV f.1,SV f.2].toArray)))<| ?_
   refine hx (bY Tryz.underlying36 iY rfl rfl rfl (by simp[Value.cells,B8]) (by decide) (by decide) (fun g49=> ?_))
   have hA_b49:0<1→(some (⟨g49,0,none⟩:Addr))≠none:=fun _ h=>by cases h
   refine aT (fun w m=>m.bQ 0 rfl (show _=aG 156 2 (.slice (some ⟨g49,0,none⟩) 1 1) 1 (fc [f])from rfl)) ?_
   refine hx (bL 1 rfl rfl rfl Tryz.underlying36 Tryz.underlying36 (by exact .inl rfl) iY rfl (fun m=>Src.b7 (m.ord 0 rfl)) nM (by unfold maxLen;omega) (by omega) (fun u=> ?_))
   refine aD (fun m=>(m.own 0 rfl).slice) ?_
   rintro⟨A_o,c_o,rfl,hc_o⟩
   refine aD (fun m=>(m.ord 0 rfl).2.1) fun hA_o=> ?_
   refine aT (fun w m=>m.bQ 0 rfl (show _=aG 156 2 (.slice A_o (k+1) c_o) (k+1) (fc (gG l f))from(congrArg (aG _ _ _ _) ((im ..).symm.trans (congrArg fc hW.symm))))) ?_
   refine hy (fun _=>ab rfl)<|ai<|al (ρ' :=[(5,_),(46,_),(11,_),(6,_),(7,_),(4,_),(3,_),(0,_),(1,_)]) ⟨rfl,rfl,rfl,rfl,rfl,rfl,rfl,rfl,rfl,trivial⟩<|ak (X' :=[_,_,_]) (S' :=[_]) (fun _ m=>m)<|ag<|ah<|aj<|hy (fun _=>aa rfl)<|hy (fun _=>ab rfl)<|ai<|al (ρ' :=[(4,_),(5,_),(46,_),(11,_),(6,_),(7,_),(3,_),(0,_),(1,_)]) ⟨rfl,rfl,rfl,rfl,rfl,rfl,rfl,rfl,rfl,trivial⟩<|ag<|aX<| ?_
   exact bf trivial rfl rfl [0] rfl [] rfl ⟨_,_,rfl,rfl,rfl,⟨by rw[hW,List.length_append,hk];rfl,by simp at hki;omega⟩⟩
end Go.Proofs.YtmibdabdlgmafaaGreatDoor
end
section
set_option maxRecDepth 20000
namespace Go.Proofs.YtmibdabdlgmafaaGreatDoor
open Go.Eng Go.Hx
def da(l:List FP)(p:List UInt8):List FP:=l.filter fun x=>decide (x.1≠p)
def cv(k:Int)(p t b:List UInt8):List Value:=[.int .i64 k,SV p,SV t,SV b]
def dj(l:List FP)(k:Int)(p t b:List UInt8):List FP:=
 if k=0 then gG l (p,b)else match l[cB l p]? with
  |none=>l
  |some x=>if k=2 then da l p else gG (da l p) (t,x.2)
theorem iu{l:List FP}{p:List UInt8}:kS l p<0↔l[cB l p]? =none:=by
 unfold kS
 by_cases h:cB l p<l.length
 ·rw[if_pos h,List.getElem?_eq_getElem h];simp
 ·rw[if_neg h,List.getElem?_eq_none (by omega)];simp
theorem Er{A:Option Addr}{n c:Nat}{l:List FP}{k:Int}{p t bb:List UInt8}(hl:l.length=n)(hn:n≤900000):cj Tryz.prog 162 [.slice A n c,.agg (cv k p t bb).toArray] [] [cV 2 A n (fc l)] (fun v_ X_ S_=>∃A1 n1 c1,v_=(.slice A1 n1 c1)∧X_=[]∧S_=[cV 2 A1 n1 (fc (dj l k p t bb))]∧(n1=(dj l k p t bb).length∧n1≤n+1)):=by
 refine aQ (N:=43) Tryz.func162 rfl rfl (by simp) fun b=> ?_
 refine aY (fun m=>gY (m.rd 0 rfl)) ?_
 rintro⟨hl_r,hA_r⟩
 refine ah<|aj<| ?_
 refine hx (cI rfl (fun g3=> ?_))
 refine aT (fun w m=>m.bQ 0 rfl (show _=aL g3 186 (cv k p t bb)from congrArg (aL _ _) (bA _))) ?_
 refine hy (fun _=>ab rfl)<|ai<|ak (X' :=[_]) (S' :=[_]) (fun _ m=>m)<|ag<|ah<|ah<|aj<|hy (fun _=>aH rfl wS (by decide))<|hy (fun m=>aw rfl fS (aA (m.aZ 0 rfl) (i:=0) rfl))<|hy (fun _=>cM rfl rfl)<|ai<|al (ρ' :=[(8,_),(4,_),(3,_),(0,_),(1,_)]) ⟨rfl,rfl,rfl,rfl,rfl,trivial⟩<|ag<| ?_
 refine cD rfl (fun h0=> ?_) (fun h0=> ?_)
 ·have hM:dj l k p t bb=gG l (p,bb):=by rw[dj,if_pos h0]
  refine ah<|aj<|hy (fun _=>aa rfl)<|hy (fun _=>aH rfl oT (by decide))<|hy (fun m=>yV (aw rfl l0 (aA (m.aZ 0 rfl) (i:=1) rfl)) ((rfl:_=SV p)))<|hy (fun _=>aH rfl Ca (by decide))<|hy (fun m=>yV (aw rfl l0 (aA (m.aZ 0 rfl) (i:=3) rfl)) ((rfl:_=SV bb)))<|hy (fun _=>yV (cy iY rfl rfl (by kernel_rfl) (.cons (o:=0) (sz:=1) (by kernel_rfl) rfl rfl (Nat.le_of_ble_eq_true rfl) (.cons (o:=1) (sz:=1) (by kernel_rfl) rfl rfl (Nat.le_of_ble_eq_true rfl) .nil))) ((rfl:_=Value.agg [SV p,SV bb].toArray)))<| ?_
  refine hx (aq rfl Tryz.call220 (yt (by omega) (by omega) (f:=(p,bb))) [] rfl [0] rfl ?_)
  rintro _ _ _ ⟨v,k2,rfl,rfl,rfl,hp⟩
  refine aD (fun m=>(m.own 0 rfl).slice) ?_
  rintro⟨A_x,c_x,rfl,hc_x⟩
  refine aD (fun m=>(m.ord 0 rfl).2.1) fun hA_x=> ?_
  refine hy (fun _=>ab rfl)<|ai<|al (ρ' :=[(4,_),(8,_),(3,_),(0,_),(1,_)]) ⟨rfl,rfl,rfl,rfl,rfl,trivial⟩<|ak (X' :=[_,_]) (S' :=[_]) (fun _ m=>m)<|ag<|aX<|ax<| ?_
  rw[←hM]at hp
  refine ak (fun w m=>m.bQ 0 rfl (show _=aG 156 2 (.slice A_x k2 c_x) k2 (fc (dj l k p t bb))from by rw[hM])) ?_
  refine ak (fun w m=>(m.perm (ar [0] _ [_] _ rfl)).freeze) ?_
  refine ak (fun w m=>m.jN 0 rfl .own) ?_
  refine so (fun m=>gY (m.rd 0 rfl)) ?_
  rintro⟨hl_xr,hA_xr⟩
  exact bf trivial rfl rfl [] rfl [0] rfl ⟨_,_,_,rfl,rfl,rfl,hp⟩
 ·refine aC<|ag<|ah<|aj<|hy (fun _=>aa rfl)<|hy (fun _=>aH rfl oT (by decide))<|hy (fun m=>yV (aw rfl l0 (aA (m.aZ 0 rfl) (i:=1) rfl)) ((rfl:_=SV p)))<| ?_
  refine hx (aq rfl Tryz.call113 (vx (by omega) (by omega)) [] rfl [0] rfl ?_)
  rintro _ _ _ ⟨rfl,rfl,rfl⟩
  refine hy (fun _=>ab rfl)<|ai<|al (ρ' :=[(5,_),(8,_),(4,_),(3,_),(0,_),(1,_)]) ⟨rfl,rfl,rfl,rfl,rfl,rfl,trivial⟩<|ak (X' :=[_]) (S' :=[_]) (fun _ m=>m)<|ag<|ah<|ah<|aj<|hy (fun _=>aa rfl)<|hy (fun _=>bu rfl rfl)<|ai<|al (ρ' :=[(21,_),(5,_),(8,_),(4,_),(3,_),(0,_),(1,_)]) ⟨rfl,rfl,rfl,rfl,rfl,rfl,rfl,trivial⟩<|ag<| ?_
  refine cD rfl (fun h1=> ?_) (fun h1=> ?_)
  ·have hM:dj l k p t bb=l:=by rw[dj,if_neg h0,iu.1 h1]
   refine ah<|aj<|hy (fun _=>aa rfl)<|hy (fun _=>ab rfl)<|ai<|al (ρ' :=[(4,_),(21,_),(5,_),(8,_),(3,_),(0,_),(1,_)]) ⟨rfl,rfl,rfl,rfl,rfl,rfl,rfl,trivial⟩<|ag<|aX<|ax<| ?_
   rw[hM]
   exact bf trivial rfl rfl [] rfl [0] rfl ⟨_,_,_,rfl,rfl,rfl,⟨hl.symm,by omega⟩⟩
  ·obtain⟨x0,cJ⟩:∃x0,l[cB l p]? =some x0:=by
    cases hq:l[cB l p]? with
    |none=>exact absurd (iu.2 hq) h1
    |some x0=>exact⟨x0,rfl⟩
   have hfl:cB l p<l.length:=(List.getElem?_eq_some_iff.1 cJ).1
   obtain⟨f0,f1⟩:=ka l _ x0 cJ
   have hfi:kS l p=(cB l p:Nat):=by rw[kS,if_pos hfl]
   have hwl:(da l p).length≤l.length:=List.length_filter_le ..
   refine aC<|ag<|ah<|ah<|aj<|hy (fun _=>aH rfl wS (by decide))<|hy (fun m=>aw rfl fS (aA (m.aZ 0 rfl) (i:=0) rfl))<|hy (fun _=>cM rfl rfl)<|ai<|al (ρ' :=[(25,_),(21,_),(5,_),(8,_),(4,_),(3,_),(0,_),(1,_)]) ⟨rfl,rfl,rfl,rfl,rfl,rfl,rfl,rfl,trivial⟩<|ag<| ?_
   refine cD rfl (fun h2=> ?_) (fun h2=> ?_)
   ·have hM:dj l k p t bb=da l p:=by rw[dj,if_neg h0,cJ];simp only[if_pos h2]
    refine ah<|aj<|hy (fun _=>aa rfl)<|hy (fun _=>aH rfl oT (by decide))<|hy (fun m=>yV (aw rfl l0 (aA (m.aZ 0 rfl) (i:=1) rfl)) ((rfl:_=SV p)))<| ?_
    refine hx (aq rfl Tryz.call221 (rh (by omega) (by omega)) [] rfl [0] rfl ?_)
    rintro _ _ _ ⟨v,k2,rfl,rfl,rfl,hp⟩
    refine aD (fun m=>(m.own 0 rfl).slice) ?_
    rintro⟨A_x,c_x,rfl,hc_x⟩
    refine aD (fun m=>(m.ord 0 rfl).2.1) fun hA_x=> ?_
    refine hy (fun _=>ab rfl)<|ai<|al (ρ' :=[(4,_),(25,_),(21,_),(5,_),(8,_),(3,_),(0,_),(1,_)]) ⟨rfl,rfl,rfl,rfl,rfl,rfl,rfl,rfl,trivial⟩<|ak (X' :=[_,_]) (S' :=[_]) (fun _ m=>m)<|ag<|aX<|ax<| ?_
    refine ak (fun w m=>m.bQ 0 rfl (show _=aG 156 2 (.slice A_x k2 c_x) k2 (fc (dj l k p t bb))from by rw[hM];rfl)) ?_
    refine ak (fun w m=>(m.perm (ar [0] _ [_] _ rfl)).freeze) ?_
    refine ak (fun w m=>m.jN 0 rfl .own) ?_
    refine so (fun m=>gY (m.rd 0 rfl)) ?_
    rintro⟨hl_xr,hA_xr⟩
    exact bf trivial rfl rfl [] rfl [0] rfl ⟨_,_,_,rfl,rfl,rfl,⟨hp.trans (congrArg List.length hM.symm),by rw[hp];show(da l p).length≤_;omega⟩⟩
   ·have hM:dj l k p t bb=gG (da l p) (t,x0.2):=by rw[dj,if_neg h0,cJ];simp only[if_neg h2]
    refine aC<|ag<|ah<|cG [3,12] [(0,some 0),(1,some 0),(2,some 0),(4,some 1),(5,some 1),(6,some 2),(7,some 2),(8,some 1),(9,some 1),(10,some 1),(11,some 1),(3,none),(12,none),(13,some 2)] (by kernel_rfl) (by kernel_rfl) rfl 99<|an (aa rfl)<|an (aH rfl oT (by decide))<|ca (fun m=>yV (aw rfl l0 (aA (m.aZ 0 rfl) (i:=1) rfl)) ((rfl:_=SV p)))<|an (aH rfl BR (by decide))<|ca (fun m=>yV (aw rfl l0 (aA (m.aZ 0 rfl) (i:=2) rfl)) ((rfl:_=SV t)))<|an (aa rfl)<|an (aa rfl)<|an (cH rfl rfl Tryz.underlying36 fh hA_r hfi.symm (by omega))<|an (aH rfl oY (by decide))<|ca (fun m=>yV (aw rfl l0 (fH (m.rd 0 rfl) f1)) ((rfl:_=SV x0.2)))<|an (yV (cy iY rfl rfl (by kernel_rfl) (.cons (o:=0) (sz:=1) (by kernel_rfl) rfl rfl (Nat.le_of_ble_eq_true rfl) (.cons (o:=1) (sz:=1) (by kernel_rfl) rfl rfl (Nat.le_of_ble_eq_true rfl) .nil))) ((rfl:_=Value.agg [SV t,SV x0.2].toArray)))<| ?_
    refine dV (aq rfl Tryz.call221 (rh (by omega) (by omega)) [] rfl [0] rfl ?_)
    rintro _ _ _ ⟨v,k2,rfl,rfl,rfl,hp⟩
    refine⟨(fun _=>wk [1] [0] rfl rfl), ?_⟩
    refine b5 (fun m=>(m.own 0 rfl).slice) ?_
    rintro⟨A_x,c_x,rfl,hc_x⟩
    refine b5 (fun m=>(m.ord 0 rfl).2.1) fun hA_x=> ?_
    have hk2:k2=(da l p).length:=hp
    clear hp
    refine dV (cN rfl Tryz.call220 (yt (by omega) (by omega) (l:=(da l p)) (f:=(t,x0.2))) [] rfl (.x 0 rfl .own .nil) ?_)
    rintro _ _ _ ⟨v2,k3,rfl,rfl,rfl,hp2⟩
    refine⟨rfl, ?_⟩
    refine⟨(fun _=>wk [2] [0] rfl rfl), ?_⟩
    refine b5 (fun m=>(m.own 0 rfl).slice) ?_
    rintro⟨A_x2,c_x2,rfl,hc_x2⟩
    refine b5 (fun m=>(m.ord 0 rfl).2.1) fun hA_x2=> ?_
    refine an (ab rfl)<|br<|al (ρ' :=[(4,_),(25,_),(21,_),(5,_),(8,_),(3,_),(0,_),(1,_)]) ⟨rfl,rfl,rfl,rfl,rfl,rfl,rfl,rfl,trivial⟩<|ak (X' :=[_,_,_]) (S' :=[_]) (fun _ m=>m)<|ag<|aX<| ?_
    rw[hM]
    refine ak (fun w m=>(m.perm (ar [0] _ [_] _ rfl)).freeze) ?_
    refine ak (fun w m=>m.jN 0 rfl .own) ?_
    refine so (fun m=>gY (m.rd 0 rfl)) ?_
    rintro⟨hl_x2r,hA_x2r⟩
    exact bf trivial rfl rfl [] rfl [0] rfl ⟨_,_,_,rfl,rfl,rfl,⟨hp2.1,by omega⟩⟩
abbrev RC:=Int×List UInt8×List UInt8×List UInt8
def uF(l:List RC):List Value:=l.flatMap fun x=>cv x.1 x.2.1 x.2.2.1 x.2.2.2
theorem uZ(a b:List RC):uF (a++b)=uF a++uF b:=by simp[uF]
theorem xb{l:List RC}:∀u∈uF l,u.oneCell' =true:=by
 intro u hu
 obtain⟨x,_,h⟩:=List.mem_flatMap.1 hu
 simp only[cv,List.mem_cons,List.not_mem_nil,or_false]at h
 rcases h with rfl|rfl|rfl|rfl <;> rfl
theorem jo{room pw:Int}{A A2 A3:Option Addr}{n c n2 c2 n3 c3:Nat}:∀u∈dv room (.slice A n c) (.slice A2 n2 c2) (.slice A3 n3 c3) pw,u.oneCell' =true:=by
 intro u hu
 simp only[dv,List.mem_cons,List.not_mem_nil,or_false]at hu
 rcases hu with rfl|rfl|rfl|rfl|rfl <;> rfl
def dQ(pw:Int):Int:=if 0<pw then pw-1 else pw
theorem D3{room pw:Int}{A Al A3:Option Addr}{n c nl cl n3 c3:Nat}{l:List FP}{wl:List RC}{k:Int}{p t bb:List UInt8}(hl:l.length=n)(hn:n≤900000)(hw:wl.length=n3)(hn3:n3≤900000)(hp1:-10≤pw)(hp2:pw≤1000000000000):cj Tryz.prog 114 [.agg (dv room (.slice A n c) (.slice Al nl cl) (.slice A3 n3 c3) pw).toArray,.agg (cv k p t bb).toArray] [] [cV 2 A n (fc l),cV 4 A3 n3 (uF wl)] (fun v_ X_ S_=>∃A1 n1 c1 A2 n2 c2,v_=(.agg (dv room (.slice A1 n1 c1) (.slice Al nl cl) (.slice A2 n2 c2) (dQ pw)).toArray)∧X_=[]∧S_=[cV 2 A1 n1 (fc (dj l k p t bb)),cV 4 A2 n2 (uF (wl++[(k,p,t,bb)]))]∧(n1=(dj l k p t bb).length∧n1≤n+1∧n2=n3+1)):=by
 refine aQ (N:=28) Tryz.func114 rfl rfl (by simp) fun b=> ?_
 refine aY (fun m=>gY (m.rd 0 rfl)) ?_
 rintro⟨hl_r,hA_r⟩
 refine aY (fun m=>gY (m.rd 1 rfl)) ?_
 rintro⟨hl_w,hA_w⟩
 refine ah<|aj<| ?_
 refine hx (cI rfl (fun g2=> ?_))
 refine aT (fun w m=>m.bQ 0 rfl (show _=aL g2 39 (dv room (.slice A n c) (.slice Al nl cl) (.slice A3 n3 c3) pw)from congrArg (aL _ _) (bA _))) ?_
 refine hx (cI rfl (fun g3=> ?_))
 refine aT (fun w m=>m.bQ 0 rfl (show _=aL g3 186 (cv k p t bb)from congrArg (aL _ _) (bA _))) ?_
 refine hx (aP jh (fun g4=> ?_))
 refine ai<|ak (X' :=[_,_,_]) (S' :=[_,_]) (fun _ m=>m)<|ag<|ah<|aj<|hy (fun _=>aH rfl j1 (by decide))<|hy (fun m=>aw rfl tJ (aA (m.aZ 2 rfl) (i:=1) rfl))<|hy (fun m=>yV (a6 rfl C6 Dh rfl ((m.aZ 1 rfl).az)) ((rfl:_=Value.agg (cv k p t bb).toArray)))<| ?_
 refine hx (aq rfl Tryz.call162 (Er (by omega) (by omega)) [] rfl [0] rfl ?_)
 rintro _ _ _ ⟨A1,n1,c1,rfl,rfl,rfl,hp⟩
 refine aD (fun m=>gY (m.rd 0 rfl)) ?_
 rintro⟨hl_q,hA_q⟩
 refine hy (fun _=>aH rfl j1 (by decide))<| ?_
 refine cJ (cm 2 rfl rfl rfl FO rfl (by first|exact Nat.le_of_ble_eq_true rfl|simp) ?_)
 refine ai<|al (ρ' :=[(4,_),(3,_),(2,_),(0,_),(1,_)]) ⟨rfl,rfl,rfl,rfl,rfl,trivial⟩<|ak (X' :=[_,_,_]) (S' :=[_,_,_]) (fun _ m=>m)<|ag<|ah<|aj<|hy (fun _=>ab rfl)<|ai<|ag<|ah<|aj<|hy (fun _=>aa rfl)<|hy (fun _=>aH rfl vg (by decide))<|hy (fun m=>aw rfl Hd (aA (m.aZ 0 rfl) rfl))<| ?_
 refine aT (fun w m=>m.dG (r' :=aG 186 4 (.slice none 0 0) 0 []) (.refl _ _) (Own.nil _ _ _ _) (fun k hk=>hk.elim)) ?_
 refine hx (bL 0 rfl rfl rfl Tryz.underlying37 Tryz.underlying37 (by exact .inl rfl) qJ rfl (fun m=>Src.b7 (m.rd 2 rfl)) xb (by unfold maxLen;omega) (by omega) (fun u=> ?_))
 refine aD (fun m=>(m.own 0 rfl).slice) ?_
 rintro⟨A_o,c_o,rfl,hc_o⟩
 refine aD (fun m=>(m.ord 0 rfl).2.1) fun hA_o=> ?_
 rw[Nat.zero_add]
 refine aT (fun w m=>m.bQ 0 rfl (show _=aG 186 4 (.slice A_o n3 c_o) n3 (uF wl)from rfl)) ?_
 refine hy (fun _=>ab rfl)<|ai<|al (ρ' :=[(5,_),(4,_),(3,_),(2,_),(0,_),(1,_)]) ⟨rfl,rfl,rfl,rfl,rfl,rfl,trivial⟩<|ak (X' :=[_,_,_,_]) (S' :=[_,_,_]) (fun _ m=>m)<|ag<|ah<|aj<|hy (fun _=>aa rfl)<|hy (fun m=>yV (a6 rfl C6 Dh rfl ((m.aZ 3 rfl).az)) ((rfl:_=Value.agg (cv k p t bb).toArray)))<| ?_
 refine hx (bY Tryz.underlying37 qJ rfl rfl rfl (by simp[Value.cells,cv]) (by decide) (by decide) (fun g17=> ?_))
 have hA_b17:0<1→(some (⟨g17,0,none⟩:Addr))≠none:=fun _ h=>by cases h
 refine aT (fun w m=>m.bQ 0 rfl (show _=aG 186 4 (.slice (some ⟨g17,0,none⟩) 1 1) 1 (uF [(k,p,t,bb)])from rfl)) ?_
 refine hx (bL 1 rfl rfl rfl Tryz.underlying37 Tryz.underlying37 (by exact .inl rfl) qJ rfl (fun m=>Src.b7 (m.ord 0 rfl)) xb (by unfold maxLen;omega) (by omega) (fun u2=> ?_))
 refine aD (fun m=>(m.own 0 rfl).slice) ?_
 rintro⟨A_o2,c_o2,rfl,hc_o⟩
 refine aD (fun m=>(m.ord 0 rfl).2.1) fun hA_o=> ?_
 refine aT (fun w m=>m.bQ 0 rfl (show _=aG 186 4 (.slice A_o2 (n3+1) c_o2) (n3+1) (uF (wl++[(k,p,t,bb)]))from congrArg (aG _ _ _ _) (uZ ..).symm)) ?_
 refine hy (fun _=>aH rfl vg (by decide))<| ?_
 refine cJ (cm 2 rfl rfl rfl Fx rfl (by first|exact Nat.le_of_ble_eq_true rfl|simp) ?_)
 refine aT (fun w m=>m.bQ 0 rfl (show _=aL g2 39 (dv room (.slice A1 n1 c1) (.slice Al nl cl) (.slice A_o2 (n3+1) c_o2) pw)from rfl)) ?_
 refine ai<|al (ρ' :=[(5,_),(4,_),(3,_),(2,_),(0,_),(1,_)]) ⟨rfl,rfl,rfl,rfl,rfl,rfl,trivial⟩<|ak (X' :=[_,_,_,_,_]) (S' :=[_,_,_]) (fun _ m=>m)<|ag<|ah<|ah<|aj<|hy (fun _=>aH rfl jO (by decide))<|hy (fun m=>aw rfl fS (aA (m.aZ 0 rfl) (i:=4) rfl))<|hy (fun _=>cY rfl rfl)<|ai<|al (ρ' :=[(22,_),(5,_),(4,_),(3,_),(2,_),(0,_),(1,_)]) ⟨rfl,rfl,rfl,rfl,rfl,rfl,rfl,trivial⟩<|ag<| ?_
 refine bw (fun w m=>(m.perm (ar [1] _ [_] _ rfl)).freeze) ?_
 refine bw (fun w m=>m.jN 0 rfl .own) ?_
 refine cD rfl (fun h=> ?_) (fun h=> ?_)
 ·refine aj<|hy (fun _=>aH rfl jO (by decide))<|hy (fun m=>aw rfl fS (aA (m.aZ 0 rfl) (i:=4) rfl))<|hy (fun _=>cw rfl rfl (bC (by omega) (by omega)))<|hy (fun _=>aH rfl jO (by decide))<| ?_
  refine cJ (cm 0 rfl rfl rfl sS rfl (by first|exact Nat.le_of_ble_eq_true rfl|simp) ?_)
  refine aT (fun w m=>m.bQ 0 rfl (show _=aL g2 39 (dv room (.slice A1 n1 c1) (.slice Al nl cl) (.slice A_o2 (n3+1) c_o2) (dQ pw))from by rw[dQ,if_pos h];rfl)) ?_
  refine ai<|al (ρ' :=[(22,_),(5,_),(4,_),(3,_),(2,_),(0,_),(1,_)]) ⟨rfl,rfl,rfl,rfl,rfl,rfl,rfl,trivial⟩<|ak (X' :=[_,_,_,_]) (S' :=[_,_,_,_,_]) (fun _ m=>m)<|ag<|ah<|aj<|hy (fun m=>a6 rfl cL bB rfl ((m.aZ 0 rfl).az))<| ?_
  refine cJ (aK 2 rfl rfl rfl bB rfl jo rfl ?_)
  refine ai<|al (ρ' :=[(22,_),(5,_),(4,_),(3,_),(2,_),(0,_),(1,_)]) ⟨rfl,rfl,rfl,rfl,rfl,rfl,rfl,trivial⟩<|ak (X' :=[_,_,_,_]) (S' :=[_,_,_,_,_]) (fun _ m=>m)<|ag<|aX<| ?_
  exact fx trivial rfl rfl cL bB rfl (fun m=>(m.aZ 0 rfl).az) [] rfl [2,0] rfl ⟨_,_,_,_,_,_,rfl,rfl,rfl,⟨hp.1,hp.2,rfl⟩⟩
 ·refine bw (fun w m=>m.bQ 0 rfl (show _=aL g2 39 (dv room (.slice A1 n1 c1) (.slice Al nl cl) (.slice A_o2 (n3+1) c_o2) (dQ pw))from by rw[dQ,if_neg h])) ?_
  refine aC<|ag<|ah<|aj<|hy (fun m=>a6 rfl cL bB rfl ((m.aZ 0 rfl).az))<| ?_
  refine cJ (aK 2 rfl rfl rfl bB rfl jo rfl ?_)
  refine ai<|al (ρ' :=[(22,_),(5,_),(4,_),(3,_),(2,_),(0,_),(1,_)]) ⟨rfl,rfl,rfl,rfl,rfl,rfl,rfl,trivial⟩<|ak (X' :=[_,_,_,_]) (S' :=[_,_,_,_,_]) (fun _ m=>m)<|ag<|aX<| ?_
  exact fx trivial rfl rfl cL bB rfl (fun m=>(m.aZ 0 rfl).az) [] rfl [2,0] rfl ⟨_,_,_,_,_,_,rfl,rfl,rfl,⟨hp.1,hp.2,rfl⟩⟩
end Go.Proofs.YtmibdabdlgmafaaGreatDoor
end
section
set_option maxRecDepth 20000
namespace Go.Proofs.YtmibdabdlgmafaaGreatDoor
open Go.Eng Go.Hx
structure RD where
 room:Int
 seen:List FP
 bO:List FP
 waits:List RC
 pw:Int
def RD.sz(d:RD)(p:List UInt8):Nat:=((d.seen[cB d.seen p]?).map (·.2.length)).getD 0
def RD.bH(d:RD)(p bb:List UInt8):Int:=if¬fV p then 1 else if d.pw=0 then 6 else if d.room<(dF d.seen:Int)+(bb.length:Nat)-(d.sz p:Nat)then 5 else 0
def RD.gA(d:RD)(k:Int)(p t bb:List UInt8):RD:={d with seen:=dj d.seen k p t bb,waits:=d.waits++[(k,p,t,bb)],pw:=dQ d.pw}
def RD.write(d:RD)(p bb:List UInt8):RD:=if d.bH p bb=0 then d.gA 0 p [] bb else d
structure Bf(d:RD)(k:Nat):Prop where
 seen:d.seen.length≤k
 waits:d.waits.length≤k
 me:dF d.seen≤k*1048576
 p1:-10≤d.pw
 p2:d.pw≤1000000000000
theorem FU(d:RD)(p:List UInt8):d.sz p≤dF d.seen:=by
 unfold RD.sz
 cases h:d.seen[cB d.seen p]? with
 |none=>simp
 |some x=>
  have h1:=q6 h
  have h2:=we d.seen (cB d.seen p+1)
  simp only[Option.map_some,Option.getD_some]
  omega
def rv(d:RD)(A:Option Addr)(n c:Nat)(Al:Option Addr)(nl cl:Nat)(A3:Option Addr)(n3 c3:Nat):List Value:=dv d.room (.slice A n c) (.slice Al nl cl) (.slice A3 n3 c3) d.pw
theorem F5{room:Int}:cj Tryz.prog 25 [.int .i64 room] [] [] (fun v_ X_ S_=>v_=(.agg (dv room (.slice none 0 0) (.slice none 0 0) (.slice none 0 0) (-1)).toArray)∧X_=[]∧S_=[]):=by
 refine aQ (N:=5) Tryz.func25 rfl rfl (by simp) fun b=> ?_
 refine ah<|aj<| ?_
 refine hx (aP jh (fun g2=> ?_))
 refine ai<|ak (X' :=[_]) (S' :=[]) (fun _ m=>m)<|ag<|ah<|aj<|hy (fun _=>aa rfl)<|hy (fun _=>yV (cy jh rfl rfl (by kernel_rfl) (.cons (o:=0) (sz:=1) (by kernel_rfl) rfl rfl (Nat.le_of_ble_eq_true rfl) (.cons (o:=4) (sz:=1) (by kernel_rfl) rfl rfl (Nat.le_of_ble_eq_true rfl) .nil))) ((rfl:_=Value.agg (dv room (.slice none 0 0) (.slice none 0 0) (.slice none 0 0) (-1)).toArray)))<| ?_
 refine cJ (aK 0 rfl rfl rfl bB rfl jo rfl ?_)
 refine ai<|al (ρ' :=[(2,_),(0,_)]) ⟨rfl,rfl,trivial⟩<|ak (X' :=[_]) (S' :=[]) (fun _ m=>m)<|ag<|aX<| ?_
 exact fx trivial rfl rfl cL bB rfl (fun m=>(m.aZ 0 rfl).az) [] rfl [] rfl ⟨rfl,rfl,rfl⟩
theorem BG{d:RD}{kk:Nat}{A Al A3:Option Addr}{n c nl cl n3 c3:Nat}{p bb:List UInt8}(hl:d.seen.length=n)(hw:d.waits.length=n3)(ok:Bf d kk)(hkk:kk≤100000)(hpl:p.length≤1000000)(hbb:bb.length≤1000000):cj Tryz.prog 31 [.agg (rv d A n c Al nl cl A3 n3 c3).toArray,.string (strOf p),.string (strOf bb)] [] [cV 2 A n (fc d.seen),cV 4 A3 n3 (uF d.waits)] (fun v_ X_ S_=>∃A1 n1 c1 A2 n2 c2,v_=(.tuple #[.agg (rv (d.write p bb) A1 n1 c1 Al nl cl A2 n2 c2).toArray,.int .i64 (d.bH p bb)])∧X_=[]∧S_=[cV 2 A1 n1 (fc (d.write p bb).seen),cV 4 A2 n2 (uF (d.write p bb).waits)]∧((d.write p bb).seen.length=n1∧(d.write p bb).waits.length=n2)):=by
 have hk1:=ok.seen
 have hk2:=ok.waits
 have hk3:=ok.me
 have hk4:=ok.p1
 have hk5:=ok.p2
 have hsz:=FU d p
 refine aQ (N:=50) Tryz.func31 rfl rfl (by simp) fun b=> ?_
 refine aY (fun m=>gY (m.rd 0 rfl)) ?_
 rintro⟨hl_r,hA_r⟩
 refine aY (fun m=>gY (m.rd 1 rfl)) ?_
 rintro⟨hl_w,hA_w⟩
 refine ah<|aj<| ?_
 refine hx (cI rfl (fun g3=> ?_))
 refine aT (fun w m=>m.bQ 0 rfl (show _=aL g3 39 (rv d A n c Al nl cl A3 n3 c3)from congrArg (aL _ _) (bA _))) ?_
 refine hx (aP jh (fun g6=> ?_))
 refine hy (fun _=>ab rfl)<|ai<|ak (X' :=[_,_]) (S' :=[_,_]) (fun _ m=>m)<|ag<|ah<|aj<|hy (fun _=>aa rfl)<| ?_
 refine hx (aq rfl Tryz.call112 (wO (by omega)) [] rfl [] rfl ?_)
 rintro _ _ _ ⟨rfl,rfl,rfl⟩
 refine hy (fun _=>ab rfl)<|ai<|al (ρ' :=[(8,_),(7,_),(6,_),(3,_),(0,_),(1,_),(2,_)]) ⟨rfl,rfl,rfl,rfl,rfl,rfl,rfl,trivial⟩<|ak (X' :=[_,_]) (S' :=[_,_]) (fun _ m=>m)<|ag<|ah<|ah<|aj<|hy (fun _=>aa rfl)<|hy (fun _=>kb rfl)<|ai<|al (ρ' :=[(14,_),(8,_),(7,_),(6,_),(3,_),(0,_),(1,_),(2,_)]) ⟨rfl,rfl,rfl,rfl,rfl,rfl,rfl,rfl,trivial⟩<|ag<| ?_
 refine cD rfl (fun hN=> ?_) (fun hN=> ?_)
 ·have hE:d.bH p bb=1:=by rw[RD.bH,if_pos hN]
  have hW:d.write p bb=d:=by rw[RD.write,if_neg (by rw[hE];decide)]
  rw[hE,hW]
  refine ah<|aj<|hy (fun m=>yV (a6 rfl cL bB rfl ((m.aZ 1 rfl).az)) ((rfl:_=Value.agg (rv d A n c Al nl cl A3 n3 c3).toArray)))<| ?_
  refine cJ (aK 0 rfl rfl rfl bB rfl jo rfl ?_)
  refine hy (fun _=>ab rfl)<|ai<|al (ρ' :=[(7,_),(14,_),(8,_),(6,_),(3,_),(0,_),(1,_),(2,_)]) ⟨rfl,rfl,rfl,rfl,rfl,rfl,rfl,rfl,trivial⟩<|ak (X' :=[_,_]) (S' :=[_,_]) (fun _ m=>m)<|ag<|aX<|ax<| ?_
  exact eP trivial rfl rfl rfl cL bB rfl (fun m=>(m.aZ 0 rfl).az) [] rfl [0,1] rfl ⟨_,_,_,_,_,_,rfl,rfl,rfl,⟨hl,hw⟩⟩
 ·refine aC<|ag<|ah<|ah<|aj<|hy (fun _=>aH rfl jO (by decide))<|hy (fun m=>aw rfl fS (aA (m.aZ 1 rfl) (i:=4) rfl))<|hy (fun _=>cM rfl rfl)<|ai<|al (ρ' :=[(18,_),(14,_),(8,_),(7,_),(6,_),(3,_),(0,_),(1,_),(2,_)]) ⟨rfl,rfl,rfl,rfl,rfl,rfl,rfl,rfl,rfl,trivial⟩<|ag<| ?_
  refine cD rfl (fun h0=> ?_) (fun h0=> ?_)
  ·have hE:d.bH p bb=6:=by rw[RD.bH,if_neg hN,if_pos h0]
   have hW:d.write p bb=d:=by rw[RD.write,if_neg (by rw[hE];decide)]
   rw[hE,hW]
   refine ah<|aj<|hy (fun m=>yV (a6 rfl cL bB rfl ((m.aZ 1 rfl).az)) ((rfl:_=Value.agg (rv d A n c Al nl cl A3 n3 c3).toArray)))<| ?_
   refine cJ (aK 0 rfl rfl rfl bB rfl jo rfl ?_)
   refine hy (fun _=>ab rfl)<|ai<|al (ρ' :=[(7,_),(18,_),(14,_),(8,_),(6,_),(3,_),(0,_),(1,_),(2,_)]) ⟨rfl,rfl,rfl,rfl,rfl,rfl,rfl,rfl,rfl,trivial⟩<|ak (X' :=[_,_]) (S' :=[_,_]) (fun _ m=>m)<|ag<|aX<|ax<| ?_
   exact eP trivial rfl rfl rfl cL bB rfl (fun m=>(m.aZ 0 rfl).az) [] rfl [0,1] rfl ⟨_,_,_,_,_,_,rfl,rfl,rfl,⟨hl,hw⟩⟩
  ·have hsb:=di bb
   refine aC<|ag<|ah<|aj<|hy (fun m=>yV (a6 rfl cL bB rfl ((m.aZ 1 rfl).az)) ((rfl:_=Value.agg (rv d A n c Al nl cl A3 n3 c3).toArray)))<| ?_
   refine hx (aq rfl Tryz.call89 (EN (by omega) (by omega) (by omega)) [] rfl [0] rfl ?_)
   rintro _ _ _ ⟨rfl,rfl,rfl⟩
   refine hy (fun _=>aa rfl)<|hy (fun _=>db rfl Tryz.underlying9)<|hy (fun _=>aN rfl rfl (bC (by omega) (by omega)))<|hy (fun _=>ab rfl)<|ai<|al (ρ' :=[(9,_),(18,_),(14,_),(8,_),(7,_),(6,_),(3,_),(0,_),(1,_),(2,_)]) ⟨rfl,rfl,rfl,rfl,rfl,rfl,rfl,rfl,rfl,rfl,trivial⟩<|ak (X' :=[_,_]) (S' :=[_,_]) (fun _ m=>m)<|ag<|ah<|aj<|hy (fun _=>aH rfl j1 (by decide))<|hy (fun m=>aw rfl tJ (aA (m.aZ 1 rfl) (i:=1) rfl))<|hy (fun _=>aa rfl)<| ?_
   refine hx (aq rfl Tryz.call113 (vx (by omega) (by omega)) [] rfl [0] rfl ?_)
   rintro _ _ _ ⟨rfl,rfl,rfl⟩
   refine hy (fun _=>ab rfl)<|ai<|al (ρ' :=[(10,_),(9,_),(18,_),(14,_),(8,_),(7,_),(6,_),(3,_),(0,_),(1,_),(2,_)]) ⟨rfl,rfl,rfl,rfl,rfl,rfl,rfl,rfl,rfl,rfl,rfl,trivial⟩<|ak (X' :=[_,_]) (S' :=[_,_]) (fun _ m=>m)<|ag<|ah<|ah<|aj<|hy (fun _=>aa rfl)<|hy (fun _=>kl rfl rfl)<|ai<|al (ρ' :=[(30,_),(10,_),(9,_),(18,_),(14,_),(8,_),(7,_),(6,_),(3,_),(0,_),(1,_),(2,_)]) ⟨rfl,rfl,rfl,rfl,rfl,rfl,rfl,rfl,rfl,rfl,rfl,rfl,trivial⟩<|ag<| ?_
   refine cD rfl (fun hf=> ?_) (fun hf=> ?_)
   ·obtain⟨x0,hfx⟩:∃x0,d.seen[cB d.seen p]? =some x0:=by
     cases hq:d.seen[cB d.seen p]? with
     |none=>exact absurd (iu.2 hq) (by omega)
     |some x0=>exact⟨x0,rfl⟩
    have hfl:cB d.seen p<d.seen.length:=(List.getElem?_eq_some_iff.1 hfx).1
    obtain⟨f0,f1⟩:=ka d.seen _ x0 hfx
    have hfi:kS d.seen p=(cB d.seen p:Nat):=by rw[kS,if_pos hfl]
    have hsx:=di x0.2
    have hs0:d.sz p=x0.2.length:=by unfold RD.sz;rw[hfx];rfl
    refine aj<|hy (fun _=>aa rfl)<|hy (fun _=>aH rfl j1 (by decide))<|hy (fun m=>aw rfl tJ (aA (m.aZ 1 rfl) (i:=1) rfl))<|hy (fun _=>aa rfl)<|hy (fun _=>cH rfl rfl Tryz.underlying36 fh hA_r hfi.symm (by omega))<|hy (fun _=>aH rfl oY (by decide))<|hy (fun m=>yV (aw rfl l0 (fH (m.rd 0 rfl) f1)) ((rfl:_=Value.string (strOf x0.2))))<|hy (fun _=>db rfl Tryz.underlying9)<|hy (fun _=>cw rfl rfl (bC (by omega) (by omega)))<|hy (fun _=>ab rfl)<|ai<|al (ρ' :=[(9,_),(30,_),(10,_),(18,_),(14,_),(8,_),(7,_),(6,_),(3,_),(0,_),(1,_),(2,_)]) ⟨rfl,rfl,rfl,rfl,rfl,rfl,rfl,rfl,rfl,rfl,rfl,rfl,trivial⟩<|ag<|ah<|ah<|aj<|hy (fun _=>aa rfl)<|hy (fun _=>aH rfl AB (by decide))<|hy (fun m=>aw rfl fS (aA (m.aZ 1 rfl) (i:=0) rfl))<|hy (fun _=>cY rfl rfl)<|ai<|al (ρ' :=[(43,_),(9,_),(30,_),(10,_),(18,_),(14,_),(8,_),(7,_),(6,_),(3,_),(0,_),(1,_),(2,_)]) ⟨rfl,rfl,rfl,rfl,rfl,rfl,rfl,rfl,rfl,rfl,rfl,rfl,rfl,trivial⟩<|ag<| ?_
    refine cD rfl (fun hR=> ?_) (fun hR=> ?_)
    ·have hE:d.bH p bb=5:=by rw[RD.bH,if_neg hN,if_neg h0,if_pos (by omega)]
     have hW:d.write p bb=d:=by rw[RD.write,if_neg (by rw[hE];decide)]
     rw[hE,hW]
     refine ah<|aj<|hy (fun m=>yV (a6 rfl cL bB rfl ((m.aZ 1 rfl).az)) ((rfl:_=Value.agg (rv d A n c Al nl cl A3 n3 c3).toArray)))<| ?_
     refine cJ (aK 0 rfl rfl rfl bB rfl jo rfl ?_)
     refine hy (fun _=>ab rfl)<|ai<|al (ρ' :=[(7,_),(43,_),(9,_),(30,_),(10,_),(18,_),(14,_),(8,_),(6,_),(3,_),(0,_),(1,_),(2,_)]) ⟨rfl,rfl,rfl,rfl,rfl,rfl,rfl,rfl,rfl,rfl,rfl,rfl,rfl,trivial⟩<|ak (X' :=[_,_]) (S' :=[_,_]) (fun _ m=>m)<|ag<|aX<|ax<| ?_
     exact eP trivial rfl rfl rfl cL bB rfl (fun m=>(m.aZ 0 rfl).az) [] rfl [0,1] rfl ⟨_,_,_,_,_,_,rfl,rfl,rfl,⟨hl,hw⟩⟩
    ·have hE:d.bH p bb=0:=by rw[RD.bH,if_neg hN,if_neg h0,if_neg (by omega)]
     have hW:d.write p bb=d.gA 0 p [] bb:=by rw[RD.write,if_pos hE]
     rw[hE,hW]
     refine aC<|ag<|ah<|aj<|hy (fun m=>yV (a6 rfl cL bB rfl ((m.aZ 1 rfl).az)) ((rfl:_=Value.agg (dv d.room (.slice A n c) (.slice Al nl cl) (.slice A3 n3 c3) d.pw).toArray)))<|hy (fun _=>aa rfl)<|hy (fun _=>aa rfl)<|hy (fun _=>yV (cy qJ rfl rfl (by kernel_rfl) (.cons (o:=1) (sz:=1) (by kernel_rfl) rfl rfl (Nat.le_of_ble_eq_true rfl) (.cons (o:=3) (sz:=1) (by kernel_rfl) rfl rfl (Nat.le_of_ble_eq_true rfl) .nil))) ((rfl:_=Value.agg (cv 0 p [] bb).toArray)))<| ?_
     refine hx (aq rfl Tryz.call114 (D3 (by omega) (by omega) (by omega) (by omega) (by omega) (by omega)) [] rfl [0,1] rfl ?_)
     rintro _ _ _ ⟨A1,n1,c1,A2,n2,c2,rfl,rfl,rfl,hp⟩
     refine aD (fun m=>gY (m.rd 0 rfl)) ?_
     rintro⟨hl_q,hA_q⟩
     refine aD (fun m=>gY (m.rd 1 rfl)) ?_
     rintro⟨hl_u,hA_u⟩
     refine cJ (aK 0 rfl rfl rfl bB rfl jo rfl ?_)
     refine hy (fun _=>ab rfl)<|ai<|al (ρ' :=[(7,_),(43,_),(9,_),(30,_),(10,_),(18,_),(14,_),(8,_),(6,_),(3,_),(0,_),(1,_),(2,_)]) ⟨rfl,rfl,rfl,rfl,rfl,rfl,rfl,rfl,rfl,rfl,rfl,rfl,rfl,trivial⟩<|ak (X' :=[_,_]) (S' :=[_,_,_,_]) (fun _ m=>m)<|ag<|aX<| ?_
     exact eP trivial rfl rfl rfl cL bB rfl (fun m=>(m.aZ 0 rfl).az) [] rfl [0,1] rfl ⟨_,_,_,_,_,_,rfl,rfl,rfl,⟨hp.1.symm,by rw[hp.2.2,←hw];exact List.length_append⟩⟩
   ·have hs0:d.sz p=0:=by
     unfold RD.sz
     rw[iu.1 (by omega)];rfl
    refine aC<|ag<|ah<|ah<|aj<|hy (fun _=>aa rfl)<|hy (fun _=>aH rfl AB (by decide))<|hy (fun m=>aw rfl fS (aA (m.aZ 1 rfl) (i:=0) rfl))<|hy (fun _=>cY rfl rfl)<|ai<|al (ρ' :=[(43,_),(30,_),(10,_),(9,_),(18,_),(14,_),(8,_),(7,_),(6,_),(3,_),(0,_),(1,_),(2,_)]) ⟨rfl,rfl,rfl,rfl,rfl,rfl,rfl,rfl,rfl,rfl,rfl,rfl,rfl,trivial⟩<|ag<| ?_
    refine cD rfl (fun hR=> ?_) (fun hR=> ?_)
    ·have hE:d.bH p bb=5:=by rw[RD.bH,if_neg hN,if_neg h0,if_pos (by omega)]
     have hW:d.write p bb=d:=by rw[RD.write,if_neg (by rw[hE];decide)]
     rw[hE,hW]
     refine ah<|aj<|hy (fun m=>yV (a6 rfl cL bB rfl ((m.aZ 1 rfl).az)) ((rfl:_=Value.agg (rv d A n c Al nl cl A3 n3 c3).toArray)))<| ?_
     refine cJ (aK 0 rfl rfl rfl bB rfl jo rfl ?_)
     refine hy (fun _=>ab rfl)<|ai<|al (ρ' :=[(7,_),(43,_),(30,_),(10,_),(9,_),(18,_),(14,_),(8,_),(6,_),(3,_),(0,_),(1,_),(2,_)]) ⟨rfl,rfl,rfl,rfl,rfl,rfl,rfl,rfl,rfl,rfl,rfl,rfl,rfl,trivial⟩<|ak (X' :=[_,_]) (S' :=[_,_]) (fun _ m=>m)<|ag<|aX<|ax<| ?_
     exact eP trivial rfl rfl rfl cL bB rfl (fun m=>(m.aZ 0 rfl).az) [] rfl [0,1] rfl ⟨_,_,_,_,_,_,rfl,rfl,rfl,⟨hl,hw⟩⟩
    ·have hE:d.bH p bb=0:=by rw[RD.bH,if_neg hN,if_neg h0,if_neg (by omega)]
     have hW:d.write p bb=d.gA 0 p [] bb:=by rw[RD.write,if_pos hE]
     rw[hE,hW]
     refine aC<|ag<|ah<|aj<|hy (fun m=>yV (a6 rfl cL bB rfl ((m.aZ 1 rfl).az)) ((rfl:_=Value.agg (dv d.room (.slice A n c) (.slice Al nl cl) (.slice A3 n3 c3) d.pw).toArray)))<|hy (fun _=>aa rfl)<|hy (fun _=>aa rfl)<|hy (fun _=>yV (cy qJ rfl rfl (by kernel_rfl) (.cons (o:=1) (sz:=1) (by kernel_rfl) rfl rfl (Nat.le_of_ble_eq_true rfl) (.cons (o:=3) (sz:=1) (by kernel_rfl) rfl rfl (Nat.le_of_ble_eq_true rfl) .nil))) ((rfl:_=Value.agg (cv 0 p [] bb).toArray)))<| ?_
     refine hx (aq rfl Tryz.call114 (D3 (by omega) (by omega) (by omega) (by omega) (by omega) (by omega)) [] rfl [0,1] rfl ?_)
     rintro _ _ _ ⟨A1,n1,c1,A2,n2,c2,rfl,rfl,rfl,hp⟩
     refine aD (fun m=>gY (m.rd 0 rfl)) ?_
     rintro⟨hl_q,hA_q⟩
     refine aD (fun m=>gY (m.rd 1 rfl)) ?_
     rintro⟨hl_u,hA_u⟩
     refine cJ (aK 0 rfl rfl rfl bB rfl jo rfl ?_)
     refine hy (fun _=>ab rfl)<|ai<|al (ρ' :=[(7,_),(43,_),(30,_),(10,_),(9,_),(18,_),(14,_),(8,_),(6,_),(3,_),(0,_),(1,_),(2,_)]) ⟨rfl,rfl,rfl,rfl,rfl,rfl,rfl,rfl,rfl,rfl,rfl,rfl,rfl,trivial⟩<|ak (X' :=[_,_]) (S' :=[_,_,_,_]) (fun _ m=>m)<|ag<|aX<| ?_
     exact eP trivial rfl rfl rfl cL bB rfl (fun m=>(m.aZ 0 rfl).az) [] rfl [0,1] rfl ⟨_,_,_,_,_,_,rfl,rfl,rfl,⟨hp.1.symm,by rw[hp.2.2,←hw];exact List.length_append⟩⟩
def RD.ct(d:RD)(p:List UInt8):Int:=if d.pw=0 then 6 else if d.seen[cB d.seen p]? =none then 4 else 0
def RD.cz(d:RD)(p:List UInt8):List UInt8:=if d.pw=0 then []else((d.seen[cB d.seen p]?).map (·.2)).getD []
theorem EW{d:RD}{kk:Nat}{A Al A3:Option Addr}{n c nl cl n3 c3:Nat}{p:List UInt8}(hl:d.seen.length=n)(ok:Bf d kk)(hkk:kk≤100000):cj Tryz.prog 91 [.agg (rv d A n c Al nl cl A3 n3 c3).toArray,.string (strOf p)] [] [cV 2 A n (fc d.seen)] (fun v_ X_ S_=>v_=(.tuple #[.string (strOf (d.cz p)),.int .i64 (d.ct p)])∧X_=[]∧S_=[]):=by
 have hk1:=ok.seen
 refine aQ (N:=22) Tryz.func91 rfl rfl (by simp) fun b=> ?_
 refine aY (fun m=>gY (m.rd 0 rfl)) ?_
 rintro⟨hl_r,hA_r⟩
 refine ah<|aj<| ?_
 refine hx (cI rfl (fun g2=> ?_))
 refine aT (fun w m=>m.bQ 0 rfl (show _=aL g2 39 (rv d A n c Al nl cl A3 n3 c3)from congrArg (aL _ _) (bA _))) ?_
 refine hy (fun _=>ab rfl)<|hy (fun _=>ab rfl)<|ai<|ak (X' :=[_]) (S' :=[_]) (fun _ m=>m)<|ag<|ah<|aj<|hy (fun _=>aH rfl j1 (by decide))<|hy (fun m=>aw rfl tJ (aA (m.aZ 0 rfl) (i:=1) rfl))<|hy (fun _=>aa rfl)<| ?_
 refine hx (aq rfl Tryz.call113 (vx (by omega) (by omega)) [] rfl [0] rfl ?_)
 rintro _ _ _ ⟨rfl,rfl,rfl⟩
 refine hy (fun _=>ab rfl)<|ai<|al (ρ' :=[(6,_),(5,_),(4,_),(2,_),(0,_),(1,_)]) ⟨rfl,rfl,rfl,rfl,rfl,rfl,trivial⟩<|ak (X' :=[_]) (S' :=[_]) (fun _ m=>m)<|ag<|ah<|ah<|aj<|hy (fun _=>aH rfl jO (by decide))<|hy (fun m=>aw rfl fS (aA (m.aZ 0 rfl) (i:=4) rfl))<|hy (fun _=>cM rfl rfl)<|ai<|al (ρ' :=[(13,_),(6,_),(5,_),(4,_),(2,_),(0,_),(1,_)]) ⟨rfl,rfl,rfl,rfl,rfl,rfl,rfl,trivial⟩<|ag<| ?_
 refine cD rfl (fun h0=> ?_) (fun h0=> ?_)
 ·have hE:d.ct p=6:=by rw[RD.ct,if_pos h0]
  have hB:d.cz p=[]:=by rw[RD.cz,if_pos h0]
  rw[hE,hB]
  refine ah<|aj<|hy (fun _=>ab rfl)<|hy (fun _=>ab rfl)<|ai<|ag<|aX<|ax<| ?_
  exact dy trivial rfl rfl rfl [] rfl [] rfl ⟨rfl,rfl,rfl⟩
 ·refine aC<|ag<|ah<|ah<|aj<|hy (fun _=>aa rfl)<|hy (fun _=>bu rfl rfl)<|ai<|al (ρ' :=[(15,_),(13,_),(6,_),(5,_),(4,_),(2,_),(0,_),(1,_)]) ⟨rfl,rfl,rfl,rfl,rfl,rfl,rfl,rfl,trivial⟩<|ag<| ?_
  refine cD rfl (fun h1=> ?_) (fun h1=> ?_)
  ·have hq:=iu.1 h1
   have hE:d.ct p=4:=by rw[RD.ct,if_neg h0,if_pos hq]
   have hB:d.cz p=[]:=by rw[RD.cz,if_neg h0,hq];rfl
   rw[hE,hB]
   refine ah<|aj<|hy (fun _=>ab rfl)<|hy (fun _=>ab rfl)<|ai<|ag<|aX<|ax<| ?_
   exact dy trivial rfl rfl rfl [] rfl [] rfl ⟨rfl,rfl,rfl⟩
  ·obtain⟨x0,hfx⟩:∃x0,d.seen[cB d.seen p]? =some x0:=by
    cases hq:d.seen[cB d.seen p]? with
    |none=>exact absurd (iu.2 hq) h1
    |some x0=>exact⟨x0,rfl⟩
   have hfl:cB d.seen p<d.seen.length:=(List.getElem?_eq_some_iff.1 hfx).1
   obtain⟨f0,f1⟩:=ka d.seen _ x0 hfx
   have hfi:kS d.seen p=(cB d.seen p:Nat):=by rw[kS,if_pos hfl]
   have hE:d.ct p=0:=by rw[RD.ct,if_neg h0,if_neg (by rw[hfx];exact fun e=>by cases e)]
   have hB:d.cz p=x0.2:=by rw[RD.cz,if_neg h0,hfx];rfl
   rw[hE,hB]
   refine aC<|ag<|ah<|aj<|hy (fun _=>aH rfl j1 (by decide))<|hy (fun m=>aw rfl tJ (aA (m.aZ 0 rfl) (i:=1) rfl))<|hy (fun _=>aa rfl)<|hy (fun _=>cH rfl rfl Tryz.underlying36 fh hA_r hfi.symm (by omega))<|hy (fun _=>aH rfl oY (by decide))<|hy (fun m=>yV (aw rfl l0 (fH (m.rd 0 rfl) f1)) ((rfl:_=Value.string (strOf x0.2))))<|hy (fun _=>ab rfl)<|hy (fun _=>ab rfl)<|ai<|al (ρ' :=[(5,_),(4,_),(15,_),(13,_),(6,_),(2,_),(0,_),(1,_)]) ⟨rfl,rfl,rfl,rfl,rfl,rfl,rfl,rfl,trivial⟩<|ag<|aX<| ?_
   exact dy trivial rfl rfl rfl [] rfl [] rfl ⟨rfl,rfl,rfl⟩
end Go.Proofs.YtmibdabdlgmafaaGreatDoor
end
section
set_option maxRecDepth 20000
namespace Go.Proofs.YtmibdabdlgmafaaGreatDoor
open Go.Eng Go.Hx
def cA.mR(st:cA)(n:Int):cA:={st with bF:=max n (-1)}
theorem D4{g:Nat}{st:cA}{n:Int}:cj Tryz.prog 57 [.pointer (some ⟨g,0,none⟩),.int .i64 n] [bj g st] [] (fun v_ X_ S_=>v_=(.tuple #[])∧X_=[bj g (st.mR n)]∧S_=[]):=by
 refine aQ (N:=9) Tryz.func57 rfl rfl (by simp) fun b=> ?_
 refine bw (fun w m=>(m.perm (ar [0] _ [_] _ rfl)).unpack) ?_
 refine aj<|hy (fun _=>aa rfl)<|hy (fun _=>aa rfl)<|hy (fun _=>Fu rfl rfl)<|hy (fun _=>a7 rfl)<|hy (fun _=>aH rfl lJ (by decide))<| ?_
 refine cJ (cm 0 rfl rfl rfl sS rfl (by first|exact Nat.le_of_ble_eq_true rfl|simp) ?_)
 refine ai<|al (ρ' :=[(0,_),(1,_)]) ⟨rfl,rfl,trivial⟩<|ak (X' :=[_,_,_,_,_]) (S' :=[]) (fun _ m=>m)<| ?_
 refine ak (fun w m=>m.bQ 0 rfl (show _=aL g 177 (gM (st.mR n))from by simp[gM,cA.mR])) ?_
 refine ak (X' :=bj g (st.mR n)::_) (fun w m=>(m.perm (ar [0,0,0,0,0] _ [_,_,_,_,_] _ rfl)).pack) ?_
 exact fD trivial rfl [0] rfl [] rfl ⟨rfl,rfl,rfl⟩
theorem EE:cj Tryz.prog 258 [.slice none 0 0,.int .i64 0,.int .i64 0] [] [] (fun v_ X_ S_=>v_=(.tuple #[])∧X_=[]∧S_=[]):=by
 refine aQ (N:=49) Tryz.func258 rfl rfl (by simp) fun b=> ?_
 refine ah<|aj<|hy (fun _=>aa rfl)<|hy (fun _=>aN rfl rfl (bC (by omega) (by omega)))<|hy (fun _=>ab rfl)<|ai<|al (ρ' :=[(6,_),(0,_),(1,_),(2,_)]) ⟨rfl,rfl,rfl,rfl,trivial⟩<|ag<|aI<| ?_
 refine dD (fun u=>0) (fun u=>[(6,.int .i64 1)]) (fun u=>[]) (fun u=>[]) (fun u=>u=0) 0 [(0,_),(1,_),(2,_)] ⟨rfl,rfl,rfl,trivial⟩ [] rfl [] rfl (rfl) ⟨rfl,trivial⟩ (fun u hI=> ?_)
 refine ah<|ah<|aj<|hy (fun _=>aa rfl)<|hy (fun _=>aa rfl)<|hy (fun _=>bu rfl rfl)<|ai<|al (ρ' :=[(12,_),(6,_),(0,_),(1,_),(2,_)]) ⟨rfl,rfl,rfl,rfl,rfl,trivial⟩<|ag<| ?_
 refine dL rfl (rfl) ?_
 refine bK<|ao<|ao<|aB<| ?_
 exact fD trivial rfl [] rfl [] rfl ⟨rfl,rfl,rfl⟩
theorem yO:cj Tryz.prog 255 [.int .u64 0] [] [] (fun v_ X_ S_=>v_=(.int .i64 0)∧X_=[]∧S_=[]):=by
 refine aQ (N:=25) Tryz.func255 rfl rfl (by simp) fun b=> ?_
 refine ah<|aj<|hy (fun _=>ab rfl)<|ai<|ag<|ah<|ah<|aj<|hy (fun _=>aa rfl)<|hy (fun _=>kl rfl rfl)<|ai<|al (ρ' :=[(4,_),(2,_),(0,_)]) ⟨rfl,rfl,rfl,trivial⟩<|ag<| ?_
 refine dL rfl (rfl) ?_
 refine aC<|ag<|ah<|ah<|aj<|hy (fun _=>aa rfl)<|hy (fun _=>kl rfl rfl)<|ai<|al (ρ' :=[(8,_),(4,_),(2,_),(0,_)]) ⟨rfl,rfl,rfl,rfl,trivial⟩<|ag<| ?_
 refine dL rfl (rfl) ?_
 refine aC<|ag<|ah<|ah<|aj<|hy (fun _=>aa rfl)<|hy (fun _=>kl rfl rfl)<|ai<|al (ρ' :=[(14,_),(8,_),(4,_),(2,_),(0,_)]) ⟨rfl,rfl,rfl,rfl,rfl,trivial⟩<|ag<| ?_
 refine dL rfl (rfl) ?_
 refine aC<|ag<|ah<|aj<|hy (fun _=>aa rfl)<|hy (fun _=>aa rfl)<|hy (fun _=>bW rfl Tryz.underlying310 Tryz.underlying5 (show IntKind.u8.wrap 0=0 from rfl))<|hy (fun _=>fO rfl rfl Tryz.underlying9 (show((0:Nat):Int)=0 from rfl) (show _=some (0:UInt8)from rfl))<|hy (fun _=>bW rfl Tryz.underlying5 Tryz.underlying3 (show IntKind.i64.wrap ((0:UInt8).toNat:Int)=0 from rfl))<|hy (fun _=>aN rfl rfl (bC (by omega) (by omega)))<|hy (fun _=>ab rfl)<|ai<|al (ρ' :=[(2,_),(14,_),(8,_),(4,_),(0,_)]) ⟨rfl,rfl,rfl,rfl,rfl,trivial⟩<|ag<|aX<| ?_
 exact bf trivial rfl rfl [] rfl [] rfl ⟨rfl,rfl,rfl⟩
theorem Eu:cj Tryz.prog 207 [.int .u64 0] [] [] (fun v_ X_ S_=>v_=(.int .i64 0)∧X_=[]∧S_=[]):=by
 refine aQ (N:=8) Tryz.func207 rfl rfl (by simp) fun b=> ?_
 refine ah<|aj<|hy (fun _=>ab rfl)<|ai<|ag<|ah<| ?_
 refine dL rfl (rfl) ?_
 refine aC<|ag<|ah<|aj<|hy (fun _=>aa rfl)<| ?_
 refine hx (aq rfl Tryz.call255 (yO) [] rfl [] rfl ?_)
 rintro _ _ _ ⟨rfl,rfl,rfl⟩
 refine hy (fun _=>ab rfl)<|ai<|al (ρ' :=[(2,_),(0,_)]) ⟨rfl,rfl,trivial⟩<|ak (X' :=[]) (S' :=[]) (fun _ m=>m)<|ag<|aX<| ?_
 exact bf trivial rfl rfl [] rfl [] rfl ⟨rfl,rfl,rfl⟩
theorem Fh:cj Tryz.prog 223 [.slice none 0 0,.int .i64 0,.int .i64 0,.int .i64 0] [] [] (fun v_ X_ S_=>v_=(.tuple #[])∧X_=[]∧S_=[]):=by
 refine aQ (N:=134) Tryz.func223 rfl rfl (by simp) fun b=> ?_
 refine ah<|aj<|hy (fun _=>ab rfl)<|ai<|ag<|ah<|aj<|hy (fun _=>ab rfl)<|ai<|ag<|aI<| ?_
 refine dD (fun u=>0) (fun u=>[(1,.int .i64 0),(2,.int .i64 0)]) (fun u=>[]) (fun u=>[]) (fun u=>u=0) 0 [(0,_)] ⟨rfl,trivial⟩ [] rfl [] rfl (rfl) ⟨rfl,rfl,trivial⟩ (fun u hI=> ?_)
 refine aI<|ah<|aj<|hy (fun _=>aa rfl)<|hy (fun _=>aa rfl)<|hy (fun _=>cw rfl rfl (bC (by omega) (by omega)))<|hy (fun _=>ab rfl)<|ai<|al (ρ' :=[(10,_),(1,_),(2,_),(0,_)]) ⟨rfl,rfl,rfl,rfl,trivial⟩<|ag<|ah<|ah<|aj<|hy (fun _=>aa rfl)<|hy (fun _=>qG rfl rfl)<|ai<|al (ρ' :=[(23,_),(10,_),(1,_),(2,_),(0,_)]) ⟨rfl,rfl,rfl,rfl,rfl,trivial⟩<|ag<| ?_
 refine ic rfl (rfl) ?_
 refine ah<|aj<|hy (fun _=>aa rfl)<|hy (fun _=>aa rfl)<|hy (fun _=>aa rfl)<| ?_
 refine hx (aq rfl Tryz.call258 (EE) [] rfl [] rfl ?_)
 rintro _ _ _ ⟨rfl,rfl,rfl⟩
 refine ai<|al (ρ' :=[(23,_),(10,_),(1,_),(2,_),(0,_)]) ⟨rfl,rfl,rfl,rfl,rfl,trivial⟩<|ak (X' :=[]) (S' :=[]) (fun _ m=>m)<|ag<|aX<|ax<|a8<|ax<|a8<| ?_
 exact fD trivial rfl [] rfl [] rfl ⟨rfl,rfl,rfl⟩
theorem CC:cj Tryz.prog 165 [.slice none 0 0] [] [] (fun v_ X_ S_=>v_=(.tuple #[])∧X_=[]∧S_=[]):=by
 refine aQ (N:=11) Tryz.func165 rfl rfl (by simp) fun b=> ?_
 refine ah<|aj<|hy (fun _=>aa rfl)<|hy (fun _=>aU rfl Tryz.underlying152)<|hy (fun _=>ab rfl)<|ai<|al (ρ' :=[(2,_),(0,_)]) ⟨rfl,rfl,trivial⟩<|ag<|aj<|hy (fun _=>aa rfl)<|hy (fun _=>aa rfl)<|hy (fun _=>aa rfl)<|hy (fun _=>bW rfl Tryz.underlying3 Tryz.underlying263 rfl)<| ?_
 refine hx (aq rfl Tryz.call207 (Eu) [] rfl [] rfl ?_)
 rintro _ _ _ ⟨rfl,rfl,rfl⟩
 refine hx (aq rfl Tryz.call223 (Fh) [] rfl [] rfl ?_)
 rintro _ _ _ ⟨rfl,rfl,rfl⟩
 refine ai<|al (ρ' :=[(2,_),(0,_)]) ⟨rfl,rfl,trivial⟩<|ak (X' :=[]) (S' :=[]) (fun _ m=>m)<| ?_
 exact fD trivial rfl [] rfl [] rfl ⟨rfl,rfl,rfl⟩
end Go.Proofs.YtmibdabdlgmafaaGreatDoor
end
section
set_option maxRecDepth 20000
namespace Go.Proofs.YtmibdabdlgmafaaGreatDoor
open Go.Eng Go.Hx
def oP(l:c6):fj→c6
 | .written p r=>cE l p r
 | .renamed a c=>match b8 l a with
  |none=>l
  |some r=>cE (ec l a) c r
 | .removed p=>ec l p
theorem As{g:Nat}{l:c6}{a c:List UInt8}:cj Tryz.prog 337 [.agg [SV a,SV c].toArray,.map (some g)] [cT SV g (dC l)] [] (fun v_ X_ S_=>v_=(.tuple #[])∧X_=[cT SV g (dC (oP l (.renamed a c)))]∧S_=[]):=by
 refine aQ (N:=21) Tryz.func337 rfl rfl (by simp) fun b=> ?_
 refine ah<|aj<| ?_
 refine hx (cI rfl (fun g2=> ?_))
 refine aT (fun w m=>m.bQ 0 rfl (show _=aL g2 257 [SV a,SV c]from congrArg (aL _ _) (bA _))) ?_
 rcases qe (l:=l) a with⟨h1,h2⟩|⟨r,h1,h2⟩
 ·refine ai<|ak (X' :=[_,_]) (S' :=[]) (fun _ m=>m)<|ag<|ah<|aj<|hy (fun _=>aa rfl)<|hy (fun _=>aH rfl rN (by decide))<|hy (fun m=>aw rfl l0 (aA (m.aZ 0 rfl) (i:=0) rfl))<|hy (fun m=>yV (jS (enc:=SV) rfl rfl Tryz.underlying174 ui (jY Tryz.underlying9) (m.p4 1 rfl)) ((show hC true (.slice none 0 0) (b8 (dC l) a)= .tuple #[.slice none 0 0,.bool false] by rw[h2];rfl)))<|hy (fun _=>aa rfl)<|hy (fun _=>au rfl rfl)<|hy (fun _=>au rfl rfl)<|hy (fun _=>ab rfl)<|hy (fun _=>ab rfl)<|ai<|al (ρ' :=[(5,_),(4,_),(2,_),(0,_),(1,_)]) ⟨rfl,rfl,rfl,rfl,rfl,trivial⟩<|ag<|ah<|aj<|hy (fun _=>aa rfl)<|ai<|ag<| ?_
  refine dL rfl (rfl) ?_
  refine aC<| ?_
  have e:oP l (.renamed a c)=l:=by rw[oP,h1]
  rw[e]
  exact fD trivial rfl [1] rfl [] rfl ⟨rfl,rfl,rfl⟩
 ·refine ai<|ag<|ah<|aj<|hy (fun _=>aa rfl)<|hy (fun _=>aH rfl rN (by decide))<|hy (fun m=>aw rfl l0 (aA (m.aZ 0 rfl) rfl))<|hy (fun m=>yV (jS (enc:=SV) rfl rfl Tryz.underlying174 ui (jY Tryz.underlying9) (m.p4 1 rfl)) ((show hC true (.slice none 0 0) (b8 (dC l) a)= .tuple #[r.val,.bool true] by rw[h2];rfl)))<|hy (fun _=>aa rfl)<|hy (fun _=>au rfl rfl)<|hy (fun _=>au rfl rfl)<|hy (fun _=>ab rfl)<|hy (fun _=>ab rfl)<|ai<|al (ρ' :=[(5,_),(4,_),(2,_),(0,_),(1,_)]) ⟨rfl,rfl,rfl,rfl,rfl,trivial⟩<|ag<|ah<|aj<|hy (fun _=>aa rfl)<|ai<|ag<| ?_
  refine ic rfl (rfl) ?_
  refine ah<|aj<|hy (fun _=>aa rfl)<|hy (fun _=>aH rfl rN (by decide))<|hy (fun m=>aw rfl l0 (aA (m.aZ 0 rfl) (i:=0) rfl))<| ?_
  refine cJ (n5 (enc:=SV) 1 rfl rfl rfl Tryz.underlying174 (jY Tryz.underlying9) ?_)
  refine ai<|al (ρ' :=[(13,_),(5,_),(4,_),(2,_),(0,_),(1,_)]) ⟨rfl,rfl,rfl,rfl,rfl,rfl,trivial⟩<|ak (X' :=[_,_]) (S' :=[]) (fun _ m=>m)<|ag<|aj<|hy (fun _=>aa rfl)<|hy (fun _=>aH rfl Bx (by decide))<|hy (fun m=>aw rfl l0 (aA (m.aZ 1 rfl) (i:=1) rfl))<|hy (fun _=>aa rfl)<| ?_
  refine cJ (pP (enc:=SV) 0 rfl rfl rfl rfl Tryz.underlying174 (jY Tryz.underlying9) ?_)
  refine ai<|al (ρ' :=[(13,_),(5,_),(4,_),(2,_),(0,_),(1,_)]) ⟨rfl,rfl,rfl,rfl,rfl,rfl,trivial⟩<|ak (X' :=[_,_]) (S' :=[]) (fun _ m=>m)<| ?_
  have e:cE (ec (dC l) a) c r.val=dC (oP l (.renamed a c)):=by rw[oP,h1,pQ,kG]
  refine ak (fun w m=>m.bQ 0 rfl (show _=cT SV g (dC (oP l (.renamed a c)))from congrArg (cT SV g) e)) ?_
  exact fD trivial rfl [0] rfl [] rfl ⟨rfl,rfl,rfl⟩
theorem AL{g:Nat}{l:c6}{p:List UInt8}:cj Tryz.prog 335 [.agg [SV p].toArray,.map (some g)] [cT SV g (dC l)] [] (fun v_ X_ S_=>v_=(.tuple #[])∧X_=[cT SV g (dC (oP l (.removed p)))]∧S_=[]):=by
 refine aQ (N:=7) Tryz.func335 rfl rfl (by simp) fun b=> ?_
 refine ah<|aj<| ?_
 refine hx (cI rfl (fun g2=> ?_))
 refine aT (fun w m=>m.bQ 0 rfl (show _=aL g2 237 [SV p]from congrArg (aL _ _) (bA _))) ?_
 refine ai<|ak (X' :=[_,_]) (S' :=[]) (fun _ m=>m)<|ag<|aj<|hy (fun _=>aa rfl)<|hy (fun _=>aH rfl CJ (by decide))<|hy (fun m=>aw rfl l0 (aA (m.aZ 0 rfl) (i:=0) rfl))<| ?_
 refine cJ (n5 (enc:=SV) 1 rfl rfl rfl Tryz.underlying174 (jY Tryz.underlying9) ?_)
 refine ai<|al (ρ' :=[(2,_),(0,_),(1,_)]) ⟨rfl,rfl,rfl,trivial⟩<|ak (X' :=[_,_]) (S' :=[]) (fun _ m=>m)<| ?_
 rw[pQ]
 exact fD trivial rfl [0] rfl [] rfl ⟨rfl,rfl,rfl⟩
def cA.gA(st:cA)(c:fj)(A:Option Addr)(k:Nat):cA:={st.eH with seen:=oP st.seen c,waits:=st.waits++[c],wA:=A,wc:=k}
theorem iv{l:c6}{p:List UInt8}{x:ei}(h:x∈(ec l p).map (·.2)):x∈l.map (·.2):=by
 induction l with
 |nil=>exact h
 |cons a q ih=>
  obtain⟨k,u⟩:=a
  simp only[ec]at h
  split at h
  ·exact List.mem_cons_of_mem _ h
  ·simp only[List.map_cons,List.mem_cons]at h ⊢
   rcases h with rfl|h
   ·exact .inl rfl
   ·exact .inr (ih h)
theorem zq{l:c6}{c:fj}(hc:c.row=none){x:ei}(h:x∈(oP l c).map (·.2)):x∈l.map (·.2):=by
 cases c with
 |written p r=>cases hc
 |renamed a b=>
  simp only[oP]at h
  split at h
  ·exact h
  ·rename_i r hr
   rcases jE h with h|h
   ·exact iv h
   ·exact h▸List.mem_map.2 ⟨_,iG hr,rfl⟩
 |removed p=>exact iv h
theorem CE(l:c6)(c:fj):(oP l c).length≤l.length+1:=by
 cases c with
 |written p r=>exact kW l p r
 |renamed a b=>
  simp only[oP]
  split
  ·omega
  ·rename_i r hr
   have h1:=kW (ec l a) b r
   have h2:=nc l a
   omega
 |removed p=>have h2:=nc l p;show(ec l p).length≤_;omega
theorem pD{st:cA}{c:fj}{A:Option Addr}{k:Nat}(hc:c.row=none):∀x∈rowsOf (st.gA c A k),x∈rowsOf st:=by
 intro x hx
 unfold rowsOf cA.gA at hx
 simp only[cA.eH,List.mem_append,List.filterMap_append]at hx
 unfold rowsOf
 simp only[List.mem_append]
 rcases hx with(h|h)|h|h
 ·exact .inl (.inl (zq hc h))
 ·exact .inl (.inr h)
 ·exact .inr h
 ·simp[hc]at h
theorem nB.gA{st:cA}{k:Nat}(h:nB st k){c:fj}(hc:c.row=none)(A:Option Addr)(j:Nat):nB (st.gA c A j) (k+1):=by
 refine⟨kH h.bF,h.room, ?_, ?_,fun x hx=>h.small x (pD hc x hx)⟩
 ·have:=CE st.seen c
  have:=h.seen
  show(oP st.seen c).length≤k+1
  omega
 ·have:=h.rest
  show st.bO.length+(st.waits++[c]).length≤k+1
  simp only[List.length_append,List.length_cons,List.length_nil]
  omega
theorem Hf{g:Nat}{st:cA}{a c:List UInt8}(hp:st.bF≤1000000000000)(hw:st.waits.length≤1000000):cj Tryz.prog 116 [.pointer (some ⟨g,0,none⟩),(fj.renamed a c).val] [bj g st] [] (fun v_ X_ S_=>∃A k,v_=(.tuple #[])∧X_=[bj g (st.gA (.renamed a c) A k)]∧S_=[]):=by
 have hsw:st.eH.waits.length=st.waits.length:=rfl
 refine aQ (N:=25) Tryz.func116 rfl rfl (by simp) fun b=> ?_
 refine ah<|aj<|hy (fun _=>aa rfl)<| ?_
 refine hx (aq rfl Tryz.call181 (su (by omega)) [0] rfl [] rfl ?_)
 rintro _ _ _ ⟨rfl,rfl,rfl⟩
 refine aT (fun w m=>(m.perm (ar [0] _ [_] _ rfl)).unpack) ?_
 refine ai<|al (ρ' :=[(0,_),(1,_)]) ⟨rfl,rfl,trivial⟩<|ak (X' :=[_,_,_,_,_]) (S' :=[]) (fun _ m=>m)<|ag<|ah<|cG [8] [(0,some 0),(1,some 0),(2,some 0),(3,some 0),(4,some 0),(5,some 0),(6,some 0),(7,some 0),(8,none)] (by kernel_rfl) (by kernel_rfl) rfl 0<|an (aa rfl)<|an (aa rfl)<|an (a7 rfl)<|an (aH rfl gv (by decide))<|ca (fun m=>aw rfl iR (aA (m.aZ 0 rfl) rfl))<|an (iy rfl rfl)<|an (pT rfl (by kernel_rfl))<|an (aa rfl)<| ?_
 refine dV (qg rfl rfl (fun w=>by kernel_rfl) Tryz.call337 (As) [1] rfl [] rfl ?_)
 rintro _ _ _ ⟨rfl,rfl,rfl⟩
 refine⟨(fun h=>absurd h (by decide)), ?_⟩
 refine br<|al (ρ' :=[(0,_),(1,_)]) ⟨rfl,rfl,trivial⟩<|ak (X' :=[_,_,_,_,_]) (S' :=[]) (fun _ m=>m)<|ag<|aj<|hy (fun _=>aa rfl)<|hy (fun _=>aa rfl)<|hy (fun _=>a7 rfl)<|hy (fun _=>aH rfl ib (by decide))<|hy (fun m=>aw rfl vR (aA (m.aZ 1 rfl) rfl))<|hy (fun _=>aa rfl)<| ?_
 refine hx (bY Tryz.underlying175 rb rfl rfl rfl (by simp[Value.cells,fj.val]) (by decide) (by decide) (fun g21=> ?_))
 have hA_b21:0<1→(some (⟨g21,0,none⟩:Addr))≠none:=fun _ h=>by cases h
 refine aT (fun w m=>m.bQ 0 rfl (show _=aG 232 1 (.slice (some ⟨g21,0,none⟩) 1 1) 1 [((fj.renamed a c)).val]from rfl)) ?_
 refine hx (bL 4 rfl rfl rfl Tryz.underlying175 Tryz.underlying175 (by exact .inl rfl) rb rfl (fun m=>Src.b7 (m.ord 0 rfl)) (by simp[fj.val,Value.oneCell']) (by unfold maxLen;omega) (by omega) (fun u=> ?_))
 refine aD (fun m=>(m.own 0 rfl).slice) ?_
 rintro⟨A_d3,c_d3,rfl,hc_d3⟩
 refine aD (fun m=>(m.ord 0 rfl).2.1) fun hA_d3=> ?_
 refine hy (fun _=>a7 rfl)<|hy (fun _=>aH rfl ib (by decide))<| ?_
 refine cJ (cm 3 rfl rfl rfl tZ rfl (by first|exact Nat.le_of_ble_eq_true rfl|simp) ?_)
 refine ai<|al (ρ' :=[(0,_),(1,_)]) ⟨rfl,rfl,trivial⟩<|ak (X' :=[_,_,_,_,_,_]) (S' :=[]) (fun _ m=>m)<| ?_
 refine ak (fun w m=>m.bQ 0 rfl (show _=aL g 177 (gM (st.gA ((fj.renamed a c)) A_d3 c_d3))from by simp[gM,cA.gA,cA.eH])) ?_
 refine ak (fun w m=>m.bQ 3 rfl (show _=cT SV st.gs (dC (st.gA ((fj.renamed a c)) A_d3 c_d3).seen)from rfl)) ?_
 refine ak (fun w m=>m.bQ 2 rfl (show _=aG 232 1 (.slice A_d3 (st.gA ((fj.renamed a c)) A_d3 c_d3).waits.length c_d3) (st.gA ((fj.renamed a c)) A_d3 c_d3).waits.length ((st.gA ((fj.renamed a c)) A_d3 c_d3).waits.map fj.val)from by simp[cA.gA,cA.eH])) ?_
 refine ak (X' :=fM (rowsOf (st.gA ((fj.renamed a c)) A_d3 c_d3))::_) (fun w m=>(m.perm (ar [5] _ [_] _ rfl)).uK ((pD rfl))) ?_
 refine ak (X' :=bj g (st.gA ((fj.renamed a c)) A_d3 c_d3)::_) (fun w m=>(m.perm (ar [3,2,3,1,0] _ [_,_,_,_,_] _ rfl)).pack) ?_
 exact fD trivial rfl [0] rfl [] rfl ⟨_,_,rfl,rfl,rfl⟩
theorem Hg{g:Nat}{st:cA}{p:List UInt8}(hp:st.bF≤1000000000000)(hw:st.waits.length≤1000000):cj Tryz.prog 116 [.pointer (some ⟨g,0,none⟩),(fj.removed p).val] [bj g st] [] (fun v_ X_ S_=>∃A k,v_=(.tuple #[])∧X_=[bj g (st.gA (.removed p) A k)]∧S_=[]):=by
 have hsw:st.eH.waits.length=st.waits.length:=rfl
 refine aQ (N:=25) Tryz.func116 rfl rfl (by simp) fun b=> ?_
 refine ah<|aj<|hy (fun _=>aa rfl)<| ?_
 refine hx (aq rfl Tryz.call181 (su (by omega)) [0] rfl [] rfl ?_)
 rintro _ _ _ ⟨rfl,rfl,rfl⟩
 refine aT (fun w m=>(m.perm (ar [0] _ [_] _ rfl)).unpack) ?_
 refine ai<|al (ρ' :=[(0,_),(1,_)]) ⟨rfl,rfl,trivial⟩<|ak (X' :=[_,_,_,_,_]) (S' :=[]) (fun _ m=>m)<|ag<|ah<|cG [8] [(0,some 0),(1,some 0),(2,some 0),(3,some 0),(4,some 0),(5,some 0),(6,some 0),(7,some 0),(8,none)] (by kernel_rfl) (by kernel_rfl) rfl 0<|an (aa rfl)<|an (aa rfl)<|an (a7 rfl)<|an (aH rfl gv (by decide))<|ca (fun m=>aw rfl iR (aA (m.aZ 0 rfl) rfl))<|an (iy rfl rfl)<|an (pT rfl (by kernel_rfl))<|an (aa rfl)<| ?_
 refine dV (qg rfl rfl (fun w=>by kernel_rfl) Tryz.call335 (AL) [1] rfl [] rfl ?_)
 rintro _ _ _ ⟨rfl,rfl,rfl⟩
 refine⟨(fun h=>absurd h (by decide)), ?_⟩
 refine br<|al (ρ' :=[(0,_),(1,_)]) ⟨rfl,rfl,trivial⟩<|ak (X' :=[_,_,_,_,_]) (S' :=[]) (fun _ m=>m)<|ag<|aj<|hy (fun _=>aa rfl)<|hy (fun _=>aa rfl)<|hy (fun _=>a7 rfl)<|hy (fun _=>aH rfl ib (by decide))<|hy (fun m=>aw rfl vR (aA (m.aZ 1 rfl) rfl))<|hy (fun _=>aa rfl)<| ?_
 refine hx (bY Tryz.underlying175 rb rfl rfl rfl (by simp[Value.cells,fj.val]) (by decide) (by decide) (fun g21=> ?_))
 have hA_b21:0<1→(some (⟨g21,0,none⟩:Addr))≠none:=fun _ h=>by cases h
 refine aT (fun w m=>m.bQ 0 rfl (show _=aG 232 1 (.slice (some ⟨g21,0,none⟩) 1 1) 1 [((fj.removed p)).val]from rfl)) ?_
 refine hx (bL 4 rfl rfl rfl Tryz.underlying175 Tryz.underlying175 (by exact .inl rfl) rb rfl (fun m=>Src.b7 (m.ord 0 rfl)) (by simp[fj.val,Value.oneCell']) (by unfold maxLen;omega) (by omega) (fun u=> ?_))
 refine aD (fun m=>(m.own 0 rfl).slice) ?_
 rintro⟨A_d3,c_d3,rfl,hc_d3⟩
 refine aD (fun m=>(m.ord 0 rfl).2.1) fun hA_d3=> ?_
 refine hy (fun _=>a7 rfl)<|hy (fun _=>aH rfl ib (by decide))<| ?_
 refine cJ (cm 3 rfl rfl rfl tZ rfl (by first|exact Nat.le_of_ble_eq_true rfl|simp) ?_)
 refine ai<|al (ρ' :=[(0,_),(1,_)]) ⟨rfl,rfl,trivial⟩<|ak (X' :=[_,_,_,_,_,_]) (S' :=[]) (fun _ m=>m)<| ?_
 refine ak (fun w m=>m.bQ 0 rfl (show _=aL g 177 (gM (st.gA ((fj.removed p)) A_d3 c_d3))from by simp[gM,cA.gA,cA.eH])) ?_
 refine ak (fun w m=>m.bQ 3 rfl (show _=cT SV st.gs (dC (st.gA ((fj.removed p)) A_d3 c_d3).seen)from rfl)) ?_
 refine ak (fun w m=>m.bQ 2 rfl (show _=aG 232 1 (.slice A_d3 (st.gA ((fj.removed p)) A_d3 c_d3).waits.length c_d3) (st.gA ((fj.removed p)) A_d3 c_d3).waits.length ((st.gA ((fj.removed p)) A_d3 c_d3).waits.map fj.val)from by simp[cA.gA,cA.eH])) ?_
 refine ak (X' :=fM (rowsOf (st.gA ((fj.removed p)) A_d3 c_d3))::_) (fun w m=>(m.perm (ar [5] _ [_] _ rfl)).uK ((pD rfl))) ?_
 refine ak (X' :=bj g (st.gA ((fj.removed p)) A_d3 c_d3)::_) (fun w m=>(m.perm (ar [3,2,3,1,0] _ [_,_,_,_,_] _ rfl)).pack) ?_
 exact fD trivial rfl [0] rfl [] rfl ⟨_,_,rfl,rfl,rfl⟩
def bU(st:cA)(a c:List UInt8):Int:=if¬fV c then 1 else dM st a
theorem Cg{g:Nat}{st:cA}{a c:List UInt8}{k:Nat}(ok:nB st k)(hk:k≤100000):cj Tryz.prog 108 [.pointer (some ⟨g,0,none⟩),.string (strOf a),.string (strOf c)] [bj g st] [] (fun v_ X_ S_=>∃st1 A j,v_=(.int .i64 (bU st a c))∧X_=[bj g st1]∧S_=[]∧((bU st a c≠0∧st1=st)∨(bU st a c=0∧st1=st.gA (.renamed a c) A j))):=by
 have hp:=ok.bF
 have hw:st.waits.length≤1000000:=by have:=ok.rest;omega
 refine aQ (N:=23) Tryz.func108 rfl rfl (by simp) fun b=> ?_
 refine ah<|aj<|hy (fun _=>ab rfl)<|ai<|ag<|ah<|ah<|aj<|hy (fun _=>aa rfl)<| ?_
 refine hx (aq rfl Tryz.call115 (yx) [] rfl [] rfl ?_)
 rintro _ _ _ ⟨rfl,rfl,rfl⟩
 refine hy (fun _=>kb rfl)<|ai<|al (ρ' :=[(10,_),(6,_),(0,_),(1,_),(2,_)]) ⟨rfl,rfl,rfl,rfl,rfl,trivial⟩<|ak (X' :=[_]) (S' :=[]) (fun _ m=>m)<|ag<| ?_
 refine cD rfl (fun h1=> ?_) (fun h1=> ?_)
 ·have e:bU st a c=1:=by rw[bU,if_pos h1]
  rw[e]
  refine ah<|aj<|hy (fun _=>ab rfl)<|ai<|ag<|aX<|ax<| ?_
  exact bf trivial rfl rfl [0] rfl [] rfl ⟨_,none,0,rfl,rfl,rfl,.inl ⟨by decide,rfl⟩⟩
 ·have e:bU st a c=dM st a:=by rw[bU,if_neg h1]
  rw[e]
  refine aC<|ag<|ah<|ah<|aj<|hy (fun _=>aa rfl)<|hy (fun _=>aa rfl)<| ?_
  refine hx (aq rfl Tryz.call158 (vc) [0] rfl [] rfl ?_)
  rintro _ _ _ ⟨rfl,rfl,rfl⟩
  refine hy (fun _=>ab rfl)<|ai<|al (ρ' :=[(7,_),(10,_),(6,_),(0,_),(1,_),(2,_)]) ⟨rfl,rfl,rfl,rfl,rfl,rfl,trivial⟩<|ak (X' :=[_]) (S' :=[]) (fun _ m=>m)<|ag<|ah<|aj<|hy (fun _=>aa rfl)<|hy (fun _=>dP rfl rfl)<|ai<|al (ρ' :=[(15,_),(7,_),(10,_),(6,_),(0,_),(1,_),(2,_)]) ⟨rfl,rfl,rfl,rfl,rfl,rfl,rfl,trivial⟩<|ag<| ?_
  refine cD rfl (fun h2=> ?_) (fun h2=> ?_)
  ·refine ah<|aj<|hy (fun _=>aa rfl)<|hy (fun _=>ab rfl)<|ai<|al (ρ' :=[(6,_),(15,_),(7,_),(10,_),(0,_),(1,_),(2,_)]) ⟨rfl,rfl,rfl,rfl,rfl,rfl,rfl,trivial⟩<|ag<|aX<|ax<| ?_
   exact bf trivial rfl rfl [0] rfl [] rfl ⟨_,none,0,rfl,rfl,rfl,.inl ⟨h2,rfl⟩⟩
  ·have h0:=Decidable.not_not.1 h2
   rw[h0]
   refine aC<|ag<|ah<|aj<|hy (fun _=>aa rfl)<|hy (fun _=>aa rfl)<|hy (fun _=>aa rfl)<|hy (fun _=>yV (cy F2 rfl rfl (by kernel_rfl) (.cons (o:=0) (sz:=1) (by kernel_rfl) rfl rfl (Nat.le_of_ble_eq_true rfl) (.cons (o:=1) (sz:=1) (by kernel_rfl) rfl rfl (Nat.le_of_ble_eq_true rfl) .nil))) ((rfl:_=Value.agg [SV a,SV c].toArray)))<|hy (fun _=>yV (kv rfl Tryz.underlying257 (fun _ h=>by cases h)) ((rfl:_=(fj.renamed a c).val)))<| ?_
   refine hx (aq rfl Tryz.call116 (Hf (by omega) (by omega)) [0] rfl [] rfl ?_)
   rintro _ _ _ ⟨A,k2,rfl,rfl,rfl⟩
   refine ai<|al (ρ' :=[(15,_),(7,_),(10,_),(6,_),(0,_),(1,_),(2,_)]) ⟨rfl,rfl,rfl,rfl,rfl,rfl,rfl,trivial⟩<|ak (X' :=[_]) (S' :=[]) (fun _ m=>m)<|ag<|ah<|aj<|hy (fun _=>ab rfl)<|ai<|ag<|aX<| ?_
   exact bf trivial rfl rfl [0] rfl [] rfl ⟨_,_,_,rfl,rfl,rfl,.inr ⟨rfl,rfl⟩⟩
theorem Cn{g:Nat}{st:cA}{p:List UInt8}{k:Nat}(ok:nB st k)(hk:k≤100000):cj Tryz.prog 79 [.pointer (some ⟨g,0,none⟩),.string (strOf p)] [bj g st] [] (fun v_ X_ S_=>∃st1 A j,v_=(.int .i64 (dM st p))∧X_=[bj g st1]∧S_=[]∧((dM st p≠0∧st1=st)∨(dM st p=0∧st1=st.gA (.removed p) A j))):=by
 have hp:=ok.bF
 have hw:st.waits.length≤1000000:=by have:=ok.rest;omega
 refine aQ (N:=17) Tryz.func79 rfl rfl (by simp) fun b=> ?_
 refine ah<|aj<|hy (fun _=>ab rfl)<|ai<|ag<|ah<|ah<|aj<|hy (fun _=>aa rfl)<|hy (fun _=>aa rfl)<| ?_
 refine hx (aq rfl Tryz.call158 (vc) [0] rfl [] rfl ?_)
 rintro _ _ _ ⟨rfl,rfl,rfl⟩
 refine hy (fun _=>ab rfl)<|ai<|al (ρ' :=[(5,_),(4,_),(0,_),(1,_)]) ⟨rfl,rfl,rfl,rfl,trivial⟩<|ak (X' :=[_]) (S' :=[]) (fun _ m=>m)<|ag<|ah<|aj<|hy (fun _=>aa rfl)<|hy (fun _=>dP rfl rfl)<|ai<|al (ρ' :=[(10,_),(5,_),(4,_),(0,_),(1,_)]) ⟨rfl,rfl,rfl,rfl,rfl,trivial⟩<|ag<| ?_
 refine cD rfl (fun h2=> ?_) (fun h2=> ?_)
 ·refine ah<|aj<|hy (fun _=>aa rfl)<|hy (fun _=>ab rfl)<|ai<|al (ρ' :=[(4,_),(10,_),(5,_),(0,_),(1,_)]) ⟨rfl,rfl,rfl,rfl,rfl,trivial⟩<|ag<|aX<|ax<| ?_
  exact bf trivial rfl rfl [0] rfl [] rfl ⟨_,none,0,rfl,rfl,rfl,.inl ⟨h2,rfl⟩⟩
 ·have h0:=Decidable.not_not.1 h2
  rw[h0]
  refine aC<|ag<|ah<|aj<|hy (fun _=>aa rfl)<|hy (fun _=>aa rfl)<|hy (fun _=>yV (cy FV rfl rfl (by kernel_rfl) (.cons (o:=0) (sz:=1) (by kernel_rfl) rfl rfl (Nat.le_of_ble_eq_true rfl) .nil)) ((rfl:_=Value.agg [SV p].toArray)))<|hy (fun _=>yV (kv rfl Tryz.underlying237 (fun _ h=>by cases h)) ((rfl:_=(fj.removed p).val)))<| ?_
  refine hx (aq rfl Tryz.call116 (Hg (by omega) (by omega)) [0] rfl [] rfl ?_)
  rintro _ _ _ ⟨A,k2,rfl,rfl,rfl⟩
  refine ai<|al (ρ' :=[(10,_),(5,_),(4,_),(0,_),(1,_)]) ⟨rfl,rfl,rfl,rfl,rfl,trivial⟩<|ak (X' :=[_]) (S' :=[]) (fun _ m=>m)<|ag<|ah<|aj<|hy (fun _=>ab rfl)<|ai<|ag<|aX<| ?_
  exact bf trivial rfl rfl [0] rfl [] rfl ⟨_,_,_,rfl,rfl,rfl,.inr ⟨rfl,rfl⟩⟩
theorem xI{g:Nat}{st:cA}{A:Option Addr}{n c:Nat}{bs:List Bool}(hc:n≤c)(hs:Small st)(hw:st.waits.length≤1000000):cj Tryz.prog 72 [.pointer (some ⟨g,0,none⟩),.slice A n c] [bj g st] [cV 1 A n (jJ bs)] (fun v_ X_ S_=>∃gs,v_=(.tuple #[])∧X_=[bj g (st.started bs gs)]∧S_=[]):=by
 refine aQ (N:=67) Tryz.func72 rfl rfl (by simp) fun b=> ?_
 refine aY (fun m=>gY (m.rd 0 rfl)) ?_
 rintro⟨hl_r,hA_r⟩
 refine bw (fun w m=>(m.perm (ar [0] _ [_] _ rfl)).unpack) ?_
 refine aY (fun m=>(m.ord 3 rfl).2.1) fun hwA=> ?_
 refine ah<|aj<| ?_
 refine hx (cI rfl (fun g3=> ?_))
 refine ai<|ak (X' :=[_,_,_,_,_,_]) (S' :=[_]) (fun _ m=>m)<|ag<|ah<|aj<|hy (fun _=>iy rfl rfl)<|hy (fun _=>ab rfl)<|ai<|al (ρ' :=[(4,_),(3,_),(0,_),(1,_)]) ⟨rfl,rfl,rfl,rfl,trivial⟩<|ag<|ah<|ah<|aj<|hy (fun _=>aa rfl)<|hy (fun _=>a7 rfl)<|hy (fun _=>aH rfl ib (by decide))<|hy (fun m=>aw rfl vR (aA (m.aZ 1 rfl) rfl))<|hy (fun _=>aU rfl Tryz.underlying175)<|hy (fun _=>aa rfl)<|ai<|al (ρ' :=[(15,_),(14,_),(13,_),(4,_),(3,_),(0,_),(1,_)]) ⟨rfl,rfl,rfl,rfl,rfl,rfl,rfl,trivial⟩<|ag<|aI<| ?_
 refine nP (fun i ks L A1 n1 c1=>st.waits.length-i) (fun i ks L A1 n1 c1=>[(15,.int .i64 (i:Nat))]) (fun i ks L A1 n1 c1=>[aL g3 28 [.slice A1 n1 c1],cT SV st.gl (dC L)]) (fun i ks L A1 n1 c1=>[cV 1 A1 n1 (jJ ks)]) (fun i ks L A1 n1 c1=>n1≤c1∧i≤st.waits.length∧(ks,L)=ee bs st i) 0 bs st.bO A n c [(14,_),(13,_),(4,_),(3,_),(0,_),(1,_)] ⟨rfl,rfl,rfl,rfl,rfl,rfl,trivial⟩ [0,2] rfl [0] rfl (⟨hc,Nat.zero_le _,by simp[ee]⟩) ⟨rfl,trivial⟩ (fun i ks L A1 n1 c1 ⟨hc1,hi,hf⟩=> ?_)
 refine ah<|aj<|hy (fun _=>bu rfl rfl)<|ai<|ag<|ah<| ?_
 refine cD rfl (fun hlt=> ?_) (fun hlt=> ?_)
 ·obtain⟨cg,hcg⟩:∃cg,st.waits[i]? =some cg:=⟨_,List.getElem?_eq_getElem (by omega)⟩
  have hfs:=l5 (keep:=bs) hcg
  rw[←hf]at hfs
  refine aC<|ag<|ah<|aI<|ah<|aj<|hy (fun _=>aO rfl rfl Tryz.underlying175 Fl hwA rfl (by omega))<|hy (fun m=>aw rfl Gy ((m.ord 4 rfl).cell (j:=i) (by rw[List.getElem?_map,hcg];rfl)))<|hy (fun _=>ab rfl)<|ai<|al (ρ' :=[(6,_),(16,_),(15,_),(14,_),(13,_),(4,_),(3,_),(0,_),(1,_)]) ⟨rfl,rfl,rfl,rfl,rfl,rfl,rfl,rfl,rfl,trivial⟩<|ag<|ah<|ah<|aj<|hy (fun _=>aa rfl)<| ?_
  refine hx (kT rfl rfl Tryz.call152 (ti (by omega)) [0] rfl [0] rfl ?_)
  rintro _ _ _ ⟨A12,n12,c12,rfl,rfl,rfl,hp⟩
  refine aD (fun m=>gY (m.rd 0 rfl)) ?_
  rintro⟨hl_q,hA_q⟩
  refine hy (fun _=>(kE rfl))<|ai<|al (ρ' :=[(21,_),(6,_),(16,_),(15,_),(14,_),(13,_),(4,_),(3,_),(0,_),(1,_)]) ⟨rfl,rfl,rfl,rfl,rfl,rfl,rfl,rfl,rfl,rfl,trivial⟩<|ak (X' :=[_,_,_,_,_,_]) (S' :=[_,_,_]) (fun _ m=>m)<|ag<| ?_
  refine xf rfl (fun hb=> ?_) (fun hb=> ?_)
  ·have hb' :ks.headD false=false:=by simpa using hb
   refine bK<|ao<|aB<|ag<|aj<|hy (fun _=>aN rfl rfl (bC (by omega) (by omega)))<|hy (fun _=>aa rfl)<|ai<|al (ρ' :=[(15,_),(21,_),(6,_),(16,_),(14,_),(13,_),(4,_),(3,_),(0,_),(1,_)]) ⟨rfl,rfl,rfl,rfl,rfl,rfl,rfl,rfl,rfl,rfl,trivial⟩<| ?_
   refine eM (i+1) ks.tail L A12 n12 c12 ⟨rfl,rfl,rfl,rfl,rfl,rfl,rfl,trivial⟩ [0,0,0,0,0,0] rfl [0,2] rfl (⟨hp,by omega,by rw[hfs];unfold gT;rw[if_neg (by rw[hb'];decide)]⟩) (by omega)
  ·have hb' :ks.headD false=true:=by simpa using hb
   rcases cg with⟨p,r⟩|⟨a,c9⟩|⟨p⟩
   ·have hrm:r∈rowsOf st:=by
     unfold rowsOf
     exact List.mem_append_right _ (List.mem_filterMap.2 ⟨_,List.mem_of_getElem? hcg,rfl⟩)
    have hsr:=hs r hrm
    obtain⟨ri,hri⟩:=List.mem_iff_getElem?.1 hrm
    refine aY (fun m=>Bz (m.FE 5 rfl) hri) fun hrc=> ?_
    refine aC<|ag<|ah<|aj<|hy (fun _=>aa rfl)<|ai<|ag<|aI<|ah<|aj<|hy (fun _=>mN rfl (show _=Result.ok (Value.tuple #[.agg [SV p,r.val].toArray,.bool true]) _ by kernel_rfl))<|hy (fun _=>au rfl rfl)<|hy (fun _=>au rfl rfl)<|ai<|al (ρ' :=[(34,_),(33,_),(22,_),(21,_),(6,_),(16,_),(15,_),(14,_),(13,_),(4,_),(3,_),(0,_),(1,_)]) ⟨rfl,rfl,rfl,rfl,rfl,rfl,rfl,rfl,rfl,rfl,rfl,rfl,rfl,trivial⟩<|ag<| ?_
    refine ic rfl (rfl) ?_
    refine ah<|aj<| ?_
    refine hx (aP Dm (fun g7=> ?_))
    refine cJ (aK 0 rfl rfl rfl zj rfl (by simp[SV,ei.val,Value.oneCell']) rfl ?_)
    refine ai<|ak (X' :=[_,_,_,_,_,_,_]) (S' :=[_,_,_]) (fun _ m=>m)<|ag<|ah<|ah<|aj<|hy (fun _=>aa rfl)<| ?_
    refine hx (kT rfl rfl Tryz.call152 (ti (by omega)) [1] rfl [0] rfl ?_)
    rintro _ _ _ ⟨A13,n13,c13,rfl,rfl,rfl,hp2⟩
    refine aD (fun m=>gY (m.rd 0 rfl)) ?_
    rintro⟨hl_q2,hA_q2⟩
    refine hy (fun _=>(kE rfl))<|ai<|al (ρ' :=[(37,_),(7,_),(34,_),(33,_),(22,_),(21,_),(6,_),(16,_),(15,_),(14,_),(13,_),(4,_),(3,_),(0,_),(1,_)]) ⟨rfl,rfl,rfl,rfl,rfl,rfl,rfl,rfl,rfl,rfl,rfl,rfl,rfl,rfl,rfl,trivial⟩<|ak (X' :=[_,_,_,_,_,_,_]) (S' :=[_,_,_,_]) (fun _ m=>m)<|ag<| ?_
    refine xf rfl (fun hb2=> ?_) (fun hb2=> ?_)
    ·have hb2' :ks.tail.headD false=false:=by simpa using hb2
     refine aj<|hy (fun _=>aH rfl oS (by decide))<|hy (fun m=>aw rfl ea (aA (m.aZ 1 rfl) rfl))<|hy (fun _=>aH rfl oS (by decide))<|hy (fun m=>aw rfl ea (aA (m.aZ 1 rfl) rfl))<|hy (fun _=>aU rfl Tryz.underlying27)<|hy (fun _=>jF rfl rfl (by omega) (by omega) (bC (by omega) (by omega)))<|hy (fun _=>nY rfl rfl Tryz.underlying27 ek (show((r.n/2:Nat):Int)=_ by omega) (by omega))<|hy (fun _=>aH rfl oS (by decide))<| ?_
     refine cJ (cm 1 rfl rfl rfl oO rfl (by first|exact Nat.le_of_ble_eq_true rfl|simp) ?_)
     refine aT (fun w m=>m.bQ 0 rfl (show _=aL g7 189 [SV p,r.half.val]from rfl)) ?_
     refine ai<|al (ρ' :=[(37,_),(7,_),(34,_),(33,_),(22,_),(21,_),(6,_),(16,_),(15,_),(14,_),(13,_),(4,_),(3,_),(0,_),(1,_)]) ⟨rfl,rfl,rfl,rfl,rfl,rfl,rfl,rfl,rfl,rfl,rfl,rfl,rfl,rfl,rfl,trivial⟩<|ak (X' :=[_,_,_,_,_,_,_]) (S' :=[_,_,_,_]) (fun _ m=>m)<|ag<|cG [5] [(0,some 0),(1,some 0),(2,some 0),(3,some 0),(4,some 0),(5,none)] (by kernel_rfl) (by kernel_rfl) rfl 0<|ca (fun m=>a6 rfl C9 zj (by simp) (m.aZ 0 rfl).az)<|an (aa rfl)<|an (a7 rfl)<|an (aH rfl lB (by decide))<|ca (fun m=>aw rfl iR (aA (m.aZ 3 rfl) rfl))<| ?_
     refine dV (aq rfl Tryz.call153 (vu) [2] rfl [] rfl ?_)
     rintro _ _ _ ⟨rfl,rfl,rfl⟩
     refine⟨(fun h=>absurd h (by decide)), ?_⟩
     refine br<|al (ρ' :=[(37,_),(7,_),(34,_),(33,_),(22,_),(21,_),(6,_),(16,_),(15,_),(14,_),(13,_),(4,_),(3,_),(0,_),(1,_)]) ⟨rfl,rfl,rfl,rfl,rfl,rfl,rfl,rfl,rfl,rfl,rfl,rfl,rfl,rfl,rfl,trivial⟩<|ak (X' :=[_,_,_,_,_,_,_]) (S' :=[_,_,_,_]) (fun _ m=>m)<|aM<|aM<|ag<|aj<|hy (fun _=>aN rfl rfl (bC (by omega) (by omega)))<|hy (fun _=>aa rfl)<|ai<|al (ρ' :=[(15,_),(37,_),(7,_),(34,_),(33,_),(22,_),(21,_),(6,_),(16,_),(14,_),(13,_),(4,_),(3,_),(0,_),(1,_)]) ⟨rfl,rfl,rfl,rfl,rfl,rfl,rfl,rfl,rfl,rfl,rfl,rfl,rfl,rfl,rfl,trivial⟩<| ?_
     refine ak (fun w m=>m.bQ 0 rfl (show _=cT SV st.gl (dC (cE L p r.half))from congrArg (cT SV st.gl) (kG _ _ _))) ?_
     refine eM (i+1) ks.tail.tail (cE L p r.half) A13 n13 c13 ⟨rfl,rfl,rfl,rfl,rfl,rfl,rfl,trivial⟩ [2,0,1,1,1,1] rfl [0,3] rfl (⟨hp2,by omega,by rw[hfs,gT,if_pos hb',hb2'];rfl⟩) (by omega)
    ·have hb2' :ks.tail.headD false=true:=by simpa using hb2
     refine aC<|ag<|cG [5] [(0,some 0),(1,some 0),(2,some 0),(3,some 0),(4,some 0),(5,none)] (by kernel_rfl) (by kernel_rfl) rfl 0<|ca (fun m=>a6 rfl C9 zj (by simp) (m.aZ 1 rfl).az)<|an (aa rfl)<|an (a7 rfl)<|an (aH rfl lB (by decide))<|ca (fun m=>aw rfl iR (aA (m.aZ 3 rfl) rfl))<| ?_
     refine dV (aq rfl Tryz.call153 (vu) [2] rfl [] rfl ?_)
     rintro _ _ _ ⟨rfl,rfl,rfl⟩
     refine⟨(fun h=>absurd h (by decide)), ?_⟩
     refine br<|al (ρ' :=[(37,_),(7,_),(34,_),(33,_),(22,_),(21,_),(6,_),(16,_),(15,_),(14,_),(13,_),(4,_),(3,_),(0,_),(1,_)]) ⟨rfl,rfl,rfl,rfl,rfl,rfl,rfl,rfl,rfl,rfl,rfl,rfl,rfl,rfl,rfl,trivial⟩<|ak (X' :=[_,_,_,_,_,_,_]) (S' :=[_,_,_,_]) (fun _ m=>m)<|aM<|aM<|ag<|aj<|hy (fun _=>aN rfl rfl (bC (by omega) (by omega)))<|hy (fun _=>aa rfl)<|ai<|al (ρ' :=[(15,_),(37,_),(7,_),(34,_),(33,_),(22,_),(21,_),(6,_),(16,_),(14,_),(13,_),(4,_),(3,_),(0,_),(1,_)]) ⟨rfl,rfl,rfl,rfl,rfl,rfl,rfl,rfl,rfl,rfl,rfl,rfl,rfl,rfl,rfl,trivial⟩<| ?_
     refine ak (fun w m=>m.bQ 0 rfl (show _=cT SV st.gl (dC (cE L p r))from congrArg (cT SV st.gl) (kG _ _ _))) ?_
     refine eM (i+1) ks.tail.tail (cE L p r) A13 n13 c13 ⟨rfl,rfl,rfl,rfl,rfl,rfl,rfl,trivial⟩ [1,0,1,1,1,1] rfl [0,3] rfl (⟨hp2,by omega,by rw[hfs,gT,if_pos hb',hb2'];rfl⟩) (by omega)
   ·refine aC<|ag<|ah<|aj<|hy (fun _=>aa rfl)<|ai<|ag<|aI<|ah<|aj<|hy (fun _=>mN rfl (show _=Result.ok (Value.tuple #[.agg [SV [],.slice none 0 0].toArray,.bool false]) _ by kernel_rfl))<|hy (fun _=>au rfl rfl)<|hy (fun _=>au rfl rfl)<|ai<|al (ρ' :=[(34,_),(33,_),(22,_),(21,_),(6,_),(16,_),(15,_),(14,_),(13,_),(4,_),(3,_),(0,_),(1,_)]) ⟨rfl,rfl,rfl,rfl,rfl,rfl,rfl,rfl,rfl,rfl,rfl,rfl,rfl,trivial⟩<|ag<| ?_
    refine dL rfl (rfl) ?_
    refine ah<|aj<|hy (fun _=>ab rfl)<|ai<|al (ρ' :=[(34,_),(33,_),(22,_),(21,_),(6,_),(16,_),(15,_),(14,_),(13,_),(4,_),(3,_),(0,_),(1,_)]) ⟨rfl,rfl,rfl,rfl,rfl,rfl,rfl,rfl,rfl,rfl,rfl,rfl,rfl,trivial⟩<|ag<|cG [8] [(0,some 0),(1,some 0),(2,some 0),(3,some 0),(4,some 0),(5,some 0),(6,some 0),(7,some 0),(8,none)] (by kernel_rfl) (by kernel_rfl) rfl 0<|an (aa rfl)<|an (aa rfl)<|an (a7 rfl)<|an (aH rfl lB (by decide))<|ca (fun m=>aw rfl iR (aA (m.aZ 2 rfl) rfl))<|an (iy rfl rfl)<|an (pT rfl (by kernel_rfl))<|an (aa rfl)<| ?_
    refine dV (qg rfl rfl (fun w=>by kernel_rfl) Tryz.call337 (As) [1] rfl [] rfl ?_)
    rintro _ _ _ ⟨rfl,rfl,rfl⟩
    refine⟨(fun h=>absurd h (by decide)), ?_⟩
    refine br<|al (ρ' :=[(34,_),(33,_),(22,_),(21,_),(6,_),(16,_),(15,_),(14,_),(13,_),(4,_),(3,_),(0,_),(1,_)]) ⟨rfl,rfl,rfl,rfl,rfl,rfl,rfl,rfl,rfl,rfl,rfl,rfl,rfl,trivial⟩<|ak (X' :=[_,_,_,_,_,_]) (S' :=[_,_,_]) (fun _ m=>m)<|aM<|aM<|ag<|aj<|hy (fun _=>aN rfl rfl (bC (by omega) (by omega)))<|hy (fun _=>aa rfl)<|ai<|al (ρ' :=[(15,_),(34,_),(33,_),(22,_),(21,_),(6,_),(16,_),(14,_),(13,_),(4,_),(3,_),(0,_),(1,_)]) ⟨rfl,rfl,rfl,rfl,rfl,rfl,rfl,rfl,rfl,rfl,rfl,rfl,rfl,trivial⟩<| ?_
    refine eM (i+1) ks.tail (oP L (.renamed a c9)) A12 n12 c12 ⟨rfl,rfl,rfl,rfl,rfl,rfl,rfl,trivial⟩ [1,0,0,0,0,0] rfl [0,2] rfl (⟨hp,by omega,by rw[hfs];unfold gT;rw[if_pos hb'];rfl⟩) (by omega)
   ·refine aC<|ag<|ah<|aj<|hy (fun _=>aa rfl)<|ai<|ag<|aI<|ah<|aj<|hy (fun _=>mN rfl (show _=Result.ok (Value.tuple #[.agg [SV [],.slice none 0 0].toArray,.bool false]) _ by kernel_rfl))<|hy (fun _=>au rfl rfl)<|hy (fun _=>au rfl rfl)<|ai<|al (ρ' :=[(34,_),(33,_),(22,_),(21,_),(6,_),(16,_),(15,_),(14,_),(13,_),(4,_),(3,_),(0,_),(1,_)]) ⟨rfl,rfl,rfl,rfl,rfl,rfl,rfl,rfl,rfl,rfl,rfl,rfl,rfl,trivial⟩<|ag<| ?_
    refine dL rfl (rfl) ?_
    refine ah<|aj<|hy (fun _=>ab rfl)<|ai<|al (ρ' :=[(34,_),(33,_),(22,_),(21,_),(6,_),(16,_),(15,_),(14,_),(13,_),(4,_),(3,_),(0,_),(1,_)]) ⟨rfl,rfl,rfl,rfl,rfl,rfl,rfl,rfl,rfl,rfl,rfl,rfl,rfl,trivial⟩<|ag<|cG [8] [(0,some 0),(1,some 0),(2,some 0),(3,some 0),(4,some 0),(5,some 0),(6,some 0),(7,some 0),(8,none)] (by kernel_rfl) (by kernel_rfl) rfl 0<|an (aa rfl)<|an (aa rfl)<|an (a7 rfl)<|an (aH rfl lB (by decide))<|ca (fun m=>aw rfl iR (aA (m.aZ 2 rfl) rfl))<|an (iy rfl rfl)<|an (pT rfl (by kernel_rfl))<|an (aa rfl)<| ?_
    refine dV (qg rfl rfl (fun w=>by kernel_rfl) Tryz.call335 (AL) [1] rfl [] rfl ?_)
    rintro _ _ _ ⟨rfl,rfl,rfl⟩
    refine⟨(fun h=>absurd h (by decide)), ?_⟩
    refine br<|al (ρ' :=[(34,_),(33,_),(22,_),(21,_),(6,_),(16,_),(15,_),(14,_),(13,_),(4,_),(3,_),(0,_),(1,_)]) ⟨rfl,rfl,rfl,rfl,rfl,rfl,rfl,rfl,rfl,rfl,rfl,rfl,rfl,trivial⟩<|ak (X' :=[_,_,_,_,_,_]) (S' :=[_,_,_]) (fun _ m=>m)<|aM<|aM<|ag<|aj<|hy (fun _=>aN rfl rfl (bC (by omega) (by omega)))<|hy (fun _=>aa rfl)<|ai<|al (ρ' :=[(15,_),(34,_),(33,_),(22,_),(21,_),(6,_),(16,_),(14,_),(13,_),(4,_),(3,_),(0,_),(1,_)]) ⟨rfl,rfl,rfl,rfl,rfl,rfl,rfl,rfl,rfl,rfl,rfl,rfl,rfl,trivial⟩<| ?_
    refine eM (i+1) ks.tail (oP L (.removed p)) A12 n12 c12 ⟨rfl,rfl,rfl,rfl,rfl,rfl,rfl,trivial⟩ [1,0,0,0,0,0] rfl [0,2] rfl (⟨hp,by omega,by rw[hfs,gT,if_pos hb'];rfl⟩) (by omega)
 ·obtain rfl:i=st.waits.length:=by omega
  have hL:L=(ee bs st st.waits.length).2:=by rw[←hf]
  refine bK<|ao<|ao<|aB<|ag<|aj<|hy (fun _=>aa rfl)<|hy (fun _=>aa rfl)<|hy (fun _=>aa rfl)<|hy (fun _=>aa rfl)<|hy (fun _=>a7 rfl)<|hy (fun _=>aH rfl lB (by decide))<|hy (fun m=>aw rfl iR (aA (m.aZ 2 rfl) rfl))<| ?_
  refine hx (aq rfl Tryz.call154 (wv) [1] rfl [] rfl ?_)
  rintro _ _ _ ⟨g1,rfl,rfl,rfl⟩
  refine hy (fun _=>a7 rfl)<|hy (fun _=>aH rfl gv (by decide))<| ?_
  refine cJ (cm 3 rfl rfl rfl Dd rfl (by first|exact Nat.le_of_ble_eq_true rfl|simp) ?_)
  refine hy (fun _=>a7 rfl)<|hy (fun _=>aH rfl ib (by decide))<| ?_
  refine cJ (cm 0 rfl rfl rfl tZ rfl (by first|exact Nat.le_of_ble_eq_true rfl|simp) ?_)
  refine hy (fun _=>a7 rfl)<|hy (fun _=>aH rfl lJ (by decide))<| ?_
  refine cJ (cm 0 rfl rfl rfl sS rfl (by first|exact Nat.le_of_ble_eq_true rfl|simp) ?_)
  refine ai<|al (ρ' :=[(16,_),(15,_),(14,_),(13,_),(4,_),(3,_),(0,_),(1,_)]) ⟨rfl,rfl,rfl,rfl,rfl,rfl,rfl,rfl,trivial⟩<|ak (X' :=[_,_,_,_,_,_,_]) (S' :=[_,_]) (fun _ m=>m)<| ?_
  refine ak (fun w m=>m.dG (r' :=aG 232 1 (.slice none 0 0) 0 []) (.refl _ _) (Own.nil _ _ _ _) (fun k hk=>hk.elim)) ?_
  have e:∀gs,st.started bs gs={st with gs:=gs,seen:=L,bO:=L,waits:=[],wA:=none,wc:=0,bF:=-1}:=fun gs=>by rw[hL];rfl
  refine ak (fun w m=>m.bQ 1 rfl (show _=aL g 177 (gM (st.started bs g1))from rfl)) ?_
  refine ak (fun w m=>m.bQ 3 rfl (show _=cT SV g1 (dC (st.started bs g1).seen)from by rw[hL];rfl)) ?_
  refine ak (fun w m=>m.bQ 3 rfl (show _=cT SV st.gl (dC (st.started bs g1).bO)from by rw[hL];rfl)) ?_
  refine ak (X' :=fM (rowsOf (st.started bs g1))::_) (fun w m=>(m.perm (ar [7] _ [_] _ rfl)).Bk (mE g1)) ?_
  refine ak (X' :=bj g (st.started bs g1)::_) (fun w m=>(m.perm (ar [3,2,1,1,0] _ [_,_,_,_,_] _ rfl)).pack) ?_
  exact fD trivial rfl [0] rfl [] rfl ⟨_,rfl,rfl,rfl⟩
end Go.Proofs.YtmibdabdlgmafaaGreatDoor
end
section
namespace Go.Proofs.YtmibdabdlgmafaaGreatDoor
open Go.Eng Go.Hx
theorem Dv:∀(x y:List UInt8),Op.bytesLess x y=decide (x<y)
 | [],[]=>by simp[Op.bytesLess]
 |_::_,[]=>by simp[Op.bytesLess]
 | [],_::_=>by simp[Op.bytesLess]
 |a::x,b::y=>by
  rw[Op.bytesLess,Dv x y]
  simp only[List.cons_lt_cons_iff]
  by_cases h1:a<b <;> by_cases h2:a=b <;> by_cases h3:x<y <;> simp[h1,h2,h3]
theorem ry{a b:List UInt8}:mM a b=decide (a<b):=by
 unfold mM
 rw[Dv,Lib.toList_data,Lib.toList_data]
 rfl
def hZ:List FP→FP→List FP
 | [],f=>[f]
 |x::r,f=>if x.1<f.1 then x::hZ r f else f::(x::r).filter fun y=>decide (y.1≠f.1)
theorem lu(f:FP):∀(l acc:List FP),l.foldl (iw f) (acc,true)=(acc++l.filter (fun y=>decide (y.1≠f.1)),true)
 | [],acc=>by simp
 |x::r,acc=>by
  rw[List.foldl_cons]
  by_cases h:x.1=f.1
  ·have:iw f (acc,true) x=(acc,true):=by simp[iw,h]
   rw[this,lu f r acc];simp[h]
  ·have:iw f (acc,true) x=(acc++[x],true):=by simp[iw,h]
   rw[this,lu f r (acc++[x])];simp[h]
def yG(f:FP)(st:List FP×Bool):List FP:=if st.2 then st.1 else st.1++[f]
theorem pL(f:FP):∀(l acc:List FP),yG f (l.foldl (iw f) (acc,false))=acc++hZ l f
 | [],acc=>by simp[hZ,yG]
 |x::r,acc=>by
  rw[List.foldl_cons]
  by_cases h:x.1<f.1
  ·have hne:x.1≠f.1:=fun e=>by rw[e]at h;exact List.lt_irrefl _ h
   have:iw f (acc,false) x=(acc++[x],false):=by simp[iw,ry,h,hne]
   rw[this,pL f r (acc++[x]),hZ,if_pos h];simp
  ·have hs:mM x.1 f.1=false:=by rw[ry];simpa using h
   rw[hZ,if_neg h]
   by_cases he:x.1=f.1
   ·have hs' :mM f.1 f.1=false:=he▸hs
    have:iw f (acc,false) x=(acc++[f],true):=by simp[iw,hs',he]
    rw[this,lu];simp[he,yG]
   ·have:iw f (acc,false) x=(acc++[f]++[x],true):=by simp[iw,hs,he]
    rw[this,lu];simp[he,yG]
theorem jC(l:List FP)(f:FP):gG l f=hZ l f:=by
 have:=pL f l []
 rw[List.nil_append]at this
 rw[←this]
 unfold gG BL yG
 rw[List.take_of_length_le (Nat.le_refl _)]
def lk:List FP→List UInt8→Option (List UInt8)
 | [],_=>none
 |x::r,p=>if x.1=p then some x.2 else lk r p
theorem fN:∀(l:List FP) (p:List UInt8),(l[cB l p]?).map (·.2)=lk l p
 | [],p=>rfl
 |x::r,p=>by
  have:=fN r p
  unfold cB at this ⊢
  rw[List.findIdx_cons]
  by_cases h:x.1=p
  ·simp[h,lk]
  ·simp[h,lk,this]
theorem ir(q:List UInt8):∀(l:List FP) (p:List UInt8),lk (l.filter fun y=>decide (y.1≠q)) p=if p=q then none else lk l p
 | [],p=>by simp[lk]
 |x::r,p=>by
  have ih:=ir q r p
  by_cases h:x.1=q
  ·rw[List.filter_cons,if_neg (by simp[h]),ih]
   by_cases hp:p=q
   ·simp[hp]
   ·rw[if_neg hp,if_neg hp,lk,if_neg (fun e=>hp (e.symm.trans h))]
  ·rw[List.filter_cons,if_pos (by simp[h]),lk,ih]
   by_cases hp:p=q
   ·rw[if_pos hp,if_pos hp,if_neg (fun e=>h (e.trans hp))]
   ·rw[if_neg hp,if_neg hp,lk]
theorem r6:∀(l:List FP) (f:FP) (p:List UInt8),lk (hZ l f) p=if p=f.1 then some f.2 else lk l p
 | [],f,p=>by simp only[hZ,lk,eq_comm]
 |x::r,f,p=>by
  unfold hZ
  by_cases h:x.1<f.1
  ·rw[if_pos h,lk,r6 r f p,lk]
   have hne:x.1≠f.1:=fun e=>by rw[e]at h;exact List.lt_irrefl _ h
   by_cases hp:p=f.1
   ·rw[if_pos hp,if_pos hp,if_neg (fun e=>hne (e.trans hp))]
   ·rw[if_neg hp,if_neg hp]
  ·rw[if_neg h,lk,ir]
   by_cases hp:p=f.1
   ·rw[if_pos hp.symm,if_pos hp]
   ·rw[if_neg (fun e=>hp e.symm),if_neg hp,if_neg hp]
def ko(l:List FP):Prop:=(l.map (·.1)).Pairwise (· <·)
theorem ot{l:List FP}(q:FP→Bool)(h:ko l):ko (l.filter q):=List.Pairwise.sublist (List.Sublist.map _ List.filter_sublist) h
theorem vT{l:List FP}{f y:FP}(h:y∈hZ l f):y=f∨y∈l:=by
 induction l with
 |nil=>exact .inl (by simpa[hZ]using h)
 |cons x r ih=>
  unfold hZ at h
  split at h
  ·rcases List.mem_cons.1 h with h|h
   ·exact .inr (by rw[h];exact List.mem_cons_self ..)
   ·rcases ih h with h|h
    ·exact .inl h
    ·exact .inr (List.mem_cons_of_mem _ h)
  ·rcases List.mem_cons.1 h with h|h
   ·exact .inl h
   ·exact .inr ((List.mem_filter.1 h).1)
theorem yv{l:List FP}{f:FP}(h:ko l):ko (hZ l f):=by
 induction l with
 |nil=>simp[ko,hZ]
 |cons x r ih=>
  have hx:∀y∈r,x.1<y.1:=by
   intro y hy
   exact(List.pairwise_cons.1 h).1 _ (List.mem_map.2 ⟨y,hy,rfl⟩)
  have hr:ko r:=(List.pairwise_cons.1 h).2
  unfold hZ
  by_cases hlt:x.1<f.1
  ·rw[if_pos hlt]
   refine List.pairwise_cons.2 ⟨?_,ih hr⟩
   intro a ha
   obtain⟨y,hy,rfl⟩:=List.mem_map.1 ha
   rcases vT hy with rfl|hy
   ·exact hlt
   ·exact hx y hy
  ·rw[if_neg hlt]
   refine List.pairwise_cons.2 ⟨?_,ot _ h⟩
   intro a ha
   obtain⟨y,hy,rfl⟩:=List.mem_map.1 ha
   have hy1:=(List.mem_filter.1 hy).1
   have hy2:y.1≠f.1:=by simpa using(List.mem_filter.1 hy).2
   have hge:¬y.1<f.1:=by
    rcases List.mem_cons.1 hy1 with rfl|h1
    ·exact hlt
    ·exact fun e=>hlt (List.lt_trans (hx y h1) e)
   exact Decidable.byContradiction fun hn=>hy2 (List.le_antisymm (List.not_lt.1 hn) (List.not_lt.1 hge))
structure fq(fs:c6)(l:List FP):Prop where
 ord:ko l
 nd:(cn fs).Nodup
 look:∀p,(b8 fs p).map (·.l)=lk l p
 len:∀x∈fs,x.2.n=x.2.l.length
theorem fq.nil:fq [] []:=⟨by simp[ko],by simp[cn],fun p=>rfl,fun x h=>by cases h⟩
theorem vf{l:List FP}{p:List UInt8}:lk l p≠none↔p∈l.map (·.1):=by
 induction l with
 |nil=>simp[lk]
 |cons x r ih=>
  unfold lk
  by_cases h:x.1=p
  ·simp[h]
  ·rw[if_neg h,ih];simp[Ne.symm h]
theorem fq.keys{fs:c6}{l:List FP}(h:fq fs l):(cn fs).Perm (l.map (·.1)):=by
 have hn:(l.map (·.1)).Nodup:=List.Pairwise.imp (fun hlt e=>by rw[e]at hlt;exact List.lt_irrefl _ hlt) h.ord
 refine(List.perm_ext_iff_of_nodup h.nd hn).2 fun p=> ?_
 rw[←vf,←h.look p]
 have:= @jK (List UInt8) ei _ fs p
 cases hq:b8 fs p with
 |none=>simp[this.1 hq]
 |some r=>simp;exact Decidable.byContradiction fun hm=>by rw[this.2 hm]at hq;cases hq
theorem fq.put{fs:c6}{l:List FP}(h:fq fs l){p:List UInt8}{r:ei}(hr:r.n=r.l.length):fq (cE fs p r) (gG l (p,r.l)):=by
 rw[jC]
 refine⟨yv h.ord,gj h.nd,fun q=> ?_,fun x hx=> ?_⟩
 ·rw[qY,r6]
  by_cases hq:p=q
  ·rw[if_pos hq,if_pos hq.symm];rfl
  ·rw[if_neg hq,if_neg (fun e=>hq e.symm)];exact h.look q
 ·rcases jE (List.mem_map.2 ⟨x,hx,rfl⟩)with h1|h1
  ·obtain⟨y,hy,e⟩:=List.mem_map.1 h1
   rw[←e];exact h.len y hy
  ·rw[h1];exact hr
theorem AV{a b:List Nat}(h:a.Perm b):a.sum=b.sum:=by
 induction h with
 |nil=>rfl
 |cons x _ ih=>simp[ih]
 |swap x y l=>simp;omega
 |trans _ _ h1 h2=>rw[h1,h2]
theorem B7{l:List FP}(h:ko l){x:FP}(hx:x∈l):lk l x.1=some x.2:=by
 induction l with
 |nil=>cases hx
 |cons y r ih=>
  unfold lk
  rcases List.mem_cons.1 hx with rfl|h1
  ·rw[if_pos rfl]
  ·have hlt:y.1<x.1:=(List.pairwise_cons.1 h).1 _ (List.mem_map.2 ⟨x,h1,rfl⟩)
   rw[if_neg (fun e=>by rw[e]at hlt;exact List.lt_irrefl _ hlt)]
   exact ih (List.pairwise_cons.1 h).2 h1
theorem fq.me{fs:c6}{l:List FP}(h:fq fs l):me fs=dF l:=by
 let g:List UInt8→Nat:=fun p=>((lk l p).getD []).length
 have h1:fs.map (fun x=>x.2.n)=(cn fs).map g:=by
  rw[cn,List.map_map]
  refine List.map_congr_left fun x hx=> ?_
  have:=h.look x.1
  rw[oc h.nd (show(x.1,x.2)∈fs from hx)]at this
  show x.2.n=((lk l x.1).getD []).length
  rw[←this,h.len x hx];rfl
 have h2:l.map (fun x=>x.2.length)=(l.map (·.1)).map g:=by
  rw[List.map_map]
  refine List.map_congr_left fun x hx=> ?_
  show x.2.length=((lk l x.1).getD []).length
  rw[B7 h.ord hx];rfl
 show(fs.map fun x=>x.2.n).sum=(l.map fun x=>x.2.length).sum
 rw[h1,h2]
 exact AV (h.keys.map g)
theorem fq.DD{fs:c6}{l:List FP}(h:fq fs l):fs.length=l.length:=by
 have:=h.keys.length_eq
 simpa[cn]using this
theorem fq.sz{fs:c6}{l:List FP}(h:fq fs l)(p:List UInt8):((b8 fs p).map (·.n)).getD 0=((l[cB l p]?).map (·.2.length)).getD 0:=by
 have h1:=h.look p
 rw[←fN]at h1
 cases hq:b8 fs p with
 |none=>
  rw[hq]at h1
  cases hl:l[cB l p]? with
  |none=>rfl
  |some x=>rw[hl]at h1;cases h1
 |some r=>
  rw[hq]at h1
  cases hl:l[cB l p]? with
  |none=>rw[hl]at h1;cases h1
  |some x=>
   rw[hl]at h1
   have e:r.l=x.2:=Option.some.inj h1
   have:=h.len _ (iG hq)
   simp only[Option.map_some,Option.getD_some]
   rw[←e];exact this
structure uR(st:cA)(d:RD):Prop where
 room:st.room=d.room
 bF:st.bF=d.pw
 files:fq st.seen d.seen
 waits:st.waits.length=d.waits.length
theorem uR.bH{st:cA}{d:RD}(h:uR st d)(p bb:List UInt8):bH st p bb.length=d.bH p bb:=by
 have h1:=h.files.sz p
 have h2:=h.files.me
 unfold Go.Proofs.YtmibdabdlgmafaaGreatDoor.bH RD.bH RD.sz
 rw[h.bF,h.room,h1,h2]
 by_cases hn:¬fV p
 ·rw[if_pos hn,if_pos hn]
 ·rw[if_neg hn,if_neg hn]
  by_cases h0:d.pw=0
  ·rw[if_pos h0,if_pos h0]
  ·rw[if_neg h0,if_neg h0]
   by_cases hr:d.room<(dF d.seen:Int)+(bb.length:Nat)-(((d.seen[cB d.seen p]?).map (·.2.length)).getD 0:Nat)
   ·rw[if_pos hr,if_pos (by omega)]
   ·rw[if_neg hr,if_neg (by omega)]
theorem uR.ct{st:cA}{d:RD}(h:uR st d)(p:List UInt8):dM st p=d.ct p:=by
 have h1:=h.files.look p
 rw[←fN]at h1
 unfold dM RD.ct
 rw[h.bF]
 by_cases h0:d.pw=0
 ·rw[if_pos h0,if_pos h0]
 ·rw[if_neg h0,if_neg h0]
  cases ha:b8 st.seen p with
  |none=>
   rw[ha]at h1
   cases hb:d.seen[cB d.seen p]? with
   |none=>simp
   |some y=>rw[hb]at h1;cases h1
  |some r=>
   rw[ha]at h1
   cases hb:d.seen[cB d.seen p]? with
   |none=>rw[hb]at h1;cases h1
   |some y=>simp
theorem uR.cz{st:cA}{d:RD}(h:uR st d)(p:List UInt8):cz st p=d.cz p:=by
 have h1:=h.files.look p
 rw[←fN]at h1
 have h2:=h.ct p
 unfold Go.Proofs.YtmibdabdlgmafaaGreatDoor.cz RD.cz
 rw[h2,←h1]
 unfold RD.ct
 by_cases h0:d.pw=0
 ·rw[if_pos h0,if_pos h0,if_neg (by decide)]
 ·rw[if_neg h0,if_neg h0]
  cases hb:d.seen[cB d.seen p]? with
  |none=>
   rw[hb]at h1
   cases ha:b8 st.seen p with
   |none=>simp
   |some r=>rw[ha]at h1;cases h1
  |some y=>simp
end Go.Proofs.YtmibdabdlgmafaaGreatDoor
end
section
set_option maxRecDepth 20000
namespace Go.Proofs.YtmibdabdlgmafaaGreatDoor
open Go.Eng Go.Hx
structure RX where
 d:RD
 A:Option Addr
 c:Nat
 Al:Option Addr
 cl:Nat
 A3:Option Addr
 c3:Nat
def RX.cs(x:RX):List Value:=rv x.d x.A x.d.seen.length x.c x.Al x.d.bO.length x.cl x.A3 x.d.waits.length x.c3
abbrev RX.parts(x:RX):List bh:=[cV 2 x.A x.d.seen.length (fc x.d.seen),cV 2 x.Al x.d.bO.length (fc x.d.bO),cV 4 x.A3 x.d.waits.length (uF x.d.waits)]
def dO(x:RX):bh:=nD x.parts
theorem bS{x:RX}:∀u∈x.cs,u.oneCell' =true:=jo
theorem View.Ez{x:RX}:View (dO x) (cV 2 x.A x.d.seen.length (fc x.d.seen)):=View.pn 0 rfl
theorem View.Gd{x:RX}:View (dO x) (cV 2 x.Al x.d.bO.length (fc x.d.bO)):=View.pn 1 rfl
theorem View.GJ{x:RX}:View (dO x) (cV 4 x.A3 x.d.waits.length (uF x.d.waits)):=View.pn 2 rfl
def RD.new(room:Int):RD:=⟨room,[],[],[],-1⟩
def RX.new(room:Int):RX:=⟨RD.new room,none,0,none,0,none,0⟩
theorem xd{y:RX}{S:List bh}(h0:∃t∈S,View t (cV 2 y.A y.d.seen.length (fc y.d.seen)))(h1:∃t∈S,View t (cV 2 y.Al y.d.bO.length (fc y.d.bO)))(h2:∃t∈S,View t (cV 4 y.A3 y.d.waits.length (uF y.d.waits))):sB S [dO y]:=by
 refine sB.cons (fun s hs=> ?_) sB.nil
 simp only[List.mem_cons,List.not_mem_nil,or_false]at hs
 rcases hs with rfl|rfl|rfl
 ·exact h0
 ·exact h1
 ·exact h2
theorem C3{room:Int}:sB [] [dO (RX.new room)]:=by
 intro s hs
 obtain rfl:=List.mem_singleton.1 hs
 refine⟨fun w _ x hx=> ?_,fun k hk=> ?_⟩
 ·simp only[List.mem_cons,List.not_mem_nil,or_false]at hx
  rcases hx with rfl|rfl|rfl <;> exact Rd.nil _ _ _
 ·obtain⟨x,hx,hk⟩:=hk
  simp only[List.mem_cons,List.not_mem_nil,or_false]at hx
  rcases hx with rfl|rfl|rfl <;> exact absurd rfl hk.1
theorem GP{r:bh}{S:List bh}:∃t∈r::S,View t r:=⟨r,List.mem_cons_self ..,.same⟩
theorem inr{r a:bh}{S:List bh}(h:∃t∈S,View t r):∃t∈a::S,View t r:=by
 obtain⟨t,ht,hv⟩:=h
 exact⟨t,List.mem_cons_of_mem _ ht,hv⟩
theorem inv1{r a:bh}{S:List bh}(h:View a r):∃t∈a::S,View t r:=⟨a,List.mem_cons_self ..,h⟩
theorem FN{room:Int}:cj Tryz.prog 25 [.int .i64 room] [] [] (fun v_ X_ S_=>∃y,v_=(.agg y.cs.toArray)∧X_=[]∧S_=[dO y]∧(y.d=RD.new room)):=by
 exact cj.vt F5 (fun s hs=>by cases hs) (fun v X S h=>by
  obtain⟨rfl,rfl,rfl⟩:=h
  exact⟨_,⟨RX.new room,rfl,rfl,rfl,rfl⟩,C3⟩)
theorem Ao{x:RX}{kk:Nat}{p:List UInt8}(ok:Bf x.d kk)(hkk:kk≤100000):cj Tryz.prog 91 [.agg x.cs.toArray,.string (strOf p)] [] [dO x] (fun v_ X_ S_=>v_=(.tuple #[.string (strOf (x.d.cz p)),.int .i64 (x.d.ct p)])∧X_=[]∧S_=[]):=by
 exact cj.vt (EW rfl ok hkk) (fun s hs=>⟨_,List.mem_singleton_self _,by rw[List.mem_singleton.1 hs];exact View.Ez⟩) (fun v X S h=>⟨[],⟨h.1,h.2.1,rfl⟩,sB.nil⟩)
theorem om(d:RD)(p bb:List UInt8):(d.write p bb).bO=d.bO:=by
 unfold RD.write
 split <;> rfl
theorem vW{x:RX}:∀s∈ [cV 2 x.A x.d.seen.length (fc x.d.seen),cV 4 x.A3 x.d.waits.length (uF x.d.waits)],∃t∈ [dO x],View t s:=by
 intro s hs
 refine⟨_,List.mem_singleton_self _, ?_⟩
 simp only[List.mem_cons,List.not_mem_nil,or_false]at hs
 rcases hs with rfl|rfl
 ·exact View.Ez
 ·exact View.GJ
theorem nz{x:RX}{kk:Nat}{p bb:List UInt8}(ok:Bf x.d kk)(hkk:kk≤100000)(hpl:p.length≤1000000)(hbb:bb.length≤1000000):cj Tryz.prog 31 [.agg x.cs.toArray,.string (strOf p),.string (strOf bb)] [] [dO x] (fun v_ X_ S_=>∃y,v_=(.tuple #[.agg y.cs.toArray,.int .i64 (x.d.bH p bb)])∧X_=[]∧S_=[dO y]∧(y.d=x.d.write p bb)):=by
 refine cj.vt (BG rfl rfl ok hkk hpl hbb) vW (fun v X S h=> ?_)
 obtain⟨A1,n1,c1,A2,n2,c2,rfl,rfl,rfl,rfl,rfl⟩:=h
 refine⟨_,⟨⟨x.d.write p bb,A1,c1,x.Al,x.cl,A2,c2⟩,by unfold RX.cs;simp only[om],rfl,rfl,rfl⟩,xd GP (inr (inr (inv1 ?_))) (inr GP)⟩
 simp only[om]
 exact View.Gd
theorem G3{x:RX}{kk:Nat}{k:Int}{p t bb:List UInt8}(ok:Bf x.d kk)(hkk:kk≤100000):cj Tryz.prog 114 [.agg x.cs.toArray,.agg (cv k p t bb).toArray] [] [dO x] (fun v_ X_ S_=>∃y,v_=(.agg y.cs.toArray)∧X_=[]∧S_=[dO y]∧(y.d=x.d.gA k p t bb)):=by
 have h1:=ok.seen
 have h2:=ok.waits
 refine cj.vt (D3 rfl (by omega) rfl (by omega) ok.p1 ok.p2) vW (fun v X S h=> ?_)
 obtain⟨A1,n1,c1,A2,n2,c2,rfl,rfl,rfl,rfl,_,rfl⟩:=h
 have e:(x.d.waits++[(k,p,t,bb)]).length=x.d.waits.length+1:=by simp
 refine⟨_,⟨⟨x.d.gA k p t bb,A1,c1,x.Al,x.cl,A2,c2⟩,by unfold RX.cs;simp only[RD.gA,e];rfl,rfl,rfl,rfl⟩,xd GP (inr (inr (inv1 View.Gd))) (inr (inv1 ?_))⟩
 simp only[RD.gA,e]
 exact .same
def RD.bU(d:RD)(a c:List UInt8):Int:=if¬fV c then 1 else d.ct a
def RD.rename(d:RD)(a c:List UInt8):RD:=if d.bU a c=0 then d.gA 1 a c []else d
def RD.remove(d:RD)(p:List UInt8):RD:=if d.ct p=0 then d.gA 2 p [] []else d
theorem zd{x:RX}{kk:Nat}{a c:List UInt8}(ok:Bf x.d kk)(hkk:kk≤100000)(hcl:c.length≤1000000):cj Tryz.prog 100 [.agg x.cs.toArray,.string (strOf a),.string (strOf c)] [] [dO x] (fun v_ X_ S_=>∃y,v_=(.tuple #[.agg y.cs.toArray,.int .i64 (x.d.bU a c)])∧X_=[]∧S_=[dO y]∧(y.d=x.d.rename a c)):=by
 refine aQ (N:=31) Tryz.func100 rfl rfl (by simp) fun b=> ?_
 refine ah<|aj<| ?_
 refine hx (cI rfl (fun g3=> ?_))
 refine aT (fun w m=>m.bQ 0 rfl (show _=aL g3 39 x.cs from congrArg (aL _ _) (bA _))) ?_
 refine hx (aP jh (fun g6=> ?_))
 refine hy (fun _=>ab rfl)<|ai<|ak (X' :=[_,_]) (S' :=[_]) (fun _ m=>m)<|ag<|ah<|aj<|hy (fun _=>aa rfl)<| ?_
 refine hx (aq rfl Tryz.call112 (wO (by omega)) [] rfl [] rfl ?_)
 rintro _ _ _ ⟨rfl,rfl,rfl⟩
 refine hy (fun _=>ab rfl)<|ai<|al (ρ' :=[(8,_),(7,_),(6,_),(3,_),(0,_),(1,_),(2,_)]) ⟨rfl,rfl,rfl,rfl,rfl,rfl,rfl,trivial⟩<|ak (X' :=[_,_]) (S' :=[_]) (fun _ m=>m)<|ag<|ah<|ah<|aj<|hy (fun _=>aa rfl)<|hy (fun _=>kb rfl)<|ai<|al (ρ' :=[(14,_),(8,_),(7,_),(6,_),(3,_),(0,_),(1,_),(2,_)]) ⟨rfl,rfl,rfl,rfl,rfl,rfl,rfl,rfl,trivial⟩<|ag<| ?_
 refine cD rfl (fun hN=> ?_) (fun hN=> ?_)
 ·have hE:x.d.bU a c=1:=by rw[RD.bU,if_pos hN]
  have hE0:¬(1:Int)=0:=by decide
  have hW:x.d.rename a c=x.d:=by rw[RD.rename,if_neg (by rw[hE];exact hE0)]
  rw[hE,hW]
  refine ah<|aj<|hy (fun m=>yV (a6 rfl cL bB rfl ((m.aZ 1 rfl).az)) ((rfl:_=Value.agg x.cs.toArray)))<| ?_
  refine cJ (aK 0 rfl rfl rfl bB rfl bS rfl ?_)
  refine hy (fun _=>ab rfl)<|ai<|al (ρ' :=[(7,_),(14,_),(8,_),(6,_),(3,_),(0,_),(1,_),(2,_)]) ⟨rfl,rfl,rfl,rfl,rfl,rfl,rfl,rfl,trivial⟩<|ak (X' :=[_,_]) (S' :=[_]) (fun _ m=>m)<|ag<|aX<|ax<| ?_
  exact eP trivial rfl rfl rfl cL bB rfl (fun m=>(m.aZ 0 rfl).az) [] rfl [0] rfl ⟨x,rfl,rfl,rfl,rfl⟩
 ·have hE:x.d.bU a c=x.d.ct a:=by rw[RD.bU,if_neg hN]
  refine aC<|ag<|ah<|aj<|hy (fun m=>yV (a6 rfl cL bB rfl ((m.aZ 1 rfl).az)) ((rfl:_=Value.agg x.cs.toArray)))<|hy (fun _=>aa rfl)<| ?_
  refine hx (aq rfl Tryz.call91 (Ao (by omega) (by omega)) [] rfl [0] rfl ?_)
  rintro _ _ _ ⟨rfl,rfl,rfl⟩
  refine hy (fun _=>aa rfl)<|hy (fun _=>au rfl rfl)<|hy (fun _=>au rfl rfl)<|hy (fun _=>ab rfl)<|hy (fun _=>ab rfl)<|ai<|al (ρ' :=[(10,_),(14,_),(8,_),(7,_),(6,_),(3,_),(0,_),(1,_),(2,_)]) ⟨rfl,rfl,rfl,rfl,rfl,rfl,rfl,rfl,rfl,trivial⟩<|ak (X' :=[_,_]) (S' :=[_]) (fun _ m=>m)<|ag<|ah<|ah<|aj<|hy (fun _=>aa rfl)<|hy (fun _=>dP rfl rfl)<|ai<|al (ρ' :=[(23,_),(10,_),(14,_),(8,_),(7,_),(6,_),(3,_),(0,_),(1,_),(2,_)]) ⟨rfl,rfl,rfl,rfl,rfl,rfl,rfl,rfl,rfl,rfl,trivial⟩<|ag<| ?_
  refine cD rfl (fun hE0=> ?_) (fun hE0=> ?_)
  ·have hW:x.d.rename a c=x.d:=by rw[RD.rename,if_neg (by rw[hE];exact hE0)]
   rw[hE,hW]
   refine ah<|aj<|hy (fun m=>yV (a6 rfl cL bB rfl ((m.aZ 1 rfl).az)) ((rfl:_=Value.agg x.cs.toArray)))<|hy (fun _=>aa rfl)<| ?_
   refine cJ (aK 0 rfl rfl rfl bB rfl bS rfl ?_)
   refine hy (fun _=>ab rfl)<|ai<|al (ρ' :=[(7,_),(23,_),(10,_),(14,_),(8,_),(6,_),(3,_),(0,_),(1,_),(2,_)]) ⟨rfl,rfl,rfl,rfl,rfl,rfl,rfl,rfl,rfl,rfl,trivial⟩<|ak (X' :=[_,_]) (S' :=[_]) (fun _ m=>m)<|ag<|aX<|ax<| ?_
   exact eP trivial rfl rfl rfl cL bB rfl (fun m=>(m.aZ 0 rfl).az) [] rfl [0] rfl ⟨x,rfl,rfl,rfl,rfl⟩
  ·have hr0:=Decidable.not_not.1 hE0
   have hW:x.d.rename a c=x.d.gA 1 a c []:=by rw[RD.rename,if_pos (by rw[hE];exact hr0)]
   rw[hE,hW,hr0]
   refine aC<|ag<|ah<|aj<|hy (fun m=>yV (a6 rfl cL bB rfl ((m.aZ 1 rfl).az)) ((rfl:_=Value.agg x.cs.toArray)))<|hy (fun _=>aa rfl)<|hy (fun _=>aa rfl)<|hy (fun _=>yV (cy qJ rfl rfl (by kernel_rfl) (.cons (o:=0) (sz:=1) (by kernel_rfl) rfl rfl (Nat.le_of_ble_eq_true rfl) (.cons (o:=1) (sz:=1) (by kernel_rfl) rfl rfl (Nat.le_of_ble_eq_true rfl) (.cons (o:=2) (sz:=1) (by kernel_rfl) rfl rfl (Nat.le_of_ble_eq_true rfl) .nil)))) ((rfl:_=Value.agg (cv 1 a c []).toArray)))<| ?_
   refine hx (aq rfl Tryz.call114 (G3 (by omega) (by omega)) [] rfl [0] rfl ?_)
   rintro _ _ _ ⟨y,rfl,rfl,rfl,hp⟩
   refine cJ (aK 0 rfl rfl rfl bB rfl bS rfl ?_)
   refine hy (fun _=>ab rfl)<|ai<|al (ρ' :=[(7,_),(23,_),(10,_),(14,_),(8,_),(6,_),(3,_),(0,_),(1,_),(2,_)]) ⟨rfl,rfl,rfl,rfl,rfl,rfl,rfl,rfl,rfl,rfl,trivial⟩<|ak (X' :=[_,_]) (S' :=[_,_]) (fun _ m=>m)<|ag<|aX<| ?_
   exact eP trivial rfl rfl rfl cL bB rfl (fun m=>(m.aZ 0 rfl).az) [] rfl [0] rfl ⟨y,rfl,rfl,rfl,hp⟩
def RD.c7(d:RD):Int:=if d.pw=0 then 6 else 0
def RD.sync(d:RD):RD:=if d.pw=0 then d else{d with bO:=d.seen,waits:=[],pw:=dQ d.pw}
theorem vj{x:RX}{kk:Nat}(ok:Bf x.d kk):cj Tryz.prog 99 [.agg x.cs.toArray] [] [dO x] (fun v_ X_ S_=>∃y,v_=(.tuple #[.agg y.cs.toArray,.int .i64 x.d.c7])∧X_=[]∧S_=[dO y]∧(y.d=x.d.sync)):=by
 have hp1:=ok.p1
 have hp2:=ok.p2
 refine aQ (N:=20) Tryz.func99 rfl rfl (by simp) fun b=> ?_
 refine ah<|aj<| ?_
 refine hx (cI rfl (fun g1=> ?_))
 refine aT (fun w m=>m.bQ 0 rfl (show _=aL g1 39 x.cs from congrArg (aL _ _) (bA _))) ?_
 refine hx (aP jh (fun g2=> ?_))
 refine hy (fun _=>ab rfl)<|ai<|ak (X' :=[_,_]) (S' :=[_]) (fun _ m=>m)<|ag<|ah<|ah<|aj<|hy (fun _=>aH rfl jO (by decide))<|hy (fun m=>aw rfl fS (aA (m.aZ 1 rfl) (i:=4) rfl))<|hy (fun _=>cM rfl rfl)<|ai<|al (ρ' :=[(6,_),(3,_),(2,_),(1,_),(0,_)]) ⟨rfl,rfl,rfl,rfl,rfl,trivial⟩<|ag<| ?_
 refine cD rfl (fun h0=> ?_) (fun h0=> ?_)
 ·have hE:x.d.c7=6:=by rw[RD.c7,if_pos h0]
  have hW:x.d.sync=x.d:=by rw[RD.sync,if_pos h0]
  rw[hE,hW]
  refine ah<|aj<|hy (fun m=>yV (a6 rfl cL bB rfl ((m.aZ 1 rfl).az)) ((rfl:_=Value.agg x.cs.toArray)))<| ?_
  refine cJ (aK 0 rfl rfl rfl bB rfl bS rfl ?_)
  refine hy (fun _=>ab rfl)<|ai<|al (ρ' :=[(3,_),(6,_),(2,_),(1,_),(0,_)]) ⟨rfl,rfl,rfl,rfl,rfl,trivial⟩<|ak (X' :=[_,_]) (S' :=[_]) (fun _ m=>m)<|ag<|aX<|ax<| ?_
  exact eP trivial rfl rfl rfl cL bB rfl (fun m=>(m.aZ 0 rfl).az) [] rfl [0] rfl ⟨x,rfl,rfl,rfl,rfl⟩
 ·have hE:x.d.c7=0:=by rw[RD.c7,if_neg h0]
  have hW:x.d.sync={x.d with bO:=x.d.seen,waits:=[],pw:=dQ x.d.pw}:=by rw[RD.sync,if_neg h0]
  rw[hE]
  refine bw (fun w m=>m.jN 0 rfl View.Ez) ?_
  refine aY (fun m=>gY (m.rd 0 rfl)) ?_
  rintro⟨hl_r0,hA_r0⟩
  refine bw (fun w m=>m.nO (r' :=cV 4 none 0 []) (.refl _ _) (Rd.nil _ _ _) (fun k hk=>absurd rfl hk.1)) ?_
  have hA_z:0<0→(none:Option Addr)≠none:=fun h=>absurd h (by decide)
  refine aC<|ag<|ah<|aj<|hy (fun _=>aH rfl j1 (by decide))<|hy (fun m=>aw rfl tJ (aA (m.aZ 1 rfl) (i:=1) rfl))<|hy (fun _=>aH rfl Ef (by decide))<| ?_
  refine cJ (cm 1 rfl rfl rfl FO rfl (by first|exact Nat.le_of_ble_eq_true rfl|simp) ?_)
  refine ai<|al (ρ' :=[(6,_),(3,_),(2,_),(1,_),(0,_)]) ⟨rfl,rfl,rfl,rfl,rfl,trivial⟩<|ak (X' :=[_,_]) (S' :=[_,_,_]) (fun _ m=>m)<|ag<|ah<|aj<|hy (fun _=>aH rfl vg (by decide))<| ?_
  refine cJ (cm 0 rfl rfl rfl Fx rfl (by first|exact Nat.le_of_ble_eq_true rfl|simp) ?_)
  refine ai<|al (ρ' :=[(6,_),(3,_),(2,_),(1,_),(0,_)]) ⟨rfl,rfl,rfl,rfl,rfl,trivial⟩<|ak (X' :=[_,_]) (S' :=[_,_,_]) (fun _ m=>m)<|ag<|ah<|ah<|aj<|hy (fun _=>aH rfl jO (by decide))<|hy (fun m=>aw rfl fS (aA (m.aZ 0 rfl) (i:=4) rfl))<|hy (fun _=>cY rfl rfl)<|ai<|al (ρ' :=[(14,_),(6,_),(3,_),(2,_),(1,_),(0,_)]) ⟨rfl,rfl,rfl,rfl,rfl,rfl,trivial⟩<|ag<| ?_
  refine bw (S' :=dO ⟨{x.d with bO:=x.d.seen,waits:=[],pw:=dQ x.d.pw},x.A,x.c,x.A,x.c,none,0⟩::_) (fun w m=>m.Cb [1,1,0] rfl) ?_
  refine cD rfl (fun h1=> ?_) (fun h1=> ?_)
  ·refine aj<|hy (fun _=>aH rfl jO (by decide))<|hy (fun m=>aw rfl fS (aA (m.aZ 0 rfl) (i:=4) rfl))<|hy (fun _=>cw rfl rfl (bC (by omega) (by omega)))<|hy (fun _=>aH rfl jO (by decide))<| ?_
   refine cJ (cm 0 rfl rfl rfl sS rfl (by first|exact Nat.le_of_ble_eq_true rfl|simp) ?_)
   refine ai<|al (ρ' :=[(14,_),(6,_),(3,_),(2,_),(1,_),(0,_)]) ⟨rfl,rfl,rfl,rfl,rfl,rfl,trivial⟩<|ak (X' :=[_,_]) (S' :=[_,_,_,_]) (fun _ m=>m)<|ag<|ah<|aj<| ?_
   refine aT (fun w m=>m.bQ 0 rfl (show _=aL g1 39 (RX.cs ⟨{x.d with bO:=x.d.seen,waits:=[],pw:=dQ x.d.pw},x.A,x.c,x.A,x.c,none,0⟩)from by rw[dQ,if_pos h1];rfl)) ?_
   refine hy (fun m=>yV (a6 rfl cL bB rfl ((m.aZ 0 rfl).az)) ((rfl:_=Value.agg (RX.cs ⟨{x.d with bO:=x.d.seen,waits:=[],pw:=dQ x.d.pw},x.A,x.c,x.A,x.c,none,0⟩).toArray)))<| ?_
   refine cJ (aK 1 rfl rfl rfl bB rfl bS rfl ?_)
   refine hy (fun _=>ab rfl)<|ai<|al (ρ' :=[(3,_),(14,_),(6,_),(2,_),(1,_),(0,_)]) ⟨rfl,rfl,rfl,rfl,rfl,rfl,trivial⟩<|ak (X' :=[_,_]) (S' :=[_,_,_,_]) (fun _ m=>m)<|ag<|aX<| ?_
   exact eP trivial rfl rfl rfl cL bB rfl (fun m=>(m.aZ 0 rfl).az) [] rfl [0] rfl ⟨_,rfl,rfl,rfl,hW.symm⟩
  ·refine aC<|ag<|ah<|aj<| ?_
   refine aT (fun w m=>m.bQ 0 rfl (show _=aL g1 39 (RX.cs ⟨{x.d with bO:=x.d.seen,waits:=[],pw:=dQ x.d.pw},x.A,x.c,x.A,x.c,none,0⟩)from by rw[dQ,if_neg h1];rfl)) ?_
   refine hy (fun m=>yV (a6 rfl cL bB rfl ((m.aZ 0 rfl).az)) ((rfl:_=Value.agg (RX.cs ⟨{x.d with bO:=x.d.seen,waits:=[],pw:=dQ x.d.pw},x.A,x.c,x.A,x.c,none,0⟩).toArray)))<| ?_
   refine cJ (aK 1 rfl rfl rfl bB rfl bS rfl ?_)
   refine hy (fun _=>ab rfl)<|ai<|al (ρ' :=[(3,_),(14,_),(6,_),(2,_),(1,_),(0,_)]) ⟨rfl,rfl,rfl,rfl,rfl,rfl,trivial⟩<|ak (X' :=[_,_]) (S' :=[_,_,_,_]) (fun _ m=>m)<|ag<|aX<| ?_
   exact eP trivial rfl rfl rfl cL bB rfl (fun m=>(m.aZ 0 rfl).az) [] rfl [0] rfl ⟨_,rfl,rfl,rfl,hW.symm⟩
def RD.bF(d:RD)(n:Int):RD:={d with pw:=max n (-1)}
end Go.Proofs.YtmibdabdlgmafaaGreatDoor
end
section
set_option maxRecDepth 20000
namespace Go.Proofs.YtmibdabdlgmafaaGreatDoor
open Go.Eng Go.Hx
theorem uw{α:Type}{f:α→List Value}{k:Nat}(hf:∀x,(f x).length=k):∀(l:List α) (i j:Nat) (x:α),l[i]? =some x→j<k→(l.flatMap f)[i*k+j]? =(f x)[j]?
 | [],i,j,x,h,hj=>by simp at h
 |a::r,0,j,x,h,hj=>by
  simp only[List.getElem?_cons_zero,Option.some.injEq]at h
  subst h
  rw[List.flatMap_cons,Nat.zero_mul,Nat.zero_add,List.getElem?_append_left (by rw[hf];exact hj)]
 |a::r,i+1,j,x,h,hj=>by
  rw[List.flatMap_cons,List.getElem?_append_right (by rw[hf,Nat.succ_mul];omega),hf,show(i+1)*k+j-k=i*k+j by rw[Nat.succ_mul];omega]
  exact uw hf r i j x (by simpa using h) hj
theorem mf{α:Type}{f:α→List Value}{k:Nat}{w:World}{A:Option Addr}{n i:Nat}{l:List α}{x:α}(hf:∀x,(f x).length=k)(h:Rd w k A n (l.flatMap f))(hx:l[i]? =some x):∀(j:Nat) (u:Value),(f x)[j]? =some u→w.cell? (((A.getD d0).add (i*k)).add j)=some u:=by
 intro j u hu
 have hj:j<k:=by have:=(List.getElem?_eq_some_iff.1 hu).1;rwa [hf]at this
 exact fH h (by rw[uw hf l i j x hx hj];exact hu)
def gI(s:List Bool×List FP)(c:RC):List Bool×List FP:=
 if s.1.headD false then
  if c.1=0 then(s.1.tail.tail,dj s.2 c.1 c.2.1 c.2.2.1 (if s.1.tail.headD false then c.2.2.2 else c.2.2.2.take (c.2.2.2.length/2)))
  else(s.1.tail,dj s.2 c.1 c.2.1 c.2.2.1 c.2.2.2)
 else(s.1.tail,s.2)
def dfold(keep:List Bool)(d:RD)(i:Nat):List Bool×List FP:=(d.waits.take i).foldl gI (keep,d.bO)
def RD.dR(d:RD)(keep:List Bool):RD:={d with seen:=(dfold keep d d.waits.length).2,bO:=(dfold keep d d.waits.length).2,waits:=[],pw:=-1}
end Go.Proofs.YtmibdabdlgmafaaGreatDoor
end
section
namespace Go.Proofs.YtmibdabdlgmafaaGreatDoor
open Go.Eng Go.Hx
theorem fq.del{fs:c6}{l:List FP}(h:fq fs l)(p:List UInt8):fq (ec fs p) (da l p):=by
 refine⟨ot _ h.ord,l9 h.nd,fun q=> ?_,fun x hx=> ?_⟩
 ·rw[yh h.nd]
  have:=ir p l q
  unfold da
  rw[this]
  by_cases hq:p=q
  ·rw[if_pos hq,if_pos hq.symm];rfl
  ·rw[if_neg hq,if_neg (fun e=>hq e.symm)];exact h.look q
 ·have h1:=iv (List.mem_map.2 ⟨x,hx,rfl⟩)
  obtain⟨y,hy,e⟩:=List.mem_map.1 h1
  rw[←e];exact h.len y hy
theorem fq.at{fs:c6}{l:List FP}(h:fq fs l)(p:List UInt8):(b8 fs p=none∧l[cB l p]? =none)∨∃r x,b8 fs p=some r∧l[cB l p]? =some x∧r.l=x.2∧r.n=r.l.length:=by
 have h1:=h.look p
 rw[←fN]at h1
 cases ha:b8 fs p with
 |none=>
  rw[ha]at h1
  cases hb:l[cB l p]? with
  |none=>exact .inl ⟨rfl,rfl⟩
  |some y=>rw[hb]at h1;cases h1
 |some r=>
  rw[ha]at h1
  cases hb:l[cB l p]? with
  |none=>rw[hb]at h1;cases h1
  |some y=>
   rw[hb]at h1
   exact .inr ⟨r,y,rfl,rfl,Option.some.inj h1,h.len _ (iG ha)⟩
def fj.rc:fj→RC
 | .written p r=>(0,p,[],r.l)
 | .renamed a c=>(1,a,c,[])
 | .removed p=>(2,p,[],[])
def fj.wl(c:fj):Prop:=∀r,c.row=some r→r.n=r.l.length
theorem fq.oP{fs:c6}{l:List FP}(h:fq fs l){c:fj}(hc:c.wl):fq (oP fs c) (dj l c.rc.1 c.rc.2.1 c.rc.2.2.1 c.rc.2.2.2):=by
 cases c with
 |written p r=>
  rw[dj]
  exact h.put (hc r rfl)
 |renamed a b=>
  rw[dj]
  simp only[fj.rc,Go.Proofs.YtmibdabdlgmafaaGreatDoor.oP]
  rcases h.at a with⟨h1,h2⟩|⟨r,x,h1,h2,h3,h4⟩
  ·simp only[h1,h2];exact h
  ·simp only[h1,h2]
   rw[←h3]
   exact(h.del a).put h4
 |removed p=>
  rw[dj]
  simp only[fj.rc,Go.Proofs.YtmibdabdlgmafaaGreatDoor.oP]
  rcases h.at p with⟨h1,h2⟩|⟨r,x,h1,h2,h3,h4⟩
  ·simp only[h2]
   have e:ec fs p=fs:=by
    have hk:¬p∈cn fs:=jK.1 h1
    clear h h2 h1
    induction fs with
    |nil=>rfl
    |cons a q ih=>
     obtain⟨k,u⟩:=a
     simp only[cn,List.map_cons,List.mem_cons,not_or]at hk
     simp only[ec]
     rw[if_neg (fun e=>hk.1 e.symm),ih hk.2]
   rw[if_neg (by decide),e];exact h
  ·simp only[h2]
   rw[if_neg (by decide)]
   exact h.del p
structure DS(st:cA)(d:RD)(k:Nat):Prop where
 lU:uR st d
 ok:nB st k
 low:-1≤d.pw
 bO:fq st.bO d.bO
 waits:st.waits.map fj.rc=d.waits
 C2:∀c∈st.waits,c.wl
theorem DS.le{st:cA}{d:RD}{k k' :Nat}(h:DS st d k)(hk:k≤k'):DS st d k' :=⟨h.lU,h.ok.le hk,h.low,h.bO,h.waits,h.C2⟩
theorem DS.uA{st:cA}{d:RD}{k:Nat}(h:DS st d k):Bf d k:=by
 refine⟨?_, ?_, ?_,by have:=h.low;omega, ?_⟩
 ·rw[←h.lU.files.DD];exact h.ok.seen
 ·rw[←h.lU.waits];have:=h.ok.rest;omega
 ·rw[←h.lU.files.me];exact h.ok.me
 ·rw[←h.lU.bF];exact h.ok.bF
theorem DS.init{n:Int}{gs gl:Nat}(h:n≤1048576):DS (mI n gs gl) (RD.new n) 0:=
 ⟨⟨rfl,rfl,fq.nil,rfl⟩,nB.init h,Int.le_refl _,fq.nil,rfl,fun c hc=>by cases hc⟩
theorem rE{p:Int}(h:-1≤p):-1≤dQ p:=by
 unfold dQ
 split <;> omega
theorem DS.gA{st:cA}{d:RD}{k:Nat}(h:DS st d k){c:fj}(hc:c.wl){st1:cA}(hs:st1.room=st.room∧st1.bO=st.bO∧st1.bF=st.eH.bF∧st1.seen=oP st.seen c∧st1.waits=st.waits++[c])(ok:nB st1 (k+1)):
  DS st1 (d.gA c.rc.1 c.rc.2.1 c.rc.2.2.1 c.rc.2.2.2) (k+1):=by
 obtain⟨h1,h2,h3,h4,h5⟩:=hs
 refine⟨⟨h1.trans h.lU.room, ?_, ?_, ?_⟩,ok,rE h.low, ?_, ?_,fun x hx=> ?_⟩
 ·rw[h3]
  show(if 0<st.bF then st.bF-1 else st.bF)=dQ d.pw
  rw[h.lU.bF];rfl
 ·rw[h4];exact h.lU.files.oP hc
 ·rw[h5,List.length_append,h.lU.waits]
  show _=(d.waits++[_]).length
  rw[List.length_append];rfl
 ·rw[h2];exact h.bO
 ·rw[h5,List.map_append,h.waits];rfl
 ·rw[h5]at hx
  rcases List.mem_append.1 hx with hx|hx
  ·exact h.C2 x hx
  ·rw[List.mem_singleton.1 hx];exact hc
theorem DS.write{st st1:cA}{d:RD}{k n:Nat}(h:DS st d k){p l:List UInt8}{B A:Option Addr}{c1 c2:Nat}(hl:l.length=n)(hn:n≤1048576)
  (hw:(bH st p n≠0∧st1=st)∨(bH st p n=0∧st1=st.wrote p ⟨B,n,c1,l⟩ A c2)):DS st1 (d.write p l) (k+1)∧d.bH p l=bH st p n:=by
 subst hl
 have e:=h.lU.bH p l
 refine⟨?_,e.symm⟩
 unfold RD.write
 rw[←e]
 rcases hw with⟨h1,rfl⟩|⟨h1,rfl⟩
 ·rw[if_neg h1];exact h.le (Nat.le_succ _)
 ·rw[if_pos h1]
  exact h.gA (c:=.written p ⟨B,l.length,c1,l⟩) (fun r hr=>by cases hr;rfl) ⟨rfl,rfl,rfl,rfl,rfl⟩ (h.ok.wrote hn A c2)
theorem DS.ct{st:cA}{d:RD}{k:Nat}(h:DS st d k)(p:List UInt8):d.ct p=dM st p:=(h.lU.ct p).symm
theorem DS.cz{st:cA}{d:RD}{k:Nat}(h:DS st d k)(p:List UInt8):d.cz p=cz st p:=(h.lU.cz p).symm
theorem DS.rename{st st1:cA}{d:RD}{k:Nat}(h:DS st d k){a c:List UInt8}{A:Option Addr}{j:Nat}
  (hw:(bU st a c≠0∧st1=st)∨(bU st a c=0∧st1=st.gA (.renamed a c) A j)):DS st1 (d.rename a c) (k+1)∧d.bU a c=bU st a c:=by
 have e:d.bU a c=bU st a c:=by
  unfold RD.bU Go.Proofs.YtmibdabdlgmafaaGreatDoor.bU
  rw[h.ct]
 refine⟨?_,e⟩
 unfold RD.rename
 rw[e]
 rcases hw with⟨h1,rfl⟩|⟨h1,rfl⟩
 ·rw[if_neg h1];exact h.le (Nat.le_succ _)
 ·rw[if_pos h1]
  exact h.gA (c:=.renamed a c) (fun r hr=>by cases hr) ⟨rfl,rfl,rfl,rfl,rfl⟩ (h.ok.gA rfl A j)
theorem DS.remove{st st1:cA}{d:RD}{k:Nat}(h:DS st d k){p:List UInt8}{A:Option Addr}{j:Nat}
  (hw:(dM st p≠0∧st1=st)∨(dM st p=0∧st1=st.gA (.removed p) A j)):DS st1 (d.remove p) (k+1):=by
 unfold RD.remove
 rw[h.ct]
 rcases hw with⟨h1,rfl⟩|⟨h1,rfl⟩
 ·rw[if_neg h1];exact h.le (Nat.le_succ _)
 ·rw[if_pos h1]
  exact h.gA (c:=.removed p) (fun r hr=>by cases hr) ⟨rfl,rfl,rfl,rfl,rfl⟩ (h.ok.gA rfl A j)
theorem DS.sync{st st1:cA}{d:RD}{k gl:Nat}(h:DS st d k)(hw:(st.bF=0∧st1=st)∨(st.bF≠0∧st1=st.synced gl)):DS st1 d.sync k∧d.c7=c7 st:=by
 have e:d.c7=c7 st:=by unfold RD.c7 Go.Proofs.YtmibdabdlgmafaaGreatDoor.c7;rw[h.lU.bF]
 refine⟨?_,e⟩
 unfold RD.sync
 rw[←h.lU.bF]
 rcases hw with⟨h1,rfl⟩|⟨h1,rfl⟩
 ·rw[if_pos h1];exact h
 ·rw[if_neg h1]
  refine⟨⟨h.lU.room, ?_,h.lU.files,rfl⟩,h.ok.synced gl, ?_,h.lU.files,rfl,fun c hc=>by cases hc⟩
  ·rfl
  ·rw[h.lU.bF];exact rE h.low
theorem DS.bF{st:cA}{d:RD}{k:Nat}(h:DS st d k){n:Int}(hn:n≤1000000000000):DS (st.mR n) (d.bF n) k:=by
 refine⟨⟨h.lU.room,rfl,h.lU.files,h.lU.waits⟩,⟨?_,h.ok.room,h.ok.seen,h.ok.rest,h.ok.small⟩, ?_,h.bO,h.waits,h.C2⟩
 ·show max n (-1)≤_;omega
 ·show-1≤max n (-1);omega
theorem xn{ks:List Bool}{L:c6}{l:List FP}{c:fj}(h:fq L l)(hc:c.wl):(gT (ks,L) c).1=(gI (ks,l) c.rc).1∧fq (gT (ks,L) c).2 (gI (ks,l) c.rc).2:=by
 unfold gT gI
 by_cases hb:ks.headD false=true
 ·rw[if_pos hb,if_pos hb]
  cases c with
  |written p r=>
   rw[if_pos (show(fj.rc (.written p r)).1=0 from rfl)]
   refine⟨rfl, ?_⟩
   have hr:=hc r rfl
   by_cases hb2:ks.tail.headD false=true
   ·simp only[hb2,if_true]
    exact h.oP hc
   ·simp only[hb2,if_false]
    have e:(fj.written p r.half).rc=(0,p,[],r.l.take (r.l.length/2)):=by simp[fj.rc,ei.half,hr]
    have:=h.oP (c:=.written p r.half) (fun x hx=>by cases hx;simp[ei.half];omega)
    rw[e]at this
    exact this
  |renamed a b=>exact⟨rfl,h.oP hc⟩
  |removed p=>exact⟨rfl,h.oP hc⟩
 ·rw[if_neg hb,if_neg hb]
  exact⟨rfl,h⟩
theorem uD:∀(cs:List fj) {ks:List Bool} {L:c6} {l:List FP},fq L l→(∀c∈cs,c.wl)→(cs.foldl gT (ks,L)).1=((cs.map fj.rc).foldl gI (ks,l)).1∧fq (cs.foldl gT (ks,L)).2 ((cs.map fj.rc).foldl gI (ks,l)).2
 | [],ks,L,l,h,hc=>⟨rfl,h⟩
 |c::r,ks,L,l,h,hc=>by
  obtain⟨h1,h2⟩:=xn (ks:=ks) h (hc c (List.mem_cons_self ..))
  have e:gI (ks,l) c.rc=((gT (ks,L) c).1,(gI (ks,l) c.rc).2):=by rw[h1]
  rw[List.map_cons,List.foldl_cons,List.foldl_cons,e]
  exact uD r h2 (fun x hx=>hc x (List.mem_cons_of_mem _ hx))
theorem DS.dR{st:cA}{d:RD}{k:Nat}(h:DS st d k)(keep:List Bool)(gs:Nat):DS (st.started keep gs) (d.dR keep) k:=by
 have hf:=(uD st.waits (ks:=keep) h.bO h.C2).2
 rw[h.waits]at hf
 have e1:ee keep st st.waits.length=st.waits.foldl gT (keep,st.bO):=by rw[ee,List.take_of_length_le (Nat.le_refl _)]
 have e2:dfold keep d d.waits.length=d.waits.foldl gI (keep,d.bO):=by rw[dfold,List.take_of_length_le (Nat.le_refl _)]
 rw[←e1,←e2]at hf
 exact⟨⟨h.lU.room,rfl,hf,rfl⟩,h.ok.started keep gs,by show-1≤(-1:Int);omega,hf,rfl,fun c hc=>by cases hc⟩
def RD.ok(d:RD)(k:Nat):Prop:=∃st,DS st d k
theorem RD.ok.uA{d:RD}{k:Nat}(h:d.ok k):Bf d k:=by obtain⟨st,h⟩:=h;exact h.uA
theorem RD.ok.write{d:RD}{k:Nat}(h:d.ok k){p l:List UInt8}(hl:l.length≤1048576):(d.write p l).ok (k+1):=by
 obtain⟨st,h⟩:=h
 by_cases he:Go.Proofs.YtmibdabdlgmafaaGreatDoor.bH st p l.length=0
 ·exact⟨_,(h.write (st1:=st.wrote p ⟨none,l.length,0,l⟩ none 0) rfl hl (.inr ⟨he,rfl⟩)).1⟩
 ·exact⟨_,(h.write (B:=none) (A:=none) (c1:=0) (c2:=0) (st1:=st) rfl hl (.inl ⟨he,rfl⟩)).1⟩
theorem RD.ok.rename{d:RD}{k:Nat}(h:d.ok k){a c:List UInt8}:(d.rename a c).ok (k+1):=by
 obtain⟨st,h⟩:=h
 by_cases he:Go.Proofs.YtmibdabdlgmafaaGreatDoor.bU st a c=0
 ·exact⟨_,(h.rename (st1:=st.gA (.renamed a c) none 0) (.inr ⟨he,rfl⟩)).1⟩
 ·exact⟨_,(h.rename (A:=none) (j:=0) (st1:=st) (.inl ⟨he,rfl⟩)).1⟩
theorem RD.ok.sync{d:RD}{k:Nat}(h:d.ok k):d.sync.ok k:=by
 obtain⟨st,h⟩:=h
 by_cases he:st.bF=0
 ·exact⟨_,(h.sync (gl:=0) (st1:=st) (.inl ⟨he,rfl⟩)).1⟩
 ·exact⟨_,(h.sync (st1:=st.synced 0) (.inr ⟨he,rfl⟩)).1⟩
end Go.Proofs.YtmibdabdlgmafaaGreatDoor
end
section
namespace Go.Hx
open Go.Eng
def chunks(k:Nat)(l:List UInt8):List (List UInt8):=(List.range k).map fun i=>(l.drop (32*i)).take 32
def k0(l:List UInt8):Nat:=(l.getD 0 0).toNat+256*(l.getD 1 0).toNat+65536*(l.getD 2 0).toNat+16777216*(l.getD 3 0).toNat
theorem CY(l:List UInt8):k0 l<4294967296:=by
 have h0:=(l.getD 0 0).toNat_lt
 have h1:=(l.getD 1 0).toNat_lt
 have h2:=(l.getD 2 0).toNat_lt
 have h3:=(l.getD 3 0).toNat_lt
 unfold k0
 omega
theorem zz{n:Nat}(h:n<4294967296):k0 (gy n)=n:=by
 simp only[gy,k0,List.getD_cons_zero,List.getD_cons_succ,UInt8.toNat_ofNat']
 omega
end Go.Hx
end
section
namespace Go.Hx
open Go.Eng
def acc(l:List UInt8):Nat→Nat
 |0=>0
 |j+1=>acc l j*256+(l.getD (3-j) 0).toNat
theorem AH(l:List UInt8):∀j,acc l j<256 ^ j
 |0=>by simp[acc]
 |j+1=>by
  have h1:=AH l j
  have h2:=(l.getD (3-j) 0).toNat_lt
  rw[acc,Nat.pow_succ]
  omega
theorem EX(l:List UInt8){j:Nat}(h:j≤4):acc l j<4294967296:=by
 have h1:=AH l j
 have h2:256 ^ j≤256 ^ 4:=Nat.pow_le_pow_right (by decide) h
 have h3:256 ^ 4=4294967296:=by decide
 omega
theorem GU(l:List UInt8):acc l 4=k0 l:=by
 have e:(3-0=3)∧(3-1=2)∧(3-2=1)∧(3-3=0):=by decide
 simp only[acc,k0,e.1,e.2.1,e.2.2.1,e.2.2.2]
 omega
theorem CK(a b:Nat)(ha:a<4294967296)(hb:b<256):bits .or .i64 (a*256:Int) (b:Int)=((a*256+b:Nat):Int):=by
 have h1:(a*256:Int)=((a*256:Nat):Int):=by simp
 have h2:a*256 ||| b=a*256+b:=by rw[Nat.mul_comm a 256,show 256=2 ^ 8 from rfl,Nat.two_pow_add_eq_or_of_lt (by simpa using hb)]
 have e0:∀n:Nat,n<18446744073709551616→(BitVec.ofInt 64 (n:Int)).toNat=n:=fun n hn=>by
  rw[BitVec.toNat_ofInt]
  simp
  omega
 rw[h1]
 show IntKind.i64.wrap ((BitVec.ofInt 64 ((a*256:Nat):Int) ||| BitVec.ofInt 64 (b:Int)).toNat:Int)=_
 rw[BitVec.toNat_or,e0 _ (by omega),e0 _ (by omega),h2]
 exact bC (by omega) (by omega)
end Go.Hx
end
section
namespace Go.Hx
open Go.Eng
def cK(l:List UInt8):Nat×Nat×Nat×Bool:=
 if(l.getD 0 0).toNat<128 then((l.getD 0 0).toNat+2,(l.getD 0 0).toNat+1,0,decide ((l.getD 0 0).toNat+2≤l.length))
 else if l.length<3 then(0,0,0,false)else(3,(l.getD 0 0).toNat-124,1+(l.getD 1 0).toNat+256*(l.getD 2 0).toNat,true)
def again(d:Nat):Nat→List UInt8→List UInt8
 |0,o=>o
 |k+1,o=>again d k (o++[o.getD (o.length-d) 0])
theorem mO(d:Nat):∀(k:Nat) (o:List UInt8),(again d k o).length=o.length+k
 |0,o=>rfl
 |k+1,o=>by rw[again,mO d k];simp;omega
theorem lv{l:List UInt8}(h:(cK l).2.2.2=true):2≤(cK l).1∧(cK l).1≤l.length:=by
 unfold cK at h ⊢
 split at h
 ·rename_i h1
  rw[if_pos h1]
  have:=of_decide_eq_true h
  exact⟨by show 2≤_+2;omega,this⟩
 ·rename_i h1
  rw[if_neg h1]
  split at h
  ·cases h
  ·rename_i h2
   rw[if_neg h2]
   exact⟨by show 2≤3;decide,by show 3≤_;omega⟩
theorem DU(l:List UInt8):(cK l).2.1≤131∧(cK l).2.2.1≤65536:=by
 have h0:=(l.getD 0 0).toNat_lt
 have h1:=(l.getD 1 0).toNat_lt
 have h2:=(l.getD 2 0).toNat_lt
 unfold cK
 split
 ·exact⟨by show _+1≤_;omega,by show 0≤_;omega⟩
 ·split
  ·exact⟨by show 0≤_;omega,by show 0≤_;omega⟩
  ·exact⟨by show _-124≤_;omega,by show 1+_+256*_≤_;omega⟩
def made(l o:List UInt8):List UInt8:=if(cK l).2.2.1=0 then o++(l.drop 1).take ((cK l).1-1)else again (cK l).2.2.1 (cK l).2.1 o
def jM(most:Int)(l o:List UInt8):List UInt8×Int:=
 if h0:l=[]then(o,0)
 else if h1:(cK l).2.2.2=true then
  if o.length<(cK l).2.2.1 then([],2)else if most<(o.length:Int)+((cK l).2.1:Nat)then([],3)else jM most (l.drop (cK l).1) (made l o)
 else([],2)
termination_by l.length
decreasing_by
 obtain⟨h2,h3⟩:=lv h1
 rw[List.length_drop]
 omega
theorem oU(most:Int)(o:List UInt8):jM most [] o=(o,0):=by
 rw[jM]
 rfl
theorem lC{most:Int}{l o:List UInt8}(h0:l≠ [])(h:¬((cK l).2.2.2=true∧(cK l).2.2.1≤o.length)):jM most l o=([],2):=by
 rw[jM,dif_neg h0]
 split
 ·rename_i h1
  rw[if_pos (Nat.lt_of_not_le fun h2=>h ⟨h1,h2⟩)]
 ·rfl
theorem o6{most:Int}{l o:List UInt8}(h0:l≠ [])(h1:(cK l).2.2.2=true)(h2:(cK l).2.2.1≤o.length)(h3:most<(o.length:Int)+((cK l).2.1:Nat)):jM most l o=([],3):=by
 rw[jM,dif_neg h0,dif_pos h1,if_neg (by omega),if_pos h3]
theorem nU{most:Int}{l o:List UInt8}(h0:l≠ [])(h1:(cK l).2.2.2=true)(h2:(cK l).2.2.1≤o.length)(h3:¬most<(o.length:Int)+((cK l).2.1:Nat)):jM most l o=jM most (l.drop (cK l).1) (made l o):=by
 rw[jM,dif_neg h0,dif_pos h1,if_neg (by omega),if_neg h3]
theorem oJ{l o:List UInt8}(h1:(cK l).2.2.2=true):(made l o).length=o.length+(cK l).2.1:=by
 unfold made
 split
 ·rename_i h0
  obtain⟨h2,h3⟩:=lv h1
  have e:(cK l).1-1=(cK l).2.1:=by
   unfold cK at h0 h1 ⊢
   split
   ·show _+2-1=_+1;omega
   ·split
    ·rename_i a1 a2;rw[if_neg a1,if_pos a2]at h1;cases h1
    ·rename_i a1 a2;rw[if_neg a1,if_neg a2]at h0;simp at h0
  rw[List.length_append,List.length_take,List.length_drop,e]
  omega
 ·exact mO _ _ _
end Go.Hx
end
section
namespace Go.Hx
open Go.Eng
def lM(b:List UInt8)(i k:Nat):Nat→Nat→Nat
 |0,n=>n
 |f+1,n=>if i+n<b.length∧b.getD (i+n) 0=b.getD (k+n) 0 then lM b i k f (n+1)else n
def mi(b:List UInt8)(i k:Nat):Nat:=lM b i k 131 0
theorem gD(b:List UInt8)(i k:Nat):∀f n,n≤lM b i k f n∧lM b i k f n≤n+f∧(i+n≤b.length→i+lM b i k f n≤b.length)∧∀j,n≤j→j<lM b i k f n→b.getD (i+j) 0=b.getD (k+j) 0
 |0,n=>⟨Nat.le_refl _,Nat.le_refl _,fun h=>h,fun j h1 h2=>by simp only[lM]at h2;omega⟩
 |f+1,n=>by
  unfold lM
  split
  ·rename_i h
   obtain⟨h1,h2,h3,h4⟩:=gD b i k f (n+1)
   refine⟨by omega,by omega,fun _=>h3 (by omega),fun j hj hj2=> ?_⟩
   rcases Nat.eq_or_lt_of_le hj with e|e
   ·rw[←e];exact h.2
   ·exact h4 j e hj2
  ·exact⟨Nat.le_refl _,by omega,fun h=>h,fun j h1 h2=>by omega⟩
theorem E9(b:List UInt8)(i k:Nat):mi b i k≤131:=by have:=(gD b i k 131 0).2.1;unfold mi;omega
theorem AY{b:List UInt8}{i:Nat}(k:Nat)(h:i≤b.length):i+mi b i k≤b.length:=(gD b i k 131 0).2.2.1 (by omega)
theorem qa{b:List UInt8}{i k j:Nat}(h:j<mi b i k):b.getD (i+j) 0=b.getD (k+j) 0:=(gD b i k 131 0).2.2.2 j (Nat.zero_le _) h
theorem lf{b:List UInt8}{i k f n:Nat}(h:¬(i+n<b.length∧b.getD (i+n) 0=b.getD (k+n) 0)):lM b i k f n=n:=by
 cases f with
 |zero=>rfl
 |succ f=>rw[lM,if_neg h]
theorem ik{b:List UInt8}{i k f n:Nat}(hf:0<f)(h:i+n<b.length∧b.getD (i+n) 0=b.getD (k+n) 0):lM b i k f n=lM b i k (f-1) (n+1):=by
 cases f with
 |zero=>omega
 |succ f=>rw[lM,if_pos h];rfl
def ez(b:List UInt8)(p:Nat):List UInt8:=(b.drop p).take 4
theorem bG{b:List UInt8}{p:Nat}(h:p+4≤b.length):(ez b p).length=4:=by unfold ez;rw[List.length_take,List.length_drop];omega
theorem BH{b:List UInt8}{i p:Nat}(hi:i+4≤b.length)(hp:p<i):ez b p=ez b i↔3<mi b i p:=by
 have e:∀q,q+4≤b.length→ez b q=[b.getD (q+0) 0,b.getD (q+1) 0,b.getD (q+2) 0,b.getD (q+3) 0]:=by
  intro q hq
  apply List.ext_getElem?
  intro j
  unfold ez
  rw[List.getElem?_take,List.getElem?_drop]
  rcases j with _|_|_|_|j
  all_goals simp
  all_goals (try (rw[List.getElem?_eq_getElem (by omega)];rfl))
  all_goals (try (intro h;omega))
 rw[e p (by omega),e i hi]
 constructor
 ·intro h
  simp only[List.cons.injEq,and_true]at h
  have e0:mi b i p=lM b i p 127 4:=by
   unfold mi
   rw[ik (by decide) ⟨by omega,h.1.symm⟩,ik (by decide) ⟨by omega,h.2.1.symm⟩,ik (by decide) ⟨by omega,h.2.2.1.symm⟩,ik (by decide) ⟨by omega,h.2.2.2.symm⟩]
  rw[e0]
  exact(gD b i p 127 4).1
 ·intro h
  simp only[List.cons.injEq,and_true]
  exact⟨(qa (by omega)).symm,(qa (by omega)).symm,(qa (by omega)).symm,(qa (by omega)).symm⟩
def gF(b:List UInt8)(i:Nat)(s:Nat×Nat)(d:Nat):Nat×Nat:=if 3<mi b i (i-d)∧s.1<mi b i (i-d)then(mi b i (i-d),d)else s
def cp(b:List UInt8)(i k:Nat):Nat×Nat:=(List.range' 1 k).foldl (gF b i) (0,0)
theorem dJ(b:List UInt8)(i k:Nat):cp b i (k+1)=gF b i (cp b i k) (k+1):=by
 unfold cp
 rw[List.range'_concat,List.foldl_append]
 simp[Nat.add_comm]
def aW(b:List UInt8)(i:Nat):Nat×Nat:=cp b i (min i 1024)
def fR(b:List UInt8)(i:Nat)(s:Nat×Nat)(p:Nat):Nat×Nat:=if 1024<i-p then s else if s.1<mi b i p then(mi b i p,i-p)else s
def kC(b:List UInt8)(n:Nat)(k:List UInt8):List Nat:=(List.range n).filter fun p=>decide (ez b p=k)
theorem x6(b:List UInt8)(n:Nat)(k:List UInt8):kC b (n+1) k=kC b n k++if ez b n=k then [n]else []:=by
 unfold kC
 rw[List.range_succ,List.filter_append]
 congr 1
 by_cases h:ez b n=k <;> simp[h]
theorem Bi{b:List UInt8}{n p:Nat}{k:List UInt8}(h:p∈kC b n k):p<n∧ez b p=k:=by
 unfold kC at h
 simpa using h
theorem oe(b:List UInt8)(n:Nat)(k:List UInt8):(kC b n k).length≤n:=by
 unfold kC
 exact Nat.le_trans (List.length_filter_le _ _) (by simp)
theorem xO(i:Nat):(List.range i).reverse=(List.range' 1 i).map fun d=>i-d:=by
 apply List.ext_getElem
 ·simp
 ·intro j h1 h2
  simp
  omega
theorem kf{α β:Type}(f:β→α→β)(s:β):∀(l:List α),(∀x∈l,∀t,f t x=t)→l.foldl f s=s
 | [],_=>rfl
 |x::l,h=>by
  rw[List.foldl_cons,h x (by simp) s]
  exact kf f s l (fun y hy=>h y (List.mem_cons_of_mem _ hy))
theorem tA{b:List UInt8}{i:Nat}(hi:i+4≤b.length):(kC b i (ez b i)).reverse.foldl (fR b i) (0,0)=aW b i:=by
 unfold kC aW
 rw[←List.filter_reverse,xO,List.filter_map,List.foldl_map,List.foldl_filter]
 have h1:∀(l:List Nat) (s:Nat×Nat),(∀d∈l,1≤d∧d≤i)→l.foldl (fun s d=>if((fun p=>decide (ez b p=ez b i)) ∘ fun d=>i-d) d=true then fR b i s (i-d)else s) s=l.foldl (fun s d=>if 1024<d then s else gF b i s d) s:=by
  intro l
  induction l with
  |nil=>intro s _;rfl
  |cons d l ih=>
   intro s hd
   simp only[List.foldl_cons]
   rw[ih _ (fun x hx=>hd x (List.mem_cons_of_mem _ hx))]
   congr 1
   obtain⟨hd1,hd2⟩:=hd d (by simp)
   have e:=BH (p:=i-d) hi (by omega)
   simp only[Function.comp_apply,decide_eq_true_eq]
   unfold fR gF
   rw[show i-(i-d)=d by omega]
   by_cases hk:ez b (i-d)=ez b i
   ·rw[if_pos hk]
    have:=e.1 hk
    split
    ·rfl
    ·by_cases h:s.1<mi b i (i-d)
     ·rw[if_pos h,if_pos ⟨this,h⟩]
     ·rw[if_neg h,if_neg (fun q=>h q.2)]
   ·rw[if_neg hk]
    split
    ·rfl
    ·rw[if_neg (fun q=>hk (e.2 q.1))]
 rw[h1 _ _ (fun d hd=>by simp at hd;omega)]
 have h2:List.range' 1 i=List.range' 1 (min i 1024)++List.range' (1+min i 1024) (i-min i 1024):=by
  rw[List.range'_append_1]
  congr 1
  omega
 rw[h2,List.foldl_append,kf _ _ (List.range' (1+min i 1024) (i-min i 1024))]
 ·unfold cp
  have h3:∀(l:List Nat) (s:Nat×Nat),(∀d∈l,d≤1024)→l.foldl (fun s d=>if 1024<d then s else gF b i s d) s=l.foldl (gF b i) s:=by
   intro l
   induction l with
   |nil=>intro s _;rfl
   |cons d l ih=>
    intro s hd
    simp only[List.foldl_cons]
    rw[if_neg (by have:=hd d (by simp);omega)]
    exact ih _ (fun x hx=>hd x (List.mem_cons_of_mem _ hx))
  exact h3 _ _ (fun d hd=>by simp at hd;omega)
 ·intro d hd t
  simp at hd
  rw[if_pos (by omega)]
theorem ur(b:List UInt8)(n:Nat)(k:List UInt8):(kC b n k).Pairwise (· <·):=(List.pairwise_lt_range).filter _
theorem xA{b:List UInt8}{i n x:Nat}{k:List UInt8}{pre rest:List Nat}{s:Nat×Nat}(h:(kC b n k).reverse=pre++x::rest)(hx:1024<i-x):(kC b n k).reverse.foldl (fR b i) s=pre.foldl (fR b i) s:=by
 have hs:(pre++x::rest).Pairwise (· >·):=by
  rw[←h,List.pairwise_reverse]
  exact ur b n k
 rw[h,List.foldl_append]
 refine kf _ _ _ fun y hy t=> ?_
 have h1:=(List.pairwise_cons.1 (List.pairwise_append.1 hs).2.1).1
 unfold fR
 rw[if_pos]
 rcases List.mem_cons.1 hy with rfl|hy
 ·exact hx
 ·have:=h1 y hy
  omega
theorem uC{b:List UInt8}{i:Nat}(hi:i≤b.length)(h:b.length<i+4):aW b i=(0,0):=by
 unfold aW cp
 refine kf _ _ _ fun d hd t=> ?_
 unfold gF
 rw[if_neg]
 intro q
 have:=AY (i-d) hi
 omega
theorem rj(b:List UInt8)(i:Nat)(hi:i≤b.length):∀k,k≤i→(cp b i k=(0,0))∨(4≤(cp b i k).1∧(cp b i k).1≤131∧1≤(cp b i k).2∧(cp b i k).2≤k∧i+(cp b i k).1≤b.length∧(cp b i k).1=mi b i (i-(cp b i k).2))
 |0,_=>.inl rfl
 |k+1,hk=>by
  rw[dJ]
  unfold gF
  split
  ·rename_i h
   exact .inr ⟨by show 4≤mi _ _ _;omega,E9 _ _ _,by show 1≤k+1;omega,Nat.le_refl _,AY _ hi,rfl⟩
  ·rcases rj b i hi k (by omega)with h|h
   ·exact .inl h
   ·exact .inr ⟨h.1,h.2.1,h.2.2.1,by omega,h.2.2.2.2.1,h.2.2.2.2.2⟩
theorem lF{b:List UInt8}{i:Nat}(hi:i≤b.length):(aW b i=(0,0))∨(4≤(aW b i).1∧(aW b i).1≤131∧1≤(aW b i).2∧(aW b i).2≤min i 1024∧i+(aW b i).1≤b.length∧(aW b i).1=mi b i (i-(aW b i).2)):=rj b i hi _ (by omega)
def ey(l:List UInt8):List UInt8:=if h:l=[]then []else UInt8.ofNat (min l.length 128-1)::l.take 128++ey (l.drop 128)
termination_by l.length
decreasing_by
 have:=List.length_pos_iff.2 h
 rw[List.length_drop]
 omega
theorem np:ey []=[]:=by rw[ey];rfl
theorem lg{l:List UInt8}(h:l≠ []):ey l=UInt8.ofNat (min l.length 128-1)::l.take 128++ey (l.drop 128):=by rw[ey,dif_neg h]
theorem fz(l:List UInt8):(ey l).length≤2*l.length:=by
 by_cases h:l=[]
 ·subst h;rw[np];simp
 ·have hp:=List.length_pos_iff.2 h
  have hd:(l.drop 128).length=l.length-128:=List.length_drop
  have:=fz (l.drop 128)
  rw[lg h]
  simp only[List.length_append,List.length_cons,List.length_take]
  omega
termination_by l.length
decreasing_by
 rw[List.length_drop]
 have:=List.length_pos_iff.2 h
 omega
def gk(m:Nat×Nat):List UInt8:=[UInt8.ofNat (124+m.1),UInt8.ofNat (m.2-1),UInt8.ofNat ((m.2-1)/256)]
def gJ(b:List UInt8)(i:Nat)(own out:List UInt8):List UInt8:=
 if h:i<b.length then
  if h0:(aW b i).1=0 then gJ b (i+1) (own++[b.getD i 0]) out
  else gJ b (i+(aW b i).1) [] (out++ey own++gk (aW b i))
 else out++ey own
termination_by b.length-i
def eD(b:List UInt8):List UInt8:=gJ b 0 [] []
theorem ln{b own out:List UInt8}{i:Nat}(h:¬i<b.length):gJ b i own out=out++ey own:=by rw[gJ,dif_neg h]
theorem ly{b own out:List UInt8}{i:Nat}(h:i<b.length)(h0:(aW b i).1=0):gJ b i own out=gJ b (i+1) (own++[b.getD i 0]) out:=by rw[gJ,dif_pos h,dif_pos h0]
theorem iZ{b own out:List UInt8}{i:Nat}(h:i<b.length)(h0:(aW b i).1≠0):gJ b i own out=gJ b (i+(aW b i).1) [] (out++ey own++gk (aW b i)):=by rw[gJ,dif_pos h,dif_neg h0]
theorem jU:∀(b:List UInt8) (i:Nat) (own out:List UInt8),i≤b.length→out.length+2*own.length≤2*i→(gJ b i own out).length≤2*b.length
 |b,i,own,out,hi,h=>by
  by_cases hlt:i<b.length
  ·by_cases h0:(aW b i).1=0
   ·rw[ly hlt h0]
    exact jU b (i+1) _ _ (by omega) (by simp;omega)
   ·rw[iZ hlt h0]
    rcases lF hi with hm|hm
    ·rw[hm]at h0;exact absurd rfl h0
    ·have:=fz own
     exact jU b _ _ _ (by omega) (by simp[gk];omega)
  ·rw[ln hlt,List.length_append]
   have:=fz own
   omega
termination_by b i=>b.length-i
theorem mC(b:List UInt8):(eD b).length≤2*b.length:=jU b 0 [] [] (Nat.zero_le _) (by simp)
theorem BQ{k:Nat}{l r:List UInt8}(hk:k<128)(hl:l.length=k+1):cK (UInt8.ofNat k::(l++r))=(k+2,k+1,0,true):=by
 have e:(UInt8.ofNat k).toNat=k:=by rw[UInt8.toNat_ofNat',Nat.mod_eq_of_lt (by omega)]
 unfold cK
 rw[List.getD_cons_zero,e,if_pos hk]
 simp only[List.length_cons,List.length_append,hl]
 congr 3
 exact decide_eq_true (by omega)
theorem pZ{most:Int}(l r o:List UInt8)(hm:(o.length:Int)+l.length≤most):jM most (ey l++r) o=jM most r (o++l):=by
 by_cases h:l=[]
 ·subst h;rw[np];simp
 ·have hp:=List.length_pos_iff.2 h
  have hk:min l.length 128-1<128:=by omega
  have htl:(l.take 128).length=(min l.length 128-1)+1:=by rw[List.length_take];omega
  have hsp:l.take 128++l.drop 128=l:=List.take_append_drop 128 l
  have hlen:l.length=(l.take 128).length+(l.drop 128).length:=by rw[←List.length_append,hsp]
  rw[lg h,List.append_assoc,List.cons_append]
  have ht:=BQ (r:=ey (l.drop 128)++r) hk htl
  rw[nU (by simp) (by rw[ht]) (by rw[ht];exact Nat.zero_le _) (by rw[ht];simp only;omega)]
  have hmd:made (UInt8.ofNat (min l.length 128-1)::(l.take 128++(ey (l.drop 128)++r))) o=o++l.take 128:=by
   unfold made
   rw[ht,if_pos rfl]
   simp only[List.drop_succ_cons,List.drop_zero]
   rw[List.take_append_of_le_length (by omega),List.take_of_length_le (by omega)]
  rw[hmd,ht]
  have hdr:(UInt8.ofNat (min l.length 128-1)::(l.take 128++(ey (l.drop 128)++r))).drop (min l.length 128-1+2)=ey (l.drop 128)++r:=by
   rw[show min l.length 128-1+2=(l.take 128).length+1 by omega,List.drop_succ_cons,List.drop_left]
  simp only
  rw[hdr,pZ (l.drop 128) r (o++l.take 128) (by rw[List.length_append];omega),List.append_assoc,hsp]
termination_by l.length
decreasing_by
 rw[List.length_drop]
 have:=List.length_pos_iff.2 h
 omega
theorem oE{b:List UInt8}{i d:Nat}(hd:1≤d)(hdi:d≤i):∀(n k:Nat),i+k+n≤b.length→(∀j,k≤j→j<k+n→b.getD (i+j) 0=b.getD (i-d+j) 0)→again d n (b.take (i+k))=b.take (i+k+n)
 |0,k,_,_=>rfl
 |n+1,k,hb,h=>by
  have hl:(b.take (i+k)).length=i+k:=by rw[List.length_take];omega
  rw[again,hl]
  have e:(b.take (i+k)).getD (i+k-d) 0=b.getD (i+k) 0:=by
   rw[h k (Nat.le_refl _) (by omega)]
   rw[List.getD_eq_getElem?_getD,List.getElem?_take,if_pos (by omega),←List.getD_eq_getElem?_getD]
   congr 1
   omega
  rw[e]
  have e2:b.take (i+k)++[b.getD (i+k) 0]=b.take (i+(k+1)):=by
   rw[show i+(k+1)=(i+k)+1 by omega,eU (by omega)]
  rw[e2,oE hd hdi n (k+1) (by omega) (fun j h1 h2=>h j (by omega) (by omega))]
  congr 1
  omega
theorem xk{m:Nat×Nat}{r:List UInt8}(h1:4≤m.1)(h2:m.1≤131)(h3:1≤m.2)(h4:m.2≤1024):cK (gk m++r)=(3,m.1,m.2,true):=by
 have e0:(UInt8.ofNat (124+m.1)).toNat=124+m.1:=by rw[UInt8.toNat_ofNat',Nat.mod_eq_of_lt (by omega)]
 have e1:(UInt8.ofNat (m.2-1)).toNat=(m.2-1) % 256:=UInt8.toNat_ofNat'
 have e2:(UInt8.ofNat ((m.2-1)/256)).toNat=(m.2-1)/256:=by rw[UInt8.toNat_ofNat',Nat.mod_eq_of_lt (by omega)]
 unfold cK gk
 simp only[List.cons_append,List.nil_append,List.getD_cons_zero,List.getD_cons_succ,List.length_cons,e0,e1,e2]
 rw[if_neg (by omega),if_neg (by omega)]
 simp only[Prod.mk.injEq,true_and,and_true]
 omega
theorem nT{most:Int}:∀(b:List UInt8) (i:Nat) (own out o:List UInt8),(b.length:Int)≤most→i≤b.length→o++own=b.take i→(∀r,jM most (out++r) []=jM most r o)→jM most (gJ b i own out) []=(b,0)
 |b,i,own,out,o,hm,hi,hown,hout=>by
  have hol:o.length+own.length=i:=by
   have:=congrArg List.length hown
   rw[List.length_append,List.length_take]at this
   omega
  by_cases hlt:i<b.length
  ·by_cases h0:(aW b i).1=0
   ·rw[ly hlt h0]
    refine nT b (i+1) _ _ o hm (by omega) ?_ hout
    rw[←List.append_assoc,hown,eU hlt]
   ·rw[iZ hlt h0]
    rcases lF hi with hk|⟨m1,m2,m3,m4,m5,m6⟩
    ·rw[hk]at h0;exact absurd rfl h0
    ·have hd1:(aW b i).2≤i:=by omega
     have hd2:(aW b i).2≤1024:=by omega
     refine nT b _ _ _ (b.take (i+(aW b i).1)) hm m5 (by simp) fun r=> ?_
     rw[List.append_assoc,List.append_assoc,hout,pZ _ _ _ (by omega),hown]
     have ht:=xk (r:=r) m1 m2 m3 hd2
     have hl:(b.take i).length=i:=by rw[List.length_take];omega
     rw[nU (by simp[gk]) (by rw[ht]) (by rw[ht,hl];exact hd1) (by rw[ht,hl];simp only;omega)]
     rw[ht]
     have hdr:(gk (aW b i)++r).drop 3=r:=rfl
     simp only
     rw[hdr]
     congr 1
     unfold made
     rw[ht,if_neg (by simp only;omega)]
     have:=oE (b:=b) (i:=i) m3 hd1 (aW b i).1 0 (by omega) (fun j _ hj=>qa (by omega))
     exact this
  ·rw[ln hlt,hout]
   have:=pZ (most:=most) own [] o (by omega)
   rw[List.append_nil]at this
   rw[this,oU,hown,List.take_of_length_le (by omega)]
termination_by b i=>b.length-i
theorem xV{b:List UInt8}{most:Int}(h:(b.length:Int)≤most):jM most (eD b) []=(b,0):=nT b 0 [] [] [] h (Nat.zero_le _) rfl (fun r=>rfl)
end Go.Hx
end
section
namespace Go.Hx
open Go.Eng
def vn(b:List UInt8):Bool:=decide ((eD b).length<b.length)
def iz(b:List UInt8):List UInt8:=if vn b then eD b else b
def bE(b:List UInt8):List UInt8:=[76,if vn b then 1 else 0]++gy b.length++iz b++gy (cQ b)
theorem sy(b:List UInt8):(iz b).length≤b.length:=by
 unfold iz vn
 split
 ·rename_i h;have:=of_decide_eq_true h;omega
 ·exact Nat.le_refl _
theorem j5(b:List UInt8):(bE b).length=(iz b).length+10:=by simp[bE,fl];omega
theorem kK(b:List UInt8):10≤(bE b).length∧(bE b).length≤b.length+10:=by
 have:=sy b
 rw[j5]
 omega
def gR(f:List UInt8):Option Nat:=if f.length<10∨f.getD 0 0≠76∨1<(f.getD 1 0).toNat then none else some (k0 (f.drop 2))
def dA(f:List UInt8):List UInt8:=(f.drop 6).take (f.length-10)
def vh(f:List UInt8)(n:Nat):List UInt8×Int:=if f.getD 1 0=1 then jM n (dA f) []else(dA f,0)
def fU(f:List UInt8)(n:Nat):List UInt8×Int:=
 if(vh f n).2≠0 then([],2)else if(vh f n).1.length≠n then([],2)else if gy (cQ (vh f n).1)≠f.drop (f.length-4)then([],7)else((vh f n).1,0)
def cZ(f:List UInt8)(most:Int):List UInt8×Int:=
 match gR f with
 |none=>([],2)
 |some n=>if most<n then([],3)else fU f n
theorem qp{most:Int}:∀(l o:List UInt8),(o.length:Int)≤most→(((jM most l o).1.length:Int)≤most∨(jM most l o).1=[])∧((jM most l o).2=0∨(jM most l o).2=2∨(jM most l o).2=3)∧((jM most l o).2≠0→(jM most l o).1=[])
 |l,o,hm=>by
  by_cases h0:l=[]
  ·subst h0;rw[oU];exact⟨.inl hm,.inl rfl,fun h=>absurd rfl h⟩
  ·by_cases h1:(cK l).2.2.2=true∧(cK l).2.2.1≤o.length
   ·by_cases h2:most<(o.length:Int)+((cK l).2.1:Nat)
    ·rw[o6 h0 h1.1 h1.2 h2];exact⟨.inr rfl,.inr (.inr rfl),fun _=>rfl⟩
    ·rw[nU h0 h1.1 h1.2 h2]
     exact qp _ _ (by rw[oJ h1.1];omega)
   ·rw[lC h0 h1];exact⟨.inr rfl,.inr (.inl rfl),fun _=>rfl⟩
termination_by l=>l.length
decreasing_by
 obtain⟨h2,h3⟩:=lv h1.1
 rw[List.length_drop]
 omega
theorem AT{f:List UInt8}{n:Nat}(h:(fU f n).2=0):(fU f n).1.length=n:=by
 unfold fU at h ⊢
 split at h
 ·cases h
 ·rename_i h1
  rw[if_neg h1]
  split at h
  ·cases h
  ·rename_i h2
   rw[if_neg h2]
   split at h
   ·cases h
   ·rename_i h3
    rw[if_neg h3]
    exact Decidable.not_not.1 h2
theorem yi{f:List UInt8}{n:Nat}(h:(fU f n).2≠0):(fU f n).1=[]:=by
 unfold fU at h ⊢
 split at h
 ·rename_i h1;rw[if_pos h1]
 ·rename_i h1
  rw[if_neg h1]
  split at h
  ·rename_i h2;rw[if_pos h2]
  ·rename_i h2
   rw[if_neg h2]
   split at h
   ·rename_i h3;rw[if_pos h3]
   ·exact absurd rfl h
theorem xP{f:List UInt8}{most:Int}(h:(cZ f most).2≠0):(cZ f most).1=[]:=by
 unfold cZ at h ⊢
 split at h
 ·rfl
 ·rename_i n hn
  split at h
  ·rename_i h1;rw[if_pos h1]
  ·rename_i h1;rw[if_neg h1];exact yi h
theorem yP{f:List UInt8}{most:Int}(h:(cZ f most).2=0):((cZ f most).1.length:Int)≤most:=by
 unfold cZ at h ⊢
 split at h
 ·cases h
 ·rename_i n hn
  split at h
  ·cases h
  ·rename_i h1;rw[if_neg h1,AT h];omega
theorem rk{f:List UInt8}{most:Int}(hm:0≤most):((cZ f most).1.length:Int)≤most:=by
 by_cases h:(cZ f most).2=0
 ·exact yP h
 ·rw[xP h];simpa using hm
theorem l7(b:List UInt8):(bE b).getD 0 0=76∧(bE b).getD 1 0=(if vn b then 1 else 0)∧(bE b).drop 2=gy b.length++(iz b++gy (cQ b))∧dA (bE b)=iz b∧(bE b).drop ((bE b).length-4)=gy (cQ b):=by
 refine⟨by simp[bE],by simp[bE],by simp[bE], ?_, ?_⟩
 ·unfold dA
  have h6:(bE b).drop 6=iz b++gy (cQ b):=by simp[bE,gy]
  rw[h6,j5,Nat.add_sub_cancel]
  exact List.take_left
 ·rw[j5]
  have:bE b=([76,if vn b then 1 else 0]++gy b.length++iz b)++gy (cQ b):=rfl
  rw[this,List.drop_append_of_le_length (by simp[fl];omega),List.drop_of_length_le (by simp[fl];omega)]
  rfl
theorem xi{b:List UInt8}(h:b.length<4294967296):gR (bE b)=some b.length:=by
 obtain⟨h0,h1,h2,_,_⟩:=l7 b
 have hl:=kK b
 unfold gR
 rw[if_neg,h2]
 ·congr 1
  have:k0 (gy b.length++(iz b++gy (cQ b)))=k0 (gy b.length):=by simp[k0,gy]
  rw[this,zz h]
 ·rw[h0,h1]
  rintro(q|q|q)
  ·omega
  ·exact q rfl
  ·cases hp:vn b <;> rw[hp]at q <;> exact absurd q (by decide)
theorem AR(b:List UInt8):vh (bE b) b.length=(b,0):=by
 obtain⟨_,h1,_,h3,_⟩:=l7 b
 unfold vh
 rw[h1,h3]
 cases hp:vn b with
 |true=>
  rw[if_pos rfl]
  unfold iz
  rw[hp,if_pos rfl]
  exact xV (Int.le_refl _)
 |false=>
  rw[if_neg (by decide)]
  unfold iz
  rw[hp]
  rfl
theorem xr{b:List UInt8}{most:Int}(h:b.length<4294967296)(hm:(b.length:Int)≤most):cZ (bE b) most=(b,0):=by
 unfold cZ
 rw[xi h]
 simp only
 rw[if_neg (by omega)]
 unfold fU
 rw[AR,(l7 b).2.2.2.2,if_neg (by simp),if_neg (by simp),if_neg (by simp)]
end Go.Hx
end
section
namespace Go.Proofs.YtmibdabdlgmafaaGreatDoor
open Go.Eng Go.Hx
def aE(nm:List UInt8):List UInt8:=[99,47]++(b4 nm).take 2++[47]++b4 nm
def bN(nm:List UInt8):List UInt8:=[116,47]++b4 nm
theorem dX{nm:List UInt8}(h:nm.length=32):(aE nm).length=69:=by simp[aE,dI,h]
theorem jl{nm:List UInt8}(h:nm.length=32):(bN nm).length=66:=by simp[bN,dI,h]
theorem iO{nm:List UInt8}(h:nm.length=32):(aE nm).drop 5=b4 nm:=by
 have h2:((b4 nm).take 2).length=2:=by rw[List.length_take,dI,h];rfl
 unfold aE
 rw[List.drop_append_of_le_length (by simp[h2]),List.drop_of_length_le (by simp[h2])]
 rfl
theorem fW{a b:List UInt8}(ha:a.length=32)(hb:b.length=32)(h:aE a=aE b):a=b:=by
 have:=congrArg (List.drop 5) h
 rw[iO ha,iO hb]at this
 exact zy this
def RD.yk(d:RD)(nm:List UInt8):List UInt8×Int:=cZ (d.cz (aE nm)) 4096
def RD.eZ(d:RD)(nm:List UInt8):Int:=if d.ct (aE nm)≠0 then d.ct (aE nm)else if(d.yk nm).2≠0∨bc (d.yk nm).1≠nm then 7 else 0
def RD.py(d:RD)(nm:List UInt8):List UInt8:=if d.eZ nm=0 then(d.yk nm).1 else []
theorem jr{d:RD}{nm:List UInt8}(h:d.ct (aE nm)≠0):d.eZ nm=d.ct (aE nm):=by unfold RD.eZ;rw[if_pos h]
theorem ni{d:RD}{nm:List UInt8}(h:d.ct (aE nm)=0)(h2:(d.yk nm).2≠0∨bc (d.yk nm).1≠nm):d.eZ nm=7:=by unfold RD.eZ;rw[if_neg (fun q=>q h),if_pos h2]
theorem sP{d:RD}{nm:List UInt8}(h:d.ct (aE nm)=0)(h2:¬((d.yk nm).2≠0∨bc (d.yk nm).1≠nm)):d.eZ nm=0:=by unfold RD.eZ;rw[if_neg (fun q=>q h),if_neg h2]
theorem lp{d:RD}{nm:List UInt8}(h:d.eZ nm≠0):d.py nm=[]:=by unfold RD.py;rw[if_neg h]
theorem sA{d:RD}{nm:List UInt8}(h:d.eZ nm=0):d.py nm=(d.yk nm).1:=by unfold RD.py;rw[if_pos h]
def bZ:List (RD→RD×Int)→RD→RD×Int
 | [],d=>(d,0)
 |f::r,d=>if(f d).2≠0 then f d else bZ r (f d).1
def sd(p b:List UInt8)(d:RD):RD×Int:=(d.write p b,d.bH p b)
def cq(d:RD):RD×Int:=(d.sync,d.c7)
def rV(a c:List UInt8)(d:RD):RD×Int:=(d.rename a c,d.bU a c)
def kN(p:List UInt8)(d:RD):RD×Int:=(d.remove p,d.ct p)
def dZ:List UInt8:=List.replicate 32 0
def RD.iF(d:RD)(b:List UInt8):RD×Int:=bZ [sd (bN (bc b)) (bE b),cq,rV (bN (bc b)) (aE (bc b)),cq] d
def RD.put(d:RD)(b:List UInt8):RD×List UInt8×Int:=
 if 4096<b.length then(d,dZ,3)
 else if d.eZ (bc b)=6 then(d,dZ,6)
 else if d.eZ (bc b)=0 then(d,bc b,0)
 else((d.iF b).1,if(d.iF b).2=0 then bc b else dZ,(d.iF b).2)
end Go.Proofs.YtmibdabdlgmafaaGreatDoor
end
section
set_option maxRecDepth 20000
set_option maxHeartbeats 2000000
namespace Go.Proofs.YtmibdabdlgmafaaGreatDoor
open Go.Eng Go.Hx
theorem iW{a b:List UInt8}(h:a.length+b.length≤1000000):(strOf a).size+(strOf b).size≤9223372036854775807:=by rw[di,di];omega
theorem sr{nm:List UInt8}(hm:nm.length=32):cj Tryz.prog 94 [.agg (aR nm).toArray] [] [] (fun v_ X_ S_=>v_=(.string (strOf (aE nm)))∧X_=[]∧S_=[]):=by
 have hhl:(b4 nm).length=64:=by rw[dI,hm]
 have h2:((b4 nm).take 2).length=2:=by rw[List.length_take,hhl];rfl
 refine aQ (N:=12) Tryz.func94 rfl rfl (by simp) fun b=> ?_
 refine ah<|aj<| ?_
 refine hx (cI rfl (fun g1=> ?_))
 refine aT (fun w m=>m.bQ 0 rfl (show _=aL g1 53 (aR nm)from congrArg (aL _ _) (bA _))) ?_
 refine hy (fun _=>ab rfl)<|ai<|ak (X' :=[_]) (S' :=[]) (fun _ m=>m)<|ag<|ah<|aj<|hy (fun m=>a6 rfl cx bo (by rw[ay];exact hm) ((m.aZ 0 rfl).az))<| ?_
 refine hx (aq rfl Tryz.call104 (AG hm) [] rfl [] rfl ?_)
 rintro _ _ _ ⟨rfl,rfl,rfl⟩
 refine hy (fun _=>ab rfl)<|ai<|al (ρ' :=[(3,_),(2,_),(1,_),(0,_)]) ⟨rfl,rfl,rfl,rfl,trivial⟩<|ak (X' :=[_]) (S' :=[]) (fun _ m=>m)<|ag<|ah<|aj<|hy (fun _=>aa rfl)<|hy (fun _=>yV (sC rfl rfl Tryz.underlying9 (show((2:Nat):Int)=2 from rfl) (show 2≤(b4 nm).length by omega)) ((rfl:_=Value.string (strOf ((b4 nm).take 2)))))<|hy (fun _=>yV (ji rfl rfl (iW (a:=[99,47]) (b:=(b4 nm).take 2) (by simp[h2]))) ((show Value.string (strOf [99,47]++strOf ((b4 nm).take 2))= .string (strOf ([99,47]++(b4 nm).take 2))from congrArg Value.string (dp _ _))))<|hy (fun _=>yV (ji rfl rfl (iW (a:=[99,47]++(b4 nm).take 2) (b:=[47]) (by simp[h2]))) ((show Value.string (strOf ([99,47]++(b4 nm).take 2)++strOf [47])= .string (strOf ([99,47]++(b4 nm).take 2++[47]))from congrArg Value.string (dp _ _))))<|hy (fun _=>aa rfl)<|hy (fun _=>yV (ji rfl rfl (iW (a:=[99,47]++(b4 nm).take 2++[47]) (b:=b4 nm) (by simp[h2,hhl]))) ((show Value.string (strOf ([99,47]++(b4 nm).take 2++[47])++strOf (b4 nm))= .string (strOf (aE nm))from congrArg Value.string (dp _ _))))<|hy (fun _=>ab rfl)<|ai<|al (ρ' :=[(2,_),(3,_),(1,_),(0,_)]) ⟨rfl,rfl,rfl,rfl,trivial⟩<|ag<|aX<| ?_
 exact bf trivial rfl rfl [] rfl [] rfl ⟨rfl,rfl,rfl⟩
theorem r5{nm:List UInt8}(hm:nm.length=32):cj Tryz.prog 29 [.agg (aR nm).toArray] [] [] (fun v_ X_ S_=>v_=(.string (strOf (aE nm)))∧X_=[]∧S_=[]):=by
 have hhl:(b4 nm).length=64:=by rw[dI,hm]
 have h2:((b4 nm).take 2).length=2:=by rw[List.length_take,hhl];rfl
 refine aQ (N:=12) Tryz.func29 rfl rfl (by simp) fun b=> ?_
 refine ah<|aj<| ?_
 refine hx (cI rfl (fun g1=> ?_))
 refine aT (fun w m=>m.bQ 0 rfl (show _=aL g1 53 (aR nm)from congrArg (aL _ _) (bA _))) ?_
 refine hy (fun _=>ab rfl)<|ai<|ak (X' :=[_]) (S' :=[]) (fun _ m=>m)<|ag<|ah<|aj<|hy (fun m=>a6 rfl cx bo (by rw[ay];exact hm) ((m.aZ 0 rfl).az))<| ?_
 refine hx (aq rfl Tryz.call111 (w0 hm) [] rfl [] rfl ?_)
 rintro _ _ _ ⟨rfl,rfl,rfl⟩
 refine hy (fun _=>ab rfl)<|ai<|al (ρ' :=[(3,_),(2,_),(1,_),(0,_)]) ⟨rfl,rfl,rfl,rfl,trivial⟩<|ak (X' :=[_]) (S' :=[]) (fun _ m=>m)<|ag<|ah<|aj<|hy (fun _=>aa rfl)<|hy (fun _=>yV (sC rfl rfl Tryz.underlying9 (show((2:Nat):Int)=2 from rfl) (show 2≤(b4 nm).length by omega)) ((rfl:_=Value.string (strOf ((b4 nm).take 2)))))<|hy (fun _=>yV (ji rfl rfl (iW (a:=[99,47]) (b:=(b4 nm).take 2) (by simp[h2]))) ((show Value.string (strOf [99,47]++strOf ((b4 nm).take 2))= .string (strOf ([99,47]++(b4 nm).take 2))from congrArg Value.string (dp _ _))))<|hy (fun _=>yV (ji rfl rfl (iW (a:=[99,47]++(b4 nm).take 2) (b:=[47]) (by simp[h2]))) ((show Value.string (strOf ([99,47]++(b4 nm).take 2)++strOf [47])= .string (strOf ([99,47]++(b4 nm).take 2++[47]))from congrArg Value.string (dp _ _))))<|hy (fun _=>aa rfl)<|hy (fun _=>yV (ji rfl rfl (iW (a:=[99,47]++(b4 nm).take 2++[47]) (b:=b4 nm) (by simp[h2,hhl]))) ((show Value.string (strOf ([99,47]++(b4 nm).take 2++[47])++strOf (b4 nm))= .string (strOf (aE nm))from congrArg Value.string (dp _ _))))<|hy (fun _=>ab rfl)<|ai<|al (ρ' :=[(2,_),(3,_),(1,_),(0,_)]) ⟨rfl,rfl,rfl,rfl,trivial⟩<|ag<|aX<| ?_
 exact bf trivial rfl rfl [] rfl [] rfl ⟨rfl,rfl,rfl⟩
end Go.Proofs.YtmibdabdlgmafaaGreatDoor
end
section
set_option maxRecDepth 20000
namespace Go.Proofs.YtmibdabdlgmafaaGreatDoor
open Go.Eng Go.Hx
theorem DR{g:Nat}{st:cA}{d:RD}{kk:Nat}{p:List UInt8}(hD:DS st d kk):cj Tryz.prog 90 [.pointer (some ⟨g,0,none⟩),.string (strOf p)] [bj g st] [] (fun v_ X_ S_=>∃v,v_=(.tuple #[v,.int .i64 (d.ct p)])∧X_=[bj g st,aG 5 1 v (d.cz p).length (aR (d.cz p))]∧S_=[]):=by
 rw[hD.ct,hD.cz]
 exact Fi hD.ok.sm
theorem vX{g:Nat}{st:cA}{d:RD}{kk:Nat}{p:List UInt8}{A:Option Addr}{n c:Nat}{l:List UInt8}(hD:DS st d kk)(hkk:kk≤99000)(hl:l.length=n)(hn:n≤1048576):cj Tryz.prog 33 [.pointer (some ⟨g,0,none⟩),.string (strOf p),.slice A n c] [bj g st] [cV 1 A n (aR l)] (fun v_ X_ S_=>∃st1,v_=(.int .i64 (d.bH p l))∧X_=[bj g st1]∧S_=[]∧(DS st1 (d.write p l) (kk+1))):=by
 exact cj.mono (Ed hD.ok (by omega) hn) (fun v X S h=>by
  obtain⟨st1,B,c1,A1,c2,h1,h2,h3,hw⟩:=h
  have hW:=hD.write hl hn hw
  exact⟨st1,by rw[hW.2];exact h1,h2,h3,hW.1⟩)
theorem u6{g:Nat}{st:cA}{d:RD}{kk:Nat}(hD:DS st d kk):cj Tryz.prog 110 [.pointer (some ⟨g,0,none⟩)] [bj g st] [] (fun v_ X_ S_=>∃st1,v_=(.int .i64 d.c7)∧X_=[bj g st1]∧S_=[]∧(DS st1 d.sync kk)):=by
 exact cj.mono (Fy hD.ok) (fun v X S h=>by
  obtain⟨st1,gl,h1,h2,h3,hw⟩:=h
  have hW:=hD.sync hw
  exact⟨st1,by rw[hW.2];exact h1,h2,h3,hW.1⟩)
theorem AX{g:Nat}{st:cA}{d:RD}{kk:Nat}{a c:List UInt8}(hD:DS st d kk)(hkk:kk≤99000):cj Tryz.prog 108 [.pointer (some ⟨g,0,none⟩),.string (strOf a),.string (strOf c)] [bj g st] [] (fun v_ X_ S_=>∃st1,v_=(.int .i64 (d.bU a c))∧X_=[bj g st1]∧S_=[]∧(DS st1 (d.rename a c) (kk+1))):=by
 exact cj.mono (Cg hD.ok (by omega)) (fun v X S h=>by
  obtain⟨st1,A,j,h1,h2,h3,hw⟩:=h
  have hW:=hD.rename hw
  exact⟨st1,by rw[hW.2];exact h1,h2,h3,hW.1⟩)
theorem DS.vB{st:cA}{d:RD}{kk:Nat}(h:DS st d kk)(p:List UInt8):(d.cz p).length≤1048576:=by
 rw[h.cz]
 by_cases he:dM st p=0
 ·obtain⟨r,hr⟩:=tL he
  rw[tg he hr]
  have h1:=h.ok.small r (List.mem_append_left _ (List.mem_append_left _ (List.mem_map.2 ⟨_,iG hr,rfl⟩)))
  have h2:r.n=r.l.length:=h.lU.files.len _ (iG hr)
  omega
 ·rw[tb he];exact Nat.zero_le _
end Go.Proofs.YtmibdabdlgmafaaGreatDoor
end
section
set_option maxRecDepth 20000
namespace Go.Proofs.YtmibdabdlgmafaaGreatDoor
open Go.Eng Go.Hx
theorem Rd.part{w:World}{a:Addr}{n k m:Nat}{B:List UInt8}(h:Rd w 1 (some a) n (aR B)):∀(j:Nat) (u:Value),(aR ((B.drop k).take m))[j]? =some u→w.cell? ((a.add k).add j)=some u:=by
 intro j u hu
 rw[add_add]
 refine h.cell ?_
 unfold aR at hu ⊢
 rw[List.getElem?_map,List.getElem?_take]at hu
 rw[List.getElem?_map]
 split at hu
 ·rw[List.getElem?_drop]at hu;exact hu
 ·simp at hu
end Go.Proofs.YtmibdabdlgmafaaGreatDoor
end
