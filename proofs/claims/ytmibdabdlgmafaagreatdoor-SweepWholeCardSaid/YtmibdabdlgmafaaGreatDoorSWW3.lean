/- Part. -/
import Derived.Test.YtmibdabdlgmafaaGreatDoorSWW2
import Derived.ProofKit
import Derived.OpenShut
import Derived.ShutString
import Derived.ChangeOld
import Derived.SizedLaws
import Derived.ChangeSame
import Derived.Laws.BitsAllLaws
import Derived.OrdersIn
import Derived.RangeFuncNested
import Derived.RangeFuncLeaves
import Derived.RangeFuncCalls
set_option linter.all false
section
set_option maxRecDepth 20000
namespace Go.Proofs.YtmibdabdlgmafaaGreatDoor
open Go.Eng Go.Hx
theorem sh{st:cG}{p:List UInt8}{r:fu}(h:b4 st.seen p=some r):r∈rowsOf st:=by
 unfold rowsOf
 refine List.mem_append_left _ (List.mem_append_left _ ?_)
 exact List.mem_map.2 ⟨_,jb h,rfl⟩
def cm(st:cG)(p:List UInt8):List UInt8:=if dF st p=0 then((b4 st.seen p).map (·.l)).getD []else []
theorem th{st:cG}{p:List UInt8}(h:dF st p≠0):cm st p=[]:=by rw[cm,if_neg h]
theorem sY{st:cG}{p:List UInt8}{r:fu}(h:dF st p=0)(hr:b4 st.seen p=some r):cm st p=r.l:=by rw[cm,if_pos h,hr];rfl
theorem tC{st:cG}{p:List UInt8}(h:dF st p=0):∃r,b4 st.seen p=some r:=by
 unfold dF at h
 split at h
 ·omega
 ·split at h
  ·omega
  ·rename_i h2
   cases hq:b4 st.seen p with
   |none=>exact absurd hq h2
   |some r=>exact⟨r,rfl⟩
def Small(st:cG):Prop:=∀r∈rowsOf st,r.n≤1000000000
theorem EF{g:Nat}{st:cG}{p:List UInt8}(hs:Small st):cf Tryz.prog 90 [.pointer (some ⟨g,0,none⟩),.string (strOf p)] [bn g st] [] (fun v_ X_ S_=>∃v,v_=(.tuple #[v,.int .i64 (dF st p)])∧X_=[bn g st,aG 5 1 v (cm st p).length (aQ (cm st p))]∧S_=[]):=by
 refine aP (N:=20) Tryz.func90 rfl rfl (by simp) fun b=> ?_
 refine ah<|aj<|hy (fun _=>ab rfl)<|hy (fun _=>ab rfl)<|ai<|ag<|ah<|ah<|aj<|hy (fun _=>aa rfl)<|hy (fun _=>aa rfl)<| ?_
 refine hx (aq rfl Tryz.call158 (ux) [0] rfl [] rfl ?_)
 rintro _ _ _ ⟨rfl,rfl,rfl⟩
 refine hy (fun _=>ab rfl)<|ai<|al (ρ' :=[(6,_),(5,_),(4,_),(0,_),(1,_)]) ⟨rfl,rfl,rfl,rfl,rfl,trivial⟩<|ak (X' :=[_]) (S' :=[]) (fun _ m=>m)<|ag<|ah<|aj<|hy (fun _=>aa rfl)<|hy (fun _=>dN rfl rfl)<|ai<|al (ρ' :=[(11,_),(6,_),(5,_),(4,_),(0,_),(1,_)]) ⟨rfl,rfl,rfl,rfl,rfl,rfl,trivial⟩<|ag<| ?_
 refine cD rfl (fun h=> ?_) (fun h=> ?_)
 ·rw[th h]
  refine ah<|aj<|hy (fun _=>aa rfl)<|hy (fun _=>ab rfl)<|hy (fun _=>ab rfl)<|ai<|al (ρ' :=[(5,_),(4,_),(11,_),(6,_),(0,_),(1,_)]) ⟨rfl,rfl,rfl,rfl,rfl,rfl,trivial⟩<|ag<|aU<|ax<| ?_
  refine ak (fun w m=>m.dx (r' :=aG 5 1 (.slice none 0 0) 0 []) (.refl _ _) (Own.nil _ _ _ _) (fun k hk=>hk.elim)) ?_
  exact dg trivial rfl rfl rfl [1,0] rfl [] rfl ⟨_,rfl,rfl,rfl⟩
 ·have h0:=Decidable.not_not.1 h
  obtain⟨r,hr⟩:=tC h0
  have hv:b4 (dK st.seen) p=some r.val:=by rw[mq,hr];rfl
  rw[sY h0 hr,h0]
  have hmem:=sh hr
  obtain⟨i,hi⟩:=List.mem_iff_getElem?.1 hmem
  have hsm:=hs r hmem
  refine bB (fun w m=>(m.perm (ar [0] _ [_] _ rfl)).unpack) ?_
  refine aZ (fun m=>gz ((View.ok (View.row hi)).1 _ (m.GF 4 rfl))) fun hrl=> ?_
  have hrl:=hrl.1
  refine aD<|ag<|ah<|aj<|hy (fun _=>aa rfl)<|hy (fun _=>bh rfl)<|hy (fun _=>aL rfl gH (by decide))<|hy (fun m=>aw rfl mf (aA (m.aY 0 rfl) rfl))<|hy (fun _=>aa rfl)<|hy (fun m=>yV (jV (enc:=SV) rfl rfl Tryz.underlying174 sk (jB Tryz.underlying9) (m.pM 1 rfl)) ((show gE false (.slice none 0 0) (b4 (dK st.seen) p)= .slice r.A r.n r.c by rw[hv];rfl)))<| ?_
  refine hx (cC rfl Tryz.call117 (r5 (by omega)) [] rfl (.x 4 rfl (View.row hi) .nil) ?_)
  rintro _ _ _ ⟨v,rfl,rfl,rfl⟩
  refine⟨rfl, ?_⟩
  refine aB (fun m=>(m.own 0 rfl).slice) ?_
  rintro⟨A_x,c_x,rfl,hc_x⟩
  refine aB (fun m=>(m.ord 0 rfl).2.1) fun hA_x=> ?_
  refine hy (fun _=>ab rfl)<|hy (fun _=>ab rfl)<|ai<|al (ρ' :=[(5,_),(4,_),(11,_),(6,_),(0,_),(1,_)]) ⟨rfl,rfl,rfl,rfl,rfl,rfl,trivial⟩<|ak (X' :=[_,_,_,_,_,_]) (S' :=[]) (fun _ m=>m)<|ag<|aU<| ?_
  refine ak (X' :=bn g st::_) (fun w m=>(m.perm (ar [1,1,1,1,1] _ [_,_,_,_,_] _ rfl)).pack) ?_
  exact dg trivial rfl rfl rfl [0,0] rfl [] rfl ⟨_,rfl,(by rw[hrl]),rfl⟩
theorem Da{g:Nat}{l:List (List UInt8×Value)}{p:List UInt8}{r:fu}:cf Tryz.prog 153 [.agg [SV p,r.val].toArray,.map (some g)] [c5 SV g l] [] (fun v_ X_ S_=>v_=(.tuple #[])∧X_=[c5 SV g (cL l p r.val)]∧S_=[]):=by
 refine aP (N:=9) Tryz.func153 rfl rfl (by simp) fun b=> ?_
 refine ah<|aj<| ?_
 refine hx (cy rfl (fun g2=> ?_))
 refine ai<|ak (X' :=[_,_]) (S' :=[]) (fun _ m=>m)<|ag<|aj<|hy (fun _=>aa rfl)<|hy (fun _=>aL rfl BT (by decide))<|hy (fun m=>aw rfl lL (aA (m.aY 0 rfl) rfl))<|hy (fun _=>aL rfl B4 (by decide))<|hy (fun m=>aw rfl dX (aA (m.aY 0 rfl) rfl))<| ?_
 refine cI (oW (enc:=SV) 1 rfl rfl rfl rfl Tryz.underlying174 (jB Tryz.underlying9) ?_)
 refine ai<|al (ρ' :=[(2,_),(0,_),(1,_)]) ⟨rfl,rfl,rfl,trivial⟩<|ak (X' :=[_,_]) (S' :=[]) (fun _ m=>m)<| ?_
 exact fD trivial rfl [0] rfl [] rfl ⟨rfl,rfl,rfl⟩
theorem nh{l:dB}{p:List UInt8}{r x:fu}(h:x∈(cL l p r).map (·.2)):x∈l.map (·.2)∨x=r:=by
 induction l with
 |nil=>simp only[cL,List.map_cons,List.map_nil,List.mem_singleton]at h;exact .inr h
 |cons a q ih=>
  obtain⟨k,u⟩:=a
  simp only[cL]at h
  split at h
  ·simp only[List.map_cons,List.mem_cons]at h ⊢
   rcases h with rfl|h
   ·exact .inr rfl
   ·exact .inl (.inr h)
  ·simp only[List.map_cons,List.mem_cons]at h ⊢
   rcases h with rfl|h
   ·exact .inl (.inl rfl)
   ·rcases ih h with h|h
    ·exact .inl (.inr h)
    ·exact .inr h
def cG.wrote(st:cG)(p:List UInt8)(r:fu)(A:Option Addr)(c:Nat):cG:={st.ez with seen:=cL st.seen p r,waits:=st.waits++[.written p r],wA:=A,wc:=c}
theorem oY{st:cG}{p:List UInt8}{r:fu}{A:Option Addr}{c:Nat}:∀x∈rowsOf (st.wrote p r A c),x∈rowsOf st∨x=r:=by
 intro x hx
 unfold rowsOf cG.wrote at hx
 simp only[cG.ez,List.mem_append,List.filterMap_append]at hx
 unfold rowsOf
 simp only[List.mem_append]
 rcases hx with(h|h)|h|h
 ·rcases nh h with h|h
  ·exact .inl (.inl (.inl h))
  ·exact .inr h
 ·exact .inl (.inl (.inr h))
 ·exact .inl (.inr h)
 ·simp[fS.row]at h
  exact .inr h
theorem Gz{g:Nat}{st:cG}{p:List UInt8}{r:fu}{e:TypeId}(hp:st.cj≤1000000000000)(hw:st.waits.length≤1000000):cf Tryz.prog 116 [.pointer (some ⟨g,0,none⟩),(fS.written p r).val] [bn g st,aG e 1 (.slice r.A r.n r.c) r.n (aQ r.l)] [] (fun v_ X_ S_=>∃A c,v_=(.tuple #[])∧X_=[bn g (st.wrote p r A c)]∧S_=[]):=by
 have hsw:st.ez.waits.length=st.waits.length:=rfl
 refine aP (N:=25) Tryz.func116 rfl rfl (by simp) fun b=> ?_
 refine ah<|aj<|hy (fun _=>aa rfl)<| ?_
 refine hx (aq rfl Tryz.call181 (ry (by omega)) [0] rfl [] rfl ?_)
 rintro _ _ _ ⟨rfl,rfl,rfl⟩
 refine aR (fun w m=>(m.perm (ar [0] _ [_] _ rfl)).unpack) ?_
 refine ai<|al (ρ' :=[(0,_),(1,_)]) ⟨rfl,rfl,trivial⟩<|ak (X' :=[_,_,_,_,_,_]) (S' :=[]) (fun _ m=>m)<|ag<|ah<|cN [8] [(0,some 0),(1,some 0),(2,some 0),(3,some 0),(4,some 0),(5,some 0),(6,some 0),(7,some 0),(8,none)] (by kernel_rfl) (by kernel_rfl) rfl 0<|an (aa rfl)<|an (aa rfl)<|an (bh rfl)<|an (aL rfl gH (by decide))<|b6 (fun m=>aw rfl mf (aA (m.aY 0 rfl) rfl))<|an (j3 rfl rfl)<|an (ub rfl (by kernel_rfl))<|an (aa rfl)<| ?_
 refine dT (u4 rfl rfl (fun w=>by kernel_rfl) Tryz.call153 (Da) [1] rfl [] rfl ?_)
 rintro _ _ _ ⟨rfl,rfl,rfl⟩
 refine⟨(fun h=>absurd h (by decide)), ?_⟩
 refine bz<|al (ρ' :=[(0,_),(1,_)]) ⟨rfl,rfl,trivial⟩<|ak (X' :=[_,_,_,_,_,_]) (S' :=[]) (fun _ m=>m)<|ag<|aj<|hy (fun _=>aa rfl)<|hy (fun _=>aa rfl)<|hy (fun _=>bh rfl)<|hy (fun _=>aL rfl jI (by decide))<|hy (fun m=>aw rfl y8 (aA (m.aY 1 rfl) rfl))<|hy (fun _=>aa rfl)<| ?_
 refine hx (bV Tryz.underlying175 qN rfl rfl rfl (by simp[Value.cells,fS.val]) (by decide) (by decide) (fun g21=> ?_))
 have hA_b21:0<1→(some (⟨g21,0,none⟩:Addr))≠none:=fun _ h=>by cases h
 refine aR (fun w m=>m.bO 0 rfl (show _=aG 232 1 (.slice (some ⟨g21,0,none⟩) 1 1) 1 [(fS.written p r).val]from rfl)) ?_
 refine hx (bH 4 rfl rfl rfl Tryz.underlying175 Tryz.underlying175 (by exact .inl rfl) qN rfl (fun m=>Src.bY (m.ord 0 rfl)) (by simp[fS.val,Value.oneCell']) (by unfold maxLen;omega) (by omega) (fun u=> ?_))
 refine aB (fun m=>(m.own 0 rfl).slice) ?_
 rintro⟨A_d3,c_d3,rfl,hc_d3⟩
 refine aB (fun m=>(m.ord 0 rfl).2.1) fun hA_d3=> ?_
 refine hy (fun _=>bh rfl)<|hy (fun _=>aL rfl jI (by decide))<| ?_
 refine cI (cz 3 rfl rfl rfl vh rfl (by first|exact Nat.le_of_ble_eq_true rfl|simp) ?_)
 refine ai<|al (ρ' :=[(0,_),(1,_)]) ⟨rfl,rfl,trivial⟩<|ak (X' :=[_,_,_,_,_,_,_]) (S' :=[]) (fun _ m=>m)<| ?_
 refine ak (fun w m=>m.bO 0 rfl (show _=aI g 177 (jS (st.wrote p r A_d3 c_d3))from by simp[jS,cG.wrote,cG.ez])) ?_
 refine ak (fun w m=>m.bO 3 rfl (show _=c5 SV st.gs (dK (st.wrote p r A_d3 c_d3).seen)from congrArg (c5 SV st.gs) (oO _ _ _))) ?_
 refine ak (fun w m=>m.bO 2 rfl (show _=aG 232 1 (.slice A_d3 (st.wrote p r A_d3 c_d3).waits.length c_d3) (st.wrote p r A_d3 c_d3).waits.length ((st.wrote p r A_d3 c_d3).waits.map fS.val)from by simp[cG.wrote,cG.ez])) ?_
 refine ak (X' :=im (rowsOf (st.wrote p r A_d3 c_d3))::_) (fun w m=>(m.perm (ar [5,5] _ [_,_] _ rfl)).Dt (oY)) ?_
 refine ak (X' :=bn g (st.wrote p r A_d3 c_d3)::_) (fun w m=>(m.perm (ar [3,2,3,1,0] _ [_,_,_,_,_] _ rfl)).pack) ?_
 exact fD trivial rfl [0] rfl [] rfl ⟨_,_,rfl,rfl,rfl⟩
def bE(st:cG)(p:List UInt8)(n:Nat):Int:=if¬fB p then 1 else if st.cj=0 then 6 else if st.room<(lO st.seen:Int)-(((b4 st.seen p).map (·.n)).getD 0:Nat)+n then 5 else 0
theorem yf:∀{l:dB} {m:Nat},(∀x∈l,x.2.n≤m)→lO l≤l.length*m
 | [],m,h=>by simp[lO]
 |a::q,m,h=>by
  have:=yf (l:=q) (m:=m) (fun x hx=>h x (List.mem_cons_of_mem _ hx))
  have h1:=h a (List.mem_cons_self ..)
  simp only[lO,List.map_cons,List.sum_cons,List.length_cons,Nat.add_mul]at this ⊢
  omega
structure nY(st:cG)(k:Nat):Prop where
 cj:st.cj≤1000000000000
 room:st.room≤1048576
 seen:st.seen.length≤k
 rest:st.ct.length+st.waits.length≤k
 small:∀r∈rowsOf st,r.n≤1048576
theorem nY.le{st:cG}{k k' :Nat}(h:nY st k)(hk:k≤k'):nY st k' :=⟨h.cj,h.room,Nat.le_trans h.seen hk,Nat.le_trans h.rest hk,h.small⟩
theorem nY.lO{st:cG}{k:Nat}(h:nY st k):lO st.seen≤k*1048576:=Nat.le_trans (yf (m:=1048576) (fun x hx=>h.small _ (by unfold rowsOf;exact List.mem_append_left _ (List.mem_append_left _ (List.mem_map.2 ⟨x,hx,rfl⟩))))) (Nat.mul_le_mul_right _ h.seen)
theorem nY.sm{st:cG}{k:Nat}(h:nY st k):Small st:=fun r hr=>Nat.le_trans (h.small r hr) (by decide)
theorem nY.init{n:Int}{gs gl:Nat}(h:n≤1048576):nY (lW n gs gl) 0:=⟨by simp[lW],h,Nat.le_refl _,Nat.le_refl _,fun r hr=>by simp[rowsOf,lW]at hr⟩
theorem oG(l:dB)(p:List UInt8)(r:fu):(cL l p r).length≤l.length+1:=by
 induction l with
 |nil=>simp[cL]
 |cons a q ih=>
  obtain⟨k,u⟩:=a
  simp only[cL]
  split <;> simp only[List.length_cons] <;> omega
theorem sf(l:dB)(p:List UInt8):(eu l p).length≤l.length:=by
 induction l with
 |nil=>simp[eu]
 |cons a q ih=>
  obtain⟨k,u⟩:=a
  simp only[eu]
  split <;> simp only[List.length_cons] <;> omega
theorem kb{st:cG}(h:st.cj≤1000000000000):st.ez.cj≤1000000000000:=by
 simp only[cG.ez]
 split <;> omega
theorem nY.wrote{st:cG}{k:Nat}(h:nY st k){p:List UInt8}{r:fu}(hr:r.n≤1048576)(A:Option Addr)(c:Nat):nY (st.wrote p r A c) (k+1):=by
 refine⟨kb h.cj,h.room, ?_, ?_,fun x hx=> ?_⟩
 ·have:=oG st.seen p r
  have:=h.seen
  show(cL st.seen p r).length≤k+1
  omega
 ·have:=h.rest
  show st.ct.length+(st.waits++[fS.written p r]).length≤k+1
  simp only[List.length_append,List.length_cons,List.length_nil]
  omega
 ·rcases oY x hx with h' |rfl
  ·exact h.small x h'
  ·exact hr
theorem Ey{g:Nat}{st:cG}{p:List UInt8}{A:Option Addr}{n c:Nat}{l:List UInt8}{k:Nat}(ok:nY st k)(hk:k≤100000)(hn:n≤1048576):cf Tryz.prog 33 [.pointer (some ⟨g,0,none⟩),.string (strOf p),.slice A n c] [bn g st] [c6 1 A n (aQ l)] (fun v_ X_ S_=>∃st1 B c1 A1 c2,v_=(.int .i64 (bE st p n))∧X_=[bn g st1]∧S_=[]∧((bE st p n≠0∧st1=st)∨(bE st p n=0∧st1=st.wrote p ⟨B,n,c1,l⟩ A1 c2))):=by
 have hp:=ok.cj
 have hw:st.waits.length≤1000000:=by have:=ok.rest;omega
 have ht:lO st.seen≤1000000000000:=by have:=ok.lO;omega
 have hs:=ok.sm
 refine aP (N:=41) Tryz.func33 rfl rfl (by simp) fun b=> ?_
 refine aZ (fun m=>gz (m.rd 0 rfl)) ?_
 rintro⟨hl_r,hA_r⟩
 refine ah<|aj<|hy (fun _=>ab rfl)<|ai<|ag<|ah<|aK<|ah<|aj<|hy (fun _=>aa rfl)<| ?_
 refine hx (aq rfl Tryz.call115 (yu) [] rfl [] rfl ?_)
 rintro _ _ _ ⟨rfl,rfl,rfl⟩
 refine hy (fun _=>iI rfl)<|hy (fun _=>ab rfl)<|ai<|al (ρ' :=[(7,_),(6,_),(0,_),(1,_),(2,_)]) ⟨rfl,rfl,rfl,rfl,rfl,trivial⟩<|ak (X' :=[_]) (S' :=[_]) (fun _ m=>m)<|ag<| ?_
 refine cD rfl (fun h1=> ?_) (fun h1=> ?_)
 ·have e:bE st p n=1:=by rw[bE,if_pos h1]
  rw[e]
  refine ah<|aj<|hy (fun _=>ab rfl)<|ai<|ag<|aU<|aW<|ax<| ?_
  exact bc trivial rfl rfl [0] rfl [] rfl ⟨_,none,0,none,0,rfl,rfl,rfl,.inl ⟨by decide,rfl⟩⟩
 ·refine ah<|aj<|hy (fun _=>aa rfl)<| ?_
  refine hx (aq rfl Tryz.call87 (FW) [0] rfl [] rfl ?_)
  rintro _ _ _ ⟨rfl,rfl,rfl⟩
  refine hy (fun _=>iI rfl)<|hy (fun _=>ab rfl)<|ai<|al (ρ' :=[(11,_),(7,_),(6,_),(0,_),(1,_),(2,_)]) ⟨rfl,rfl,rfl,rfl,rfl,rfl,trivial⟩<|ak (X' :=[_]) (S' :=[_]) (fun _ m=>m)<|ag<| ?_
  refine cD rfl (fun h2=> ?_) (fun h2=> ?_)
  ·have e:bE st p n=6:=by rw[bE,if_neg h1,if_pos (by omega)]
   rw[e]
   refine ah<|aj<|hy (fun _=>ab rfl)<|ai<|ag<|aU<|aW<|ax<| ?_
   exact bc trivial rfl rfl [0] rfl [] rfl ⟨_,none,0,none,0,rfl,rfl,rfl,.inl ⟨by decide,rfl⟩⟩
  ·have hwe:bE st p n=if st.room<(lO st.seen:Int)-(((b4 st.seen p).map (·.n)).getD 0:Nat)+n then 5 else 0:=by rw[bE,if_neg h1,if_neg (by omega)]
   have hv:∃B m c0,gE false (.slice none 0 0) (b4 (dK st.seen) p)= .slice B m c0∧m=((b4 st.seen p).map (·.n)).getD 0∧m≤1000000000:=by
    rw[mq]
    cases hq:b4 st.seen p with
    |none=>exact⟨none,0,0,rfl,rfl,by decide⟩
    |some r=>exact⟨r.A,r.n,r.c,rfl,rfl,hs r (sh hq)⟩
   obtain⟨B,m,c0,hv1,hv2,hv3⟩:=hv
   rw[←hv2]at hwe
   refine ah<|cN [1] [(0,some 0),(2,some 1),(3,some 1),(4,some 1),(5,some 1),(6,some 1),(7,some 1),(8,some 1),(10,some 1),(11,some 1),(13,some 1),(14,some 1),(15,some 1),(16,some 1),(1,none),(9,some 1),(12,some 1),(17,some 1),(18,some 1)] (by kernel_rfl) (by kernel_rfl) rfl 99<|an (aa rfl)<|an (aa rfl)<|an (bh rfl)<|an (aL rfl gH (by decide))<|b6 (fun m=>aw rfl mf (aA (show fb _ _ _ _ from m.FX 0 rfl 0 rfl) rfl))<|an (aa rfl)<|b6 (fun m=>yV (jV (enc:=SV) rfl rfl Tryz.underlying174 sk (jB Tryz.underlying9) (show fY _ _ _ _ from m.FX 0 rfl 1 rfl)) (hv1))<|an (aX rfl Tryz.underlying27)<|an (aa rfl)<|an (aX rfl Tryz.underlying27)<|an (aa rfl)<|an (bh rfl)<|an (aL rfl Bx (by decide))<|b6 (fun m=>aw rfl fE (aA (show fb _ _ _ _ from m.FX 0 rfl 0 rfl) rfl))<| ?_
   refine dT (aq rfl Tryz.call88 (EY (by omega)) [0] rfl [] rfl ?_)
   rintro _ _ _ ⟨rfl,rfl,rfl⟩
   refine⟨(fun _=>wk [0] [0] rfl rfl), ?_⟩
   refine an (ck rfl rfl (bD (by omega) (by omega)))<|an (aM rfl rfl (bD (by omega) (by omega)))<|an (cR rfl rfl)<|an (ab rfl)<|bz<|al (ρ' :=[(15,_),(11,_),(7,_),(6,_),(0,_),(1,_),(2,_)]) ⟨rfl,rfl,rfl,rfl,rfl,rfl,rfl,trivial⟩<|ak (X' :=[_]) (S' :=[_]) (fun _ m=>m)<|ag<| ?_
   refine cD rfl (fun h3=> ?_) (fun h3=> ?_)
   ·rw[if_pos (by omega)]at hwe
    rw[hwe]
    refine ah<|aj<|hy (fun _=>ab rfl)<|ai<|ag<|aU<|aW<|ax<| ?_
    exact bc trivial rfl rfl [0] rfl [] rfl ⟨_,none,0,none,0,rfl,rfl,rfl,.inl ⟨by decide,rfl⟩⟩
   ·rw[if_neg (by omega)]at hwe
    rw[hwe]
    refine aD<|aT<|ag<|ah<|aj<|hy (fun _=>aa rfl)<|hy (fun _=>aa rfl)<|hy (fun _=>aa rfl)<| ?_
    refine hx (aq rfl Tryz.call117 (r5 (by omega)) [] rfl [0] rfl ?_)
    rintro _ _ _ ⟨v,rfl,rfl,rfl⟩
    refine aB (fun m=>(m.own 0 rfl).slice) ?_
    rintro⟨A_x,c_x,rfl,hc_x⟩
    refine aB (fun m=>(m.ord 0 rfl).2.1) fun hA_x=> ?_
    refine hy (fun _=>yV (cn ER rfl rfl (by kernel_rfl) (.cons (o:=0) (sz:=1) (by kernel_rfl) rfl rfl (Nat.le_of_ble_eq_true rfl) (.cons (o:=1) (sz:=1) (by kernel_rfl) rfl rfl (Nat.le_of_ble_eq_true rfl) .nil))) ((rfl:_=Value.agg [SV p,Value.slice A_x n c_x].toArray)))<|hy (fun _=>ke rfl Tryz.underlying189 (fun _ h=>by cases h))<| ?_
    refine hx (aq rfl Tryz.call116 (Gz (by omega) (by omega) (r:=⟨A_x,n,c_x,l⟩)) [1,0] rfl [] rfl ?_)
    rintro _ _ _ ⟨A2,c2,rfl,rfl,rfl⟩
    refine ai<|al (ρ' :=[(15,_),(11,_),(7,_),(6,_),(0,_),(1,_),(2,_)]) ⟨rfl,rfl,rfl,rfl,rfl,rfl,rfl,trivial⟩<|ak (X' :=[_]) (S' :=[_]) (fun _ m=>m)<|ag<|ah<|aj<|hy (fun _=>ab rfl)<|ai<|ag<|aU<| ?_
    exact bc trivial rfl rfl [0] rfl [] rfl ⟨_,_,_,_,_,rfl,rfl,rfl,.inr ⟨rfl,rfl⟩⟩
theorem Az{g:Nat}{l:List (List UInt8×Value)}:cf Tryz.prog 154 [.map (some g)] [c5 SV g l] [] (fun v_ X_ S_=>∃g1,v_=(.map (some g1))∧X_=[c5 SV g l,c5 SV g1 l]∧S_=[]):=by
 refine aP (N:=9) Tryz.func154 rfl rfl (by simp) fun b=> ?_
 refine ah<|aj<|hy (fun _=>ab rfl)<|ai<|ag<|ah<|ah<|aj<|hy (fun _=>aa rfl)<|hy (fun _=>CY rfl rfl Tryz.underlying174)<|ai<|al (ρ' :=[(4,_),(2,_),(0,_)]) ⟨rfl,rfl,rfl,trivial⟩<|ag<| ?_
 refine dP rfl (rfl) ?_
 refine aD<|ag<|ah<|aj<|hy (fun _=>aa rfl)<|hy (fun _=>ke rfl Tryz.underlying174 (fun _ h=>by cases h))<| ?_
 refine hx (xE 0 rfl rfl Tryz.func209 (by kernel_rfl) (by kernel_rfl) (by kernel_rfl) (by kernel_rfl) (fun g1=> ?_))
 refine hy (fun _=>qW rfl (show _=Result.ok (Value.map (some g1)) _ by kernel_rfl))<|hy (fun _=>ab rfl)<|ai<|al (ρ' :=[(2,_),(4,_),(0,_)]) ⟨rfl,rfl,rfl,trivial⟩<|ak (X' :=[_,_]) (S' :=[]) (fun _ m=>m)<|ag<|aU<| ?_
 exact bc trivial rfl rfl [1,0] rfl [] rfl ⟨_,rfl,rfl,rfl⟩
def cG.synced(st:cG)(gl:Nat):cG:={st.ez with gl:=gl,ct:=st.seen,waits:=[],wA:=none,wc:=0}
def cT(st:cG):Int:=if st.cj=0 then 6 else 0
theorem nP{st:cG}{gl:Nat}:∀x∈rowsOf (st.synced gl),x∈rowsOf st:=by
 intro x hx
 unfold rowsOf cG.synced at hx
 simp only[cG.ez,List.filterMap_nil,List.append_nil,List.mem_append,or_self]at hx
 unfold rowsOf
 exact List.mem_append_left _ (List.mem_append_left _ hx)
theorem nY.synced{st:cG}{k:Nat}(h:nY st k)(gl:Nat):nY (st.synced gl) k:=
 ⟨kb h.cj,h.room,h.seen,by show st.seen.length+0≤k;have:=h.seen;omega,fun x hx=>h.small x (nP x hx)⟩
theorem E1{g:Nat}{st:cG}{k:Nat}(ok:nY st k):cf Tryz.prog 110 [.pointer (some ⟨g,0,none⟩)] [bn g st] [] (fun v_ X_ S_=>∃st1 gl,v_=(.int .i64 (cT st))∧X_=[bn g st1]∧S_=[]∧((st.cj=0∧st1=st)∨(st.cj≠0∧st1=st.synced gl))):=by
 refine aP (N:=19) Tryz.func110 rfl rfl (by simp) fun b=> ?_
 refine ah<|aj<|hy (fun _=>ab rfl)<|ai<|ag<|ah<|ah<|aj<|hy (fun _=>aa rfl)<| ?_
 refine hx (aq rfl Tryz.call87 (FW) [0] rfl [] rfl ?_)
 rintro _ _ _ ⟨rfl,rfl,rfl⟩
 refine hy (fun _=>iI rfl)<|ai<|al (ρ' :=[(5,_),(2,_),(0,_)]) ⟨rfl,rfl,rfl,trivial⟩<|ak (X' :=[_]) (S' :=[]) (fun _ m=>m)<|ag<| ?_
 refine cD rfl (fun h1=> ?_) (fun h1=> ?_)
 ·have h0:st.cj=0:=Decidable.not_not.1 h1
  have e:cT st=6:=by rw[cT,if_pos h0]
  rw[e]
  refine ah<|aj<|hy (fun _=>ab rfl)<|ai<|ag<|aU<|ax<| ?_
  exact bc trivial rfl rfl [0] rfl [] rfl ⟨_,0,rfl,rfl,rfl,.inl ⟨h0,rfl⟩⟩
 ·have h0:st.cj≠0:=fun e=>h1 (fun h=>h e)
  have e:cT st=0:=by rw[cT,if_neg h0]
  rw[e]
  have hp:=ok.cj
  refine aD<|ag<|ah<|aj<|hy (fun _=>aa rfl)<| ?_
  refine hx (aq rfl Tryz.call181 (ry (by omega)) [0] rfl [] rfl ?_)
  rintro _ _ _ ⟨rfl,rfl,rfl⟩
  refine aR (fun w m=>(m.perm (ar [0] _ [_] _ rfl)).unpack) ?_
  refine ai<|al (ρ' :=[(5,_),(2,_),(0,_)]) ⟨rfl,rfl,rfl,trivial⟩<|ak (X' :=[_,_,_,_,_]) (S' :=[]) (fun _ m=>m)<|ag<|ah<|aj<|hy (fun _=>aa rfl)<|hy (fun _=>aa rfl)<|hy (fun _=>aa rfl)<|hy (fun _=>bh rfl)<|hy (fun _=>aL rfl gH (by decide))<|hy (fun m=>aw rfl mf (aA (m.aY 0 rfl) rfl))<| ?_
  refine hx (aq rfl Tryz.call154 (Az) [1] rfl [] rfl ?_)
  rintro _ _ _ ⟨g1,rfl,rfl,rfl⟩
  refine hy (fun _=>bh rfl)<|hy (fun _=>aL rfl AH (by decide))<| ?_
  refine cI (cz 2 rfl rfl rfl FD rfl (by first|exact Nat.le_of_ble_eq_true rfl|simp) ?_)
  refine hy (fun _=>bh rfl)<|hy (fun _=>aL rfl jI (by decide))<| ?_
  refine cI (cz 0 rfl rfl rfl vh rfl (by first|exact Nat.le_of_ble_eq_true rfl|simp) ?_)
  refine ai<|al (ρ' :=[(5,_),(2,_),(0,_)]) ⟨rfl,rfl,rfl,trivial⟩<|ak (X' :=[_,_,_,_,_,_]) (S' :=[]) (fun _ m=>m)<|ag<|ah<|aj<|hy (fun _=>ab rfl)<|ai<|ag<|aU<| ?_
  refine ak (fun w m=>m.dx (r' :=aG 232 1 (.slice none 0 0) 0 []) (.refl _ _) (Own.nil _ _ _ _) (fun k hk=>hk.elim)) ?_
  refine ak (fun w m=>Mem.Ah (X:=[_]) (m.perm (ar [4] _ [_] _ rfl))) ?_
  refine ak (fun w m=>Mem.Ah (X:=[_]) (m.perm (ar [4] _ [_] _ rfl))) ?_
  refine ak (fun w m=>m.bO 1 rfl (show _=aI g 177 (jS (st.synced g1))from rfl)) ?_
  refine ak (X' :=im (rowsOf (st.synced g1))::_) (fun w m=>(m.perm (ar [4] _ [_] _ rfl)).uD (nP)) ?_
  refine ak (X' :=bn g (st.synced g1)::_) (fun w m=>(m.perm (ar [1,2,2,1,0] _ [_,_,_,_,_] _ rfl)).pack) ?_
  exact bc trivial rfl rfl [0] rfl [] rfl ⟨_,_,rfl,rfl,rfl,.inr ⟨h0,rfl⟩⟩
end Go.Proofs.YtmibdabdlgmafaaGreatDoor
end
section
namespace Go.Eng
open Go.RowKit Go.ChangeShapes Go.WideShapes
theorem pZ{zs:List Int}(h:∀n∈zs,(Lit.int .u8 n).wf=true):zs.map (Value.int .u8)=aQ (zs.map fun n=>UInt8.ofNat n.toNat):=by
 rw[aQ,List.map_map]
 apply List.map_congr_left
 intro n hn
 have:=bounds_u8 (h n hn)
 simp only[B8,Function.comp]
 have e:(UInt8.ofNat n.toNat).toNat=n.toNat:=by
  rw[UInt8.toNat_ofNat']
  exact Nat.mod_eq_of_lt (by omega)
 rw[e]
 congr 1
 omega
theorem uf{W:World}{x:Addr}{len cap:Nat}{zs:List Int}(hl:len≤cap)(hz:zs.length=cap)(hcell:∀i,i<zs.length→W.cell? (x.add i)=some (.int .u8 (zs.getD i 0)))(hw:∀n∈zs,(Lit.int .u8 n).wf=true):
  Rd W 1 (some x) len (aQ ((zs.take len).map fun n=>UInt8.ofNat n.toNat)):=by
 rw[←pZ (fun n hn=>hw n (List.mem_of_mem_take hn))]
 refine⟨by simp;omega,fun _ e=>(by cases e),fun j u hu=> ?_⟩
 have hj:=(List.getElem?_eq_some_iff.1 hu).1
 simp at hj
 have hc:=hcell j (by omega)
 rw[List.getElem?_map,List.getElem?_take,if_pos (by omega)]at hu
 rw[List.getD,List.getElem?_eq_getElem (by omega)]at hc
 rw[List.getElem?_eq_getElem (by omega)]at hu
 simp at hu hc
 rw[Option.getD_some,hc,←hu]
theorem uM{H:Type}{enc:TypeId×Value→H}{P:Program}{W:World}{t e:TypeId}{A:Option Addr}{len cap:Nat}{d:DataW H}{ps:List MemPlace}{spare:Nat→Bool}{held:Bool}
  (hu:P.underlying t=some (.slice e)) (he:P.underlying e=some (.int .u8)) (hc:P.cellsOf e=1) (h:DataW.Trod enc P W 0 spare held t (.slice A len cap) d ps):len≤cap∧∃l,Rd W 1 A len (aQ l):=by
 obtain⟨fuel,hf⟩:=h
 rcases open_ints hu he hc hf with⟨hcs,_⟩|⟨x,l,c,zs,hcs,_,hl,hm,hz,_,hcell,hwz⟩
 ·simp[Value.cells]at hcs
  obtain⟨rfl,rfl,rfl⟩:=hcs
  exact⟨Nat.le_refl _,[],Rd.nil _ _ _⟩
 ·simp[Value.cells]at hcs
  obtain⟨rfl,rfl,rfl⟩:=hcs
  refine⟨hl,_,uf (cap:=zs.length) (by rw[hz];split <;> omega) rfl hcell hwz⟩
theorem sN{H:Type}{enc:TypeId×Value→H}{P:Program}{W:World}{base:Nat}{spare:Nat→Bool}{held:Bool}{t e:TypeId}{k:IntKind}{a:Option Addr}{len cap:Nat}{d:DataW H}{ps:List MemPlace}{ts:List TypeId}{ds:List (DataW H)}{j:Nat}
  (hsz:(DataW.weightsEach P ts ds).all (· ≤reachBytes)=true) (ht:ts[j]? =some t) (hd:ds[j]? =some d) (hu:P.underlying t=some (.slice e)) (he:P.underlying e=some (.int k)) (hc:P.cellsOf e=1) (hB:P.bytesOf e=1)
  (h:DataW.Trod enc P W base spare held t (.slice a len cap) d ps):len≤140737488351232:=by
 obtain⟨fuel,hf⟩:=h
 rcases open_ints hu he hc hf with⟨hcs,_⟩|⟨x,l,c,zs,hcs,_,hl,_,hz,hx,_,_⟩
 ·simp[Value.cells]at hcs
  obtain⟨rfl,rfl,rfl⟩:=hcs
  simp
 ·simp[Value.cells]at hcs
  obtain⟨rfl,rfl,rfl⟩:=hcs
  obtain⟨hx,_⟩:=Prod.mk.inj hx
  subst hx
  have z:=sized_slice hsz ht hd hu
  rw[hB,Nat.mul_one]at z
  have hl2:len≤zs.length:=by rw[hz];split <;> omega
  have h1:(lits (H:=H) k (zs.take len)).length+(lits (H:=H) k (zs.drop len)).length=zs.length:=by
   simp[lits]
   omega
  rw[h1]at z
  exact Nat.le_trans hl2 z
end Go.Eng
end
section
namespace Go.Eng
open Go.RowKit Go.ChangeShapes Go.WideShapes
inductive Cell
 |v (x:Value)
 |s (sz:Nat) (A:Option Addr) (n c:Nat) (xs:List Cell)
def Cell.val:Cell→Value
 | .v x=>x
 | .s _ A n c _=>.slice A n c
mutual
def Cell.cZ:Cell→Nat→Prop
 | .v _=>fun _=>False
 | .s _ A _ _ xs=>fun k=>(xs≠ []∧∃a,A=some a∧k=a.block)∨vV xs k
def vV:List Cell→Nat→Prop
 | []=>fun _=>False
 |x::r=>fun k=>x.cZ k∨vV r k
end
mutual
def Cell.holds(w:World):Cell→Prop
 | .v _=>True
 | .s sz A n c xs=>Rd w sz A n (xs.map Cell.val)∧n≤c∧ig w xs
def ig(w:World):List Cell→Prop
 | []=>True
 |x::r=>x.holds w∧ig w r
end
theorem fN{w:World}:∀{xs:List Cell},ig w xs↔∀x∈xs,x.holds w
 | []=>by simp[ig]
 |x::r=>by simp only[ig,fN (xs:=r),List.mem_cons,forall_eq_or_imp]
mutual
theorem Cell.hO{S:Nat→Prop}{w w' :World}(f:Fr S w w'):∀(c:Cell),(∀k,c.cZ k→¬S k)→c.holds w→c.holds w'
 | .v _,_,_=>trivial
 | .s sz A n c xs,h,hh=>by
  obtain⟨h1,h2,h3⟩:=hh
  refine⟨Rd.hO h1 f (fun k hk=>h k ?_),h2,Cr f xs (fun k hk=>h k (.inr hk)) h3⟩
  obtain⟨hne,a,ha,hk⟩:=hk
  exact .inl ⟨fun e=>hne (by rw[e];rfl),a,ha,hk⟩
theorem Cr{S:Nat→Prop}{w w' :World}(f:Fr S w w'):∀(xs:List Cell),(∀k,vV xs k→¬S k)→ig w xs→ig w' xs
 | [],_,_=>trivial
 |x::r,h,hh=>⟨Cell.hO f x (fun k hk=>h k (.inl hk)) hh.1,Cr f r (fun k hk=>h k (.inr hk)) hh.2⟩
end
mutual
theorem Cell.low{w:World}:∀(c:Cell) {k:Nat},c.holds w→c.cZ k→k<w.heap.size
 | .v _,_,_,h=>h.elim
 | .s sz A n c xs,k,hh,hk=>by
  obtain⟨h1,h2,h3⟩:=hh
  rcases hk with⟨hne,a,ha,hk⟩|hk
  ·exact(c6 sz A n (xs.map Cell.val)).low h1 ⟨fun e=>hne (List.map_eq_nil_iff.1 e),a,ha,hk⟩
  ·exact Fj xs h3 hk
theorem Fj{w:World}:∀(xs:List Cell) {k:Nat},ig w xs→vV xs k→k<w.heap.size
 | [],_,_,h=>h.elim
 |x::r,k,hh,hk=>by
  rcases hk with hk|hk
  ·exact Cell.low x hh.1 hk
  ·exact Fj r hh.2 hk
end
def qD(c:Cell):bg:=⟨c.cZ,fun w=>c.holds w,fun f h x=>c.hO f h x,fun x hk=>c.low x hk⟩
theorem View.Gi{sz n c:Nat}{A:Option Addr}{xs:List Cell}:View (qD (.s sz A n c xs)) (c6 sz A n (xs.map Cell.val)):=
 .of (fun w h=>h.1) (fun k hk=>by
  obtain⟨hne,a,ha,hk⟩:=hk
  exact .inl ⟨fun e=>hne (by rw[e];rfl),a,ha,hk⟩)
inductive Ty(P:Program):TypeId→List Cell→Prop
 |int {t:TypeId} {k:IntKind} {z:Int} (ht:P.underlying t=some (.int k)) (hw:(Lit.int k z).wf=true):Ty P t [.v (.int k z)]
 |bool {t:TypeId} {b:Bool} (ht:P.underlying t=some .bool):Ty P t [.v (.bool b)]
 |str {t:TypeId} {s:List UInt8} (ht:P.underlying t=some .string) (hs:s.length≤140737488351232):Ty P t [.v (.string (strOf s))]
 |slice {t e:TypeId} {A:Option Addr} {n c:Nat} {xs:List Cell} (ht:P.underlying t=some (.slice e)) (hc:n≤c) (hn:n*P.bytesOf e≤140737488351232) (hl:xs.length=n*P.cellsOf e)
   (h:∀i,i<n→Ty P e ((xs.drop (i*P.cellsOf e)).take (P.cellsOf e))):Ty P t [.s (P.cellsOf e) A n c xs]
 |arr {t e:TypeId} {n:Nat} {xs:List Cell} (ht:P.underlying t=some (.array n e)) (hl:xs.length=P.cellsOf t) (h:∀i,i<n→Ty P e ((xs.drop (i*P.cellsOf e)).take (P.cellsOf e))):Ty P t xs
 |struct {t:TypeId} {fs:Array Field} {xs:List Cell} (ht:P.underlying t=some (.struct fs)) (hl:xs.length=P.cellsOf t) (h:∀(i:Nat) (f:Field),fs[i]? =some f→Ty P f.type ((xs.drop f.offset).take (P.cellsOf f.type))):Ty P t xs
def iO(P:Program):List Field→Nat→Nat→Bool
 | [],o,e=>o == e
 |f::r,o,e=>f.offset == o && iO P r (o+P.cellsOf f.type) e
def parts(P:Program):Nat→TypeId→Bool
 |0,_=>false
 |n+1,t=>match P.underlying t with
  |some (.int _)|some .bool|some .string=>true
  |some (.slice e)=>parts P n e && decide (0<P.cellsOf e)
  |some (.array m e)=>parts P n e && (P.cellsOf t == m*P.cellsOf e)
  |some (.struct fs)=>fs.toList.all (fun f=>parts P n f.type) && iO P fs.toList 0 (P.cellsOf t)
  |_=>false
section
variable{H:Type}{enc:TypeId×Value→H}{P:Program}{w:World}{base:Nat}{spare:Nat→Bool}{held:Bool}
theorem xN{b:Nat}{a:Addr}{n:Nat}{cs:List Value}(h:w.cells? b a n=some cs):cs.length=n∧∀j u,cs[j]? =some u→w.cell? (a.add j)=some u:=by
 obtain⟨hb,hl,hcell⟩:=World.cells?_some h
 refine⟨hl,fun j u hu=> ?_⟩
 have hj:j<n:=by rw[←hl];exact(List.getElem?_eq_some_iff.1 hu).1
 rw[hcell j hj,hu]
theorem gS{e:TypeId}{d:DataW H}{n:Nat}:∀{ds:List (DataW H)},d∈ds→n∈d.weights P e→n∈DataW.weightsAll P e ds
 | [],h,_=>by cases h
 |a::r,h,hn=>by
  simp only[DataW.weightsAll,List.mem_append]
  rcases List.mem_cons.1 h with rfl|h
  ·exact .inl hn
  ·exact .inr (gS h hn)
theorem pieces{sz:Nat}{Q:List Cell→Prop}{R:Nat→List Value→Prop}:∀(m:Nat),(∀i,i<m→∃ys:List Cell,ys.length=sz∧Q ys∧R i (ys.map Cell.val)∧ig w ys)→
  ∃xs:List Cell,xs.length=m*sz∧(∀i,i<m→Q ((xs.drop (i*sz)).take sz)∧R i (((xs.drop (i*sz)).take sz).map Cell.val))∧ig w xs
 |0,_=>⟨[],by simp,fun i hi=>absurd hi (by omega),trivial⟩
 |m+1,h=>by
  obtain⟨xs,h1,h2,h3⟩:=pieces m (fun i hi=>h i (by omega))
  obtain⟨ys,h4,h5,h6,h7⟩:=h m (by omega)
  have hlen:(m+1)*sz=m*sz+sz:=by rw[Nat.add_mul,Nat.one_mul]
  refine⟨xs++ys,by rw[List.length_append,h1,h4,hlen],fun i hi=> ?_,fN.2 fun x hx=> ?_⟩
  ·by_cases hm:i=m
   ·subst hm
    have e:((xs++ys).drop (i*sz)).take sz=ys:=by
     rw[←h1,List.drop_left,List.take_of_length_le (by omega)]
    rw[e]
    exact⟨h5,h6⟩
   ·have hi' :i<m:=by omega
    have hle:i*sz+sz≤m*sz:=by
     have:=Nat.mul_le_mul_right sz (show i+1≤m by omega)
     rwa [Nat.add_mul,Nat.one_mul]at this
    have e:((xs++ys).drop (i*sz)).take sz=(xs.drop (i*sz)).take sz:=by
     rw[List.drop_append_of_le_length (by omega),List.take_append_of_le_length (by rw[List.length_drop];omega)]
    rw[e]
    exact h2 i hi'
  ·rcases List.mem_append.1 hx with hx|hx
   ·exact fN.1 h3 x hx
   ·exact fN.1 h7 x hx
theorem mT{xs:List Value}{sz i j:Nat}(hj:j<sz):((xs.drop (i*sz)).take sz)[j]? =xs[i*sz+j]? :=by
 rw[List.getElem?_take,if_pos hj,List.getElem?_drop]
theorem mC{cs:List Value}:∀(fs:List Field) (o e:Nat),iO P fs o e=true→(∀f∈fs,∃ys:List Cell,ys.length=P.cellsOf f.type∧Ty P f.type ys∧ys.map Cell.val=(cs.drop f.offset).take (P.cellsOf f.type)∧ig w ys)→
  o≤e∧∃xs:List Cell,xs.length=e-o∧xs.map Cell.val=(cs.drop o).take (e-o)∧ig w xs∧∀f∈fs,o≤f.offset∧Ty P f.type ((xs.drop (f.offset-o)).take (P.cellsOf f.type))
 | [],o,e,hc,_=>by
  have:o=e:=by simpa[iO]using hc
  subst this
  exact⟨Nat.le_refl _,[],by simp,by simp,trivial,by simp⟩
 |f::r,o,e,hc,h=>by
  simp only[iO,Bool.and_eq_true,beq_iff_eq]at hc
  obtain⟨h0,hc⟩:=hc
  obtain⟨hle,xs,h1,h2,h3,h4⟩:=mC r _ e hc (fun g hg=>h g (List.mem_cons_of_mem _ hg))
  obtain⟨ys,h5,h6,h7,h8⟩:=h f (List.mem_cons_self ..)
  rw[h0]at h7
  refine⟨by omega,ys++xs,by rw[List.length_append,h1,h5];omega, ?_,fN.2 fun x hx=> ?_,fun g hg=> ?_⟩
  ·rw[List.map_append,h7,h2,←List.drop_drop,show e-o=P.cellsOf f.type+(e-(o+P.cellsOf f.type)) by omega,List.take_add]
  ·rcases List.mem_append.1 hx with hx|hx
   ·exact fN.1 h8 x hx
   ·exact fN.1 h3 x hx
  ·rcases List.mem_cons.1 hg with rfl|hg
   ·refine⟨by omega, ?_⟩
    rw[h0,Nat.sub_self,List.drop_zero,←h5,List.take_left]
    exact h6
   ·obtain⟨h9,h10⟩:=h4 g hg
    refine⟨by omega, ?_⟩
    have e1:(ys++xs).drop (g.offset-o)=xs.drop (g.offset-(o+P.cellsOf f.type)):=by
     rw[List.drop_append,List.drop_of_length_le (by omega),List.nil_append]
     congr 1
     omega
    rw[e1]
    exact h10
theorem jC:∀(k fuel:Nat) (t:TypeId) (cs:List Value) (x:DataW H×List MemPlace),parts P k t=true→DataW.trod enc P w 0 spare held fuel t cs=some x→(∀q∈DataW.weights P t x.1,q≤140737488351232)→∃xs:List Cell,xs.map Cell.val=cs∧ig w xs∧Ty P t xs
 |0,fuel,t,cs,x,hp,_,_=>by simp[parts]at hp
 |k+1,fuel,t,cs,x,hp,h,hw=>by
  unfold parts at hp
  split at hp
  ·rename_i q ht
   obtain⟨z,rfl,_,hz⟩:=DataW.trod_int ht h
   exact⟨[.v (.int q z)],rfl,⟨trivial,trivial⟩,.int ht hz⟩
  ·rename_i ht
   obtain⟨b,rfl,_⟩:=DataW.trod_bool ht h
   exact⟨[.v (.bool b)],rfl,⟨trivial,trivial⟩,.bool ht⟩
  ·rename_i ht
   obtain⟨s,rfl,hx,_⟩:=DataW.trod_string ht h
   have h1:=hw s.data.toList.length (by rw[hx];simp[DataW.weights])
   exact⟨[.v (.string s)],rfl,⟨trivial,trivial⟩,.str (s:=bytesOf s) ht h1⟩
  ·rename_i e ht
   simp only[Bool.and_eq_true,decide_eq_true_eq]at hp
   rcases DataW.trod_slice ht h with⟨rfl,rfl⟩|⟨a,len,cap,elems,rest,m,_,rfl,hx,hb,hl,hm,hlen,hel,_,_⟩
   ·exact⟨[.s (P.cellsOf e) none 0 0 []],rfl,⟨⟨Rd.nil _ _ _,Nat.le_refl _,trivial⟩,trivial⟩,.slice ht (Nat.le_refl _) (by simp) (by simp) (fun i hi=>absurd hi (by omega))⟩
   ·have hwe:∀d∈elems.map (·.1),∀q∈DataW.weights P e d,q≤140737488351232:=fun d hd q hq=>hw q (by
     rw[hx]
     simp only[DataW.weights,ht,List.mem_cons,List.mem_append]
     exact .inr (.inl (gS hd hq)))
    obtain⟨xs,h1,h2,h3⟩:=pieces (w:=w) (sz:=P.cellsOf e) (Q:=Ty P e) (R:=fun i vs=>∀j u,vs[j]? =some u→w.cell? (a.add (i*P.cellsOf e+j))=some u) len (fun i hi=>by
     have h1:=hel i hi
     rw[List.getElem?_eq_getElem (by omega)]at h1
     obtain⟨c,hc1,hc2⟩:=Option.bind_eq_some_iff.1 h1
     obtain⟨hcl,hcc⟩:=xN hc1
     obtain⟨ys,h4,h5,h6⟩:=jC k _ e c _ hp.1 hc2 (fun q hq=>hwe _ (List.mem_map.2 ⟨_,List.getElem_mem _,rfl⟩) q hq)
     refine⟨ys,by rw[←hcl,←h4,List.length_map],h6,fun j u hu=> ?_,h5⟩
     rw[h4]at hu
     have:=hcc j u hu
     rwa [add_add]at this)
    have hR:Rd w (P.cellsOf e) (some a) len (xs.map Cell.val):=⟨by rw[List.length_map,h1],fun _ e=>(by cases e),fun q u hu=>by
     have hq:q<len*P.cellsOf e:=by
      have:=(List.getElem?_eq_some_iff.1 hu).1
      rwa [List.length_map,h1]at this
     have hd:q/P.cellsOf e<len:=(Nat.div_lt_iff_lt_mul hp.2).2 hq
     have hmod:=Nat.mod_lt q hp.2
     have hqe:q/P.cellsOf e*P.cellsOf e+q % P.cellsOf e=q:=by
      have:=Nat.div_add_mod q (P.cellsOf e)
      rw[Nat.mul_comm]at this
      exact this
     have:=(h2 _ hd).2 (q % P.cellsOf e) u (by rw[List.map_take,List.map_drop,mT hmod,hqe];exact hu)
     rw[hqe]at this
     simpa using this⟩
    have hn:len*P.bytesOf e≤140737488351232:=by
     have:=hw ((elems.length+rest.length)*P.bytesOf e) (by rw[hx];simp[DataW.weights,ht])
     rw[hlen,Nat.add_mul]at this
     omega
    exact⟨[.s (P.cellsOf e) (some a) len cap xs],rfl,⟨⟨hR,hl,h3⟩,trivial⟩,.slice ht hl hn h1 (fun i hi=>(h2 i hi).1)⟩
  ·rename_i m e ht
   simp only[Bool.and_eq_true,beq_iff_eq]at hp
   obtain⟨ys,n,_,hx,hlen,hyl,hel⟩:=DataW.trod_array ht h
   have hwe:∀d∈ys.map (·.1),∀q∈DataW.weights P e d,q≤140737488351232:=fun d hd q hq=>hw q (by
    rw[hx]
    simp only[DataW.weights,ht]
    exact gS hd hq)
   obtain⟨xs,h1,h2,h3⟩:=pieces (w:=w) (sz:=P.cellsOf e) (Q:=Ty P e) (R:=fun i vs=>vs=(cs.drop (i*P.cellsOf e)).take (P.cellsOf e)) m (fun i hi=>by
    have h1:=hel i hi
    rw[List.getElem?_eq_getElem (by omega)]at h1
    obtain⟨zs,h4,h5,h6⟩:=jC k _ e _ _ hp.1 h1 (fun q hq=>hwe _ (List.mem_map.2 ⟨_,List.getElem_mem _,rfl⟩) q hq)
    refine⟨zs, ?_,h6,h4,h5⟩
    have:=congrArg List.length h4
    rw[List.length_map,List.length_take,List.length_drop,hlen,hp.2]at this
    have hle:i*P.cellsOf e+P.cellsOf e≤m*P.cellsOf e:=by
     have:=Nat.mul_le_mul_right (P.cellsOf e) (show i+1≤m by omega)
     rwa [Nat.add_mul,Nat.one_mul]at this
    omega)
   refine⟨xs, ?_,h3,.arr ht (by rw[h1,hp.2]) (fun i hi=>(h2 i hi).1)⟩
   apply List.ext_getElem?
   intro q
   by_cases hq:q<m*P.cellsOf e
   ·have hpos:0<P.cellsOf e:=by
     rcases Nat.eq_zero_or_pos (P.cellsOf e)with h0|h0
     ·rw[h0,Nat.mul_zero]at hq;omega
     ·exact h0
    have hd:q/P.cellsOf e<m:=(Nat.div_lt_iff_lt_mul hpos).2 hq
    have hmod:=Nat.mod_lt q hpos
    have hqe:q/P.cellsOf e*P.cellsOf e+q % P.cellsOf e=q:=by
     have:=Nat.div_add_mod q (P.cellsOf e)
     rw[Nat.mul_comm]at this
     exact this
    have h4:=congrArg (fun l:List Value=>l[q % P.cellsOf e]?) (h2 _ hd).2
    simp only[List.map_take,List.map_drop]at h4
    rwa [mT hmod,mT hmod,hqe]at h4
   ·rw[List.getElem?_eq_none (by rw[List.length_map,h1];omega),List.getElem?_eq_none (by rw[hlen,hp.2];omega)]
  ·rename_i fs ht
   simp only[Bool.and_eq_true,List.all_eq_true]at hp
   obtain⟨ys,n,_,hx,hlen,hyl,hel⟩:=DataW.trod_struct ht h
   have hw2:∀(i:Nat) (f:Field) (d:DataW H),fs[i]? =some f→(ys.map (·.1))[i]? =some d→∀q∈DataW.weights P f.type d,q≤140737488351232:=fun i f d hf hd q hq=>hw q (by
    rw[hx]
    simp only[DataW.weights,ht]
    exact DataW.weights_mem_each (j:=i) (t:=f.type) (d:=d) (by simp[hf]) hd q hq)
   obtain⟨_,xs,h1,h2,h3,h4⟩:=mC (P:=P) (w:=w) (cs:=cs) fs.toList 0 (P.cellsOf t) hp.2 (fun f hf=>by
    obtain⟨i,hi⟩:=List.mem_iff_getElem?.1 hf
    have hi' :fs[i]? =some f:=by simpa using hi
    have h1:=hel i f hi'
    have hlt:i<ys.length:=by
     rw[hyl]
     exact(Array.getElem?_eq_some_iff.1 hi').1
    rw[List.getElem?_eq_getElem hlt]at h1
    obtain⟨zs,h5,h6,h7⟩:=jC k _ f.type _ _ (hp.1 f hf) h1 (fun q hq=>hw2 i f _ hi' (by rw[List.getElem?_map,List.getElem?_eq_getElem hlt];rfl) q hq)
    have hz:zs.length=P.cellsOf f.type:=by
     have hz:=congrArg List.length h5
     rw[List.length_map,List.length_take,List.length_drop,hlen]at hz
     have hin:∀(l:List Field) (o e:Nat),iO P l o e=true→f∈l→f.offset+P.cellsOf f.type≤e∧o≤e:=by
      intro l
      induction l with
      |nil=>intro o e _ hm;cases hm
      |cons g r ih=>
       intro o e hc hm
       simp only[iO,Bool.and_eq_true,beq_iff_eq]at hc
       have hge:∀(l:List Field) (o e:Nat),iO P l o e=true→o≤e:=by
        intro l
        induction l with
        |nil=>intro o e hc;simp[iO]at hc;omega
        |cons g r ih=>intro o e hc;simp only[iO,Bool.and_eq_true,beq_iff_eq]at hc;have:=ih _ _ hc.2;omega
       rcases List.mem_cons.1 hm with rfl|hm
       ·have:=hge _ _ _ hc.2
        omega
       ·have:=ih _ _ hc.2 hm
        omega
     have:=hin _ _ _ hp.2 hf
     omega
    exact⟨zs,hz,h7,h5,h6⟩)
   refine⟨xs, ?_,h3,.struct ht (by rw[h1];omega) (fun i f hf=> ?_)⟩
   ·rw[h2,List.drop_zero,Nat.sub_zero,←hlen,List.take_length]
   ·have:=(h4 f (by rw[Array.mem_toList_iff];exact Array.mem_of_getElem? hf)).2
    rwa [Nat.sub_zero]at this
  ·cases hp
end
section
variable{P:Program}{t e:TypeId}{xs:List Cell}
theorem DZ{k:IntKind}(ht:P.underlying t=some (.int k))(h:Ty P t xs):∃z,xs=[.v (.int k z)]∧(Lit.int k z).wf=true:=by
 cases h with
 |int ht' hw=>rw[ht]at ht';cases ht';exact⟨_,rfl,hw⟩
 |bool ht' =>rw[ht]at ht';cases ht'
 |str ht' =>rw[ht]at ht';cases ht'
 |slice ht' =>rw[ht]at ht';cases ht'
 |arr ht' =>rw[ht]at ht';cases ht'
 |struct ht' =>rw[ht]at ht';cases ht'
theorem CZ(ht:P.underlying t=some (.int .i64))(h:Ty P t xs):∃z,xs=[.v (.int .i64 z)]∧-9223372036854775808≤z∧z≤9223372036854775807:=by
 obtain⟨z,rfl,hw⟩:=DZ ht h
 refine⟨z,rfl, ?_⟩
 simp only[Lit.wf,IntKind.min,IntKind.max,IntKind.signed,IntKind.bits]at hw
 simp at hw
 omega
theorem sE(ht:P.underlying t=some (.slice e))(h:Ty P t xs):∃A n c ys,xs=[.s (P.cellsOf e) A n c ys]∧n≤c∧n*P.bytesOf e≤140737488351232∧ys.length=n*P.cellsOf e∧∀i,i<n→Ty P e ((ys.drop (i*P.cellsOf e)).take (P.cellsOf e)):=by
 cases h with
 |int ht' =>rw[ht]at ht';cases ht'
 |bool ht' =>rw[ht]at ht';cases ht'
 |str ht' =>rw[ht]at ht';cases ht'
 |slice ht' hc hn hl h=>rw[ht]at ht';cases ht';exact⟨_,_,_,_,rfl,hc,hn,hl,h⟩
 |arr ht' =>rw[ht]at ht';cases ht'
 |struct ht' =>rw[ht]at ht';cases ht'
end
theorem fl{w:World}{sz n i o:Nat}{A:Option Addr}{xs:List Value}{u:Value}(h:Rd w sz A n xs)(hu:xs[i*sz+o]? =some u):w.cell? (((A.getD d0).add (i*sz)).add o)=some u:=by
 rw[add_add]
 exact h.cell hu
theorem View.rowOf{sz n c:Nat}{A:Option Addr}{xs:List Cell}{vs:List Value}(h:xs.map Cell.val=vs):View (qD (.s sz A n c xs)) (c6 sz A n vs):=h▸View.Gi
section
variable{H:Type}{enc:TypeId×Value→H}{P:Program}{W:World}{spare:Nat→Bool}{held:Bool}{tss:List TypeId}{dss:List (DataW H)}
theorem uk{t:TypeId}{v:Value}{d:DataW H}{ps:List MemPlace}{j:Nat}(k:Nat)(hp:parts P k t=true)(h:DataW.Trod enc P W 0 spare held t v d ps)(hsz:(DataW.weightsEach P tss dss).all (· ≤reachBytes)=true)(hjt:tss[j]? =some t)(hjd:dss[j]? =some d):
  ∃xs:List Cell,xs.map Cell.val=v.cells.toList∧ig W xs∧Ty P t xs:=by
 obtain⟨fuel,hf⟩:=h
 refine jC k fuel t _ _ hp hf (fun q hq=> ?_)
 have:=List.all_eq_true.1 hsz q (DataW.weights_mem_each hjt hjd q hq)
 have hr:reachBytes=140737488351232:=rfl
 simp at this
 omega
theorem rG{t e:TypeId}{A:Option Addr}{n c:Nat}{d:DataW H}{ps:List MemPlace}{j:Nat}(k:Nat)(hp:parts P k t=true)(ht:P.underlying t=some (.slice e))(h:DataW.Trod enc P W 0 spare held t (.slice A n c) d ps)(hsz:(DataW.weightsEach P tss dss).all (· ≤reachBytes)=true)(hjt:tss[j]? =some t)(hjd:dss[j]? =some d):
  ∃ys:List Cell,(qD (.s (P.cellsOf e) A n c ys)).holds W∧Ty P t [.s (P.cellsOf e) A n c ys]:=by
 obtain⟨xs,h1,h2,h3⟩:=uk k hp h hsz hjt hjd
 obtain⟨A',n',c',ys,rfl,_⟩:=sE ht h3
 have e1:[Cell.val (.s (P.cellsOf e) A' n' c' ys)]=[Value.slice A n c]:=h1
 simp only[Cell.val,List.cons.injEq,Value.slice.injEq,and_true]at e1
 obtain⟨rfl,rfl,rfl⟩:=e1
 exact⟨ys,h2.1,h3⟩
end
end Go.Eng
end
section
set_option maxRecDepth 20000
namespace Go.Proofs.YtmibdabdlgmafaaGreatDoor
open Go.Eng Go.Hx
theorem CD{P:Program}{N:Nat}{D:List Deferred}{ρ:Env}{w:World}{x y:Operand}{ty t t' :TypeId}{a b:ByteArray}(hx:ev ρ x=some (.string a))(hy:ev ρ y=some (.string b)):Yl P N D ρ w (.binOp .geq t x y t') ty (.bool (!Op.bytesLess a.toList b.toList)):=
 fun _ _ _ _ _ ha=>by simp[execOp,ha.eval hx,ha.eval hy,eqGuard,binOp,Op.stringOp]
abbrev FP:=List UInt8×List UInt8
def fc(l:List FP):List Value:=l.flatMap fun x=>[SV x.1,SV x.2]
theorem gO(a b:List FP):fc (a++b)=fc a++fc b:=by simp[fc]
theorem jE:∀(l:List FP) (i:Nat) (x:FP),l[i]? =some x→(fc l)[i*2]? =some (SV x.1)∧(fc l)[i*2+1]? =some (SV x.2)
 | [],i,x,h=>by simp at h
 |a::r,0,x,h=>by
  simp only[List.getElem?_cons_zero,Option.some.injEq]at h
  subst h
  exact⟨rfl,rfl⟩
 |a::r,i+1,x,h=>by
  have ih:=jE r i x (by simpa using h)
  have e:fc (a::r)=SV a.1::SV a.2::fc r:=by simp[fc]
  rw[e,show(i+1)*2=i*2+2 by omega]
  exact ih
theorem mD{w:World}{A:Option Addr}{n i:Nat}{l:List FP}{x:FP}(h:Rd w 2 A n (fc l))(hx:l[i]? =some x):∀(j:Nat) (u:Value),[SV x.1,SV x.2][j]? =some u→w.cell? (((A.getD d0).add (i*2)).add j)=some u:=by
 obtain⟨g0,g1⟩:=jE l i x hx
 intro j u hu
 match j,hu with
 |0,hu=>cases hu;exact fl h g0
 |1,hu=>cases hu;exact fl h g1
 |j+2,hu=>simp at hu
theorem mR{l:List FP}:∀u∈fc l,u.oneCell' =true:=by
 intro u hu
 obtain⟨x,_,h⟩:=List.mem_flatMap.1 hu
 simp only[List.mem_cons,List.not_mem_nil,or_false]at h
 rcases h with rfl|rfl <;> rfl
theorem wD{p:List UInt8}(hp:p.length≤1000000000):cf Tryz.prog 112 [.string (strOf p)] [] [] (fun v_ X_ S_=>v_=(.bool (decide (fB p)))∧X_=[]∧S_=[]):=by
 have hsz:=cY p
 refine aP (N:=22) Tryz.func112 rfl rfl (by simp) fun b=> ?_
 refine ah<|aj<|hy (fun _=>ab rfl)<|ai<|ag<|ah<|ah<|aj<|hy (fun _=>ab rfl)<|ai<|ag<|aK<| ?_
 refine dz (fun i=>p.length-i) (fun i=>[(3,.int .i64 (i:Nat))]) (fun i=>[]) (fun i=>[]) (fun i=>i≤p.length∧¬(0:UInt8)∈p.take i) 0 [(0,_)] ⟨rfl,trivial⟩ [] rfl [] rfl (⟨Nat.zero_le _,by simp⟩) ⟨rfl,trivial⟩ (fun i hI=> ?_)
 obtain⟨hip,hno⟩:=hI
 refine ah<|ah<|aj<|hy (fun _=>aa rfl)<|hy (fun _=>aa rfl)<|hy (fun _=>cW rfl Tryz.underlying9)<|hy (fun _=>bw rfl rfl)<|ai<|al (ρ' :=[(7,_),(3,_),(0,_)]) ⟨rfl,rfl,rfl,trivial⟩<|ag<| ?_
 refine cD rfl (fun h=> ?_) (fun h=> ?_)
 ·have hil:i<p.length:=by omega
  refine aD<|ag<|ah<|aK<|ah<|aj<|hy (fun _=>aa rfl)<|hy (fun _=>aa rfl)<|hy (fun _=>fq rfl rfl Tryz.underlying9 rfl (kn hil))<|hy (fun _=>cH rfl rfl)<|ai<|al (ρ' :=[(13,_),(7,_),(3,_),(0,_)]) ⟨rfl,rfl,rfl,rfl,trivial⟩<|ag<| ?_
  refine cD rfl (fun h0=> ?_) (fun h0=> ?_)
  ·have h00:p.getD i 0=0:=UInt8.toNat_inj.1 (by simpa using h0)
   refine ah<|aj<|hy (fun _=>ab rfl)<|ai<|ag<|aU<|aW<|ax<|ax<|aW<|ax<| ?_
   exact bc trivial rfl rfl [] rfl [] rfl ⟨(congrArg Value.bool (decide_eq_false (fun hN=>hN.2.2 (by rw[←h00];rw[List.getD,List.getElem?_eq_getElem hil];exact List.getElem_mem hil))).symm),rfl,rfl⟩
  ·have hno2:¬(0:UInt8)∈p.take (i+1):=fun hm=>by
    rw[List.take_succ_eq_append_getElem hil]at hm
    rcases List.mem_append.1 hm with h1|h1
    ·exact hno h1
    ·apply h0
     have:=List.mem_singleton.1 h1
     rw[List.getD,List.getElem?_eq_getElem hil]
     simp[←this]
   refine aD<|aT<|ag<|aj<|hy (fun _=>aa rfl)<|hy (fun _=>aM rfl rfl (bD (by omega) (by omega)))<|hy (fun _=>ab rfl)<|ai<|al (ρ' :=[(3,_),(13,_),(7,_),(0,_)]) ⟨rfl,rfl,rfl,rfl,trivial⟩<| ?_
   refine cM (i+1) ⟨rfl,rfl,trivial⟩ [] rfl [] rfl (⟨by omega,hno2⟩) (by omega)
 ·obtain rfl:i=p.length:=by omega
  rw[List.take_of_length_le (Nat.le_refl _)]at hno
  by_cases h1:0<p.length
  ·refine bK<|ao<|ao<|aC<|ag<|ah<|aj<|hy (fun _=>aa rfl)<|hy (fun _=>cW rfl Tryz.underlying9)<|hy (fun _=>yT (cR rfl rfl) ((decide_eq_true (by omega))))<|hy (fun _=>aa rfl)<|dQ (o:=_) rfl rfl rfl (fun _=>aa rfl)<|dQ (o:=_) rfl rfl rfl (fun _=>cW rfl Tryz.underlying9)<|dQ (o:=_) rfl rfl rfl (fun _=>bw rfl rfl)<|hy (fun _=>bU rfl rfl)<|hy (fun _=>ab rfl)<|ai<|al (ρ' :=[(2,_),(7,_),(3,_),(0,_)]) ⟨rfl,rfl,rfl,rfl,trivial⟩<|ag<|aU<| ?_
   exact bc trivial rfl rfl [] rfl [] rfl ⟨(congrArg Value.bool (decide_eq_decide.2 ⟨fun h=>⟨fun e=>by rw[e]at h1;exact absurd h1 (by decide),by omega,hno⟩,fun h=>by have:=h.2.1;omega⟩)),rfl,rfl⟩
  ·refine bK<|ao<|ao<|aC<|ag<|ah<|aj<|hy (fun _=>aa rfl)<|hy (fun _=>cW rfl Tryz.underlying9)<|hy (fun _=>yF (cR rfl rfl) ((decide_eq_false (by omega))))<|hy (fun _=>aa rfl)<|bx rfl rfl rfl (by decide)<|bx rfl rfl rfl (by decide)<|bx rfl rfl rfl (by decide)<|hy (fun _=>bP rfl rfl)<|hy (fun _=>ab rfl)<|ai<|al (ρ' :=[(2,_),(7,_),(3,_),(0,_)]) ⟨rfl,rfl,rfl,rfl,trivial⟩<|ag<|aU<| ?_
   exact bc trivial rfl rfl [] rfl [] rfl ⟨(congrArg Value.bool (decide_eq_false (fun hN=>hN.1 (List.eq_nil_of_length_eq_zero (by omega)))).symm),rfl,rfl⟩
def cp(l:List FP)(p:List UInt8):Nat:=l.findIdx (fun x=>decide (x.1=p))
def kg(l:List FP)(p:List UInt8):Int:=if cp l p<l.length then(cp l p:Nat)else-1
theorem yp{l:List FP}{p:List UInt8}{i:Nat}{x:FP}(hx:l[i]? =some x)(h:x.1=p)(hno:∀j,j<i→∀y,l[j]? =some y→y.1≠p):cp l p=i:=by
 obtain⟨hi,rfl⟩:=List.getElem?_eq_some_iff.1 hx
 unfold cp
 rw[List.findIdx_eq hi]
 exact⟨by simpa using h,fun j hj=>by simpa using hno j hj _ (List.getElem?_eq_getElem (by omega))⟩
theorem yc{l:List FP}{p:List UInt8}(hno:∀j,j<l.length→∀y,l[j]? =some y→y.1≠p):¬cp l p<l.length:=by
 intro h
 have h1:=List.findIdx_getElem (w:=h)
 exact hno _ h _ (List.getElem?_eq_getElem h) (of_decide_eq_true h1)
theorem uc{A:Option Addr}{n c:Nat}{l:List FP}{p:List UInt8}(hl:l.length=n)(hn:n≤1000000000):cf Tryz.prog 113 [.slice A n c,.string (strOf p)] [] [c6 2 A n (fc l)] (fun v_ X_ S_=>v_=(.int .i64 (kg l p))∧X_=[]∧S_=[]):=by
 refine aP (N:=20) Tryz.func113 rfl rfl (by simp) fun b=> ?_
 refine aZ (fun m=>jq (m.rd 0 rfl)) ?_
 rintro⟨hl_r,hA_r⟩
 refine ah<|aj<|hy (fun _=>ab rfl)<|ai<|ag<|ah<|ah<|aj<|hy (fun _=>ab rfl)<|ai<|ag<|aK<| ?_
 refine dz (fun i=>n-i) (fun i=>[(5,.int .i64 (i:Nat))]) (fun i=>[]) (fun i=>[]) (fun i=>i≤n∧∀j,j<i→∀y,l[j]? =some y→y.1≠p) 0 [(0,_),(1,_)] ⟨rfl,rfl,trivial⟩ [] rfl [] rfl (⟨Nat.zero_le _,fun j hj=>absurd hj (Nat.not_lt_zero j)⟩) ⟨rfl,trivial⟩ (fun i hI=> ?_)
 obtain⟨hin,hno⟩:=hI
 refine ah<|ah<|aj<|hy (fun _=>aa rfl)<|hy (fun _=>aa rfl)<|hy (fun _=>aX rfl Tryz.underlying36)<|hy (fun _=>bw rfl rfl)<|ai<|al (ρ' :=[(9,_),(5,_),(0,_),(1,_)]) ⟨rfl,rfl,rfl,rfl,trivial⟩<|ag<| ?_
 refine cD rfl (fun h=> ?_) (fun h=> ?_)
 ·have hil:i<l.length:=by omega
  obtain⟨x,hx⟩:∃x,l[i]? =some x:=⟨_,List.getElem?_eq_getElem hil⟩
  obtain⟨g0,g1⟩:=jE l i x hx
  refine aD<|ag<|ah<|aK<|ah<|aj<|hy (fun _=>aa rfl)<|hy (fun _=>aa rfl)<|hy (fun _=>cQ rfl rfl Tryz.underlying36 eS hA_r rfl (by omega))<|hy (fun _=>aL rfl eU (by decide))<|hy (fun m=>yV (aw rfl lL (fl (m.rd 0 rfl) g0)) ((rfl:_=Value.string (strOf x.1))))<|hy (fun _=>aa rfl)<|hy (fun _=>sv rfl rfl)<|ai<|al (ρ' :=[(18,_),(9,_),(5,_),(0,_),(1,_)]) ⟨rfl,rfl,rfl,rfl,rfl,trivial⟩<|ag<| ?_
  refine cD rfl (fun h0=> ?_) (fun h0=> ?_)
  ·have he:x.1=p:=cA.1 h0
   have hN:=yp hx he hno
   refine ah<|aj<|hy (fun _=>aa rfl)<|hy (fun _=>ab rfl)<|ai<|al (ρ' :=[(4,_),(18,_),(9,_),(5,_),(0,_),(1,_)]) ⟨rfl,rfl,rfl,rfl,rfl,rfl,trivial⟩<|ag<|aU<|aW<|ax<|ax<|aW<|ax<| ?_
   exact bc trivial rfl rfl [] rfl [] rfl ⟨(by rw[kg,hN,if_pos hil]),rfl,rfl⟩
  ·have he:x.1≠p:=fun e=>h0 (cA.2 e)
   have hno2:∀j,j<i+1→∀y,l[j]? =some y→y.1≠p:=fun j hj y hy=>by
    rcases Nat.lt_succ_iff_lt_or_eq.1 hj with h1|h1
    ·exact hno j h1 y hy
    ·rw[h1,hx]at hy;cases hy;exact he
   refine aD<|aT<|ag<|aj<|hy (fun _=>aa rfl)<|hy (fun _=>aM rfl rfl (bD (by omega) (by omega)))<|hy (fun _=>ab rfl)<|ai<|al (ρ' :=[(5,_),(18,_),(9,_),(0,_),(1,_)]) ⟨rfl,rfl,rfl,rfl,rfl,trivial⟩<| ?_
   refine cM (i+1) ⟨rfl,rfl,rfl,trivial⟩ [] rfl [0] rfl (⟨by omega,hno2⟩) (by omega)
 ·obtain rfl:i=n:=by omega
  refine bK<|ao<|ao<|aC<|ag<|ah<|aj<|hy (fun _=>ab rfl)<|ai<|ag<|aU<| ?_
  exact bc trivial rfl rfl [] rfl [] rfl ⟨(by rw[kg,if_neg (yc (fun j hj=>hno j (by omega)))]),rfl,rfl⟩
def di(l:List FP):Nat:=(l.map fun x=>x.2.length).sum
theorem qQ{l:List FP}{i:Nat}{x:FP}(h:l[i]? =some x):di (l.take (i+1))=di (l.take i)+x.2.length:=by
 obtain⟨hi,rfl⟩:=List.getElem?_eq_some_iff.1 h
 rw[List.take_succ_eq_append_getElem hi]
 unfold di
 rw[List.map_append,List.sum_append]
 simp
theorem vF(l:List FP)(i:Nat):di (l.take i)≤di l:=by
 have:di l=di (l.take i)+di (l.drop i):=by
  conv=>lhs;rw[←List.take_append_drop i l]
  simp only[di,List.map_append,List.sum_append]
 omega
def dv(room:Int)(s l w:Value)(pw:Int):List Value:=[.int .i64 room,s,l,w,.int .i64 pw]
theorem Db{room pw:Int}{vl vw:Value}{A:Option Addr}{n c:Nat}{l:List FP}(hl:l.length=n)(hn:n≤1000000000)(ht:di l≤1000000000000):cf Tryz.prog 89 [.agg (dv room (.slice A n c) vl vw pw).toArray] [] [c6 2 A n (fc l)] (fun v_ X_ S_=>v_=(.int .i64 (di l:Nat))∧X_=[]∧S_=[]):=by
 refine aP (N:=22) Tryz.func89 rfl rfl (by simp) fun b=> ?_
 refine aZ (fun m=>jq (m.rd 0 rfl)) ?_
 rintro⟨hl_r,hA_r⟩
 refine ah<|aj<| ?_
 refine hx (cy rfl (fun g1=> ?_))
 refine aR (fun w m=>m.bO 0 rfl (show _=aI g1 39 (dv room (.slice A n c) vl vw pw)from congrArg (aI _ _) (bq _))) ?_
 refine hy (fun _=>ab rfl)<|ai<|ak (X' :=[_]) (S' :=[_]) (fun _ m=>m)<|ag<|ah<|aj<|hy (fun _=>ab rfl)<|ai<|ag<|ah<|ah<|aj<|hy (fun _=>ab rfl)<|ai<|ag<|aK<| ?_
 refine dz (fun i=>n-i) (fun i=>[(3,.int .i64 (di (l.take i):Nat)),(4,.int .i64 (i:Nat))]) (fun i=>[aI g1 39 (dv room (.slice A n c) vl vw pw)]) (fun i=>[]) (fun i=>i≤n) 0 [(2,_),(1,_),(0,_)] ⟨rfl,rfl,rfl,trivial⟩ [0] rfl [] rfl (Nat.zero_le _) ⟨rfl,rfl,trivial⟩ (fun i hI=> ?_)
 refine ah<|ah<|aj<|hy (fun _=>aa rfl)<|hy (fun _=>aL rfl jJ (by decide))<|hy (fun m=>aw rfl ta (aA (m.aY 0 rfl) rfl))<|hy (fun _=>aX rfl Tryz.underlying36)<|hy (fun _=>bw rfl rfl)<|ai<|al (ρ' :=[(9,_),(3,_),(4,_),(2,_),(1,_),(0,_)]) ⟨rfl,rfl,rfl,rfl,rfl,rfl,trivial⟩<|ag<| ?_
 refine cD rfl (fun h=> ?_) (fun h=> ?_)
 ·have hil:i<l.length:=by omega
  obtain⟨x,hx⟩:∃x,l[i]? =some x:=⟨_,List.getElem?_eq_getElem hil⟩
  obtain⟨g0,g2⟩:=jE l i x hx
  have h1:=qQ hx
  have h2:=vF l (i+1)
  have hsz:=cY x.2
  refine aD<|ag<|ah<|aK<|aj<|hy (fun _=>aa rfl)<|hy (fun _=>aL rfl jJ (by decide))<|hy (fun m=>aw rfl ta (aA (m.aY 0 rfl) (i:=1) rfl))<|hy (fun _=>aa rfl)<|hy (fun _=>cQ rfl rfl Tryz.underlying36 eS hA_r rfl (by omega))<|hy (fun _=>aL rfl oc (by decide))<|hy (fun m=>yV (aw rfl lL (fl (m.rd 0 rfl) g2)) ((rfl:_=Value.string (strOf x.2))))<|hy (fun _=>cW rfl Tryz.underlying9)<|hy (fun _=>yV (aM rfl rfl (bD (by omega) (by omega))) ((show Value.int .i64 ((di (l.take i):Nat)+((strOf x.2).size:Nat))= .int .i64 (di (l.take (i+1)):Nat) by rw[hsz,h1];rfl)))<|hy (fun _=>ab rfl)<|ai<|al (ρ' :=[(3,_),(9,_),(4,_),(2,_),(1,_),(0,_)]) ⟨rfl,rfl,rfl,rfl,rfl,rfl,trivial⟩<|aT<|ag<|aj<|hy (fun _=>aa rfl)<|hy (fun _=>aM rfl rfl (bD (by omega) (by omega)))<|hy (fun _=>ab rfl)<|ai<|al (ρ' :=[(4,_),(3,_),(9,_),(2,_),(1,_),(0,_)]) ⟨rfl,rfl,rfl,rfl,rfl,rfl,trivial⟩<| ?_
  refine cM (i+1) ⟨rfl,rfl,rfl,rfl,rfl,trivial⟩ [0] rfl [0] rfl (by omega) (by omega)
 ·obtain rfl:i=n:=by omega
  refine bK<|ao<|ao<|aC<|ag<|ah<|aj<|hy (fun _=>aa rfl)<|hy (fun _=>ab rfl)<|ai<|al (ρ' :=[(2,_),(9,_),(3,_),(4,_),(1,_),(0,_)]) ⟨rfl,rfl,rfl,rfl,rfl,rfl,trivial⟩<|ag<|aU<| ?_
  exact bc trivial rfl rfl [] rfl [] rfl ⟨(by rw[←hl,List.take_of_length_le (Nat.le_refl _)]),rfl,rfl⟩
theorem p5{A:Option Addr}{n c:Nat}{l:List FP}{p:List UInt8}(hl:l.length=n)(hn:n≤1000000):cf Tryz.prog 221 [.slice A n c,.string (strOf p)] [] [c6 2 A n (fc l)] (fun v_ X_ S_=>∃v k,v_=v∧X_=[aG 156 2 v k (fc (l.filter fun x=>decide (x.1≠p)))]∧S_=[]∧(k=(l.filter fun x=>decide (x.1≠p)).length)):=by
 refine aP (N:=28) Tryz.func221 rfl rfl (by simp) fun b=> ?_
 refine aZ (fun m=>jq (m.rd 0 rfl)) ?_
 rintro⟨hl_r,hA_r⟩
 refine ah<|aj<|hy (fun _=>ab rfl)<|ai<|ag<|ah<|aj<|hy (fun _=>ab rfl)<|ai<|ag<|ah<|ah<|aj<|hy (fun _=>ab rfl)<|ai<|ag<|aK<| ?_
 refine bB (fun w m=>m.dx (r' :=aG 156 2 (.slice none 0 0) 0 []) (.refl _ _) (Own.nil _ _ _ _) (fun k hk=>hk.elim)) ?_
 refine kr (fun i A1 k c1=>n-i) (fun i A1 k c1=>[(5,.slice A1 k c1),(6,.int .i64 (i:Nat))]) (fun i A1 k c1=>[aG 156 2 (.slice A1 k c1) k (fc ((l.take i).filter fun x=>decide (x.1≠p)))]) (fun i A1 k c1=>[]) (fun i A1 k c1=>i≤n∧k=((l.take i).filter fun x=>decide (x.1≠p)).length) 0 none 0 0 [(4,_),(0,_),(1,_)] ⟨rfl,rfl,rfl,trivial⟩ [0] rfl [] rfl (⟨Nat.zero_le _,rfl⟩) ⟨rfl,rfl,trivial⟩ (fun i A1 k c1 hI=> ?_)
 obtain⟨hin,hk⟩:=hI
 have hkl:((l.take i).filter fun x=>decide (x.1≠p)).length≤i:=Nat.le_trans (List.length_filter_le ..) (by rw[List.length_take];omega)
 refine ah<|ah<|aj<|hy (fun _=>aa rfl)<|hy (fun _=>aa rfl)<|hy (fun _=>aX rfl Tryz.underlying36)<|hy (fun _=>bw rfl rfl)<|ai<|al (ρ' :=[(10,_),(5,_),(6,_),(4,_),(0,_),(1,_)]) ⟨rfl,rfl,rfl,rfl,rfl,rfl,trivial⟩<|ag<| ?_
 refine cD rfl (fun h=> ?_) (fun h=> ?_)
 ·have hil:i<l.length:=by omega
  obtain⟨x,hgx⟩:∃x,l[i]? =some x:=⟨_,List.getElem?_eq_getElem hil⟩
  obtain⟨g0,g2⟩:=jE l i x hgx
  have Ep:(l.take (i+1)).filter (fun x=>decide (x.1≠p))=(l.take i).filter (fun x=>decide (x.1≠p))++[x].filter (fun x=>decide (x.1≠p)):=by
   obtain⟨hi,rfl⟩:=List.getElem?_eq_some_iff.1 hgx
   rw[List.take_succ_eq_append_getElem hi,List.filter_append]
  refine aD<|ag<|ah<|aK<|ah<|aj<|hy (fun _=>aa rfl)<|hy (fun _=>aa rfl)<|hy (fun _=>cQ rfl rfl Tryz.underlying36 eS hA_r rfl (by omega))<|hy (fun _=>aL rfl eU (by decide))<|hy (fun m=>yV (aw rfl lL (fl (m.rd 0 rfl) g0)) ((rfl:_=Value.string (strOf x.1))))<|hy (fun _=>aa rfl)<|hy (fun _=>pb rfl rfl)<|ai<|al (ρ' :=[(19,_),(10,_),(5,_),(6,_),(4,_),(0,_),(1,_)]) ⟨rfl,rfl,rfl,rfl,rfl,rfl,rfl,trivial⟩<|ag<| ?_
  refine cD rfl (fun h0=> ?_) (fun h0=> ?_)
  ·have hF:(l.take i).filter (fun x=>decide (x.1≠p))++[x]=(l.take (i+1)).filter (fun x=>decide (x.1≠p)):=by
    have hne:x.1≠p:=fun e=>h0 (cA.2 e)
    rw[Ep];simp[hne]
   refine aj<|hy (fun _=>aa rfl)<|hy (fun _=>aa rfl)<|hy (fun _=>aa rfl)<|hy (fun _=>cQ rfl rfl Tryz.underlying36 eS hA_r rfl (by omega))<|hy (fun m=>yV (a6 rfl qR eS rfl (mD (m.rd 0 rfl) hgx)) ((rfl:_=Value.agg [SV x.1,SV x.2].toArray)))<| ?_
   refine hx (bV Tryz.underlying36 ir rfl rfl rfl (by simp[Value.cells,B8]) (by decide) (by decide) (fun g25=> ?_))
   have hA_b25:0<1→(some (⟨g25,0,none⟩:Addr))≠none:=fun _ h=>by cases h
   refine aR (fun w m=>m.bO 0 rfl (show _=aG 156 2 (.slice (some ⟨g25,0,none⟩) 1 1) 1 (fc [x])from rfl)) ?_
   refine hx (bH 1 rfl rfl rfl Tryz.underlying36 Tryz.underlying36 (by exact .inl rfl) ir rfl (fun m=>Src.bY (m.ord 0 rfl)) mR (by unfold maxLen;omega) (by omega) (fun u=> ?_))
   refine aB (fun m=>(m.own 0 rfl).slice) ?_
   rintro⟨A_o,c_o,rfl,hc_o⟩
   refine aB (fun m=>(m.ord 0 rfl).2.1) fun hA_o=> ?_
   refine aR (fun w m=>m.bO 0 rfl (show _=aG 156 2 (.slice A_o (k+1) c_o) (k+1) (fc ((l.take (i+1)).filter fun x=>decide (x.1≠p)))from congrArg (aG _ _ _ _) ((gO ..).symm.trans (congrArg fc hF)))) ?_
   refine hy (fun _=>ab rfl)<|ai<|al (ρ' :=[(5,_),(19,_),(10,_),(6,_),(4,_),(0,_),(1,_)]) ⟨rfl,rfl,rfl,rfl,rfl,rfl,rfl,trivial⟩<|ak (X' :=[_,_]) (S' :=[_]) (fun _ m=>m)<|aT<|ag<|aj<|hy (fun _=>aa rfl)<|hy (fun _=>aM rfl rfl (bD (by omega) (by omega)))<|hy (fun _=>ab rfl)<|ai<|al (ρ' :=[(6,_),(5,_),(19,_),(10,_),(4,_),(0,_),(1,_)]) ⟨rfl,rfl,rfl,rfl,rfl,rfl,rfl,trivial⟩<| ?_
   refine gr (i+1) A_o (k+1) c_o ⟨rfl,rfl,rfl,rfl,rfl,trivial⟩ [0] rfl [0] rfl (⟨by omega,by rw[←hF,hk,List.length_append];rfl⟩) (by omega)
  ·have hF:(l.take (i+1)).filter (fun x=>decide (x.1≠p))=(l.take i).filter (fun x=>decide (x.1≠p)):=by
    have hne:x.1=p:=cA.1 (Decidable.not_not.1 h0)
    rw[Ep];simp[hne]
   refine bB (fun w m=>m.bO 0 rfl (show _=aG 156 2 (.slice A1 k c1) k (fc ((l.take (i+1)).filter fun x=>decide (x.1≠p)))from by rw[hF])) ?_
   refine aD<|aT<|ag<|aj<|hy (fun _=>aa rfl)<|hy (fun _=>aM rfl rfl (bD (by omega) (by omega)))<|hy (fun _=>ab rfl)<|ai<|al (ρ' :=[(6,_),(19,_),(10,_),(5,_),(4,_),(0,_),(1,_)]) ⟨rfl,rfl,rfl,rfl,rfl,rfl,rfl,trivial⟩<| ?_
   refine gr (i+1) A1 k c1 ⟨rfl,rfl,rfl,rfl,rfl,trivial⟩ [0] rfl [0] rfl (⟨by omega,by rw[hF];exact hk⟩) (by omega)
 ·obtain rfl:i=n:=by omega
  rw[←hl,List.take_of_length_le (Nat.le_refl _)]at hk
  refine bB (fun w m=>m.bO 0 rfl (show _=aG 156 2 (.slice A1 k c1) k (fc (l.filter fun x=>decide (x.1≠p)))from by rw[←hl,List.take_of_length_le (Nat.le_refl _)])) ?_
  refine bK<|ao<|ao<|aC<|ag<|ah<|aj<|hy (fun _=>aa rfl)<|hy (fun _=>ab rfl)<|ai<|al (ρ' :=[(4,_),(10,_),(5,_),(6,_),(0,_),(1,_)]) ⟨rfl,rfl,rfl,rfl,rfl,rfl,trivial⟩<|ag<|aU<| ?_
  exact bc trivial rfl rfl [0] rfl [] rfl ⟨_,_,rfl,rfl,rfl,hk⟩
end Go.Proofs.YtmibdabdlgmafaaGreatDoor
end
section
set_option maxRecDepth 20000
namespace Go.Proofs.YtmibdabdlgmafaaGreatDoor
open Go.Eng Go.Hx
def mG(a b:List UInt8):Bool:=Op.bytesLess (strOf a).toList (strOf b).toList
def ia(f:FP)(st:List FP×Bool)(x:FP):List FP×Bool:=
 let s1:=if st.2=false∧mG x.1 f.1=false then(st.1++[f],true)else st
 (if x.1≠f.1 then s1.1++[x]else s1.1,s1.2)
def Cn(f:FP)(l:List FP)(i:Nat):List FP×Bool:=(l.take i).foldl (ia f) ([],false)
theorem z1{f:FP}{l:List FP}{i:Nat}{x:FP}(h:l[i]? =some x):Cn f l (i+1)=ia f (Cn f l i) x:=by
 obtain⟨hi,rfl⟩:=List.getElem?_eq_some_iff.1 h
 unfold Cn
 rw[List.take_succ_eq_append_getElem hi,List.foldl_append]
 rfl
def gi(l:List FP)(f:FP):List FP:=if(Cn f l l.length).2 then(Cn f l l.length).1 else(Cn f l l.length).1++[f]
theorem xV{A:Option Addr}{n c:Nat}{l:List FP}{f:FP}(hl:l.length=n)(hn:n≤1000000):cf Tryz.prog 220 [.slice A n c,.agg [SV f.1,SV f.2].toArray] [] [c6 2 A n (fc l)] (fun v_ X_ S_=>∃v k,v_=v∧X_=[aG 156 2 v k (fc (gi l f))]∧S_=[]∧(k=(gi l f).length∧k≤n+1)):=by
 refine aP (N:=52) Tryz.func220 rfl rfl (by simp) fun b=> ?_
 refine aZ (fun m=>jq (m.rd 0 rfl)) ?_
 rintro⟨hl_r,hA_r⟩
 refine ah<|aj<| ?_
 refine hx (cy rfl (fun g3=> ?_))
 refine aR (fun w m=>m.bO 0 rfl (show _=aI g3 156 [SV f.1,SV f.2]from congrArg (aI _ _) (bq _))) ?_
 refine hy (fun _=>ab rfl)<|ai<|ak (X' :=[_]) (S' :=[_]) (fun _ m=>m)<|ag<|ah<|aj<|hy (fun _=>ab rfl)<|ai<|ag<|ah<|aj<|hy (fun _=>ab rfl)<|ai<|ag<|ah<|ah<|aj<|hy (fun _=>ab rfl)<|ai<|ag<|aK<| ?_
 refine bB (fun w m=>m.dx (r' :=aG 156 2 (.slice none 0 0) 0 []) (.refl _ _) (Own.nil _ _ _ _) (fun k hk=>hk.elim)) ?_
 refine pf (fun i A1 k c1 out pt=>n-i) (fun i A1 k c1 out pt=>[(5,.slice A1 k c1),(6,.bool pt),(7,.int .i64 (i:Nat))]) (fun i A1 k c1 out pt=>[aG 156 2 (.slice A1 k c1) k (fc out),aI g3 156 [SV f.1,SV f.2]]) (fun i A1 k c1 out pt=>[]) (fun i A1 k c1 out pt=>i≤n∧Cn f l i=(out,pt)∧k=out.length∧k≤i+pt.toNat) 0 none 0 0 [] false [(4,_),(3,_),(0,_),(1,_)] ⟨rfl,rfl,rfl,rfl,trivial⟩ [0,0] rfl [] rfl (⟨Nat.zero_le _,rfl,rfl,Nat.le_refl _⟩) ⟨rfl,rfl,rfl,trivial⟩ (fun i A1 k c1 out pt ⟨hin,hw,hk,hki⟩=> ?_)
 have hpt:pt.toNat≤1:=by cases pt <;> decide
 refine ah<|ah<|aj<|hy (fun _=>aa rfl)<|hy (fun _=>aa rfl)<|hy (fun _=>aX rfl Tryz.underlying36)<|hy (fun _=>bw rfl rfl)<|ai<|al (ρ' :=[(11,_),(5,_),(6,_),(7,_),(4,_),(3,_),(0,_),(1,_)]) ⟨rfl,rfl,rfl,rfl,rfl,rfl,rfl,rfl,trivial⟩<|ag<| ?_
 refine cD rfl (fun h=> ?_) (fun h=> ?_)
 ·have hil:i<l.length:=by omega
  obtain⟨x,hgx⟩:∃x,l[i]? =some x:=⟨_,List.getElem?_eq_getElem hil⟩
  obtain⟨g0,g2⟩:=jE l i x hgx
  have hs:=z1 (f:=f) hgx
  rw[hw]at hs
  unfold ia at hs
  by_cases hp:pt=true
  ·subst hp
   simp only[Bool.true_eq_false,false_and,if_false]at hs
   refine aD<|ag<|ah<|aK<|ah<|ah<|cN [] [(0,some 0),(1,some 0),(2,some 0),(3,some 0),(4,some 0),(5,some 0),(6,some 0),(7,some 0),(8,some 0),(9,some 0),(10,some 0),(11,some 0)] (by kernel_rfl) (by kernel_rfl) rfl 99<|an (aa rfl)<|an ((mH rfl))<|an (aa rfl)<|a7 rfl rfl rfl (by decide)<|a7 rfl rfl rfl (by decide)<|a7 rfl rfl rfl (by decide)<|a7 rfl rfl rfl (by decide)<|a7 rfl rfl rfl (by decide)<|a7 rfl rfl rfl (by decide)<|a7 rfl rfl rfl (by decide)<|a7 rfl rfl rfl (by decide)<|an (bP rfl rfl)<|bz<|al (ρ' :=[(25,_),(11,_),(5,_),(6,_),(7,_),(4,_),(3,_),(0,_),(1,_)]) ⟨rfl,rfl,rfl,rfl,rfl,rfl,rfl,rfl,rfl,trivial⟩<|ag<| ?_
   refine dP rfl (rfl) ?_
   refine aD<|ag<|ah<|cN [] [(0,some 0),(1,some 0),(2,some 0),(3,some 0),(4,some 0),(5,some 0),(6,some 0),(7,some 0)] (by kernel_rfl) (by kernel_rfl) rfl 99<|an (aa rfl)<|an (aa rfl)<|an (cQ rfl rfl Tryz.underlying36 eS hA_r rfl (by omega))<|an (aL rfl eU (by decide))<|b6 (fun m=>yV (aw rfl lL (fl (m.rd 0 rfl) g0)) ((rfl:_=Value.string (strOf x.1))))<|an (aL rfl eU (by decide))<|b6 (fun m=>yV (aw rfl lL (aA (m.aY 1 rfl) (i:=0) rfl)) ((rfl:_=Value.string (strOf f.1))))<|an (pb rfl rfl)<|bz<|al (ρ' :=[(37,_),(25,_),(11,_),(5,_),(6,_),(7,_),(4,_),(3,_),(0,_),(1,_)]) ⟨rfl,rfl,rfl,rfl,rfl,rfl,rfl,rfl,rfl,rfl,trivial⟩<|ag<| ?_
   refine cD rfl (fun h1=> ?_) (fun h1=> ?_)
   ·have hne:x.1≠f.1:=fun e=>h1 (cA.2 e)
    refine aj<|hy (fun _=>aa rfl)<|hy (fun _=>aa rfl)<|hy (fun _=>aa rfl)<|hy (fun _=>cQ rfl rfl Tryz.underlying36 eS hA_r rfl (by omega))<|hy (fun m=>yV (a6 rfl qR eS rfl (mD (m.rd 0 rfl) hgx)) ((rfl:_=Value.agg [SV x.1,SV x.2].toArray)))<| ?_
    refine hx (bV Tryz.underlying36 ir rfl rfl rfl (by simp[Value.cells,B8]) (by decide) (by decide) (fun g43=> ?_))
    have hA_b43:0<1→(some (⟨g43,0,none⟩:Addr))≠none:=fun _ h=>by cases h
    refine aR (fun w m=>m.bO 0 rfl (show _=aG 156 2 (.slice (some ⟨g43,0,none⟩) 1 1) 1 (fc [x])from rfl)) ?_
    refine hx (bH 1 rfl rfl rfl Tryz.underlying36 Tryz.underlying36 (by exact .inl rfl) ir rfl (fun m=>Src.bY (m.ord 0 rfl)) mR (by unfold maxLen;omega) (by omega) (fun u=> ?_))
    refine aB (fun m=>(m.own 0 rfl).slice) ?_
    rintro⟨A_o,c_o,rfl,hc_o⟩
    refine aB (fun m=>(m.ord 0 rfl).2.1) fun hA_o=> ?_
    refine aR (fun w m=>m.bO 0 rfl (show _=aG 156 2 (.slice A_o (k+1) c_o) (k+1) (fc (out++[x]))from congrArg (aG _ _ _ _) (gO ..).symm)) ?_
    refine hy (fun _=>ab rfl)<|ai<|al (ρ' :=[(5,_),(37,_),(25,_),(11,_),(6,_),(7,_),(4,_),(3,_),(0,_),(1,_)]) ⟨rfl,rfl,rfl,rfl,rfl,rfl,rfl,rfl,rfl,rfl,trivial⟩<|ak (X' :=[_,_,_]) (S' :=[_]) (fun _ m=>m)<|aT<|ag<|aj<|hy (fun _=>aa rfl)<|hy (fun _=>aM rfl rfl (bD (by omega) (by omega)))<|hy (fun _=>ab rfl)<|ai<|al (ρ' :=[(7,_),(5,_),(37,_),(25,_),(11,_),(6,_),(4,_),(3,_),(0,_),(1,_)]) ⟨rfl,rfl,rfl,rfl,rfl,rfl,rfl,rfl,rfl,rfl,trivial⟩<| ?_
    refine gy (i+1) A_o (k+1) c_o (out++[x]) true ⟨rfl,rfl,rfl,rfl,rfl,rfl,rfl,trivial⟩ [0,1] rfl [0] rfl (⟨by omega,by rw[hs,if_pos hne],by rw[List.length_append,hk.symm];rfl,by simp at hki ⊢;omega⟩) (by omega)
   ·have hne:¬x.1≠f.1:=fun e=>h1 (fun h=>e (cA.1 h))
    refine aD<|aT<|ag<|aj<|hy (fun _=>aa rfl)<|hy (fun _=>aM rfl rfl (bD (by omega) (by omega)))<|hy (fun _=>ab rfl)<|ai<|al (ρ' :=[(7,_),(37,_),(25,_),(11,_),(5,_),(6,_),(4,_),(3,_),(0,_),(1,_)]) ⟨rfl,rfl,rfl,rfl,rfl,rfl,rfl,rfl,rfl,rfl,trivial⟩<| ?_
    refine gy (i+1) A1 (k) c1 (out) true ⟨rfl,rfl,rfl,rfl,rfl,rfl,rfl,trivial⟩ [0,0] rfl [0] rfl (⟨by omega,by rw[hs,if_neg hne],hk.symm.symm,by simp at hki ⊢;omega⟩) (by omega)
  ·obtain rfl:pt=false:=by simpa using hp
   by_cases hge:mG x.1 f.1=false
   ·simp only[hge,and_self,if_true]at hs
    refine aD<|ag<|ah<|aK<|ah<|ah<|cN [] [(0,some 0),(1,some 0),(2,some 0),(3,some 0),(4,some 0),(5,some 0),(6,some 0),(7,some 0),(8,some 0),(9,some 0),(10,some 0),(11,some 0)] (by kernel_rfl) (by kernel_rfl) rfl 99<|an (aa rfl)<|an ((mH rfl))<|an (aa rfl)<|bG (o:=_) rfl rfl rfl (aa rfl)<|bG (o:=_) rfl rfl rfl (aa rfl)<|bG (o:=_) rfl rfl rfl (cQ rfl rfl Tryz.underlying36 eS hA_r rfl (by omega))<|bG (o:=_) rfl rfl rfl (aL rfl eU (by decide))<|lR (o:=_) rfl rfl rfl (fun m=>yV (aw rfl lL (fl (m.rd 0 rfl) g0)) ((rfl:_=Value.string (strOf x.1))))<|bG (o:=_) rfl rfl rfl (aL rfl eU (by decide))<|lR (o:=_) rfl rfl rfl (fun m=>yV (aw rfl lL (aA (m.aY 1 rfl) (i:=0) rfl)) ((rfl:_=Value.string (strOf f.1))))<|bG (o:=_) rfl rfl rfl (yT (CD rfl rfl) ((by show(!mG x.1 f.1)=true;rw[hge];rfl)))<|an (bU rfl rfl)<|bz<|al (ρ' :=[(25,_),(11,_),(5,_),(6,_),(7,_),(4,_),(3,_),(0,_),(1,_)]) ⟨rfl,rfl,rfl,rfl,rfl,rfl,rfl,rfl,rfl,trivial⟩<|ag<| ?_
    refine ib rfl (rfl) ?_
    refine ah<|aj<|hy (fun _=>aa rfl)<|hy (fun m=>yV (a6 rfl qR eS rfl ((m.aY 1 rfl).ay)) ((rfl:_=Value.agg [SV f.1,SV f.2].toArray)))<| ?_
    refine hx (bV Tryz.underlying36 ir rfl rfl rfl (by simp[Value.cells,B8]) (by decide) (by decide) (fun g28=> ?_))
    have hA_b28:0<1→(some (⟨g28,0,none⟩:Addr))≠none:=fun _ h=>by cases h
    refine aR (fun w m=>m.bO 0 rfl (show _=aG 156 2 (.slice (some ⟨g28,0,none⟩) 1 1) 1 (fc [f])from rfl)) ?_
    refine hx (bH 1 rfl rfl rfl Tryz.underlying36 Tryz.underlying36 (by exact .inl rfl) ir rfl (fun m=>Src.bY (m.ord 0 rfl)) mR (by unfold maxLen;omega) (by omega) (fun u=> ?_))
    refine aB (fun m=>(m.own 0 rfl).slice) ?_
    rintro⟨A_o,c_o,rfl,hc_o⟩
    refine aB (fun m=>(m.ord 0 rfl).2.1) fun hA_o=> ?_
    refine aR (fun w m=>m.bO 0 rfl (show _=aG 156 2 (.slice A_o (k+1) c_o) (k+1) (fc (out++[f]))from congrArg (aG _ _ _ _) (gO ..).symm)) ?_
    have hk1:(out++[f]).length=k+1:=by rw[List.length_append,hk];rfl
    refine hy (fun _=>ab rfl)<|ai<|al (ρ' :=[(5,_),(25,_),(11,_),(6,_),(7,_),(4,_),(3,_),(0,_),(1,_)]) ⟨rfl,rfl,rfl,rfl,rfl,rfl,rfl,rfl,rfl,trivial⟩<|ak (X' :=[_,_,_]) (S' :=[_]) (fun _ m=>m)<|ag<|aj<|hy (fun _=>ab rfl)<|ai<|ag<|ah<|cN [] [(0,some 0),(1,some 0),(2,some 0),(3,some 0),(4,some 0),(5,some 0),(6,some 0),(7,some 0)] (by kernel_rfl) (by kernel_rfl) rfl 99<|an (aa rfl)<|an (aa rfl)<|an (cQ rfl rfl Tryz.underlying36 eS hA_r rfl (by omega))<|an (aL rfl eU (by decide))<|b6 (fun m=>yV (aw rfl lL (fl (m.rd 0 rfl) g0)) ((rfl:_=Value.string (strOf x.1))))<|an (aL rfl eU (by decide))<|b6 (fun m=>yV (aw rfl lL (aA (m.aY 2 rfl) (i:=0) rfl)) ((rfl:_=Value.string (strOf f.1))))<|an (pb rfl rfl)<|bz<|al (ρ' :=[(37,_),(6,_),(5,_),(25,_),(11,_),(7,_),(4,_),(3,_),(0,_),(1,_)]) ⟨rfl,rfl,rfl,rfl,rfl,rfl,rfl,rfl,rfl,rfl,trivial⟩<|ag<| ?_
    refine cD rfl (fun h1=> ?_) (fun h1=> ?_)
    ·have hne:x.1≠f.1:=fun e=>h1 (cA.2 e)
     refine aj<|hy (fun _=>aa rfl)<|hy (fun _=>aa rfl)<|hy (fun _=>aa rfl)<|hy (fun _=>cQ rfl rfl Tryz.underlying36 eS hA_r rfl (by omega))<|hy (fun m=>yV (a6 rfl qR eS rfl (mD (m.rd 0 rfl) hgx)) ((rfl:_=Value.agg [SV x.1,SV x.2].toArray)))<| ?_
     refine hx (bV Tryz.underlying36 ir rfl rfl rfl (by simp[Value.cells,B8]) (by decide) (by decide) (fun g43=> ?_))
     have hA_b43:0<1→(some (⟨g43,0,none⟩:Addr))≠none:=fun _ h=>by cases h
     refine aR (fun w m=>m.bO 0 rfl (show _=aG 156 2 (.slice (some ⟨g43,0,none⟩) 1 1) 1 (fc [x])from rfl)) ?_
     refine hx (bH 1 rfl rfl rfl Tryz.underlying36 Tryz.underlying36 (by exact .inl rfl) ir rfl (fun m=>Src.bY (m.ord 0 rfl)) mR (by unfold maxLen;omega) (by omega) (fun u2=> ?_))
     refine aB (fun m=>(m.own 0 rfl).slice) ?_
     rintro⟨A_o2,c_o2,rfl,hc_o⟩
     refine aB (fun m=>(m.ord 0 rfl).2.1) fun hA_o=> ?_
     refine aR (fun w m=>m.bO 0 rfl (show _=aG 156 2 (.slice A_o2 (k+1+1) c_o2) (k+1+1) (fc ((out++[f])++[x]))from congrArg (aG _ _ _ _) (gO ..).symm)) ?_
     refine hy (fun _=>ab rfl)<|ai<|al (ρ' :=[(5,_),(37,_),(6,_),(25,_),(11,_),(7,_),(4,_),(3,_),(0,_),(1,_)]) ⟨rfl,rfl,rfl,rfl,rfl,rfl,rfl,rfl,rfl,rfl,trivial⟩<|ak (X' :=[_,_,_,_]) (S' :=[_]) (fun _ m=>m)<|aT<|ag<|aj<|hy (fun _=>aa rfl)<|hy (fun _=>aM rfl rfl (bD (by omega) (by omega)))<|hy (fun _=>ab rfl)<|ai<|al (ρ' :=[(7,_),(5,_),(37,_),(6,_),(25,_),(11,_),(4,_),(3,_),(0,_),(1,_)]) ⟨rfl,rfl,rfl,rfl,rfl,rfl,rfl,rfl,rfl,rfl,trivial⟩<| ?_
     refine gy (i+1) A_o2 (k+1+1) c_o2 ((out++[f])++[x]) true ⟨rfl,rfl,rfl,rfl,rfl,rfl,rfl,trivial⟩ [0,2] rfl [0] rfl (⟨by omega,by rw[hs,if_pos hne],by rw[List.length_append,hk1];rfl,by simp at hki ⊢;omega⟩) (by omega)
    ·have hne:¬x.1≠f.1:=fun e=>h1 (fun h=>e (cA.1 h))
     refine aD<|aT<|ag<|aj<|hy (fun _=>aa rfl)<|hy (fun _=>aM rfl rfl (bD (by omega) (by omega)))<|hy (fun _=>ab rfl)<|ai<|al (ρ' :=[(7,_),(37,_),(6,_),(5,_),(25,_),(11,_),(4,_),(3,_),(0,_),(1,_)]) ⟨rfl,rfl,rfl,rfl,rfl,rfl,rfl,rfl,rfl,rfl,trivial⟩<| ?_
     refine gy (i+1) A_o (k+1) c_o ((out++[f])) true ⟨rfl,rfl,rfl,rfl,rfl,rfl,rfl,trivial⟩ [0,1] rfl [0] rfl (⟨by omega,by rw[hs,if_neg hne],hk1.symm,by simp at hki ⊢;omega⟩) (by omega)
   ·have hlt:mG x.1 f.1=true:=by simpa using hge
    simp only[hlt,Bool.true_eq_false,and_false,if_false]at hs
    refine aD<|ag<|ah<|aK<|ah<|ah<|cN [] [(0,some 0),(1,some 0),(2,some 0),(3,some 0),(4,some 0),(5,some 0),(6,some 0),(7,some 0),(8,some 0),(9,some 0),(10,some 0),(11,some 0)] (by kernel_rfl) (by kernel_rfl) rfl 99<|an (aa rfl)<|an ((mH rfl))<|an (aa rfl)<|bG (o:=_) rfl rfl rfl (aa rfl)<|bG (o:=_) rfl rfl rfl (aa rfl)<|bG (o:=_) rfl rfl rfl (cQ rfl rfl Tryz.underlying36 eS hA_r rfl (by omega))<|bG (o:=_) rfl rfl rfl (aL rfl eU (by decide))<|lR (o:=_) rfl rfl rfl (fun m=>yV (aw rfl lL (fl (m.rd 0 rfl) g0)) ((rfl:_=Value.string (strOf x.1))))<|bG (o:=_) rfl rfl rfl (aL rfl eU (by decide))<|lR (o:=_) rfl rfl rfl (fun m=>yV (aw rfl lL (aA (m.aY 1 rfl) (i:=0) rfl)) ((rfl:_=Value.string (strOf f.1))))<|bG (o:=_) rfl rfl rfl (yF (CD rfl rfl) ((by show(!mG x.1 f.1)=false;rw[hlt];rfl)))<|an (bU rfl rfl)<|bz<|al (ρ' :=[(25,_),(11,_),(5,_),(6,_),(7,_),(4,_),(3,_),(0,_),(1,_)]) ⟨rfl,rfl,rfl,rfl,rfl,rfl,rfl,rfl,rfl,trivial⟩<|ag<| ?_
    refine dP rfl (rfl) ?_
    refine aD<|ag<|ah<|cN [] [(0,some 0),(1,some 0),(2,some 0),(3,some 0),(4,some 0),(5,some 0),(6,some 0),(7,some 0)] (by kernel_rfl) (by kernel_rfl) rfl 99<|an (aa rfl)<|an (aa rfl)<|an (cQ rfl rfl Tryz.underlying36 eS hA_r rfl (by omega))<|an (aL rfl eU (by decide))<|b6 (fun m=>yV (aw rfl lL (fl (m.rd 0 rfl) g0)) ((rfl:_=Value.string (strOf x.1))))<|an (aL rfl eU (by decide))<|b6 (fun m=>yV (aw rfl lL (aA (m.aY 1 rfl) (i:=0) rfl)) ((rfl:_=Value.string (strOf f.1))))<|an (pb rfl rfl)<|bz<|al (ρ' :=[(37,_),(25,_),(11,_),(5,_),(6,_),(7,_),(4,_),(3,_),(0,_),(1,_)]) ⟨rfl,rfl,rfl,rfl,rfl,rfl,rfl,rfl,rfl,rfl,trivial⟩<|ag<| ?_
    refine cD rfl (fun h1=> ?_) (fun h1=> ?_)
    ·have hne:x.1≠f.1:=fun e=>h1 (cA.2 e)
     refine aj<|hy (fun _=>aa rfl)<|hy (fun _=>aa rfl)<|hy (fun _=>aa rfl)<|hy (fun _=>cQ rfl rfl Tryz.underlying36 eS hA_r rfl (by omega))<|hy (fun m=>yV (a6 rfl qR eS rfl (mD (m.rd 0 rfl) hgx)) ((rfl:_=Value.agg [SV x.1,SV x.2].toArray)))<| ?_
     refine hx (bV Tryz.underlying36 ir rfl rfl rfl (by simp[Value.cells,B8]) (by decide) (by decide) (fun g43=> ?_))
     have hA_b43:0<1→(some (⟨g43,0,none⟩:Addr))≠none:=fun _ h=>by cases h
     refine aR (fun w m=>m.bO 0 rfl (show _=aG 156 2 (.slice (some ⟨g43,0,none⟩) 1 1) 1 (fc [x])from rfl)) ?_
     refine hx (bH 1 rfl rfl rfl Tryz.underlying36 Tryz.underlying36 (by exact .inl rfl) ir rfl (fun m=>Src.bY (m.ord 0 rfl)) mR (by unfold maxLen;omega) (by omega) (fun u=> ?_))
     refine aB (fun m=>(m.own 0 rfl).slice) ?_
     rintro⟨A_o,c_o,rfl,hc_o⟩
     refine aB (fun m=>(m.ord 0 rfl).2.1) fun hA_o=> ?_
     refine aR (fun w m=>m.bO 0 rfl (show _=aG 156 2 (.slice A_o (k+1) c_o) (k+1) (fc (out++[x]))from congrArg (aG _ _ _ _) (gO ..).symm)) ?_
     refine hy (fun _=>ab rfl)<|ai<|al (ρ' :=[(5,_),(37,_),(25,_),(11,_),(6,_),(7,_),(4,_),(3,_),(0,_),(1,_)]) ⟨rfl,rfl,rfl,rfl,rfl,rfl,rfl,rfl,rfl,rfl,trivial⟩<|ak (X' :=[_,_,_]) (S' :=[_]) (fun _ m=>m)<|aT<|ag<|aj<|hy (fun _=>aa rfl)<|hy (fun _=>aM rfl rfl (bD (by omega) (by omega)))<|hy (fun _=>ab rfl)<|ai<|al (ρ' :=[(7,_),(5,_),(37,_),(25,_),(11,_),(6,_),(4,_),(3,_),(0,_),(1,_)]) ⟨rfl,rfl,rfl,rfl,rfl,rfl,rfl,rfl,rfl,rfl,trivial⟩<| ?_
     refine gy (i+1) A_o (k+1) c_o (out++[x]) false ⟨rfl,rfl,rfl,rfl,rfl,rfl,rfl,trivial⟩ [0,1] rfl [0] rfl (⟨by omega,by rw[hs,if_pos hne],by rw[List.length_append,hk.symm];rfl,by simp at hki ⊢;omega⟩) (by omega)
    ·have hne:¬x.1≠f.1:=fun e=>h1 (fun h=>e (cA.1 h))
     refine aD<|aT<|ag<|aj<|hy (fun _=>aa rfl)<|hy (fun _=>aM rfl rfl (bD (by omega) (by omega)))<|hy (fun _=>ab rfl)<|ai<|al (ρ' :=[(7,_),(37,_),(25,_),(11,_),(5,_),(6,_),(4,_),(3,_),(0,_),(1,_)]) ⟨rfl,rfl,rfl,rfl,rfl,rfl,rfl,rfl,rfl,rfl,trivial⟩<| ?_
     refine gy (i+1) A1 (k) c1 (out) false ⟨rfl,rfl,rfl,rfl,rfl,rfl,rfl,trivial⟩ [0,0] rfl [0] rfl (⟨by omega,by rw[hs,if_neg hne],hk.symm.symm,by simp at hki ⊢;omega⟩) (by omega)
 ·obtain rfl:i=n:=by omega
  have hww:Cn f l l.length=(out,pt):=by rw[hl];exact hw
  by_cases hp:pt=true
  ·subst hp
   have hW:gi l f=out:=by rw[gi,hww];rfl
   refine bK<|ao<|ao<|aC<|ag<|ah<|ah<|aj<|hy (fun _=>aa rfl)<|hy (fun _=>(mH rfl))<|ai<|al (ρ' :=[(46,_),(11,_),(5,_),(6,_),(7,_),(4,_),(3,_),(0,_),(1,_)]) ⟨rfl,rfl,rfl,rfl,rfl,rfl,rfl,rfl,rfl,trivial⟩<|ag<| ?_
   refine dP rfl (rfl) ?_
   refine aD<|ag<|ah<|aj<|hy (fun _=>aa rfl)<|hy (fun _=>ab rfl)<|ai<|al (ρ' :=[(4,_),(46,_),(11,_),(5,_),(6,_),(7,_),(3,_),(0,_),(1,_)]) ⟨rfl,rfl,rfl,rfl,rfl,rfl,rfl,rfl,rfl,trivial⟩<|ag<|aU<| ?_
   refine ak (fun w m=>m.bO 0 rfl (show _=aG 156 2 (.slice A1 k c1) k (fc (gi l f))from by rw[hW])) ?_
   exact bc trivial rfl rfl [0] rfl [] rfl ⟨_,_,rfl,rfl,rfl,⟨by rw[hW];exact hk,by simp at hki;omega⟩⟩
  ·obtain rfl:pt=false:=by simpa using hp
   have hW:gi l f=out++[f]:=by rw[gi,hww];rfl
   refine bK<|ao<|ao<|aC<|ag<|ah<|ah<|aj<|hy (fun _=>aa rfl)<|hy (fun _=>(mH rfl))<|ai<|al (ρ' :=[(46,_),(11,_),(5,_),(6,_),(7,_),(4,_),(3,_),(0,_),(1,_)]) ⟨rfl,rfl,rfl,rfl,rfl,rfl,rfl,rfl,rfl,trivial⟩<|ag<| ?_
   refine ib rfl (rfl) ?_
   refine aj<|hy (fun _=>aa rfl)<|hy (fun m=>yV (a6 rfl qR eS rfl ((m.aY 1 rfl).ay)) ((rfl:_=Value.agg [SV f.1,SV f.2].toArray)))<| ?_
   refine hx (bV Tryz.underlying36 ir rfl rfl rfl (by simp[Value.cells,B8]) (by decide) (by decide) (fun g49=> ?_))
   have hA_b49:0<1→(some (⟨g49,0,none⟩:Addr))≠none:=fun _ h=>by cases h
   refine aR (fun w m=>m.bO 0 rfl (show _=aG 156 2 (.slice (some ⟨g49,0,none⟩) 1 1) 1 (fc [f])from rfl)) ?_
   refine hx (bH 1 rfl rfl rfl Tryz.underlying36 Tryz.underlying36 (by exact .inl rfl) ir rfl (fun m=>Src.bY (m.ord 0 rfl)) mR (by unfold maxLen;omega) (by omega) (fun u=> ?_))
   refine aB (fun m=>(m.own 0 rfl).slice) ?_
   rintro⟨A_o,c_o,rfl,hc_o⟩
   refine aB (fun m=>(m.ord 0 rfl).2.1) fun hA_o=> ?_
   refine aR (fun w m=>m.bO 0 rfl (show _=aG 156 2 (.slice A_o (k+1) c_o) (k+1) (fc (gi l f))from(congrArg (aG _ _ _ _) ((gO ..).symm.trans (congrArg fc hW.symm))))) ?_
   refine hy (fun _=>ab rfl)<|ai<|al (ρ' :=[(5,_),(46,_),(11,_),(6,_),(7,_),(4,_),(3,_),(0,_),(1,_)]) ⟨rfl,rfl,rfl,rfl,rfl,rfl,rfl,rfl,rfl,trivial⟩<|ak (X' :=[_,_,_]) (S' :=[_]) (fun _ m=>m)<|ag<|ah<|aj<|hy (fun _=>aa rfl)<|hy (fun _=>ab rfl)<|ai<|al (ρ' :=[(4,_),(5,_),(46,_),(11,_),(6,_),(7,_),(3,_),(0,_),(1,_)]) ⟨rfl,rfl,rfl,rfl,rfl,rfl,rfl,rfl,rfl,trivial⟩<|ag<|aU<| ?_
   exact bc trivial rfl rfl [0] rfl [] rfl ⟨_,_,rfl,rfl,rfl,⟨by rw[hW,List.length_append,hk];rfl,by simp at hki;omega⟩⟩
end Go.Proofs.YtmibdabdlgmafaaGreatDoor
end
section
set_option maxRecDepth 20000
namespace Go.Proofs.YtmibdabdlgmafaaGreatDoor
open Go.Eng Go.Hx
def cV(l:List FP)(p:List UInt8):List FP:=l.filter fun x=>decide (x.1≠p)
def cv(k:Int)(p t b:List UInt8):List Value:=[.int .i64 k,SV p,SV t,SV b]
def dw(l:List FP)(k:Int)(p t b:List UInt8):List FP:=
 if k=0 then gi l (p,b)else match l[cp l p]? with
  |none=>l
  |some x=>if k=2 then cV l p else gi (cV l p) (t,x.2)
theorem gL{l:List FP}{p:List UInt8}:kg l p<0↔l[cp l p]? =none:=by
 unfold kg
 by_cases h:cp l p<l.length
 ·rw[if_pos h,List.getElem?_eq_getElem h];simp
 ·rw[if_neg h,List.getElem?_eq_none (by omega)];simp
theorem Em{A:Option Addr}{n c:Nat}{l:List FP}{k:Int}{p t bb:List UInt8}(hl:l.length=n)(hn:n≤900000):cf Tryz.prog 162 [.slice A n c,.agg (cv k p t bb).toArray] [] [c6 2 A n (fc l)] (fun v_ X_ S_=>∃A1 n1 c1,v_=(.slice A1 n1 c1)∧X_=[]∧S_=[c6 2 A1 n1 (fc (dw l k p t bb))]∧(n1=(dw l k p t bb).length∧n1≤n+1)):=by
 refine aP (N:=43) Tryz.func162 rfl rfl (by simp) fun b=> ?_
 refine aZ (fun m=>jq (m.rd 0 rfl)) ?_
 rintro⟨hl_r,hA_r⟩
 refine ah<|aj<| ?_
 refine hx (cy rfl (fun g3=> ?_))
 refine aR (fun w m=>m.bO 0 rfl (show _=aI g3 186 (cv k p t bb)from congrArg (aI _ _) (bq _))) ?_
 refine hy (fun _=>ab rfl)<|ai<|ak (X' :=[_]) (S' :=[_]) (fun _ m=>m)<|ag<|ah<|ah<|aj<|hy (fun _=>aL rfl vQ (by decide))<|hy (fun m=>aw rfl fE (aA (m.aY 0 rfl) (i:=0) rfl))<|hy (fun _=>cH rfl rfl)<|ai<|al (ρ' :=[(8,_),(4,_),(3,_),(0,_),(1,_)]) ⟨rfl,rfl,rfl,rfl,rfl,trivial⟩<|ag<| ?_
 refine cD rfl (fun h0=> ?_) (fun h0=> ?_)
 ·have hM:dw l k p t bb=gi l (p,bb):=by rw[dw,if_pos h0]
  refine ah<|aj<|hy (fun _=>aa rfl)<|hy (fun _=>aL rfl n9 (by decide))<|hy (fun m=>yV (aw rfl lL (aA (m.aY 0 rfl) (i:=1) rfl)) ((rfl:_=SV p)))<|hy (fun _=>aL rfl Cp (by decide))<|hy (fun m=>yV (aw rfl lL (aA (m.aY 0 rfl) (i:=3) rfl)) ((rfl:_=SV bb)))<|hy (fun _=>yV (cn ir rfl rfl (by kernel_rfl) (.cons (o:=0) (sz:=1) (by kernel_rfl) rfl rfl (Nat.le_of_ble_eq_true rfl) (.cons (o:=1) (sz:=1) (by kernel_rfl) rfl rfl (Nat.le_of_ble_eq_true rfl) .nil))) ((rfl:_=Value.agg [SV p,SV bb].toArray)))<| ?_
  refine hx (aq rfl Tryz.call220 (xV (by omega) (by omega) (f:=(p,bb))) [] rfl [0] rfl ?_)
  rintro _ _ _ ⟨v,k2,rfl,rfl,rfl,hp⟩
  refine aB (fun m=>(m.own 0 rfl).slice) ?_
  rintro⟨A_x,c_x,rfl,hc_x⟩
  refine aB (fun m=>(m.ord 0 rfl).2.1) fun hA_x=> ?_
  refine hy (fun _=>ab rfl)<|ai<|al (ρ' :=[(4,_),(8,_),(3,_),(0,_),(1,_)]) ⟨rfl,rfl,rfl,rfl,rfl,trivial⟩<|ak (X' :=[_,_]) (S' :=[_]) (fun _ m=>m)<|ag<|aU<|ax<| ?_
  rw[←hM]at hp
  refine ak (fun w m=>m.bO 0 rfl (show _=aG 156 2 (.slice A_x k2 c_x) k2 (fc (dw l k p t bb))from by rw[hM])) ?_
  refine ak (fun w m=>(m.perm (ar [0] _ [_] _ rfl)).freeze) ?_
  refine ak (fun w m=>m.j6 0 rfl .own) ?_
  refine uW (fun m=>jq (m.rd 0 rfl)) ?_
  rintro⟨hl_xr,hA_xr⟩
  exact bc trivial rfl rfl [] rfl [0] rfl ⟨_,_,_,rfl,rfl,rfl,hp⟩
 ·refine aD<|ag<|ah<|aj<|hy (fun _=>aa rfl)<|hy (fun _=>aL rfl n9 (by decide))<|hy (fun m=>yV (aw rfl lL (aA (m.aY 0 rfl) (i:=1) rfl)) ((rfl:_=SV p)))<| ?_
  refine hx (aq rfl Tryz.call113 (uc (by omega) (by omega)) [] rfl [0] rfl ?_)
  rintro _ _ _ ⟨rfl,rfl,rfl⟩
  refine hy (fun _=>ab rfl)<|ai<|al (ρ' :=[(5,_),(8,_),(4,_),(3,_),(0,_),(1,_)]) ⟨rfl,rfl,rfl,rfl,rfl,rfl,trivial⟩<|ak (X' :=[_]) (S' :=[_]) (fun _ m=>m)<|ag<|ah<|ah<|aj<|hy (fun _=>aa rfl)<|hy (fun _=>bw rfl rfl)<|ai<|al (ρ' :=[(21,_),(5,_),(8,_),(4,_),(3,_),(0,_),(1,_)]) ⟨rfl,rfl,rfl,rfl,rfl,rfl,rfl,trivial⟩<|ag<| ?_
  refine cD rfl (fun h1=> ?_) (fun h1=> ?_)
  ·have hM:dw l k p t bb=l:=by rw[dw,if_neg h0,gL.1 h1]
   refine ah<|aj<|hy (fun _=>aa rfl)<|hy (fun _=>ab rfl)<|ai<|al (ρ' :=[(4,_),(21,_),(5,_),(8,_),(3,_),(0,_),(1,_)]) ⟨rfl,rfl,rfl,rfl,rfl,rfl,rfl,trivial⟩<|ag<|aU<|ax<| ?_
   rw[hM]
   exact bc trivial rfl rfl [] rfl [0] rfl ⟨_,_,_,rfl,rfl,rfl,⟨hl.symm,by omega⟩⟩
  ·obtain⟨x0,cI⟩:∃x0,l[cp l p]? =some x0:=by
    cases hq:l[cp l p]? with
    |none=>exact absurd (gL.2 hq) h1
    |some x0=>exact⟨x0,rfl⟩
   have hfl:cp l p<l.length:=(List.getElem?_eq_some_iff.1 cI).1
   obtain⟨f0,f1⟩:=jE l _ x0 cI
   have hfi:kg l p=(cp l p:Nat):=by rw[kg,if_pos hfl]
   have hwl:(cV l p).length≤l.length:=List.length_filter_le ..
   refine aD<|ag<|ah<|ah<|aj<|hy (fun _=>aL rfl vQ (by decide))<|hy (fun m=>aw rfl fE (aA (m.aY 0 rfl) (i:=0) rfl))<|hy (fun _=>cH rfl rfl)<|ai<|al (ρ' :=[(25,_),(21,_),(5,_),(8,_),(4,_),(3,_),(0,_),(1,_)]) ⟨rfl,rfl,rfl,rfl,rfl,rfl,rfl,rfl,trivial⟩<|ag<| ?_
   refine cD rfl (fun h2=> ?_) (fun h2=> ?_)
   ·have hM:dw l k p t bb=cV l p:=by rw[dw,if_neg h0,cI];simp only[if_pos h2]
    refine ah<|aj<|hy (fun _=>aa rfl)<|hy (fun _=>aL rfl n9 (by decide))<|hy (fun m=>yV (aw rfl lL (aA (m.aY 0 rfl) (i:=1) rfl)) ((rfl:_=SV p)))<| ?_
    refine hx (aq rfl Tryz.call221 (p5 (by omega) (by omega)) [] rfl [0] rfl ?_)
    rintro _ _ _ ⟨v,k2,rfl,rfl,rfl,hp⟩
    refine aB (fun m=>(m.own 0 rfl).slice) ?_
    rintro⟨A_x,c_x,rfl,hc_x⟩
    refine aB (fun m=>(m.ord 0 rfl).2.1) fun hA_x=> ?_
    refine hy (fun _=>ab rfl)<|ai<|al (ρ' :=[(4,_),(25,_),(21,_),(5,_),(8,_),(3,_),(0,_),(1,_)]) ⟨rfl,rfl,rfl,rfl,rfl,rfl,rfl,rfl,trivial⟩<|ak (X' :=[_,_]) (S' :=[_]) (fun _ m=>m)<|ag<|aU<|ax<| ?_
    refine ak (fun w m=>m.bO 0 rfl (show _=aG 156 2 (.slice A_x k2 c_x) k2 (fc (dw l k p t bb))from by rw[hM];rfl)) ?_
    refine ak (fun w m=>(m.perm (ar [0] _ [_] _ rfl)).freeze) ?_
    refine ak (fun w m=>m.j6 0 rfl .own) ?_
    refine uW (fun m=>jq (m.rd 0 rfl)) ?_
    rintro⟨hl_xr,hA_xr⟩
    exact bc trivial rfl rfl [] rfl [0] rfl ⟨_,_,_,rfl,rfl,rfl,⟨hp.trans (congrArg List.length hM.symm),by rw[hp];show(cV l p).length≤_;omega⟩⟩
   ·have hM:dw l k p t bb=gi (cV l p) (t,x0.2):=by rw[dw,if_neg h0,cI];simp only[if_neg h2]
    refine aD<|ag<|ah<|cN [3,12] [(0,some 0),(1,some 0),(2,some 0),(4,some 1),(5,some 1),(6,some 2),(7,some 2),(8,some 1),(9,some 1),(10,some 1),(11,some 1),(3,none),(12,none),(13,some 2)] (by kernel_rfl) (by kernel_rfl) rfl 99<|an (aa rfl)<|an (aL rfl n9 (by decide))<|b6 (fun m=>yV (aw rfl lL (aA (m.aY 0 rfl) (i:=1) rfl)) ((rfl:_=SV p)))<|an (aL rfl Cj (by decide))<|b6 (fun m=>yV (aw rfl lL (aA (m.aY 0 rfl) (i:=2) rfl)) ((rfl:_=SV t)))<|an (aa rfl)<|an (aa rfl)<|an (cQ rfl rfl Tryz.underlying36 eS hA_r hfi.symm (by omega))<|an (aL rfl oc (by decide))<|b6 (fun m=>yV (aw rfl lL (fl (m.rd 0 rfl) f1)) ((rfl:_=SV x0.2)))<|an (yV (cn ir rfl rfl (by kernel_rfl) (.cons (o:=0) (sz:=1) (by kernel_rfl) rfl rfl (Nat.le_of_ble_eq_true rfl) (.cons (o:=1) (sz:=1) (by kernel_rfl) rfl rfl (Nat.le_of_ble_eq_true rfl) .nil))) ((rfl:_=Value.agg [SV t,SV x0.2].toArray)))<| ?_
    refine dT (aq rfl Tryz.call221 (p5 (by omega) (by omega)) [] rfl [0] rfl ?_)
    rintro _ _ _ ⟨v,k2,rfl,rfl,rfl,hp⟩
    refine⟨(fun _=>wk [1] [0] rfl rfl), ?_⟩
    refine b9 (fun m=>(m.own 0 rfl).slice) ?_
    rintro⟨A_x,c_x,rfl,hc_x⟩
    refine b9 (fun m=>(m.ord 0 rfl).2.1) fun hA_x=> ?_
    have hk2:k2=(cV l p).length:=hp
    clear hp
    refine dT (cC rfl Tryz.call220 (xV (by omega) (by omega) (l:=(cV l p)) (f:=(t,x0.2))) [] rfl (.x 0 rfl .own .nil) ?_)
    rintro _ _ _ ⟨v2,k3,rfl,rfl,rfl,hp2⟩
    refine⟨rfl, ?_⟩
    refine⟨(fun _=>wk [2] [0] rfl rfl), ?_⟩
    refine b9 (fun m=>(m.own 0 rfl).slice) ?_
    rintro⟨A_x2,c_x2,rfl,hc_x2⟩
    refine b9 (fun m=>(m.ord 0 rfl).2.1) fun hA_x2=> ?_
    refine an (ab rfl)<|bz<|al (ρ' :=[(4,_),(25,_),(21,_),(5,_),(8,_),(3,_),(0,_),(1,_)]) ⟨rfl,rfl,rfl,rfl,rfl,rfl,rfl,rfl,trivial⟩<|ak (X' :=[_,_,_]) (S' :=[_]) (fun _ m=>m)<|ag<|aU<| ?_
    rw[hM]
    refine ak (fun w m=>(m.perm (ar [0] _ [_] _ rfl)).freeze) ?_
    refine ak (fun w m=>m.j6 0 rfl .own) ?_
    refine uW (fun m=>jq (m.rd 0 rfl)) ?_
    rintro⟨hl_x2r,hA_x2r⟩
    exact bc trivial rfl rfl [] rfl [0] rfl ⟨_,_,_,rfl,rfl,rfl,⟨hp2.1,by omega⟩⟩
abbrev RC:=Int×List UInt8×List UInt8×List UInt8
def tV(l:List RC):List Value:=l.flatMap fun x=>cv x.1 x.2.1 x.2.2.1 x.2.2.2
theorem uV(a b:List RC):tV (a++b)=tV a++tV b:=by simp[tV]
theorem vY{l:List RC}:∀u∈tV l,u.oneCell' =true:=by
 intro u hu
 obtain⟨x,_,h⟩:=List.mem_flatMap.1 hu
 simp only[cv,List.mem_cons,List.not_mem_nil,or_false]at h
 rcases h with rfl|rfl|rfl|rfl <;> rfl
theorem iG{room pw:Int}{A A2 A3:Option Addr}{n c n2 c2 n3 c3:Nat}:∀u∈dv room (.slice A n c) (.slice A2 n2 c2) (.slice A3 n3 c3) pw,u.oneCell' =true:=by
 intro u hu
 simp only[dv,List.mem_cons,List.not_mem_nil,or_false]at hu
 rcases hu with rfl|rfl|rfl|rfl|rfl <;> rfl
def dH(pw:Int):Int:=if 0<pw then pw-1 else pw
theorem Ea{room pw:Int}{A Al A3:Option Addr}{n c nl cl n3 c3:Nat}{l:List FP}{wl:List RC}{k:Int}{p t bb:List UInt8}(hl:l.length=n)(hn:n≤900000)(hw:wl.length=n3)(hn3:n3≤900000)(hp1:-10≤pw)(hp2:pw≤1000000000000):cf Tryz.prog 114 [.agg (dv room (.slice A n c) (.slice Al nl cl) (.slice A3 n3 c3) pw).toArray,.agg (cv k p t bb).toArray] [] [c6 2 A n (fc l),c6 4 A3 n3 (tV wl)] (fun v_ X_ S_=>∃A1 n1 c1 A2 n2 c2,v_=(.agg (dv room (.slice A1 n1 c1) (.slice Al nl cl) (.slice A2 n2 c2) (dH pw)).toArray)∧X_=[]∧S_=[c6 2 A1 n1 (fc (dw l k p t bb)),c6 4 A2 n2 (tV (wl++[(k,p,t,bb)]))]∧(n1=(dw l k p t bb).length∧n1≤n+1∧n2=n3+1)):=by
 refine aP (N:=28) Tryz.func114 rfl rfl (by simp) fun b=> ?_
 refine aZ (fun m=>jq (m.rd 0 rfl)) ?_
 rintro⟨hl_r,hA_r⟩
 refine aZ (fun m=>jq (m.rd 1 rfl)) ?_
 rintro⟨hl_w,hA_w⟩
 refine ah<|aj<| ?_
 refine hx (cy rfl (fun g2=> ?_))
 refine aR (fun w m=>m.bO 0 rfl (show _=aI g2 39 (dv room (.slice A n c) (.slice Al nl cl) (.slice A3 n3 c3) pw)from congrArg (aI _ _) (bq _))) ?_
 refine hx (cy rfl (fun g3=> ?_))
 refine aR (fun w m=>m.bO 0 rfl (show _=aI g3 186 (cv k p t bb)from congrArg (aI _ _) (bq _))) ?_
 refine hx (aN iM (fun g4=> ?_))
 refine ai<|ak (X' :=[_,_,_]) (S' :=[_,_]) (fun _ m=>m)<|ag<|ah<|aj<|hy (fun _=>aL rfl jJ (by decide))<|hy (fun m=>aw rfl ta (aA (m.aY 2 rfl) (i:=1) rfl))<|hy (fun m=>yV (a6 rfl CI Cu rfl ((m.aY 1 rfl).ay)) ((rfl:_=Value.agg (cv k p t bb).toArray)))<| ?_
 refine hx (aq rfl Tryz.call162 (Em (by omega) (by omega)) [] rfl [0] rfl ?_)
 rintro _ _ _ ⟨A1,n1,c1,rfl,rfl,rfl,hp⟩
 refine aB (fun m=>jq (m.rd 0 rfl)) ?_
 rintro⟨hl_q,hA_q⟩
 refine hy (fun _=>aL rfl jJ (by decide))<| ?_
 refine cI (cz 2 rfl rfl rfl EV rfl (by first|exact Nat.le_of_ble_eq_true rfl|simp) ?_)
 refine ai<|al (ρ' :=[(4,_),(3,_),(2,_),(0,_),(1,_)]) ⟨rfl,rfl,rfl,rfl,rfl,trivial⟩<|ak (X' :=[_,_,_]) (S' :=[_,_,_]) (fun _ m=>m)<|ag<|ah<|aj<|hy (fun _=>ab rfl)<|ai<|ag<|ah<|aj<|hy (fun _=>aa rfl)<|hy (fun _=>aL rfl uS (by decide))<|hy (fun m=>aw rfl GD (aA (m.aY 0 rfl) rfl))<| ?_
 refine aR (fun w m=>m.dx (r' :=aG 186 4 (.slice none 0 0) 0 []) (.refl _ _) (Own.nil _ _ _ _) (fun k hk=>hk.elim)) ?_
 refine hx (bH 0 rfl rfl rfl Tryz.underlying37 Tryz.underlying37 (by exact .inl rfl) qO rfl (fun m=>Src.bY (m.rd 2 rfl)) vY (by unfold maxLen;omega) (by omega) (fun u=> ?_))
 refine aB (fun m=>(m.own 0 rfl).slice) ?_
 rintro⟨A_o,c_o,rfl,hc_o⟩
 refine aB (fun m=>(m.ord 0 rfl).2.1) fun hA_o=> ?_
 rw[Nat.zero_add]
 refine aR (fun w m=>m.bO 0 rfl (show _=aG 186 4 (.slice A_o n3 c_o) n3 (tV wl)from rfl)) ?_
 refine hy (fun _=>ab rfl)<|ai<|al (ρ' :=[(5,_),(4,_),(3,_),(2,_),(0,_),(1,_)]) ⟨rfl,rfl,rfl,rfl,rfl,rfl,trivial⟩<|ak (X' :=[_,_,_,_]) (S' :=[_,_,_]) (fun _ m=>m)<|ag<|ah<|aj<|hy (fun _=>aa rfl)<|hy (fun m=>yV (a6 rfl CI Cu rfl ((m.aY 3 rfl).ay)) ((rfl:_=Value.agg (cv k p t bb).toArray)))<| ?_
 refine hx (bV Tryz.underlying37 qO rfl rfl rfl (by simp[Value.cells,cv]) (by decide) (by decide) (fun g17=> ?_))
 have hA_b17:0<1→(some (⟨g17,0,none⟩:Addr))≠none:=fun _ h=>by cases h
 refine aR (fun w m=>m.bO 0 rfl (show _=aG 186 4 (.slice (some ⟨g17,0,none⟩) 1 1) 1 (tV [(k,p,t,bb)])from rfl)) ?_
 refine hx (bH 1 rfl rfl rfl Tryz.underlying37 Tryz.underlying37 (by exact .inl rfl) qO rfl (fun m=>Src.bY (m.ord 0 rfl)) vY (by unfold maxLen;omega) (by omega) (fun u2=> ?_))
 refine aB (fun m=>(m.own 0 rfl).slice) ?_
 rintro⟨A_o2,c_o2,rfl,hc_o⟩
 refine aB (fun m=>(m.ord 0 rfl).2.1) fun hA_o=> ?_
 refine aR (fun w m=>m.bO 0 rfl (show _=aG 186 4 (.slice A_o2 (n3+1) c_o2) (n3+1) (tV (wl++[(k,p,t,bb)]))from congrArg (aG _ _ _ _) (uV ..).symm)) ?_
 refine hy (fun _=>aL rfl uS (by decide))<| ?_
 refine cI (cz 2 rfl rfl rfl E8 rfl (by first|exact Nat.le_of_ble_eq_true rfl|simp) ?_)
 refine aR (fun w m=>m.bO 0 rfl (show _=aI g2 39 (dv room (.slice A1 n1 c1) (.slice Al nl cl) (.slice A_o2 (n3+1) c_o2) pw)from rfl)) ?_
 refine ai<|al (ρ' :=[(5,_),(4,_),(3,_),(2,_),(0,_),(1,_)]) ⟨rfl,rfl,rfl,rfl,rfl,rfl,trivial⟩<|ak (X' :=[_,_,_,_,_]) (S' :=[_,_,_]) (fun _ m=>m)<|ag<|ah<|ah<|aj<|hy (fun _=>aL rfl jO (by decide))<|hy (fun m=>aw rfl fE (aA (m.aY 0 rfl) (i:=4) rfl))<|hy (fun _=>cR rfl rfl)<|ai<|al (ρ' :=[(22,_),(5,_),(4,_),(3,_),(2,_),(0,_),(1,_)]) ⟨rfl,rfl,rfl,rfl,rfl,rfl,rfl,trivial⟩<|ag<| ?_
 refine bB (fun w m=>(m.perm (ar [1] _ [_] _ rfl)).freeze) ?_
 refine bB (fun w m=>m.j6 0 rfl .own) ?_
 refine cD rfl (fun h=> ?_) (fun h=> ?_)
 ·refine aj<|hy (fun _=>aL rfl jO (by decide))<|hy (fun m=>aw rfl fE (aA (m.aY 0 rfl) (i:=4) rfl))<|hy (fun _=>ck rfl rfl (bD (by omega) (by omega)))<|hy (fun _=>aL rfl jO (by decide))<| ?_
  refine cI (cz 0 rfl rfl rfl tW rfl (by first|exact Nat.le_of_ble_eq_true rfl|simp) ?_)
  refine aR (fun w m=>m.bO 0 rfl (show _=aI g2 39 (dv room (.slice A1 n1 c1) (.slice Al nl cl) (.slice A_o2 (n3+1) c_o2) (dH pw))from by rw[dH,if_pos h];rfl)) ?_
  refine ai<|al (ρ' :=[(22,_),(5,_),(4,_),(3,_),(2,_),(0,_),(1,_)]) ⟨rfl,rfl,rfl,rfl,rfl,rfl,rfl,trivial⟩<|ak (X' :=[_,_,_,_]) (S' :=[_,_,_,_,_]) (fun _ m=>m)<|ag<|ah<|aj<|hy (fun m=>a6 rfl cE bu rfl ((m.aY 0 rfl).ay))<| ?_
  refine cI (aJ 2 rfl rfl rfl bu rfl iG rfl ?_)
  refine ai<|al (ρ' :=[(22,_),(5,_),(4,_),(3,_),(2,_),(0,_),(1,_)]) ⟨rfl,rfl,rfl,rfl,rfl,rfl,rfl,trivial⟩<|ak (X' :=[_,_,_,_]) (S' :=[_,_,_,_,_]) (fun _ m=>m)<|ag<|aU<| ?_
  exact fe trivial rfl rfl cE bu rfl (fun m=>(m.aY 0 rfl).ay) [] rfl [2,0] rfl ⟨_,_,_,_,_,_,rfl,rfl,rfl,⟨hp.1,hp.2,rfl⟩⟩
 ·refine bB (fun w m=>m.bO 0 rfl (show _=aI g2 39 (dv room (.slice A1 n1 c1) (.slice Al nl cl) (.slice A_o2 (n3+1) c_o2) (dH pw))from by rw[dH,if_neg h])) ?_
  refine aD<|ag<|ah<|aj<|hy (fun m=>a6 rfl cE bu rfl ((m.aY 0 rfl).ay))<| ?_
  refine cI (aJ 2 rfl rfl rfl bu rfl iG rfl ?_)
  refine ai<|al (ρ' :=[(22,_),(5,_),(4,_),(3,_),(2,_),(0,_),(1,_)]) ⟨rfl,rfl,rfl,rfl,rfl,rfl,rfl,trivial⟩<|ak (X' :=[_,_,_,_]) (S' :=[_,_,_,_,_]) (fun _ m=>m)<|ag<|aU<| ?_
  exact fe trivial rfl rfl cE bu rfl (fun m=>(m.aY 0 rfl).ay) [] rfl [2,0] rfl ⟨_,_,_,_,_,_,rfl,rfl,rfl,⟨hp.1,hp.2,rfl⟩⟩
end Go.Proofs.YtmibdabdlgmafaaGreatDoor
end
section
set_option maxRecDepth 20000
namespace Go.Proofs.YtmibdabdlgmafaaGreatDoor
open Go.Eng Go.Hx
structure RD where
 room:Int
 seen:List FP
 ct:List FP
 waits:List RC
 pw:Int
def RD.sz(d:RD)(p:List UInt8):Nat:=((d.seen[cp d.seen p]?).map (·.2.length)).getD 0
def RD.bE(d:RD)(p bb:List UInt8):Int:=if¬fB p then 1 else if d.pw=0 then 6 else if d.room<(di d.seen:Int)+(bb.length:Nat)-(d.sz p:Nat)then 5 else 0
def RD.gp(d:RD)(k:Int)(p t bb:List UInt8):RD:={d with seen:=dw d.seen k p t bb,waits:=d.waits++[(k,p,t,bb)],pw:=dH d.pw}
def RD.write(d:RD)(p bb:List UInt8):RD:=if d.bE p bb=0 then d.gp 0 p [] bb else d
structure yh(d:RD)(k:Nat):Prop where
 seen:d.seen.length≤k
 waits:d.waits.length≤k
 lO:di d.seen≤k*1048576
 p1:-10≤d.pw
 p2:d.pw≤1000000000000
theorem FE(d:RD)(p:List UInt8):d.sz p≤di d.seen:=by
 unfold RD.sz
 cases h:d.seen[cp d.seen p]? with
 |none=>simp
 |some x=>
  have h1:=qQ h
  have h2:=vF d.seen (cp d.seen p+1)
  simp only[Option.map_some,Option.getD_some]
  omega
def rv(d:RD)(A:Option Addr)(n c:Nat)(Al:Option Addr)(nl cl:Nat)(A3:Option Addr)(n3 c3:Nat):List Value:=dv d.room (.slice A n c) (.slice Al nl cl) (.slice A3 n3 c3) d.pw
theorem Ft{room:Int}:cf Tryz.prog 25 [.int .i64 room] [] [] (fun v_ X_ S_=>v_=(.agg (dv room (.slice none 0 0) (.slice none 0 0) (.slice none 0 0) (-1)).toArray)∧X_=[]∧S_=[]):=by
 refine aP (N:=5) Tryz.func25 rfl rfl (by simp) fun b=> ?_
 refine ah<|aj<| ?_
 refine hx (aN iM (fun g2=> ?_))
 refine ai<|ak (X' :=[_]) (S' :=[]) (fun _ m=>m)<|ag<|ah<|aj<|hy (fun _=>aa rfl)<|hy (fun _=>yV (cn iM rfl rfl (by kernel_rfl) (.cons (o:=0) (sz:=1) (by kernel_rfl) rfl rfl (Nat.le_of_ble_eq_true rfl) (.cons (o:=4) (sz:=1) (by kernel_rfl) rfl rfl (Nat.le_of_ble_eq_true rfl) .nil))) ((rfl:_=Value.agg (dv room (.slice none 0 0) (.slice none 0 0) (.slice none 0 0) (-1)).toArray)))<| ?_
 refine cI (aJ 0 rfl rfl rfl bu rfl iG rfl ?_)
 refine ai<|al (ρ' :=[(2,_),(0,_)]) ⟨rfl,rfl,trivial⟩<|ak (X' :=[_]) (S' :=[]) (fun _ m=>m)<|ag<|aU<| ?_
 exact fe trivial rfl rfl cE bu rfl (fun m=>(m.aY 0 rfl).ay) [] rfl [] rfl ⟨rfl,rfl,rfl⟩
theorem BL{d:RD}{kk:Nat}{A Al A3:Option Addr}{n c nl cl n3 c3:Nat}{p bb:List UInt8}(hl:d.seen.length=n)(hw:d.waits.length=n3)(ok:yh d kk)(hkk:kk≤100000)(hpl:p.length≤1000000)(hbb:bb.length≤1000000):cf Tryz.prog 31 [.agg (rv d A n c Al nl cl A3 n3 c3).toArray,.string (strOf p),.string (strOf bb)] [] [c6 2 A n (fc d.seen),c6 4 A3 n3 (tV d.waits)] (fun v_ X_ S_=>∃A1 n1 c1 A2 n2 c2,v_=(.tuple #[.agg (rv (d.write p bb) A1 n1 c1 Al nl cl A2 n2 c2).toArray,.int .i64 (d.bE p bb)])∧X_=[]∧S_=[c6 2 A1 n1 (fc (d.write p bb).seen),c6 4 A2 n2 (tV (d.write p bb).waits)]∧((d.write p bb).seen.length=n1∧(d.write p bb).waits.length=n2)):=by
 have hk1:=ok.seen
 have hk2:=ok.waits
 have hk3:=ok.lO
 have hk4:=ok.p1
 have hk5:=ok.p2
 have hsz:=FE d p
 refine aP (N:=50) Tryz.func31 rfl rfl (by simp) fun b=> ?_
 refine aZ (fun m=>jq (m.rd 0 rfl)) ?_
 rintro⟨hl_r,hA_r⟩
 refine aZ (fun m=>jq (m.rd 1 rfl)) ?_
 rintro⟨hl_w,hA_w⟩
 refine ah<|aj<| ?_
 refine hx (cy rfl (fun g3=> ?_))
 refine aR (fun w m=>m.bO 0 rfl (show _=aI g3 39 (rv d A n c Al nl cl A3 n3 c3)from congrArg (aI _ _) (bq _))) ?_
 refine hx (aN iM (fun g6=> ?_))
 refine hy (fun _=>ab rfl)<|ai<|ak (X' :=[_,_]) (S' :=[_,_]) (fun _ m=>m)<|ag<|ah<|aj<|hy (fun _=>aa rfl)<| ?_
 refine hx (aq rfl Tryz.call112 (wD (by omega)) [] rfl [] rfl ?_)
 rintro _ _ _ ⟨rfl,rfl,rfl⟩
 refine hy (fun _=>ab rfl)<|ai<|al (ρ' :=[(8,_),(7,_),(6,_),(3,_),(0,_),(1,_),(2,_)]) ⟨rfl,rfl,rfl,rfl,rfl,rfl,rfl,trivial⟩<|ak (X' :=[_,_]) (S' :=[_,_]) (fun _ m=>m)<|ag<|ah<|ah<|aj<|hy (fun _=>aa rfl)<|hy (fun _=>iI rfl)<|ai<|al (ρ' :=[(14,_),(8,_),(7,_),(6,_),(3,_),(0,_),(1,_),(2,_)]) ⟨rfl,rfl,rfl,rfl,rfl,rfl,rfl,rfl,trivial⟩<|ag<| ?_
 refine cD rfl (fun hN=> ?_) (fun hN=> ?_)
 ·have hE:d.bE p bb=1:=by rw[RD.bE,if_pos hN]
  have hW:d.write p bb=d:=by rw[RD.write,if_neg (by rw[hE];decide)]
  rw[hE,hW]
  refine ah<|aj<|hy (fun m=>yV (a6 rfl cE bu rfl ((m.aY 1 rfl).ay)) ((rfl:_=Value.agg (rv d A n c Al nl cl A3 n3 c3).toArray)))<| ?_
  refine cI (aJ 0 rfl rfl rfl bu rfl iG rfl ?_)
  refine hy (fun _=>ab rfl)<|ai<|al (ρ' :=[(7,_),(14,_),(8,_),(6,_),(3,_),(0,_),(1,_),(2,_)]) ⟨rfl,rfl,rfl,rfl,rfl,rfl,rfl,rfl,trivial⟩<|ak (X' :=[_,_]) (S' :=[_,_]) (fun _ m=>m)<|ag<|aU<|ax<| ?_
  exact ew trivial rfl rfl rfl cE bu rfl (fun m=>(m.aY 0 rfl).ay) [] rfl [0,1] rfl ⟨_,_,_,_,_,_,rfl,rfl,rfl,⟨hl,hw⟩⟩
 ·refine aD<|ag<|ah<|ah<|aj<|hy (fun _=>aL rfl jO (by decide))<|hy (fun m=>aw rfl fE (aA (m.aY 1 rfl) (i:=4) rfl))<|hy (fun _=>cH rfl rfl)<|ai<|al (ρ' :=[(18,_),(14,_),(8,_),(7,_),(6,_),(3,_),(0,_),(1,_),(2,_)]) ⟨rfl,rfl,rfl,rfl,rfl,rfl,rfl,rfl,rfl,trivial⟩<|ag<| ?_
  refine cD rfl (fun h0=> ?_) (fun h0=> ?_)
  ·have hE:d.bE p bb=6:=by rw[RD.bE,if_neg hN,if_pos h0]
   have hW:d.write p bb=d:=by rw[RD.write,if_neg (by rw[hE];decide)]
   rw[hE,hW]
   refine ah<|aj<|hy (fun m=>yV (a6 rfl cE bu rfl ((m.aY 1 rfl).ay)) ((rfl:_=Value.agg (rv d A n c Al nl cl A3 n3 c3).toArray)))<| ?_
   refine cI (aJ 0 rfl rfl rfl bu rfl iG rfl ?_)
   refine hy (fun _=>ab rfl)<|ai<|al (ρ' :=[(7,_),(18,_),(14,_),(8,_),(6,_),(3,_),(0,_),(1,_),(2,_)]) ⟨rfl,rfl,rfl,rfl,rfl,rfl,rfl,rfl,rfl,trivial⟩<|ak (X' :=[_,_]) (S' :=[_,_]) (fun _ m=>m)<|ag<|aU<|ax<| ?_
   exact ew trivial rfl rfl rfl cE bu rfl (fun m=>(m.aY 0 rfl).ay) [] rfl [0,1] rfl ⟨_,_,_,_,_,_,rfl,rfl,rfl,⟨hl,hw⟩⟩
  ·have hsb:=cY bb
   refine aD<|ag<|ah<|aj<|hy (fun m=>yV (a6 rfl cE bu rfl ((m.aY 1 rfl).ay)) ((rfl:_=Value.agg (rv d A n c Al nl cl A3 n3 c3).toArray)))<| ?_
   refine hx (aq rfl Tryz.call89 (Db (by omega) (by omega) (by omega)) [] rfl [0] rfl ?_)
   rintro _ _ _ ⟨rfl,rfl,rfl⟩
   refine hy (fun _=>aa rfl)<|hy (fun _=>cW rfl Tryz.underlying9)<|hy (fun _=>aM rfl rfl (bD (by omega) (by omega)))<|hy (fun _=>ab rfl)<|ai<|al (ρ' :=[(9,_),(18,_),(14,_),(8,_),(7,_),(6,_),(3,_),(0,_),(1,_),(2,_)]) ⟨rfl,rfl,rfl,rfl,rfl,rfl,rfl,rfl,rfl,rfl,trivial⟩<|ak (X' :=[_,_]) (S' :=[_,_]) (fun _ m=>m)<|ag<|ah<|aj<|hy (fun _=>aL rfl jJ (by decide))<|hy (fun m=>aw rfl ta (aA (m.aY 1 rfl) (i:=1) rfl))<|hy (fun _=>aa rfl)<| ?_
   refine hx (aq rfl Tryz.call113 (uc (by omega) (by omega)) [] rfl [0] rfl ?_)
   rintro _ _ _ ⟨rfl,rfl,rfl⟩
   refine hy (fun _=>ab rfl)<|ai<|al (ρ' :=[(10,_),(9,_),(18,_),(14,_),(8,_),(7,_),(6,_),(3,_),(0,_),(1,_),(2,_)]) ⟨rfl,rfl,rfl,rfl,rfl,rfl,rfl,rfl,rfl,rfl,rfl,trivial⟩<|ak (X' :=[_,_]) (S' :=[_,_]) (fun _ m=>m)<|ag<|ah<|ah<|aj<|hy (fun _=>aa rfl)<|hy (fun _=>jZ rfl rfl)<|ai<|al (ρ' :=[(30,_),(10,_),(9,_),(18,_),(14,_),(8,_),(7,_),(6,_),(3,_),(0,_),(1,_),(2,_)]) ⟨rfl,rfl,rfl,rfl,rfl,rfl,rfl,rfl,rfl,rfl,rfl,rfl,trivial⟩<|ag<| ?_
   refine cD rfl (fun hf=> ?_) (fun hf=> ?_)
   ·obtain⟨x0,hfx⟩:∃x0,d.seen[cp d.seen p]? =some x0:=by
     cases hq:d.seen[cp d.seen p]? with
     |none=>exact absurd (gL.2 hq) (by omega)
     |some x0=>exact⟨x0,rfl⟩
    have hfl:cp d.seen p<d.seen.length:=(List.getElem?_eq_some_iff.1 hfx).1
    obtain⟨f0,f1⟩:=jE d.seen _ x0 hfx
    have hfi:kg d.seen p=(cp d.seen p:Nat):=by rw[kg,if_pos hfl]
    have hsx:=cY x0.2
    have hs0:d.sz p=x0.2.length:=by unfold RD.sz;rw[hfx];rfl
    refine aj<|hy (fun _=>aa rfl)<|hy (fun _=>aL rfl jJ (by decide))<|hy (fun m=>aw rfl ta (aA (m.aY 1 rfl) (i:=1) rfl))<|hy (fun _=>aa rfl)<|hy (fun _=>cQ rfl rfl Tryz.underlying36 eS hA_r hfi.symm (by omega))<|hy (fun _=>aL rfl oc (by decide))<|hy (fun m=>yV (aw rfl lL (fl (m.rd 0 rfl) f1)) ((rfl:_=Value.string (strOf x0.2))))<|hy (fun _=>cW rfl Tryz.underlying9)<|hy (fun _=>ck rfl rfl (bD (by omega) (by omega)))<|hy (fun _=>ab rfl)<|ai<|al (ρ' :=[(9,_),(30,_),(10,_),(18,_),(14,_),(8,_),(7,_),(6,_),(3,_),(0,_),(1,_),(2,_)]) ⟨rfl,rfl,rfl,rfl,rfl,rfl,rfl,rfl,rfl,rfl,rfl,rfl,trivial⟩<|ag<|ah<|ah<|aj<|hy (fun _=>aa rfl)<|hy (fun _=>aL rfl yj (by decide))<|hy (fun m=>aw rfl fE (aA (m.aY 1 rfl) (i:=0) rfl))<|hy (fun _=>cR rfl rfl)<|ai<|al (ρ' :=[(43,_),(9,_),(30,_),(10,_),(18,_),(14,_),(8,_),(7,_),(6,_),(3,_),(0,_),(1,_),(2,_)]) ⟨rfl,rfl,rfl,rfl,rfl,rfl,rfl,rfl,rfl,rfl,rfl,rfl,rfl,trivial⟩<|ag<| ?_
    refine cD rfl (fun hR=> ?_) (fun hR=> ?_)
    ·have hE:d.bE p bb=5:=by rw[RD.bE,if_neg hN,if_neg h0,if_pos (by omega)]
     have hW:d.write p bb=d:=by rw[RD.write,if_neg (by rw[hE];decide)]
     rw[hE,hW]
     refine ah<|aj<|hy (fun m=>yV (a6 rfl cE bu rfl ((m.aY 1 rfl).ay)) ((rfl:_=Value.agg (rv d A n c Al nl cl A3 n3 c3).toArray)))<| ?_
     refine cI (aJ 0 rfl rfl rfl bu rfl iG rfl ?_)
     refine hy (fun _=>ab rfl)<|ai<|al (ρ' :=[(7,_),(43,_),(9,_),(30,_),(10,_),(18,_),(14,_),(8,_),(6,_),(3,_),(0,_),(1,_),(2,_)]) ⟨rfl,rfl,rfl,rfl,rfl,rfl,rfl,rfl,rfl,rfl,rfl,rfl,rfl,trivial⟩<|ak (X' :=[_,_]) (S' :=[_,_]) (fun _ m=>m)<|ag<|aU<|ax<| ?_
     exact ew trivial rfl rfl rfl cE bu rfl (fun m=>(m.aY 0 rfl).ay) [] rfl [0,1] rfl ⟨_,_,_,_,_,_,rfl,rfl,rfl,⟨hl,hw⟩⟩
    ·have hE:d.bE p bb=0:=by rw[RD.bE,if_neg hN,if_neg h0,if_neg (by omega)]
     have hW:d.write p bb=d.gp 0 p [] bb:=by rw[RD.write,if_pos hE]
     rw[hE,hW]
     refine aD<|ag<|ah<|aj<|hy (fun m=>yV (a6 rfl cE bu rfl ((m.aY 1 rfl).ay)) ((rfl:_=Value.agg (dv d.room (.slice A n c) (.slice Al nl cl) (.slice A3 n3 c3) d.pw).toArray)))<|hy (fun _=>aa rfl)<|hy (fun _=>aa rfl)<|hy (fun _=>yV (cn qO rfl rfl (by kernel_rfl) (.cons (o:=1) (sz:=1) (by kernel_rfl) rfl rfl (Nat.le_of_ble_eq_true rfl) (.cons (o:=3) (sz:=1) (by kernel_rfl) rfl rfl (Nat.le_of_ble_eq_true rfl) .nil))) ((rfl:_=Value.agg (cv 0 p [] bb).toArray)))<| ?_
     refine hx (aq rfl Tryz.call114 (Ea (by omega) (by omega) (by omega) (by omega) (by omega) (by omega)) [] rfl [0,1] rfl ?_)
     rintro _ _ _ ⟨A1,n1,c1,A2,n2,c2,rfl,rfl,rfl,hp⟩
     refine aB (fun m=>jq (m.rd 0 rfl)) ?_
     rintro⟨hl_q,hA_q⟩
     refine aB (fun m=>jq (m.rd 1 rfl)) ?_
     rintro⟨hl_u,hA_u⟩
     refine cI (aJ 0 rfl rfl rfl bu rfl iG rfl ?_)
     refine hy (fun _=>ab rfl)<|ai<|al (ρ' :=[(7,_),(43,_),(9,_),(30,_),(10,_),(18,_),(14,_),(8,_),(6,_),(3,_),(0,_),(1,_),(2,_)]) ⟨rfl,rfl,rfl,rfl,rfl,rfl,rfl,rfl,rfl,rfl,rfl,rfl,rfl,trivial⟩<|ak (X' :=[_,_]) (S' :=[_,_,_,_]) (fun _ m=>m)<|ag<|aU<| ?_
     exact ew trivial rfl rfl rfl cE bu rfl (fun m=>(m.aY 0 rfl).ay) [] rfl [0,1] rfl ⟨_,_,_,_,_,_,rfl,rfl,rfl,⟨hp.1.symm,by rw[hp.2.2,←hw];exact List.length_append⟩⟩
   ·have hs0:d.sz p=0:=by
     unfold RD.sz
     rw[gL.1 (by omega)];rfl
    refine aD<|ag<|ah<|ah<|aj<|hy (fun _=>aa rfl)<|hy (fun _=>aL rfl yj (by decide))<|hy (fun m=>aw rfl fE (aA (m.aY 1 rfl) (i:=0) rfl))<|hy (fun _=>cR rfl rfl)<|ai<|al (ρ' :=[(43,_),(30,_),(10,_),(9,_),(18,_),(14,_),(8,_),(7,_),(6,_),(3,_),(0,_),(1,_),(2,_)]) ⟨rfl,rfl,rfl,rfl,rfl,rfl,rfl,rfl,rfl,rfl,rfl,rfl,rfl,trivial⟩<|ag<| ?_
    refine cD rfl (fun hR=> ?_) (fun hR=> ?_)
    ·have hE:d.bE p bb=5:=by rw[RD.bE,if_neg hN,if_neg h0,if_pos (by omega)]
     have hW:d.write p bb=d:=by rw[RD.write,if_neg (by rw[hE];decide)]
     rw[hE,hW]
     refine ah<|aj<|hy (fun m=>yV (a6 rfl cE bu rfl ((m.aY 1 rfl).ay)) ((rfl:_=Value.agg (rv d A n c Al nl cl A3 n3 c3).toArray)))<| ?_
     refine cI (aJ 0 rfl rfl rfl bu rfl iG rfl ?_)
     refine hy (fun _=>ab rfl)<|ai<|al (ρ' :=[(7,_),(43,_),(30,_),(10,_),(9,_),(18,_),(14,_),(8,_),(6,_),(3,_),(0,_),(1,_),(2,_)]) ⟨rfl,rfl,rfl,rfl,rfl,rfl,rfl,rfl,rfl,rfl,rfl,rfl,rfl,trivial⟩<|ak (X' :=[_,_]) (S' :=[_,_]) (fun _ m=>m)<|ag<|aU<|ax<| ?_
     exact ew trivial rfl rfl rfl cE bu rfl (fun m=>(m.aY 0 rfl).ay) [] rfl [0,1] rfl ⟨_,_,_,_,_,_,rfl,rfl,rfl,⟨hl,hw⟩⟩
    ·have hE:d.bE p bb=0:=by rw[RD.bE,if_neg hN,if_neg h0,if_neg (by omega)]
     have hW:d.write p bb=d.gp 0 p [] bb:=by rw[RD.write,if_pos hE]
     rw[hE,hW]
     refine aD<|ag<|ah<|aj<|hy (fun m=>yV (a6 rfl cE bu rfl ((m.aY 1 rfl).ay)) ((rfl:_=Value.agg (dv d.room (.slice A n c) (.slice Al nl cl) (.slice A3 n3 c3) d.pw).toArray)))<|hy (fun _=>aa rfl)<|hy (fun _=>aa rfl)<|hy (fun _=>yV (cn qO rfl rfl (by kernel_rfl) (.cons (o:=1) (sz:=1) (by kernel_rfl) rfl rfl (Nat.le_of_ble_eq_true rfl) (.cons (o:=3) (sz:=1) (by kernel_rfl) rfl rfl (Nat.le_of_ble_eq_true rfl) .nil))) ((rfl:_=Value.agg (cv 0 p [] bb).toArray)))<| ?_
     refine hx (aq rfl Tryz.call114 (Ea (by omega) (by omega) (by omega) (by omega) (by omega) (by omega)) [] rfl [0,1] rfl ?_)
     rintro _ _ _ ⟨A1,n1,c1,A2,n2,c2,rfl,rfl,rfl,hp⟩
     refine aB (fun m=>jq (m.rd 0 rfl)) ?_
     rintro⟨hl_q,hA_q⟩
     refine aB (fun m=>jq (m.rd 1 rfl)) ?_
     rintro⟨hl_u,hA_u⟩
     refine cI (aJ 0 rfl rfl rfl bu rfl iG rfl ?_)
     refine hy (fun _=>ab rfl)<|ai<|al (ρ' :=[(7,_),(43,_),(30,_),(10,_),(9,_),(18,_),(14,_),(8,_),(6,_),(3,_),(0,_),(1,_),(2,_)]) ⟨rfl,rfl,rfl,rfl,rfl,rfl,rfl,rfl,rfl,rfl,rfl,rfl,rfl,trivial⟩<|ak (X' :=[_,_]) (S' :=[_,_,_,_]) (fun _ m=>m)<|ag<|aU<| ?_
     exact ew trivial rfl rfl rfl cE bu rfl (fun m=>(m.aY 0 rfl).ay) [] rfl [0,1] rfl ⟨_,_,_,_,_,_,rfl,rfl,rfl,⟨hp.1.symm,by rw[hp.2.2,←hw];exact List.length_append⟩⟩
def RD.cd(d:RD)(p:List UInt8):Int:=if d.pw=0 then 6 else if d.seen[cp d.seen p]? =none then 4 else 0
def RD.cm(d:RD)(p:List UInt8):List UInt8:=if d.pw=0 then []else((d.seen[cp d.seen p]?).map (·.2)).getD []
theorem Ds{d:RD}{kk:Nat}{A Al A3:Option Addr}{n c nl cl n3 c3:Nat}{p:List UInt8}(hl:d.seen.length=n)(ok:yh d kk)(hkk:kk≤100000):cf Tryz.prog 91 [.agg (rv d A n c Al nl cl A3 n3 c3).toArray,.string (strOf p)] [] [c6 2 A n (fc d.seen)] (fun v_ X_ S_=>v_=(.tuple #[.string (strOf (d.cm p)),.int .i64 (d.cd p)])∧X_=[]∧S_=[]):=by
 have hk1:=ok.seen
 refine aP (N:=22) Tryz.func91 rfl rfl (by simp) fun b=> ?_
 refine aZ (fun m=>jq (m.rd 0 rfl)) ?_
 rintro⟨hl_r,hA_r⟩
 refine ah<|aj<| ?_
 refine hx (cy rfl (fun g2=> ?_))
 refine aR (fun w m=>m.bO 0 rfl (show _=aI g2 39 (rv d A n c Al nl cl A3 n3 c3)from congrArg (aI _ _) (bq _))) ?_
 refine hy (fun _=>ab rfl)<|hy (fun _=>ab rfl)<|ai<|ak (X' :=[_]) (S' :=[_]) (fun _ m=>m)<|ag<|ah<|aj<|hy (fun _=>aL rfl jJ (by decide))<|hy (fun m=>aw rfl ta (aA (m.aY 0 rfl) (i:=1) rfl))<|hy (fun _=>aa rfl)<| ?_
 refine hx (aq rfl Tryz.call113 (uc (by omega) (by omega)) [] rfl [0] rfl ?_)
 rintro _ _ _ ⟨rfl,rfl,rfl⟩
 refine hy (fun _=>ab rfl)<|ai<|al (ρ' :=[(6,_),(5,_),(4,_),(2,_),(0,_),(1,_)]) ⟨rfl,rfl,rfl,rfl,rfl,rfl,trivial⟩<|ak (X' :=[_]) (S' :=[_]) (fun _ m=>m)<|ag<|ah<|ah<|aj<|hy (fun _=>aL rfl jO (by decide))<|hy (fun m=>aw rfl fE (aA (m.aY 0 rfl) (i:=4) rfl))<|hy (fun _=>cH rfl rfl)<|ai<|al (ρ' :=[(13,_),(6,_),(5,_),(4,_),(2,_),(0,_),(1,_)]) ⟨rfl,rfl,rfl,rfl,rfl,rfl,rfl,trivial⟩<|ag<| ?_
 refine cD rfl (fun h0=> ?_) (fun h0=> ?_)
 ·have hE:d.cd p=6:=by rw[RD.cd,if_pos h0]
  have hB:d.cm p=[]:=by rw[RD.cm,if_pos h0]
  rw[hE,hB]
  refine ah<|aj<|hy (fun _=>ab rfl)<|hy (fun _=>ab rfl)<|ai<|ag<|aU<|ax<| ?_
  exact dg trivial rfl rfl rfl [] rfl [] rfl ⟨rfl,rfl,rfl⟩
 ·refine aD<|ag<|ah<|ah<|aj<|hy (fun _=>aa rfl)<|hy (fun _=>bw rfl rfl)<|ai<|al (ρ' :=[(15,_),(13,_),(6,_),(5,_),(4,_),(2,_),(0,_),(1,_)]) ⟨rfl,rfl,rfl,rfl,rfl,rfl,rfl,rfl,trivial⟩<|ag<| ?_
  refine cD rfl (fun h1=> ?_) (fun h1=> ?_)
  ·have hq:=gL.1 h1
   have hE:d.cd p=4:=by rw[RD.cd,if_neg h0,if_pos hq]
   have hB:d.cm p=[]:=by rw[RD.cm,if_neg h0,hq];rfl
   rw[hE,hB]
   refine ah<|aj<|hy (fun _=>ab rfl)<|hy (fun _=>ab rfl)<|ai<|ag<|aU<|ax<| ?_
   exact dg trivial rfl rfl rfl [] rfl [] rfl ⟨rfl,rfl,rfl⟩
  ·obtain⟨x0,hfx⟩:∃x0,d.seen[cp d.seen p]? =some x0:=by
    cases hq:d.seen[cp d.seen p]? with
    |none=>exact absurd (gL.2 hq) h1
    |some x0=>exact⟨x0,rfl⟩
   have hfl:cp d.seen p<d.seen.length:=(List.getElem?_eq_some_iff.1 hfx).1
   obtain⟨f0,f1⟩:=jE d.seen _ x0 hfx
   have hfi:kg d.seen p=(cp d.seen p:Nat):=by rw[kg,if_pos hfl]
   have hE:d.cd p=0:=by rw[RD.cd,if_neg h0,if_neg (by rw[hfx];exact fun e=>by cases e)]
   have hB:d.cm p=x0.2:=by rw[RD.cm,if_neg h0,hfx];rfl
   rw[hE,hB]
   refine aD<|ag<|ah<|aj<|hy (fun _=>aL rfl jJ (by decide))<|hy (fun m=>aw rfl ta (aA (m.aY 0 rfl) (i:=1) rfl))<|hy (fun _=>aa rfl)<|hy (fun _=>cQ rfl rfl Tryz.underlying36 eS hA_r hfi.symm (by omega))<|hy (fun _=>aL rfl oc (by decide))<|hy (fun m=>yV (aw rfl lL (fl (m.rd 0 rfl) f1)) ((rfl:_=Value.string (strOf x0.2))))<|hy (fun _=>ab rfl)<|hy (fun _=>ab rfl)<|ai<|al (ρ' :=[(5,_),(4,_),(15,_),(13,_),(6,_),(2,_),(0,_),(1,_)]) ⟨rfl,rfl,rfl,rfl,rfl,rfl,rfl,rfl,trivial⟩<|ag<|aU<| ?_
   exact dg trivial rfl rfl rfl [] rfl [] rfl ⟨rfl,rfl,rfl⟩
end Go.Proofs.YtmibdabdlgmafaaGreatDoor
end
section
set_option maxRecDepth 20000
namespace Go.Proofs.YtmibdabdlgmafaaGreatDoor
open Go.Eng Go.Hx
theorem Dd:cf Tryz.prog 258 [.slice none 0 0,.int .i64 0,.int .i64 0] [] [] (fun v_ X_ S_=>v_=(.tuple #[])∧X_=[]∧S_=[]):=by
 refine aP (N:=49) Tryz.func258 rfl rfl (by simp) fun b=> ?_
 refine ah<|aj<|hy (fun _=>aa rfl)<|hy (fun _=>aM rfl rfl (bD (by omega) (by omega)))<|hy (fun _=>ab rfl)<|ai<|al (ρ' :=[(6,_),(0,_),(1,_),(2,_)]) ⟨rfl,rfl,rfl,rfl,trivial⟩<|ag<|aK<| ?_
 refine dz (fun u=>0) (fun u=>[(6,.int .i64 1)]) (fun u=>[]) (fun u=>[]) (fun u=>u=0) 0 [(0,_),(1,_),(2,_)] ⟨rfl,rfl,rfl,trivial⟩ [] rfl [] rfl (rfl) ⟨rfl,trivial⟩ (fun u hI=> ?_)
 refine ah<|ah<|aj<|hy (fun _=>aa rfl)<|hy (fun _=>aa rfl)<|hy (fun _=>bw rfl rfl)<|ai<|al (ρ' :=[(12,_),(6,_),(0,_),(1,_),(2,_)]) ⟨rfl,rfl,rfl,rfl,rfl,trivial⟩<|ag<| ?_
 refine dP rfl (rfl) ?_
 refine bK<|ao<|ao<|aC<| ?_
 exact fD trivial rfl [] rfl [] rfl ⟨rfl,rfl,rfl⟩
theorem zW:cf Tryz.prog 255 [.int .u64 0] [] [] (fun v_ X_ S_=>v_=(.int .i64 0)∧X_=[]∧S_=[]):=by
 refine aP (N:=25) Tryz.func255 rfl rfl (by simp) fun b=> ?_
 refine ah<|aj<|hy (fun _=>ab rfl)<|ai<|ag<|ah<|ah<|aj<|hy (fun _=>aa rfl)<|hy (fun _=>jZ rfl rfl)<|ai<|al (ρ' :=[(4,_),(2,_),(0,_)]) ⟨rfl,rfl,rfl,trivial⟩<|ag<| ?_
 refine dP rfl (rfl) ?_
 refine aD<|ag<|ah<|ah<|aj<|hy (fun _=>aa rfl)<|hy (fun _=>jZ rfl rfl)<|ai<|al (ρ' :=[(8,_),(4,_),(2,_),(0,_)]) ⟨rfl,rfl,rfl,rfl,trivial⟩<|ag<| ?_
 refine dP rfl (rfl) ?_
 refine aD<|ag<|ah<|ah<|aj<|hy (fun _=>aa rfl)<|hy (fun _=>jZ rfl rfl)<|ai<|al (ρ' :=[(14,_),(8,_),(4,_),(2,_),(0,_)]) ⟨rfl,rfl,rfl,rfl,rfl,trivial⟩<|ag<| ?_
 refine dP rfl (rfl) ?_
 refine aD<|ag<|ah<|aj<|hy (fun _=>aa rfl)<|hy (fun _=>aa rfl)<|hy (fun _=>bT rfl Tryz.underlying310 Tryz.underlying5 (show IntKind.u8.wrap 0=0 from rfl))<|hy (fun _=>fq rfl rfl Tryz.underlying9 (show((0:Nat):Int)=0 from rfl) (show _=some (0:UInt8)from rfl))<|hy (fun _=>bT rfl Tryz.underlying5 Tryz.underlying3 (show IntKind.i64.wrap ((0:UInt8).toNat:Int)=0 from rfl))<|hy (fun _=>aM rfl rfl (bD (by omega) (by omega)))<|hy (fun _=>ab rfl)<|ai<|al (ρ' :=[(2,_),(14,_),(8,_),(4,_),(0,_)]) ⟨rfl,rfl,rfl,rfl,rfl,trivial⟩<|ag<|aU<| ?_
 exact bc trivial rfl rfl [] rfl [] rfl ⟨rfl,rfl,rfl⟩
theorem De:cf Tryz.prog 207 [.int .u64 0] [] [] (fun v_ X_ S_=>v_=(.int .i64 0)∧X_=[]∧S_=[]):=by
 refine aP (N:=8) Tryz.func207 rfl rfl (by simp) fun b=> ?_
 refine ah<|aj<|hy (fun _=>ab rfl)<|ai<|ag<|ah<| ?_
 refine dP rfl (rfl) ?_
 refine aD<|ag<|ah<|aj<|hy (fun _=>aa rfl)<| ?_
 refine hx (aq rfl Tryz.call255 (zW) [] rfl [] rfl ?_)
 rintro _ _ _ ⟨rfl,rfl,rfl⟩
 refine hy (fun _=>ab rfl)<|ai<|al (ρ' :=[(2,_),(0,_)]) ⟨rfl,rfl,trivial⟩<|ak (X' :=[]) (S' :=[]) (fun _ m=>m)<|ag<|aU<| ?_
 exact bc trivial rfl rfl [] rfl [] rfl ⟨rfl,rfl,rfl⟩
theorem Dx:cf Tryz.prog 223 [.slice none 0 0,.int .i64 0,.int .i64 0,.int .i64 0] [] [] (fun v_ X_ S_=>v_=(.tuple #[])∧X_=[]∧S_=[]):=by
 refine aP (N:=134) Tryz.func223 rfl rfl (by simp) fun b=> ?_
 refine ah<|aj<|hy (fun _=>ab rfl)<|ai<|ag<|ah<|aj<|hy (fun _=>ab rfl)<|ai<|ag<|aK<| ?_
 refine dz (fun u=>0) (fun u=>[(1,.int .i64 0),(2,.int .i64 0)]) (fun u=>[]) (fun u=>[]) (fun u=>u=0) 0 [(0,_)] ⟨rfl,trivial⟩ [] rfl [] rfl (rfl) ⟨rfl,rfl,trivial⟩ (fun u hI=> ?_)
 refine aK<|ah<|aj<|hy (fun _=>aa rfl)<|hy (fun _=>aa rfl)<|hy (fun _=>ck rfl rfl (bD (by omega) (by omega)))<|hy (fun _=>ab rfl)<|ai<|al (ρ' :=[(10,_),(1,_),(2,_),(0,_)]) ⟨rfl,rfl,rfl,rfl,trivial⟩<|ag<|ah<|ah<|aj<|hy (fun _=>aa rfl)<|hy (fun _=>qJ rfl rfl)<|ai<|al (ρ' :=[(23,_),(10,_),(1,_),(2,_),(0,_)]) ⟨rfl,rfl,rfl,rfl,rfl,trivial⟩<|ag<| ?_
 refine ib rfl (rfl) ?_
 refine ah<|aj<|hy (fun _=>aa rfl)<|hy (fun _=>aa rfl)<|hy (fun _=>aa rfl)<| ?_
 refine hx (aq rfl Tryz.call258 (Dd) [] rfl [] rfl ?_)
 rintro _ _ _ ⟨rfl,rfl,rfl⟩
 refine ai<|al (ρ' :=[(23,_),(10,_),(1,_),(2,_),(0,_)]) ⟨rfl,rfl,rfl,rfl,rfl,trivial⟩<|ak (X' :=[]) (S' :=[]) (fun _ m=>m)<|ag<|aU<|ax<|aW<|ax<|aW<| ?_
 exact fD trivial rfl [] rfl [] rfl ⟨rfl,rfl,rfl⟩
theorem B3:cf Tryz.prog 165 [.slice none 0 0] [] [] (fun v_ X_ S_=>v_=(.tuple #[])∧X_=[]∧S_=[]):=by
 refine aP (N:=11) Tryz.func165 rfl rfl (by simp) fun b=> ?_
 refine ah<|aj<|hy (fun _=>aa rfl)<|hy (fun _=>aX rfl Tryz.underlying152)<|hy (fun _=>ab rfl)<|ai<|al (ρ' :=[(2,_),(0,_)]) ⟨rfl,rfl,trivial⟩<|ag<|aj<|hy (fun _=>aa rfl)<|hy (fun _=>aa rfl)<|hy (fun _=>aa rfl)<|hy (fun _=>bT rfl Tryz.underlying3 Tryz.underlying263 rfl)<| ?_
 refine hx (aq rfl Tryz.call207 (De) [] rfl [] rfl ?_)
 rintro _ _ _ ⟨rfl,rfl,rfl⟩
 refine hx (aq rfl Tryz.call223 (Dx) [] rfl [] rfl ?_)
 rintro _ _ _ ⟨rfl,rfl,rfl⟩
 refine ai<|al (ρ' :=[(2,_),(0,_)]) ⟨rfl,rfl,trivial⟩<|ak (X' :=[]) (S' :=[]) (fun _ m=>m)<| ?_
 exact fD trivial rfl [] rfl [] rfl ⟨rfl,rfl,rfl⟩
end Go.Proofs.YtmibdabdlgmafaaGreatDoor
end
section
set_option maxRecDepth 20000
namespace Go.Proofs.YtmibdabdlgmafaaGreatDoor
open Go.Eng Go.Hx
def rF(l:dB):fS→dB
 | .written p r=>cL l p r
 | .renamed a c=>match b4 l a with
  |none=>l
  |some r=>cL (eu l a) c r
 | .removed p=>eu l p
theorem C6{g:Nat}{l:dB}{a c:List UInt8}:cf Tryz.prog 337 [.agg [SV a,SV c].toArray,.map (some g)] [c5 SV g (dK l)] [] (fun v_ X_ S_=>v_=(.tuple #[])∧X_=[c5 SV g (dK (rF l (.renamed a c)))]∧S_=[]):=by
 refine aP (N:=21) Tryz.func337 rfl rfl (by simp) fun b=> ?_
 refine ah<|aj<| ?_
 refine hx (cy rfl (fun g2=> ?_))
 refine aR (fun w m=>m.bO 0 rfl (show _=aI g2 257 [SV a,SV c]from congrArg (aI _ _) (bq _))) ?_
 rcases o5 (l:=l) a with⟨h1,h2⟩|⟨r,h1,h2⟩
 ·refine ai<|ak (X' :=[_,_]) (S' :=[]) (fun _ m=>m)<|ag<|ah<|aj<|hy (fun _=>aa rfl)<|hy (fun _=>aL rfl rq (by decide))<|hy (fun m=>aw rfl lL (aA (m.aY 0 rfl) (i:=0) rfl))<|hy (fun m=>yV (jV (enc:=SV) rfl rfl Tryz.underlying174 sk (jB Tryz.underlying9) (m.pM 1 rfl)) ((show gE true (.slice none 0 0) (b4 (dK l) a)= .tuple #[.slice none 0 0,.bool false] by rw[h2];rfl)))<|hy (fun _=>aa rfl)<|hy (fun _=>au rfl rfl)<|hy (fun _=>au rfl rfl)<|hy (fun _=>ab rfl)<|hy (fun _=>ab rfl)<|ai<|al (ρ' :=[(5,_),(4,_),(2,_),(0,_),(1,_)]) ⟨rfl,rfl,rfl,rfl,rfl,trivial⟩<|ag<|ah<|aj<|hy (fun _=>aa rfl)<|ai<|ag<| ?_
  refine dP rfl (rfl) ?_
  refine aD<| ?_
  have e:rF l (.renamed a c)=l:=by rw[rF,h1]
  rw[e]
  exact fD trivial rfl [1] rfl [] rfl ⟨rfl,rfl,rfl⟩
 ·refine ai<|ag<|ah<|aj<|hy (fun _=>aa rfl)<|hy (fun _=>aL rfl rq (by decide))<|hy (fun m=>aw rfl lL (aA (m.aY 0 rfl) rfl))<|hy (fun m=>yV (jV (enc:=SV) rfl rfl Tryz.underlying174 sk (jB Tryz.underlying9) (m.pM 1 rfl)) ((show gE true (.slice none 0 0) (b4 (dK l) a)= .tuple #[r.val,.bool true] by rw[h2];rfl)))<|hy (fun _=>aa rfl)<|hy (fun _=>au rfl rfl)<|hy (fun _=>au rfl rfl)<|hy (fun _=>ab rfl)<|hy (fun _=>ab rfl)<|ai<|al (ρ' :=[(5,_),(4,_),(2,_),(0,_),(1,_)]) ⟨rfl,rfl,rfl,rfl,rfl,trivial⟩<|ag<|ah<|aj<|hy (fun _=>aa rfl)<|ai<|ag<| ?_
  refine ib rfl (rfl) ?_
  refine ah<|aj<|hy (fun _=>aa rfl)<|hy (fun _=>aL rfl rq (by decide))<|hy (fun m=>aw rfl lL (aA (m.aY 0 rfl) (i:=0) rfl))<| ?_
  refine cI (mP (enc:=SV) 1 rfl rfl rfl Tryz.underlying174 (jB Tryz.underlying9) ?_)
  refine ai<|al (ρ' :=[(13,_),(5,_),(4,_),(2,_),(0,_),(1,_)]) ⟨rfl,rfl,rfl,rfl,rfl,rfl,trivial⟩<|ak (X' :=[_,_]) (S' :=[]) (fun _ m=>m)<|ag<|aj<|hy (fun _=>aa rfl)<|hy (fun _=>aL rfl Bl (by decide))<|hy (fun m=>aw rfl lL (aA (m.aY 1 rfl) (i:=1) rfl))<|hy (fun _=>aa rfl)<| ?_
  refine cI (oW (enc:=SV) 0 rfl rfl rfl rfl Tryz.underlying174 (jB Tryz.underlying9) ?_)
  refine ai<|al (ρ' :=[(13,_),(5,_),(4,_),(2,_),(0,_),(1,_)]) ⟨rfl,rfl,rfl,rfl,rfl,rfl,trivial⟩<|ak (X' :=[_,_]) (S' :=[]) (fun _ m=>m)<| ?_
  have e:cL (eu (dK l) a) c r.val=dK (rF l (.renamed a c)):=by rw[rF,h1,oA,oO]
  refine ak (fun w m=>m.bO 0 rfl (show _=c5 SV g (dK (rF l (.renamed a c)))from congrArg (c5 SV g) e)) ?_
  exact fD trivial rfl [0] rfl [] rfl ⟨rfl,rfl,rfl⟩
theorem Dz{g:Nat}{l:dB}{p:List UInt8}:cf Tryz.prog 335 [.agg [SV p].toArray,.map (some g)] [c5 SV g (dK l)] [] (fun v_ X_ S_=>v_=(.tuple #[])∧X_=[c5 SV g (dK (rF l (.removed p)))]∧S_=[]):=by
 refine aP (N:=7) Tryz.func335 rfl rfl (by simp) fun b=> ?_
 refine ah<|aj<| ?_
 refine hx (cy rfl (fun g2=> ?_))
 refine aR (fun w m=>m.bO 0 rfl (show _=aI g2 237 [SV p]from congrArg (aI _ _) (bq _))) ?_
 refine ai<|ak (X' :=[_,_]) (S' :=[]) (fun _ m=>m)<|ag<|aj<|hy (fun _=>aa rfl)<|hy (fun _=>aL rfl Cd (by decide))<|hy (fun m=>aw rfl lL (aA (m.aY 0 rfl) (i:=0) rfl))<| ?_
 refine cI (mP (enc:=SV) 1 rfl rfl rfl Tryz.underlying174 (jB Tryz.underlying9) ?_)
 refine ai<|al (ρ' :=[(2,_),(0,_),(1,_)]) ⟨rfl,rfl,rfl,trivial⟩<|ak (X' :=[_,_]) (S' :=[]) (fun _ m=>m)<| ?_
 rw[oA]
 exact fD trivial rfl [0] rfl [] rfl ⟨rfl,rfl,rfl⟩
def cG.gp(st:cG)(c:fS)(A:Option Addr)(k:Nat):cG:={st.ez with seen:=rF st.seen c,waits:=st.waits++[c],wA:=A,wc:=k}
theorem nf{l:dB}{p:List UInt8}{x:fu}(h:x∈(eu l p).map (·.2)):x∈l.map (·.2):=by
 induction l with
 |nil=>exact h
 |cons a q ih=>
  obtain⟨k,u⟩:=a
  simp only[eu]at h
  split at h
  ·exact List.mem_cons_of_mem _ h
  ·simp only[List.map_cons,List.mem_cons]at h ⊢
   rcases h with rfl|h
   ·exact .inl rfl
   ·exact .inr (ih h)
theorem zJ{l:dB}{c:fS}(hc:c.row=none){x:fu}(h:x∈(rF l c).map (·.2)):x∈l.map (·.2):=by
 cases c with
 |written p r=>cases hc
 |renamed a b=>
  simp only[rF]at h
  split at h
  ·exact h
  ·rename_i r hr
   rcases nh h with h|h
   ·exact nf h
   ·exact h▸List.mem_map.2 ⟨_,jb hr,rfl⟩
 |removed p=>exact nf h
theorem BU(l:dB)(c:fS):(rF l c).length≤l.length+1:=by
 cases c with
 |written p r=>exact oG l p r
 |renamed a b=>
  simp only[rF]
  split
  ·omega
  ·rename_i r hr
   have h1:=oG (eu l a) b r
   have h2:=sf l a
   omega
 |removed p=>have h2:=sf l p;show(eu l p).length≤_;omega
theorem oR{st:cG}{c:fS}{A:Option Addr}{k:Nat}(hc:c.row=none):∀x∈rowsOf (st.gp c A k),x∈rowsOf st:=by
 intro x hx
 unfold rowsOf cG.gp at hx
 simp only[cG.ez,List.mem_append,List.filterMap_append]at hx
 unfold rowsOf
 simp only[List.mem_append]
 rcases hx with(h|h)|h|h
 ·exact .inl (.inl (zJ hc h))
 ·exact .inl (.inr h)
 ·exact .inr h
 ·simp[hc]at h
theorem nY.gp{st:cG}{k:Nat}(h:nY st k){c:fS}(hc:c.row=none)(A:Option Addr)(j:Nat):nY (st.gp c A j) (k+1):=by
 refine⟨kb h.cj,h.room, ?_, ?_,fun x hx=>h.small x (oR hc x hx)⟩
 ·have:=BU st.seen c
  have:=h.seen
  show(rF st.seen c).length≤k+1
  omega
 ·have:=h.rest
  show st.ct.length+(st.waits++[c]).length≤k+1
  simp only[List.length_append,List.length_cons,List.length_nil]
  omega
theorem Gw{g:Nat}{st:cG}{a c:List UInt8}(hp:st.cj≤1000000000000)(hw:st.waits.length≤1000000):cf Tryz.prog 116 [.pointer (some ⟨g,0,none⟩),(fS.renamed a c).val] [bn g st] [] (fun v_ X_ S_=>∃A k,v_=(.tuple #[])∧X_=[bn g (st.gp (.renamed a c) A k)]∧S_=[]):=by
 have hsw:st.ez.waits.length=st.waits.length:=rfl
 refine aP (N:=25) Tryz.func116 rfl rfl (by simp) fun b=> ?_
 refine ah<|aj<|hy (fun _=>aa rfl)<| ?_
 refine hx (aq rfl Tryz.call181 (ry (by omega)) [0] rfl [] rfl ?_)
 rintro _ _ _ ⟨rfl,rfl,rfl⟩
 refine aR (fun w m=>(m.perm (ar [0] _ [_] _ rfl)).unpack) ?_
 refine ai<|al (ρ' :=[(0,_),(1,_)]) ⟨rfl,rfl,trivial⟩<|ak (X' :=[_,_,_,_,_]) (S' :=[]) (fun _ m=>m)<|ag<|ah<|cN [8] [(0,some 0),(1,some 0),(2,some 0),(3,some 0),(4,some 0),(5,some 0),(6,some 0),(7,some 0),(8,none)] (by kernel_rfl) (by kernel_rfl) rfl 0<|an (aa rfl)<|an (aa rfl)<|an (bh rfl)<|an (aL rfl gH (by decide))<|b6 (fun m=>aw rfl mf (aA (m.aY 0 rfl) rfl))<|an (j3 rfl rfl)<|an (ub rfl (by kernel_rfl))<|an (aa rfl)<| ?_
 refine dT (u4 rfl rfl (fun w=>by kernel_rfl) Tryz.call337 (C6) [1] rfl [] rfl ?_)
 rintro _ _ _ ⟨rfl,rfl,rfl⟩
 refine⟨(fun h=>absurd h (by decide)), ?_⟩
 refine bz<|al (ρ' :=[(0,_),(1,_)]) ⟨rfl,rfl,trivial⟩<|ak (X' :=[_,_,_,_,_]) (S' :=[]) (fun _ m=>m)<|ag<|aj<|hy (fun _=>aa rfl)<|hy (fun _=>aa rfl)<|hy (fun _=>bh rfl)<|hy (fun _=>aL rfl jI (by decide))<|hy (fun m=>aw rfl y8 (aA (m.aY 1 rfl) rfl))<|hy (fun _=>aa rfl)<| ?_
 refine hx (bV Tryz.underlying175 qN rfl rfl rfl (by simp[Value.cells,fS.val]) (by decide) (by decide) (fun g21=> ?_))
 have hA_b21:0<1→(some (⟨g21,0,none⟩:Addr))≠none:=fun _ h=>by cases h
 refine aR (fun w m=>m.bO 0 rfl (show _=aG 232 1 (.slice (some ⟨g21,0,none⟩) 1 1) 1 [((fS.renamed a c)).val]from rfl)) ?_
 refine hx (bH 4 rfl rfl rfl Tryz.underlying175 Tryz.underlying175 (by exact .inl rfl) qN rfl (fun m=>Src.bY (m.ord 0 rfl)) (by simp[fS.val,Value.oneCell']) (by unfold maxLen;omega) (by omega) (fun u=> ?_))
 refine aB (fun m=>(m.own 0 rfl).slice) ?_
 rintro⟨A_d3,c_d3,rfl,hc_d3⟩
 refine aB (fun m=>(m.ord 0 rfl).2.1) fun hA_d3=> ?_
 refine hy (fun _=>bh rfl)<|hy (fun _=>aL rfl jI (by decide))<| ?_
 refine cI (cz 3 rfl rfl rfl vh rfl (by first|exact Nat.le_of_ble_eq_true rfl|simp) ?_)
 refine ai<|al (ρ' :=[(0,_),(1,_)]) ⟨rfl,rfl,trivial⟩<|ak (X' :=[_,_,_,_,_,_]) (S' :=[]) (fun _ m=>m)<| ?_
 refine ak (fun w m=>m.bO 0 rfl (show _=aI g 177 (jS (st.gp ((fS.renamed a c)) A_d3 c_d3))from by simp[jS,cG.gp,cG.ez])) ?_
 refine ak (fun w m=>m.bO 3 rfl (show _=c5 SV st.gs (dK (st.gp ((fS.renamed a c)) A_d3 c_d3).seen)from rfl)) ?_
 refine ak (fun w m=>m.bO 2 rfl (show _=aG 232 1 (.slice A_d3 (st.gp ((fS.renamed a c)) A_d3 c_d3).waits.length c_d3) (st.gp ((fS.renamed a c)) A_d3 c_d3).waits.length ((st.gp ((fS.renamed a c)) A_d3 c_d3).waits.map fS.val)from by simp[cG.gp,cG.ez])) ?_
 refine ak (X' :=im (rowsOf (st.gp ((fS.renamed a c)) A_d3 c_d3))::_) (fun w m=>(m.perm (ar [5] _ [_] _ rfl)).uD ((oR rfl))) ?_
 refine ak (X' :=bn g (st.gp ((fS.renamed a c)) A_d3 c_d3)::_) (fun w m=>(m.perm (ar [3,2,3,1,0] _ [_,_,_,_,_] _ rfl)).pack) ?_
 exact fD trivial rfl [0] rfl [] rfl ⟨_,_,rfl,rfl,rfl⟩
theorem Gv{g:Nat}{st:cG}{p:List UInt8}(hp:st.cj≤1000000000000)(hw:st.waits.length≤1000000):cf Tryz.prog 116 [.pointer (some ⟨g,0,none⟩),(fS.removed p).val] [bn g st] [] (fun v_ X_ S_=>∃A k,v_=(.tuple #[])∧X_=[bn g (st.gp (.removed p) A k)]∧S_=[]):=by
 have hsw:st.ez.waits.length=st.waits.length:=rfl
 refine aP (N:=25) Tryz.func116 rfl rfl (by simp) fun b=> ?_
 refine ah<|aj<|hy (fun _=>aa rfl)<| ?_
 refine hx (aq rfl Tryz.call181 (ry (by omega)) [0] rfl [] rfl ?_)
 rintro _ _ _ ⟨rfl,rfl,rfl⟩
 refine aR (fun w m=>(m.perm (ar [0] _ [_] _ rfl)).unpack) ?_
 refine ai<|al (ρ' :=[(0,_),(1,_)]) ⟨rfl,rfl,trivial⟩<|ak (X' :=[_,_,_,_,_]) (S' :=[]) (fun _ m=>m)<|ag<|ah<|cN [8] [(0,some 0),(1,some 0),(2,some 0),(3,some 0),(4,some 0),(5,some 0),(6,some 0),(7,some 0),(8,none)] (by kernel_rfl) (by kernel_rfl) rfl 0<|an (aa rfl)<|an (aa rfl)<|an (bh rfl)<|an (aL rfl gH (by decide))<|b6 (fun m=>aw rfl mf (aA (m.aY 0 rfl) rfl))<|an (j3 rfl rfl)<|an (ub rfl (by kernel_rfl))<|an (aa rfl)<| ?_
 refine dT (u4 rfl rfl (fun w=>by kernel_rfl) Tryz.call335 (Dz) [1] rfl [] rfl ?_)
 rintro _ _ _ ⟨rfl,rfl,rfl⟩
 refine⟨(fun h=>absurd h (by decide)), ?_⟩
 refine bz<|al (ρ' :=[(0,_),(1,_)]) ⟨rfl,rfl,trivial⟩<|ak (X' :=[_,_,_,_,_]) (S' :=[]) (fun _ m=>m)<|ag<|aj<|hy (fun _=>aa rfl)<|hy (fun _=>aa rfl)<|hy (fun _=>bh rfl)<|hy (fun _=>aL rfl jI (by decide))<|hy (fun m=>aw rfl y8 (aA (m.aY 1 rfl) rfl))<|hy (fun _=>aa rfl)<| ?_
 refine hx (bV Tryz.underlying175 qN rfl rfl rfl (by simp[Value.cells,fS.val]) (by decide) (by decide) (fun g21=> ?_))
 have hA_b21:0<1→(some (⟨g21,0,none⟩:Addr))≠none:=fun _ h=>by cases h
 refine aR (fun w m=>m.bO 0 rfl (show _=aG 232 1 (.slice (some ⟨g21,0,none⟩) 1 1) 1 [((fS.removed p)).val]from rfl)) ?_
 refine hx (bH 4 rfl rfl rfl Tryz.underlying175 Tryz.underlying175 (by exact .inl rfl) qN rfl (fun m=>Src.bY (m.ord 0 rfl)) (by simp[fS.val,Value.oneCell']) (by unfold maxLen;omega) (by omega) (fun u=> ?_))
 refine aB (fun m=>(m.own 0 rfl).slice) ?_
 rintro⟨A_d3,c_d3,rfl,hc_d3⟩
 refine aB (fun m=>(m.ord 0 rfl).2.1) fun hA_d3=> ?_
 refine hy (fun _=>bh rfl)<|hy (fun _=>aL rfl jI (by decide))<| ?_
 refine cI (cz 3 rfl rfl rfl vh rfl (by first|exact Nat.le_of_ble_eq_true rfl|simp) ?_)
 refine ai<|al (ρ' :=[(0,_),(1,_)]) ⟨rfl,rfl,trivial⟩<|ak (X' :=[_,_,_,_,_,_]) (S' :=[]) (fun _ m=>m)<| ?_
 refine ak (fun w m=>m.bO 0 rfl (show _=aI g 177 (jS (st.gp ((fS.removed p)) A_d3 c_d3))from by simp[jS,cG.gp,cG.ez])) ?_
 refine ak (fun w m=>m.bO 3 rfl (show _=c5 SV st.gs (dK (st.gp ((fS.removed p)) A_d3 c_d3).seen)from rfl)) ?_
 refine ak (fun w m=>m.bO 2 rfl (show _=aG 232 1 (.slice A_d3 (st.gp ((fS.removed p)) A_d3 c_d3).waits.length c_d3) (st.gp ((fS.removed p)) A_d3 c_d3).waits.length ((st.gp ((fS.removed p)) A_d3 c_d3).waits.map fS.val)from by simp[cG.gp,cG.ez])) ?_
 refine ak (X' :=im (rowsOf (st.gp ((fS.removed p)) A_d3 c_d3))::_) (fun w m=>(m.perm (ar [5] _ [_] _ rfl)).uD ((oR rfl))) ?_
 refine ak (X' :=bn g (st.gp ((fS.removed p)) A_d3 c_d3)::_) (fun w m=>(m.perm (ar [3,2,3,1,0] _ [_,_,_,_,_] _ rfl)).pack) ?_
 exact fD trivial rfl [0] rfl [] rfl ⟨_,_,rfl,rfl,rfl⟩
def bQ(st:cG)(a c:List UInt8):Int:=if¬fB c then 1 else dF st a
theorem Bm{g:Nat}{st:cG}{a c:List UInt8}{k:Nat}(ok:nY st k)(hk:k≤100000):cf Tryz.prog 108 [.pointer (some ⟨g,0,none⟩),.string (strOf a),.string (strOf c)] [bn g st] [] (fun v_ X_ S_=>∃st1 A j,v_=(.int .i64 (bQ st a c))∧X_=[bn g st1]∧S_=[]∧((bQ st a c≠0∧st1=st)∨(bQ st a c=0∧st1=st.gp (.renamed a c) A j))):=by
 have hp:=ok.cj
 have hw:st.waits.length≤1000000:=by have:=ok.rest;omega
 refine aP (N:=23) Tryz.func108 rfl rfl (by simp) fun b=> ?_
 refine ah<|aj<|hy (fun _=>ab rfl)<|ai<|ag<|ah<|ah<|aj<|hy (fun _=>aa rfl)<| ?_
 refine hx (aq rfl Tryz.call115 (yu) [] rfl [] rfl ?_)
 rintro _ _ _ ⟨rfl,rfl,rfl⟩
 refine hy (fun _=>iI rfl)<|ai<|al (ρ' :=[(10,_),(6,_),(0,_),(1,_),(2,_)]) ⟨rfl,rfl,rfl,rfl,rfl,trivial⟩<|ak (X' :=[_]) (S' :=[]) (fun _ m=>m)<|ag<| ?_
 refine cD rfl (fun h1=> ?_) (fun h1=> ?_)
 ·have e:bQ st a c=1:=by rw[bQ,if_pos h1]
  rw[e]
  refine ah<|aj<|hy (fun _=>ab rfl)<|ai<|ag<|aU<|ax<| ?_
  exact bc trivial rfl rfl [0] rfl [] rfl ⟨_,none,0,rfl,rfl,rfl,.inl ⟨by decide,rfl⟩⟩
 ·have e:bQ st a c=dF st a:=by rw[bQ,if_neg h1]
  rw[e]
  refine aD<|ag<|ah<|ah<|aj<|hy (fun _=>aa rfl)<|hy (fun _=>aa rfl)<| ?_
  refine hx (aq rfl Tryz.call158 (ux) [0] rfl [] rfl ?_)
  rintro _ _ _ ⟨rfl,rfl,rfl⟩
  refine hy (fun _=>ab rfl)<|ai<|al (ρ' :=[(7,_),(10,_),(6,_),(0,_),(1,_),(2,_)]) ⟨rfl,rfl,rfl,rfl,rfl,rfl,trivial⟩<|ak (X' :=[_]) (S' :=[]) (fun _ m=>m)<|ag<|ah<|aj<|hy (fun _=>aa rfl)<|hy (fun _=>dN rfl rfl)<|ai<|al (ρ' :=[(15,_),(7,_),(10,_),(6,_),(0,_),(1,_),(2,_)]) ⟨rfl,rfl,rfl,rfl,rfl,rfl,rfl,trivial⟩<|ag<| ?_
  refine cD rfl (fun h2=> ?_) (fun h2=> ?_)
  ·refine ah<|aj<|hy (fun _=>aa rfl)<|hy (fun _=>ab rfl)<|ai<|al (ρ' :=[(6,_),(15,_),(7,_),(10,_),(0,_),(1,_),(2,_)]) ⟨rfl,rfl,rfl,rfl,rfl,rfl,rfl,trivial⟩<|ag<|aU<|ax<| ?_
   exact bc trivial rfl rfl [0] rfl [] rfl ⟨_,none,0,rfl,rfl,rfl,.inl ⟨h2,rfl⟩⟩
  ·have h0:=Decidable.not_not.1 h2
   rw[h0]
   refine aD<|ag<|ah<|aj<|hy (fun _=>aa rfl)<|hy (fun _=>aa rfl)<|hy (fun _=>aa rfl)<|hy (fun _=>yV (cn FO rfl rfl (by kernel_rfl) (.cons (o:=0) (sz:=1) (by kernel_rfl) rfl rfl (Nat.le_of_ble_eq_true rfl) (.cons (o:=1) (sz:=1) (by kernel_rfl) rfl rfl (Nat.le_of_ble_eq_true rfl) .nil))) ((rfl:_=Value.agg [SV a,SV c].toArray)))<|hy (fun _=>yV (ke rfl Tryz.underlying257 (fun _ h=>by cases h)) ((rfl:_=(fS.renamed a c).val)))<| ?_
   refine hx (aq rfl Tryz.call116 (Gw (by omega) (by omega)) [0] rfl [] rfl ?_)
   rintro _ _ _ ⟨A,k2,rfl,rfl,rfl⟩
   refine ai<|al (ρ' :=[(15,_),(7,_),(10,_),(6,_),(0,_),(1,_),(2,_)]) ⟨rfl,rfl,rfl,rfl,rfl,rfl,rfl,trivial⟩<|ak (X' :=[_]) (S' :=[]) (fun _ m=>m)<|ag<|ah<|aj<|hy (fun _=>ab rfl)<|ai<|ag<|aU<| ?_
   exact bc trivial rfl rfl [0] rfl [] rfl ⟨_,_,_,rfl,rfl,rfl,.inr ⟨rfl,rfl⟩⟩
theorem BX{g:Nat}{st:cG}{p:List UInt8}{k:Nat}(ok:nY st k)(hk:k≤100000):cf Tryz.prog 79 [.pointer (some ⟨g,0,none⟩),.string (strOf p)] [bn g st] [] (fun v_ X_ S_=>∃st1 A j,v_=(.int .i64 (dF st p))∧X_=[bn g st1]∧S_=[]∧((dF st p≠0∧st1=st)∨(dF st p=0∧st1=st.gp (.removed p) A j))):=by
 have hp:=ok.cj
 have hw:st.waits.length≤1000000:=by have:=ok.rest;omega
 refine aP (N:=17) Tryz.func79 rfl rfl (by simp) fun b=> ?_
 refine ah<|aj<|hy (fun _=>ab rfl)<|ai<|ag<|ah<|ah<|aj<|hy (fun _=>aa rfl)<|hy (fun _=>aa rfl)<| ?_
 refine hx (aq rfl Tryz.call158 (ux) [0] rfl [] rfl ?_)
 rintro _ _ _ ⟨rfl,rfl,rfl⟩
 refine hy (fun _=>ab rfl)<|ai<|al (ρ' :=[(5,_),(4,_),(0,_),(1,_)]) ⟨rfl,rfl,rfl,rfl,trivial⟩<|ak (X' :=[_]) (S' :=[]) (fun _ m=>m)<|ag<|ah<|aj<|hy (fun _=>aa rfl)<|hy (fun _=>dN rfl rfl)<|ai<|al (ρ' :=[(10,_),(5,_),(4,_),(0,_),(1,_)]) ⟨rfl,rfl,rfl,rfl,rfl,trivial⟩<|ag<| ?_
 refine cD rfl (fun h2=> ?_) (fun h2=> ?_)
 ·refine ah<|aj<|hy (fun _=>aa rfl)<|hy (fun _=>ab rfl)<|ai<|al (ρ' :=[(4,_),(10,_),(5,_),(0,_),(1,_)]) ⟨rfl,rfl,rfl,rfl,rfl,trivial⟩<|ag<|aU<|ax<| ?_
  exact bc trivial rfl rfl [0] rfl [] rfl ⟨_,none,0,rfl,rfl,rfl,.inl ⟨h2,rfl⟩⟩
 ·have h0:=Decidable.not_not.1 h2
  rw[h0]
  refine aD<|ag<|ah<|aj<|hy (fun _=>aa rfl)<|hy (fun _=>aa rfl)<|hy (fun _=>yV (cn E9 rfl rfl (by kernel_rfl) (.cons (o:=0) (sz:=1) (by kernel_rfl) rfl rfl (Nat.le_of_ble_eq_true rfl) .nil)) ((rfl:_=Value.agg [SV p].toArray)))<|hy (fun _=>yV (ke rfl Tryz.underlying237 (fun _ h=>by cases h)) ((rfl:_=(fS.removed p).val)))<| ?_
  refine hx (aq rfl Tryz.call116 (Gv (by omega) (by omega)) [0] rfl [] rfl ?_)
  rintro _ _ _ ⟨A,k2,rfl,rfl,rfl⟩
  refine ai<|al (ρ' :=[(10,_),(5,_),(4,_),(0,_),(1,_)]) ⟨rfl,rfl,rfl,rfl,rfl,trivial⟩<|ak (X' :=[_]) (S' :=[]) (fun _ m=>m)<|ag<|ah<|aj<|hy (fun _=>ab rfl)<|ai<|ag<|aU<| ?_
  exact bc trivial rfl rfl [0] rfl [] rfl ⟨_,_,_,rfl,rfl,rfl,.inr ⟨rfl,rfl⟩⟩
end Go.Proofs.YtmibdabdlgmafaaGreatDoor
end
section
namespace Go.Proofs.YtmibdabdlgmafaaGreatDoor
open Go.Eng Go.Hx
theorem Cs:∀(x y:List UInt8),Op.bytesLess x y=decide (x<y)
 | [],[]=>by simp[Op.bytesLess]
 |_::_,[]=>by simp[Op.bytesLess]
 | [],_::_=>by simp[Op.bytesLess]
 |a::x,b::y=>by
  rw[Op.bytesLess,Cs x y]
  simp only[List.cons_lt_cons_iff]
  by_cases h1:a<b <;> by_cases h2:a=b <;> by_cases h3:x<y <;> simp[h1,h2,h3]
theorem qY{a b:List UInt8}:mG a b=decide (a<b):=by
 unfold mG
 rw[Cs,Lib.toList_data,Lib.toList_data]
 rfl
def gI:List FP→FP→List FP
 | [],f=>[f]
 |x::r,f=>if x.1<f.1 then x::gI r f else f::(x::r).filter fun y=>decide (y.1≠f.1)
theorem kR(f:FP):∀(l acc:List FP),l.foldl (ia f) (acc,true)=(acc++l.filter (fun y=>decide (y.1≠f.1)),true)
 | [],acc=>by simp
 |x::r,acc=>by
  rw[List.foldl_cons]
  by_cases h:x.1=f.1
  ·have:ia f (acc,true) x=(acc,true):=by simp[ia,h]
   rw[this,kR f r acc];simp[h]
  ·have:ia f (acc,true) x=(acc++[x],true):=by simp[ia,h]
   rw[this,kR f r (acc++[x])];simp[h]
def zp(f:FP)(st:List FP×Bool):List FP:=if st.2 then st.1 else st.1++[f]
theorem oz(f:FP):∀(l acc:List FP),zp f (l.foldl (ia f) (acc,false))=acc++gI l f
 | [],acc=>by simp[gI,zp]
 |x::r,acc=>by
  rw[List.foldl_cons]
  by_cases h:x.1<f.1
  ·have hne:x.1≠f.1:=fun e=>by rw[e]at h;exact List.lt_irrefl _ h
   have:ia f (acc,false) x=(acc++[x],false):=by simp[ia,qY,h,hne]
   rw[this,oz f r (acc++[x]),gI,if_pos h];simp
  ·have hs:mG x.1 f.1=false:=by rw[qY];simpa using h
   rw[gI,if_neg h]
   by_cases he:x.1=f.1
   ·have hs' :mG f.1 f.1=false:=he▸hs
    have:ia f (acc,false) x=(acc++[f],true):=by simp[ia,hs',he]
    rw[this,kR];simp[he,zp]
   ·have:ia f (acc,false) x=(acc++[f]++[x],true):=by simp[ia,hs,he]
    rw[this,kR];simp[he,zp]
theorem ja(l:List FP)(f:FP):gi l f=gI l f:=by
 have:=oz f l []
 rw[List.nil_append]at this
 rw[←this]
 unfold gi Cn zp
 rw[List.take_of_length_le (Nat.le_refl _)]
def lk:List FP→List UInt8→Option (List UInt8)
 | [],_=>none
 |x::r,p=>if x.1=p then some x.2 else lk r p
theorem fw:∀(l:List FP) (p:List UInt8),(l[cp l p]?).map (·.2)=lk l p
 | [],p=>rfl
 |x::r,p=>by
  have:=fw r p
  unfold cp at this ⊢
  rw[List.findIdx_cons]
  by_cases h:x.1=p
  ·simp[h,lk]
  ·simp[h,lk,this]
theorem gP(q:List UInt8):∀(l:List FP) (p:List UInt8),lk (l.filter fun y=>decide (y.1≠q)) p=if p=q then none else lk l p
 | [],p=>by simp[lk]
 |x::r,p=>by
  have ih:=gP q r p
  by_cases h:x.1=q
  ·rw[List.filter_cons,if_neg (by simp[h]),ih]
   by_cases hp:p=q
   ·simp[hp]
   ·rw[if_neg hp,if_neg hp,lk,if_neg (fun e=>hp (e.symm.trans h))]
  ·rw[List.filter_cons,if_pos (by simp[h]),lk,ih]
   by_cases hp:p=q
   ·rw[if_pos hp,if_pos hp,if_neg (fun e=>h (e.trans hp))]
   ·rw[if_neg hp,if_neg hp,lk]
theorem ri:∀(l:List FP) (f:FP) (p:List UInt8),lk (gI l f) p=if p=f.1 then some f.2 else lk l p
 | [],f,p=>by simp only[gI,lk,eq_comm]
 |x::r,f,p=>by
  unfold gI
  by_cases h:x.1<f.1
  ·rw[if_pos h,lk,ri r f p,lk]
   have hne:x.1≠f.1:=fun e=>by rw[e]at h;exact List.lt_irrefl _ h
   by_cases hp:p=f.1
   ·rw[if_pos hp,if_pos hp,if_neg (fun e=>hne (e.trans hp))]
   ·rw[if_neg hp,if_neg hp]
  ·rw[if_neg h,lk,gP]
   by_cases hp:p=f.1
   ·rw[if_pos hp.symm,if_pos hp]
   ·rw[if_neg (fun e=>hp e.symm),if_neg hp,if_neg hp]
def lN(l:List FP):Prop:=(l.map (·.1)).Pairwise (· <·)
theorem nO{l:List FP}(q:FP→Bool)(h:lN l):lN (l.filter q):=List.Pairwise.sublist (List.Sublist.map _ List.filter_sublist) h
theorem wi{l:List FP}{f y:FP}(h:y∈gI l f):y=f∨y∈l:=by
 induction l with
 |nil=>exact .inl (by simpa[gI]using h)
 |cons x r ih=>
  unfold gI at h
  split at h
  ·rcases List.mem_cons.1 h with h|h
   ·exact .inr (by rw[h];exact List.mem_cons_self ..)
   ·rcases ih h with h|h
    ·exact .inl h
    ·exact .inr (List.mem_cons_of_mem _ h)
  ·rcases List.mem_cons.1 h with h|h
   ·exact .inl h
   ·exact .inr ((List.mem_filter.1 h).1)
theorem zz{l:List FP}{f:FP}(h:lN l):lN (gI l f):=by
 induction l with
 |nil=>simp[lN,gI]
 |cons x r ih=>
  have hx:∀y∈r,x.1<y.1:=by
   intro y hy
   exact(List.pairwise_cons.1 h).1 _ (List.mem_map.2 ⟨y,hy,rfl⟩)
  have hr:lN r:=(List.pairwise_cons.1 h).2
  unfold gI
  by_cases hlt:x.1<f.1
  ·rw[if_pos hlt]
   refine List.pairwise_cons.2 ⟨?_,ih hr⟩
   intro a ha
   obtain⟨y,hy,rfl⟩:=List.mem_map.1 ha
   rcases wi hy with rfl|hy
   ·exact hlt
   ·exact hx y hy
  ·rw[if_neg hlt]
   refine List.pairwise_cons.2 ⟨?_,nO _ h⟩
   intro a ha
   obtain⟨y,hy,rfl⟩:=List.mem_map.1 ha
   have hy1:=(List.mem_filter.1 hy).1
   have hy2:y.1≠f.1:=by simpa using(List.mem_filter.1 hy).2
   have hge:¬y.1<f.1:=by
    rcases List.mem_cons.1 hy1 with rfl|h1
    ·exact hlt
    ·exact fun e=>hlt (List.lt_trans (hx y h1) e)
   exact Decidable.byContradiction fun hn=>hy2 (List.le_antisymm (List.not_lt.1 hn) (List.not_lt.1 hge))
structure fL(fs:dB)(l:List FP):Prop where
 ord:lN l
 nd:(b7 fs).Nodup
 look:∀p,(b4 fs p).map (·.l)=lk l p
 len:∀x∈fs,x.2.n=x.2.l.length
theorem fL.nil:fL [] []:=⟨by simp[lN],by simp[b7],fun p=>rfl,fun x h=>by cases h⟩
theorem uF{l:List FP}{p:List UInt8}:lk l p≠none↔p∈l.map (·.1):=by
 induction l with
 |nil=>simp[lk]
 |cons x r ih=>
  unfold lk
  by_cases h:x.1=p
  ·simp[h]
  ·rw[if_neg h,ih];simp[Ne.symm h]
theorem fL.keys{fs:dB}{l:List FP}(h:fL fs l):(b7 fs).Perm (l.map (·.1)):=by
 have hn:(l.map (·.1)).Nodup:=List.Pairwise.imp (fun hlt e=>by rw[e]at hlt;exact List.lt_irrefl _ hlt) h.ord
 refine(List.perm_ext_iff_of_nodup h.nd hn).2 fun p=> ?_
 rw[←uF,←h.look p]
 have:= @jd (List UInt8) fu _ fs p
 cases hq:b4 fs p with
 |none=>simp[this.1 hq]
 |some r=>simp;exact Decidable.byContradiction fun hm=>by rw[this.2 hm]at hq;cases hq
theorem fL.put{fs:dB}{l:List FP}(h:fL fs l){p:List UInt8}{r:fu}(hr:r.n=r.l.length):fL (cL fs p r) (gi l (p,r.l)):=by
 rw[ja]
 refine⟨zz h.ord,fR h.nd,fun q=> ?_,fun x hx=> ?_⟩
 ·rw[p9,ri]
  by_cases hq:p=q
  ·rw[if_pos hq,if_pos hq.symm];rfl
  ·rw[if_neg hq,if_neg (fun e=>hq e.symm)];exact h.look q
 ·rcases nh (List.mem_map.2 ⟨x,hx,rfl⟩)with h1|h1
  ·obtain⟨y,hy,e⟩:=List.mem_map.1 h1
   rw[←e];exact h.len y hy
  ·rw[h1];exact hr
theorem yo{a b:List Nat}(h:a.Perm b):a.sum=b.sum:=by
 induction h with
 |nil=>rfl
 |cons x _ ih=>simp[ih]
 |swap x y l=>simp;omega
 |trans _ _ h1 h2=>rw[h1,h2]
theorem AS{l:List FP}(h:lN l){x:FP}(hx:x∈l):lk l x.1=some x.2:=by
 induction l with
 |nil=>cases hx
 |cons y r ih=>
  unfold lk
  rcases List.mem_cons.1 hx with rfl|h1
  ·rw[if_pos rfl]
  ·have hlt:y.1<x.1:=(List.pairwise_cons.1 h).1 _ (List.mem_map.2 ⟨x,h1,rfl⟩)
   rw[if_neg (fun e=>by rw[e]at hlt;exact List.lt_irrefl _ hlt)]
   exact ih (List.pairwise_cons.1 h).2 h1
theorem fL.lO{fs:dB}{l:List FP}(h:fL fs l):lO fs=di l:=by
 let g:List UInt8→Nat:=fun p=>((lk l p).getD []).length
 have h1:fs.map (fun x=>x.2.n)=(b7 fs).map g:=by
  rw[b7,List.map_map]
  refine List.map_congr_left fun x hx=> ?_
  have:=h.look x.1
  rw[np h.nd (show(x.1,x.2)∈fs from hx)]at this
  show x.2.n=((lk l x.1).getD []).length
  rw[←this,h.len x hx];rfl
 have h2:l.map (fun x=>x.2.length)=(l.map (·.1)).map g:=by
  rw[List.map_map]
  refine List.map_congr_left fun x hx=> ?_
  show x.2.length=((lk l x.1).getD []).length
  rw[AS h.ord hx];rfl
 show(fs.map fun x=>x.2.n).sum=(l.map fun x=>x.2.length).sum
 rw[h1,h2]
 exact yo (h.keys.map g)
theorem fL.Dh{fs:dB}{l:List FP}(h:fL fs l):fs.length=l.length:=by
 have:=h.keys.length_eq
 simpa[b7]using this
theorem fL.sz{fs:dB}{l:List FP}(h:fL fs l)(p:List UInt8):((b4 fs p).map (·.n)).getD 0=((l[cp l p]?).map (·.2.length)).getD 0:=by
 have h1:=h.look p
 rw[←fw]at h1
 cases hq:b4 fs p with
 |none=>
  rw[hq]at h1
  cases hl:l[cp l p]? with
  |none=>rfl
  |some x=>rw[hl]at h1;cases h1
 |some r=>
  rw[hq]at h1
  cases hl:l[cp l p]? with
  |none=>rw[hl]at h1;cases h1
  |some x=>
   rw[hl]at h1
   have e:r.l=x.2:=Option.some.inj h1
   have:=h.len _ (jb hq)
   simp only[Option.map_some,Option.getD_some]
   rw[←e];exact this
structure ua(st:cG)(d:RD):Prop where
 room:st.room=d.room
 cj:st.cj=d.pw
 files:fL st.seen d.seen
 waits:st.waits.length=d.waits.length
theorem ua.bE{st:cG}{d:RD}(h:ua st d)(p bb:List UInt8):bE st p bb.length=d.bE p bb:=by
 have h1:=h.files.sz p
 have h2:=h.files.lO
 unfold Go.Proofs.YtmibdabdlgmafaaGreatDoor.bE RD.bE RD.sz
 rw[h.cj,h.room,h1,h2]
 by_cases hn:¬fB p
 ·rw[if_pos hn,if_pos hn]
 ·rw[if_neg hn,if_neg hn]
  by_cases h0:d.pw=0
  ·rw[if_pos h0,if_pos h0]
  ·rw[if_neg h0,if_neg h0]
   by_cases hr:d.room<(di d.seen:Int)+(bb.length:Nat)-(((d.seen[cp d.seen p]?).map (·.2.length)).getD 0:Nat)
   ·rw[if_pos hr,if_pos (by omega)]
   ·rw[if_neg hr,if_neg (by omega)]
theorem ua.cd{st:cG}{d:RD}(h:ua st d)(p:List UInt8):dF st p=d.cd p:=by
 have h1:=h.files.look p
 rw[←fw]at h1
 unfold dF RD.cd
 rw[h.cj]
 by_cases h0:d.pw=0
 ·rw[if_pos h0,if_pos h0]
 ·rw[if_neg h0,if_neg h0]
  cases ha:b4 st.seen p with
  |none=>
   rw[ha]at h1
   cases hb:d.seen[cp d.seen p]? with
   |none=>simp
   |some y=>rw[hb]at h1;cases h1
  |some r=>
   rw[ha]at h1
   cases hb:d.seen[cp d.seen p]? with
   |none=>rw[hb]at h1;cases h1
   |some y=>simp
theorem ua.cm{st:cG}{d:RD}(h:ua st d)(p:List UInt8):cm st p=d.cm p:=by
 have h1:=h.files.look p
 rw[←fw]at h1
 have h2:=h.cd p
 unfold Go.Proofs.YtmibdabdlgmafaaGreatDoor.cm RD.cm
 rw[h2,←h1]
 unfold RD.cd
 by_cases h0:d.pw=0
 ·rw[if_pos h0,if_pos h0,if_neg (by decide)]
 ·rw[if_neg h0,if_neg h0]
  cases hb:d.seen[cp d.seen p]? with
  |none=>
   rw[hb]at h1
   cases ha:b4 st.seen p with
   |none=>simp
   |some r=>rw[ha]at h1;cases h1
  |some y=>simp
end Go.Proofs.YtmibdabdlgmafaaGreatDoor
end
section
set_option maxRecDepth 20000
namespace Go.Proofs.YtmibdabdlgmafaaGreatDoor
open Go.Eng Go.Hx
structure RX where
 d:RD
 A:Option Addr
 c:Nat
 Al:Option Addr
 cl:Nat
 A3:Option Addr
 c3:Nat
def RX.cs(x:RX):List Value:=rv x.d x.A x.d.seen.length x.c x.Al x.d.ct.length x.cl x.A3 x.d.waits.length x.c3
abbrev RX.parts(x:RX):List bg:=[c6 2 x.A x.d.seen.length (fc x.d.seen),c6 2 x.Al x.d.ct.length (fc x.d.ct),c6 4 x.A3 x.d.waits.length (tV x.d.waits)]
def dE(x:RX):bg:=lM x.parts
theorem bN{x:RX}:∀u∈x.cs,u.oneCell' =true:=iG
theorem View.Eu{x:RX}:View (dE x) (c6 2 x.A x.d.seen.length (fc x.d.seen)):=View.n0 0 rfl
theorem View.Fg{x:RX}:View (dE x) (c6 2 x.Al x.d.ct.length (fc x.d.ct)):=View.n0 1 rfl
theorem View.Gh{x:RX}:View (dE x) (c6 4 x.A3 x.d.waits.length (tV x.d.waits)):=View.n0 2 rfl
def RD.new(room:Int):RD:=⟨room,[],[],[],-1⟩
def RX.new(room:Int):RX:=⟨RD.new room,none,0,none,0,none,0⟩
theorem vI{y:RX}{S:List bg}(h0:∃t∈S,View t (c6 2 y.A y.d.seen.length (fc y.d.seen)))(h1:∃t∈S,View t (c6 2 y.Al y.d.ct.length (fc y.d.ct)))(h2:∃t∈S,View t (c6 4 y.A3 y.d.waits.length (tV y.d.waits))):rU S [dE y]:=by
 refine rU.cons (fun s hs=> ?_) rU.nil
 simp only[List.mem_cons,List.not_mem_nil,or_false]at hs
 rcases hs with rfl|rfl|rfl
 ·exact h0
 ·exact h1
 ·exact h2
theorem A5{room:Int}:rU [] [dE (RX.new room)]:=by
 intro s hs
 obtain rfl:=List.mem_singleton.1 hs
 refine⟨fun w _ x hx=> ?_,fun k hk=> ?_⟩
 ·simp only[List.mem_cons,List.not_mem_nil,or_false]at hx
  rcases hx with rfl|rfl|rfl <;> exact Rd.nil _ _ _
 ·obtain⟨x,hx,hk⟩:=hk
  simp only[List.mem_cons,List.not_mem_nil,or_false]at hx
  rcases hx with rfl|rfl|rfl <;> exact absurd rfl hk.1
theorem F7{r:bg}{S:List bg}:∃t∈r::S,View t r:=⟨r,List.mem_cons_self ..,.same⟩
theorem inr{r a:bg}{S:List bg}(h:∃t∈S,View t r):∃t∈a::S,View t r:=by
 obtain⟨t,ht,hv⟩:=h
 exact⟨t,List.mem_cons_of_mem _ ht,hv⟩
theorem inv1{r a:bg}{S:List bg}(h:View a r):∃t∈a::S,View t r:=⟨a,List.mem_cons_self ..,h⟩
theorem FL{room:Int}:cf Tryz.prog 25 [.int .i64 room] [] [] (fun v_ X_ S_=>∃y,v_=(.agg y.cs.toArray)∧X_=[]∧S_=[dE y]∧(y.d=RD.new room)):=by
 exact cf.uz Ft (fun s hs=>by cases hs) (fun v X S h=>by
  obtain⟨rfl,rfl,rfl⟩:=h
  exact⟨_,⟨RX.new room,rfl,rfl,rfl,rfl⟩,A5⟩)
theorem yD{x:RX}{kk:Nat}{p:List UInt8}(ok:yh x.d kk)(hkk:kk≤100000):cf Tryz.prog 91 [.agg x.cs.toArray,.string (strOf p)] [] [dE x] (fun v_ X_ S_=>v_=(.tuple #[.string (strOf (x.d.cm p)),.int .i64 (x.d.cd p)])∧X_=[]∧S_=[]):=by
 exact cf.uz (Ds rfl ok hkk) (fun s hs=>⟨_,List.mem_singleton_self _,by rw[List.mem_singleton.1 hs];exact View.Eu⟩) (fun v X S h=>⟨[],⟨h.1,h.2.1,rfl⟩,rU.nil⟩)
theorem nN(d:RD)(p bb:List UInt8):(d.write p bb).ct=d.ct:=by
 unfold RD.write
 split <;> rfl
theorem vo{x:RX}:∀s∈ [c6 2 x.A x.d.seen.length (fc x.d.seen),c6 4 x.A3 x.d.waits.length (tV x.d.waits)],∃t∈ [dE x],View t s:=by
 intro s hs
 refine⟨_,List.mem_singleton_self _, ?_⟩
 simp only[List.mem_cons,List.not_mem_nil,or_false]at hs
 rcases hs with rfl|rfl
 ·exact View.Eu
 ·exact View.Gh
theorem mL{x:RX}{kk:Nat}{p bb:List UInt8}(ok:yh x.d kk)(hkk:kk≤100000)(hpl:p.length≤1000000)(hbb:bb.length≤1000000):cf Tryz.prog 31 [.agg x.cs.toArray,.string (strOf p),.string (strOf bb)] [] [dE x] (fun v_ X_ S_=>∃y,v_=(.tuple #[.agg y.cs.toArray,.int .i64 (x.d.bE p bb)])∧X_=[]∧S_=[dE y]∧(y.d=x.d.write p bb)):=by
 refine cf.uz (BL rfl rfl ok hkk hpl hbb) vo (fun v X S h=> ?_)
 obtain⟨A1,n1,c1,A2,n2,c2,rfl,rfl,rfl,rfl,rfl⟩:=h
 refine⟨_,⟨⟨x.d.write p bb,A1,c1,x.Al,x.cl,A2,c2⟩,by unfold RX.cs;simp only[nN],rfl,rfl,rfl⟩,vI F7 (inr (inr (inv1 ?_))) (inr F7)⟩
 simp only[nN]
 exact View.Fg
theorem Ga{x:RX}{kk:Nat}{k:Int}{p t bb:List UInt8}(ok:yh x.d kk)(hkk:kk≤100000):cf Tryz.prog 114 [.agg x.cs.toArray,.agg (cv k p t bb).toArray] [] [dE x] (fun v_ X_ S_=>∃y,v_=(.agg y.cs.toArray)∧X_=[]∧S_=[dE y]∧(y.d=x.d.gp k p t bb)):=by
 have h1:=ok.seen
 have h2:=ok.waits
 refine cf.uz (Ea rfl (by omega) rfl (by omega) ok.p1 ok.p2) vo (fun v X S h=> ?_)
 obtain⟨A1,n1,c1,A2,n2,c2,rfl,rfl,rfl,rfl,_,rfl⟩:=h
 have e:(x.d.waits++[(k,p,t,bb)]).length=x.d.waits.length+1:=by simp
 refine⟨_,⟨⟨x.d.gp k p t bb,A1,c1,x.Al,x.cl,A2,c2⟩,by unfold RX.cs;simp only[RD.gp,e];rfl,rfl,rfl,rfl⟩,vI F7 (inr (inr (inv1 View.Fg))) (inr (inv1 ?_))⟩
 simp only[RD.gp,e]
 exact .same
def RD.bQ(d:RD)(a c:List UInt8):Int:=if¬fB c then 1 else d.cd a
def RD.rename(d:RD)(a c:List UInt8):RD:=if d.bQ a c=0 then d.gp 1 a c []else d
def RD.remove(d:RD)(p:List UInt8):RD:=if d.cd p=0 then d.gp 2 p [] []else d
theorem xS{x:RX}{kk:Nat}{a c:List UInt8}(ok:yh x.d kk)(hkk:kk≤100000)(hcl:c.length≤1000000):cf Tryz.prog 100 [.agg x.cs.toArray,.string (strOf a),.string (strOf c)] [] [dE x] (fun v_ X_ S_=>∃y,v_=(.tuple #[.agg y.cs.toArray,.int .i64 (x.d.bQ a c)])∧X_=[]∧S_=[dE y]∧(y.d=x.d.rename a c)):=by
 refine aP (N:=31) Tryz.func100 rfl rfl (by simp) fun b=> ?_
 refine ah<|aj<| ?_
 refine hx (cy rfl (fun g3=> ?_))
 refine aR (fun w m=>m.bO 0 rfl (show _=aI g3 39 x.cs from congrArg (aI _ _) (bq _))) ?_
 refine hx (aN iM (fun g6=> ?_))
 refine hy (fun _=>ab rfl)<|ai<|ak (X' :=[_,_]) (S' :=[_]) (fun _ m=>m)<|ag<|ah<|aj<|hy (fun _=>aa rfl)<| ?_
 refine hx (aq rfl Tryz.call112 (wD (by omega)) [] rfl [] rfl ?_)
 rintro _ _ _ ⟨rfl,rfl,rfl⟩
 refine hy (fun _=>ab rfl)<|ai<|al (ρ' :=[(8,_),(7,_),(6,_),(3,_),(0,_),(1,_),(2,_)]) ⟨rfl,rfl,rfl,rfl,rfl,rfl,rfl,trivial⟩<|ak (X' :=[_,_]) (S' :=[_]) (fun _ m=>m)<|ag<|ah<|ah<|aj<|hy (fun _=>aa rfl)<|hy (fun _=>iI rfl)<|ai<|al (ρ' :=[(14,_),(8,_),(7,_),(6,_),(3,_),(0,_),(1,_),(2,_)]) ⟨rfl,rfl,rfl,rfl,rfl,rfl,rfl,rfl,trivial⟩<|ag<| ?_
 refine cD rfl (fun hN=> ?_) (fun hN=> ?_)
 ·have hE:x.d.bQ a c=1:=by rw[RD.bQ,if_pos hN]
  have hE0:¬(1:Int)=0:=by decide
  have hW:x.d.rename a c=x.d:=by rw[RD.rename,if_neg (by rw[hE];exact hE0)]
  rw[hE,hW]
  refine ah<|aj<|hy (fun m=>yV (a6 rfl cE bu rfl ((m.aY 1 rfl).ay)) ((rfl:_=Value.agg x.cs.toArray)))<| ?_
  refine cI (aJ 0 rfl rfl rfl bu rfl bN rfl ?_)
  refine hy (fun _=>ab rfl)<|ai<|al (ρ' :=[(7,_),(14,_),(8,_),(6,_),(3,_),(0,_),(1,_),(2,_)]) ⟨rfl,rfl,rfl,rfl,rfl,rfl,rfl,rfl,trivial⟩<|ak (X' :=[_,_]) (S' :=[_]) (fun _ m=>m)<|ag<|aU<|ax<| ?_
  exact ew trivial rfl rfl rfl cE bu rfl (fun m=>(m.aY 0 rfl).ay) [] rfl [0] rfl ⟨x,rfl,rfl,rfl,rfl⟩
 ·have hE:x.d.bQ a c=x.d.cd a:=by rw[RD.bQ,if_neg hN]
  refine aD<|ag<|ah<|aj<|hy (fun m=>yV (a6 rfl cE bu rfl ((m.aY 1 rfl).ay)) ((rfl:_=Value.agg x.cs.toArray)))<|hy (fun _=>aa rfl)<| ?_
  refine hx (aq rfl Tryz.call91 (yD (by omega) (by omega)) [] rfl [0] rfl ?_)
  rintro _ _ _ ⟨rfl,rfl,rfl⟩
  refine hy (fun _=>aa rfl)<|hy (fun _=>au rfl rfl)<|hy (fun _=>au rfl rfl)<|hy (fun _=>ab rfl)<|hy (fun _=>ab rfl)<|ai<|al (ρ' :=[(10,_),(14,_),(8,_),(7,_),(6,_),(3,_),(0,_),(1,_),(2,_)]) ⟨rfl,rfl,rfl,rfl,rfl,rfl,rfl,rfl,rfl,trivial⟩<|ak (X' :=[_,_]) (S' :=[_]) (fun _ m=>m)<|ag<|ah<|ah<|aj<|hy (fun _=>aa rfl)<|hy (fun _=>dN rfl rfl)<|ai<|al (ρ' :=[(23,_),(10,_),(14,_),(8,_),(7,_),(6,_),(3,_),(0,_),(1,_),(2,_)]) ⟨rfl,rfl,rfl,rfl,rfl,rfl,rfl,rfl,rfl,rfl,trivial⟩<|ag<| ?_
  refine cD rfl (fun hE0=> ?_) (fun hE0=> ?_)
  ·have hW:x.d.rename a c=x.d:=by rw[RD.rename,if_neg (by rw[hE];exact hE0)]
   rw[hE,hW]
   refine ah<|aj<|hy (fun m=>yV (a6 rfl cE bu rfl ((m.aY 1 rfl).ay)) ((rfl:_=Value.agg x.cs.toArray)))<|hy (fun _=>aa rfl)<| ?_
   refine cI (aJ 0 rfl rfl rfl bu rfl bN rfl ?_)
   refine hy (fun _=>ab rfl)<|ai<|al (ρ' :=[(7,_),(23,_),(10,_),(14,_),(8,_),(6,_),(3,_),(0,_),(1,_),(2,_)]) ⟨rfl,rfl,rfl,rfl,rfl,rfl,rfl,rfl,rfl,rfl,trivial⟩<|ak (X' :=[_,_]) (S' :=[_]) (fun _ m=>m)<|ag<|aU<|ax<| ?_
   exact ew trivial rfl rfl rfl cE bu rfl (fun m=>(m.aY 0 rfl).ay) [] rfl [0] rfl ⟨x,rfl,rfl,rfl,rfl⟩
  ·have hr0:=Decidable.not_not.1 hE0
   have hW:x.d.rename a c=x.d.gp 1 a c []:=by rw[RD.rename,if_pos (by rw[hE];exact hr0)]
   rw[hE,hW,hr0]
   refine aD<|ag<|ah<|aj<|hy (fun m=>yV (a6 rfl cE bu rfl ((m.aY 1 rfl).ay)) ((rfl:_=Value.agg x.cs.toArray)))<|hy (fun _=>aa rfl)<|hy (fun _=>aa rfl)<|hy (fun _=>yV (cn qO rfl rfl (by kernel_rfl) (.cons (o:=0) (sz:=1) (by kernel_rfl) rfl rfl (Nat.le_of_ble_eq_true rfl) (.cons (o:=1) (sz:=1) (by kernel_rfl) rfl rfl (Nat.le_of_ble_eq_true rfl) (.cons (o:=2) (sz:=1) (by kernel_rfl) rfl rfl (Nat.le_of_ble_eq_true rfl) .nil)))) ((rfl:_=Value.agg (cv 1 a c []).toArray)))<| ?_
   refine hx (aq rfl Tryz.call114 (Ga (by omega) (by omega)) [] rfl [0] rfl ?_)
   rintro _ _ _ ⟨y,rfl,rfl,rfl,hp⟩
   refine cI (aJ 0 rfl rfl rfl bu rfl bN rfl ?_)
   refine hy (fun _=>ab rfl)<|ai<|al (ρ' :=[(7,_),(23,_),(10,_),(14,_),(8,_),(6,_),(3,_),(0,_),(1,_),(2,_)]) ⟨rfl,rfl,rfl,rfl,rfl,rfl,rfl,rfl,rfl,rfl,trivial⟩<|ak (X' :=[_,_]) (S' :=[_,_]) (fun _ m=>m)<|ag<|aU<| ?_
   exact ew trivial rfl rfl rfl cE bu rfl (fun m=>(m.aY 0 rfl).ay) [] rfl [0] rfl ⟨y,rfl,rfl,rfl,hp⟩
def RD.cT(d:RD):Int:=if d.pw=0 then 6 else 0
def RD.sync(d:RD):RD:=if d.pw=0 then d else{d with ct:=d.seen,waits:=[],pw:=dH d.pw}
theorem uy{x:RX}{kk:Nat}(ok:yh x.d kk):cf Tryz.prog 99 [.agg x.cs.toArray] [] [dE x] (fun v_ X_ S_=>∃y,v_=(.tuple #[.agg y.cs.toArray,.int .i64 x.d.cT])∧X_=[]∧S_=[dE y]∧(y.d=x.d.sync)):=by
 have hp1:=ok.p1
 have hp2:=ok.p2
 refine aP (N:=20) Tryz.func99 rfl rfl (by simp) fun b=> ?_
 refine ah<|aj<| ?_
 refine hx (cy rfl (fun g1=> ?_))
 refine aR (fun w m=>m.bO 0 rfl (show _=aI g1 39 x.cs from congrArg (aI _ _) (bq _))) ?_
 refine hx (aN iM (fun g2=> ?_))
 refine hy (fun _=>ab rfl)<|ai<|ak (X' :=[_,_]) (S' :=[_]) (fun _ m=>m)<|ag<|ah<|ah<|aj<|hy (fun _=>aL rfl jO (by decide))<|hy (fun m=>aw rfl fE (aA (m.aY 1 rfl) (i:=4) rfl))<|hy (fun _=>cH rfl rfl)<|ai<|al (ρ' :=[(6,_),(3,_),(2,_),(1,_),(0,_)]) ⟨rfl,rfl,rfl,rfl,rfl,trivial⟩<|ag<| ?_
 refine cD rfl (fun h0=> ?_) (fun h0=> ?_)
 ·have hE:x.d.cT=6:=by rw[RD.cT,if_pos h0]
  have hW:x.d.sync=x.d:=by rw[RD.sync,if_pos h0]
  rw[hE,hW]
  refine ah<|aj<|hy (fun m=>yV (a6 rfl cE bu rfl ((m.aY 1 rfl).ay)) ((rfl:_=Value.agg x.cs.toArray)))<| ?_
  refine cI (aJ 0 rfl rfl rfl bu rfl bN rfl ?_)
  refine hy (fun _=>ab rfl)<|ai<|al (ρ' :=[(3,_),(6,_),(2,_),(1,_),(0,_)]) ⟨rfl,rfl,rfl,rfl,rfl,trivial⟩<|ak (X' :=[_,_]) (S' :=[_]) (fun _ m=>m)<|ag<|aU<|ax<| ?_
  exact ew trivial rfl rfl rfl cE bu rfl (fun m=>(m.aY 0 rfl).ay) [] rfl [0] rfl ⟨x,rfl,rfl,rfl,rfl⟩
 ·have hE:x.d.cT=0:=by rw[RD.cT,if_neg h0]
  have hW:x.d.sync={x.d with ct:=x.d.seen,waits:=[],pw:=dH x.d.pw}:=by rw[RD.sync,if_neg h0]
  rw[hE]
  refine bB (fun w m=>m.j6 0 rfl View.Eu) ?_
  refine aZ (fun m=>jq (m.rd 0 rfl)) ?_
  rintro⟨hl_r0,hA_r0⟩
  refine bB (fun w m=>m.pO (r' :=c6 4 none 0 []) (.refl _ _) (Rd.nil _ _ _) (fun k hk=>absurd rfl hk.1)) ?_
  have hA_z:0<0→(none:Option Addr)≠none:=fun h=>absurd h (by decide)
  refine aD<|ag<|ah<|aj<|hy (fun _=>aL rfl jJ (by decide))<|hy (fun m=>aw rfl ta (aA (m.aY 1 rfl) (i:=1) rfl))<|hy (fun _=>aL rfl D0 (by decide))<| ?_
  refine cI (cz 1 rfl rfl rfl EV rfl (by first|exact Nat.le_of_ble_eq_true rfl|simp) ?_)
  refine ai<|al (ρ' :=[(6,_),(3,_),(2,_),(1,_),(0,_)]) ⟨rfl,rfl,rfl,rfl,rfl,trivial⟩<|ak (X' :=[_,_]) (S' :=[_,_,_]) (fun _ m=>m)<|ag<|ah<|aj<|hy (fun _=>aL rfl uS (by decide))<| ?_
  refine cI (cz 0 rfl rfl rfl E8 rfl (by first|exact Nat.le_of_ble_eq_true rfl|simp) ?_)
  refine ai<|al (ρ' :=[(6,_),(3,_),(2,_),(1,_),(0,_)]) ⟨rfl,rfl,rfl,rfl,rfl,trivial⟩<|ak (X' :=[_,_]) (S' :=[_,_,_]) (fun _ m=>m)<|ag<|ah<|ah<|aj<|hy (fun _=>aL rfl jO (by decide))<|hy (fun m=>aw rfl fE (aA (m.aY 0 rfl) (i:=4) rfl))<|hy (fun _=>cR rfl rfl)<|ai<|al (ρ' :=[(14,_),(6,_),(3,_),(2,_),(1,_),(0,_)]) ⟨rfl,rfl,rfl,rfl,rfl,rfl,trivial⟩<|ag<| ?_
  refine bB (S' :=dE ⟨{x.d with ct:=x.d.seen,waits:=[],pw:=dH x.d.pw},x.A,x.c,x.A,x.c,none,0⟩::_) (fun w m=>m.Co [1,1,0] rfl) ?_
  refine cD rfl (fun h1=> ?_) (fun h1=> ?_)
  ·refine aj<|hy (fun _=>aL rfl jO (by decide))<|hy (fun m=>aw rfl fE (aA (m.aY 0 rfl) (i:=4) rfl))<|hy (fun _=>ck rfl rfl (bD (by omega) (by omega)))<|hy (fun _=>aL rfl jO (by decide))<| ?_
   refine cI (cz 0 rfl rfl rfl tW rfl (by first|exact Nat.le_of_ble_eq_true rfl|simp) ?_)
   refine ai<|al (ρ' :=[(14,_),(6,_),(3,_),(2,_),(1,_),(0,_)]) ⟨rfl,rfl,rfl,rfl,rfl,rfl,trivial⟩<|ak (X' :=[_,_]) (S' :=[_,_,_,_]) (fun _ m=>m)<|ag<|ah<|aj<| ?_
   refine aR (fun w m=>m.bO 0 rfl (show _=aI g1 39 (RX.cs ⟨{x.d with ct:=x.d.seen,waits:=[],pw:=dH x.d.pw},x.A,x.c,x.A,x.c,none,0⟩)from by rw[dH,if_pos h1];rfl)) ?_
   refine hy (fun m=>yV (a6 rfl cE bu rfl ((m.aY 0 rfl).ay)) ((rfl:_=Value.agg (RX.cs ⟨{x.d with ct:=x.d.seen,waits:=[],pw:=dH x.d.pw},x.A,x.c,x.A,x.c,none,0⟩).toArray)))<| ?_
   refine cI (aJ 1 rfl rfl rfl bu rfl bN rfl ?_)
   refine hy (fun _=>ab rfl)<|ai<|al (ρ' :=[(3,_),(14,_),(6,_),(2,_),(1,_),(0,_)]) ⟨rfl,rfl,rfl,rfl,rfl,rfl,trivial⟩<|ak (X' :=[_,_]) (S' :=[_,_,_,_]) (fun _ m=>m)<|ag<|aU<| ?_
   exact ew trivial rfl rfl rfl cE bu rfl (fun m=>(m.aY 0 rfl).ay) [] rfl [0] rfl ⟨_,rfl,rfl,rfl,hW.symm⟩
  ·refine aD<|ag<|ah<|aj<| ?_
   refine aR (fun w m=>m.bO 0 rfl (show _=aI g1 39 (RX.cs ⟨{x.d with ct:=x.d.seen,waits:=[],pw:=dH x.d.pw},x.A,x.c,x.A,x.c,none,0⟩)from by rw[dH,if_neg h1];rfl)) ?_
   refine hy (fun m=>yV (a6 rfl cE bu rfl ((m.aY 0 rfl).ay)) ((rfl:_=Value.agg (RX.cs ⟨{x.d with ct:=x.d.seen,waits:=[],pw:=dH x.d.pw},x.A,x.c,x.A,x.c,none,0⟩).toArray)))<| ?_
   refine cI (aJ 1 rfl rfl rfl bu rfl bN rfl ?_)
   refine hy (fun _=>ab rfl)<|ai<|al (ρ' :=[(3,_),(14,_),(6,_),(2,_),(1,_),(0,_)]) ⟨rfl,rfl,rfl,rfl,rfl,rfl,trivial⟩<|ak (X' :=[_,_]) (S' :=[_,_,_,_]) (fun _ m=>m)<|ag<|aU<| ?_
   exact ew trivial rfl rfl rfl cE bu rfl (fun m=>(m.aY 0 rfl).ay) [] rfl [0] rfl ⟨_,rfl,rfl,rfl,hW.symm⟩
end Go.Proofs.YtmibdabdlgmafaaGreatDoor
end
section
set_option maxRecDepth 20000
namespace Go.Proofs.YtmibdabdlgmafaaGreatDoor
open Go.Eng Go.Hx
theorem tR{α:Type}{f:α→List Value}{k:Nat}(hf:∀x,(f x).length=k):∀(l:List α) (i j:Nat) (x:α),l[i]? =some x→j<k→(l.flatMap f)[i*k+j]? =(f x)[j]?
 | [],i,j,x,h,hj=>by simp at h
 |a::r,0,j,x,h,hj=>by
  simp only[List.getElem?_cons_zero,Option.some.injEq]at h
  subst h
  rw[List.flatMap_cons,Nat.zero_mul,Nat.zero_add,List.getElem?_append_left (by rw[hf];exact hj)]
 |a::r,i+1,j,x,h,hj=>by
  rw[List.flatMap_cons,List.getElem?_append_right (by rw[hf,Nat.succ_mul];omega),hf,show(i+1)*k+j-k=i*k+j by rw[Nat.succ_mul];omega]
  exact tR hf r i j x (by simpa using h) hj
theorem lE{α:Type}{f:α→List Value}{k:Nat}{w:World}{A:Option Addr}{n i:Nat}{l:List α}{x:α}(hf:∀x,(f x).length=k)(h:Rd w k A n (l.flatMap f))(hx:l[i]? =some x):∀(j:Nat) (u:Value),(f x)[j]? =some u→w.cell? (((A.getD d0).add (i*k)).add j)=some u:=by
 intro j u hu
 have hj:j<k:=by have:=(List.getElem?_eq_some_iff.1 hu).1;rwa [hf]at this
 exact fl h (by rw[tR hf l i j x hx hj];exact hu)
end Go.Proofs.YtmibdabdlgmafaaGreatDoor
end
section
namespace Go.Proofs.YtmibdabdlgmafaaGreatDoor
open Go.Eng Go.Hx
theorem fL.del{fs:dB}{l:List FP}(h:fL fs l)(p:List UInt8):fL (eu fs p) (cV l p):=by
 refine⟨nO _ h.ord,lK h.nd,fun q=> ?_,fun x hx=> ?_⟩
 ·rw[wS h.nd]
  have:=gP p l q
  unfold cV
  rw[this]
  by_cases hq:p=q
  ·rw[if_pos hq,if_pos hq.symm];rfl
  ·rw[if_neg hq,if_neg (fun e=>hq e.symm)];exact h.look q
 ·have h1:=nf (List.mem_map.2 ⟨x,hx,rfl⟩)
  obtain⟨y,hy,e⟩:=List.mem_map.1 h1
  rw[←e];exact h.len y hy
theorem fL.at{fs:dB}{l:List FP}(h:fL fs l)(p:List UInt8):(b4 fs p=none∧l[cp l p]? =none)∨∃r x,b4 fs p=some r∧l[cp l p]? =some x∧r.l=x.2∧r.n=r.l.length:=by
 have h1:=h.look p
 rw[←fw]at h1
 cases ha:b4 fs p with
 |none=>
  rw[ha]at h1
  cases hb:l[cp l p]? with
  |none=>exact .inl ⟨rfl,rfl⟩
  |some y=>rw[hb]at h1;cases h1
 |some r=>
  rw[ha]at h1
  cases hb:l[cp l p]? with
  |none=>rw[hb]at h1;cases h1
  |some y=>
   rw[hb]at h1
   exact .inr ⟨r,y,rfl,rfl,Option.some.inj h1,h.len _ (jb ha)⟩
def fS.rc:fS→RC
 | .written p r=>(0,p,[],r.l)
 | .renamed a c=>(1,a,c,[])
 | .removed p=>(2,p,[],[])
def fS.wl(c:fS):Prop:=∀r,c.row=some r→r.n=r.l.length
theorem fL.rF{fs:dB}{l:List FP}(h:fL fs l){c:fS}(hc:c.wl):fL (rF fs c) (dw l c.rc.1 c.rc.2.1 c.rc.2.2.1 c.rc.2.2.2):=by
 cases c with
 |written p r=>
  rw[dw]
  exact h.put (hc r rfl)
 |renamed a b=>
  rw[dw]
  simp only[fS.rc,Go.Proofs.YtmibdabdlgmafaaGreatDoor.rF]
  rcases h.at a with⟨h1,h2⟩|⟨r,x,h1,h2,h3,h4⟩
  ·simp only[h1,h2];exact h
  ·simp only[h1,h2]
   rw[←h3]
   exact(h.del a).put h4
 |removed p=>
  rw[dw]
  simp only[fS.rc,Go.Proofs.YtmibdabdlgmafaaGreatDoor.rF]
  rcases h.at p with⟨h1,h2⟩|⟨r,x,h1,h2,h3,h4⟩
  ·simp only[h2]
   have e:eu fs p=fs:=by
    have hk:¬p∈b7 fs:=jd.1 h1
    clear h h2 h1
    induction fs with
    |nil=>rfl
    |cons a q ih=>
     obtain⟨k,u⟩:=a
     simp only[b7,List.map_cons,List.mem_cons,not_or]at hk
     simp only[eu]
     rw[if_neg (fun e=>hk.1 e.symm),ih hk.2]
   rw[if_neg (by decide),e];exact h
  ·simp only[h2]
   rw[if_neg (by decide)]
   exact h.del p
structure DS(st:cG)(d:RD)(k:Nat):Prop where
 n7:ua st d
 ok:nY st k
 low:-1≤d.pw
 ct:fL st.ct d.ct
 waits:st.waits.map fS.rc=d.waits
 EM:∀c∈st.waits,c.wl
theorem DS.le{st:cG}{d:RD}{k k' :Nat}(h:DS st d k)(hk:k≤k'):DS st d k' :=⟨h.n7,h.ok.le hk,h.low,h.ct,h.waits,h.EM⟩
theorem DS.uZ{st:cG}{d:RD}{k:Nat}(h:DS st d k):yh d k:=by
 refine⟨?_, ?_, ?_,by have:=h.low;omega, ?_⟩
 ·rw[←h.n7.files.Dh];exact h.ok.seen
 ·rw[←h.n7.waits];have:=h.ok.rest;omega
 ·rw[←h.n7.files.lO];exact h.ok.lO
 ·rw[←h.n7.cj];exact h.ok.cj
theorem DS.init{n:Int}{gs gl:Nat}(h:n≤1048576):DS (lW n gs gl) (RD.new n) 0:=
 ⟨⟨rfl,rfl,fL.nil,rfl⟩,nY.init h,Int.le_refl _,fL.nil,rfl,fun c hc=>by cases hc⟩
theorem qF{p:Int}(h:-1≤p):-1≤dH p:=by
 unfold dH
 split <;> omega
theorem DS.gp{st:cG}{d:RD}{k:Nat}(h:DS st d k){c:fS}(hc:c.wl){st1:cG}(hs:st1.room=st.room∧st1.ct=st.ct∧st1.cj=st.ez.cj∧st1.seen=rF st.seen c∧st1.waits=st.waits++[c])(ok:nY st1 (k+1)):
  DS st1 (d.gp c.rc.1 c.rc.2.1 c.rc.2.2.1 c.rc.2.2.2) (k+1):=by
 obtain⟨h1,h2,h3,h4,h5⟩:=hs
 refine⟨⟨h1.trans h.n7.room, ?_, ?_, ?_⟩,ok,qF h.low, ?_, ?_,fun x hx=> ?_⟩
 ·rw[h3]
  show(if 0<st.cj then st.cj-1 else st.cj)=dH d.pw
  rw[h.n7.cj];rfl
 ·rw[h4];exact h.n7.files.rF hc
 ·rw[h5,List.length_append,h.n7.waits]
  show _=(d.waits++[_]).length
  rw[List.length_append];rfl
 ·rw[h2];exact h.ct
 ·rw[h5,List.map_append,h.waits];rfl
 ·rw[h5]at hx
  rcases List.mem_append.1 hx with hx|hx
  ·exact h.EM x hx
  ·rw[List.mem_singleton.1 hx];exact hc
theorem DS.write{st st1:cG}{d:RD}{k n:Nat}(h:DS st d k){p l:List UInt8}{B A:Option Addr}{c1 c2:Nat}(hl:l.length=n)(hn:n≤1048576)
  (hw:(bE st p n≠0∧st1=st)∨(bE st p n=0∧st1=st.wrote p ⟨B,n,c1,l⟩ A c2)):DS st1 (d.write p l) (k+1)∧d.bE p l=bE st p n:=by
 subst hl
 have e:=h.n7.bE p l
 refine⟨?_,e.symm⟩
 unfold RD.write
 rw[←e]
 rcases hw with⟨h1,rfl⟩|⟨h1,rfl⟩
 ·rw[if_neg h1];exact h.le (Nat.le_succ _)
 ·rw[if_pos h1]
  exact h.gp (c:=.written p ⟨B,l.length,c1,l⟩) (fun r hr=>by cases hr;rfl) ⟨rfl,rfl,rfl,rfl,rfl⟩ (h.ok.wrote hn A c2)
theorem DS.cd{st:cG}{d:RD}{k:Nat}(h:DS st d k)(p:List UInt8):d.cd p=dF st p:=(h.n7.cd p).symm
theorem DS.cm{st:cG}{d:RD}{k:Nat}(h:DS st d k)(p:List UInt8):d.cm p=cm st p:=(h.n7.cm p).symm
theorem DS.rename{st st1:cG}{d:RD}{k:Nat}(h:DS st d k){a c:List UInt8}{A:Option Addr}{j:Nat}
  (hw:(bQ st a c≠0∧st1=st)∨(bQ st a c=0∧st1=st.gp (.renamed a c) A j)):DS st1 (d.rename a c) (k+1)∧d.bQ a c=bQ st a c:=by
 have e:d.bQ a c=bQ st a c:=by
  unfold RD.bQ Go.Proofs.YtmibdabdlgmafaaGreatDoor.bQ
  rw[h.cd]
 refine⟨?_,e⟩
 unfold RD.rename
 rw[e]
 rcases hw with⟨h1,rfl⟩|⟨h1,rfl⟩
 ·rw[if_neg h1];exact h.le (Nat.le_succ _)
 ·rw[if_pos h1]
  exact h.gp (c:=.renamed a c) (fun r hr=>by cases hr) ⟨rfl,rfl,rfl,rfl,rfl⟩ (h.ok.gp rfl A j)
theorem DS.remove{st st1:cG}{d:RD}{k:Nat}(h:DS st d k){p:List UInt8}{A:Option Addr}{j:Nat}
  (hw:(dF st p≠0∧st1=st)∨(dF st p=0∧st1=st.gp (.removed p) A j)):DS st1 (d.remove p) (k+1):=by
 unfold RD.remove
 rw[h.cd]
 rcases hw with⟨h1,rfl⟩|⟨h1,rfl⟩
 ·rw[if_neg h1];exact h.le (Nat.le_succ _)
 ·rw[if_pos h1]
  exact h.gp (c:=.removed p) (fun r hr=>by cases hr) ⟨rfl,rfl,rfl,rfl,rfl⟩ (h.ok.gp rfl A j)
theorem DS.sync{st st1:cG}{d:RD}{k gl:Nat}(h:DS st d k)(hw:(st.cj=0∧st1=st)∨(st.cj≠0∧st1=st.synced gl)):DS st1 d.sync k∧d.cT=cT st:=by
 have e:d.cT=cT st:=by unfold RD.cT Go.Proofs.YtmibdabdlgmafaaGreatDoor.cT;rw[h.n7.cj]
 refine⟨?_,e⟩
 unfold RD.sync
 rw[←h.n7.cj]
 rcases hw with⟨h1,rfl⟩|⟨h1,rfl⟩
 ·rw[if_pos h1];exact h
 ·rw[if_neg h1]
  refine⟨⟨h.n7.room, ?_,h.n7.files,rfl⟩,h.ok.synced gl, ?_,h.n7.files,rfl,fun c hc=>by cases hc⟩
  ·rfl
  ·rw[h.n7.cj];exact qF h.low
def RD.ok(d:RD)(k:Nat):Prop:=∃st,DS st d k
theorem RD.ok.uZ{d:RD}{k:Nat}(h:d.ok k):yh d k:=by obtain⟨st,h⟩:=h;exact h.uZ
theorem RD.ok.write{d:RD}{k:Nat}(h:d.ok k){p l:List UInt8}(hl:l.length≤1048576):(d.write p l).ok (k+1):=by
 obtain⟨st,h⟩:=h
 by_cases he:Go.Proofs.YtmibdabdlgmafaaGreatDoor.bE st p l.length=0
 ·exact⟨_,(h.write (st1:=st.wrote p ⟨none,l.length,0,l⟩ none 0) rfl hl (.inr ⟨he,rfl⟩)).1⟩
 ·exact⟨_,(h.write (B:=none) (A:=none) (c1:=0) (c2:=0) (st1:=st) rfl hl (.inl ⟨he,rfl⟩)).1⟩
theorem RD.ok.rename{d:RD}{k:Nat}(h:d.ok k){a c:List UInt8}:(d.rename a c).ok (k+1):=by
 obtain⟨st,h⟩:=h
 by_cases he:Go.Proofs.YtmibdabdlgmafaaGreatDoor.bQ st a c=0
 ·exact⟨_,(h.rename (st1:=st.gp (.renamed a c) none 0) (.inr ⟨he,rfl⟩)).1⟩
 ·exact⟨_,(h.rename (A:=none) (j:=0) (st1:=st) (.inl ⟨he,rfl⟩)).1⟩
theorem RD.ok.sync{d:RD}{k:Nat}(h:d.ok k):d.sync.ok k:=by
 obtain⟨st,h⟩:=h
 by_cases he:st.cj=0
 ·exact⟨_,(h.sync (gl:=0) (st1:=st) (.inl ⟨he,rfl⟩)).1⟩
 ·exact⟨_,(h.sync (st1:=st.synced 0) (.inr ⟨he,rfl⟩)).1⟩
end Go.Proofs.YtmibdabdlgmafaaGreatDoor
end
section
namespace Go.Hx
open Go.Eng
def chunks(k:Nat)(l:List UInt8):List (List UInt8):=(List.range k).map fun i=>(l.drop (32*i)).take 32
def j8(l:List UInt8):Nat:=(l.getD 0 0).toNat+256*(l.getD 1 0).toNat+65536*(l.getD 2 0).toNat+16777216*(l.getD 3 0).toNat
theorem Ca(l:List UInt8):j8 l<4294967296:=by
 have h0:=(l.getD 0 0).toNat_lt
 have h1:=(l.getD 1 0).toNat_lt
 have h2:=(l.getD 2 0).toNat_lt
 have h3:=(l.getD 3 0).toNat_lt
 unfold j8
 omega
theorem yH{n:Nat}(h:n<4294967296):j8 (fZ n)=n:=by
 simp only[fZ,j8,List.getD_cons_zero,List.getD_cons_succ,UInt8.toNat_ofNat']
 omega
end Go.Hx
end
section
namespace Go.Hx
open Go.Eng
def acc(l:List UInt8):Nat→Nat
 |0=>0
 |j+1=>acc l j*256+(l.getD (3-j) 0).toNat
theorem yy(l:List UInt8):∀j,acc l j<256 ^ j
 |0=>by simp[acc]
 |j+1=>by
  have h1:=yy l j
  have h2:=(l.getD (3-j) 0).toNat_lt
  rw[acc,Nat.pow_succ]
  omega
theorem EA(l:List UInt8){j:Nat}(h:j≤4):acc l j<4294967296:=by
 have h1:=yy l j
 have h2:256 ^ j≤256 ^ 4:=Nat.pow_le_pow_right (by decide) h
 have h3:256 ^ 4=4294967296:=by decide
 omega
theorem F8(l:List UInt8):acc l 4=j8 l:=by
 have e:(3-0=3)∧(3-1=2)∧(3-2=1)∧(3-3=0):=by decide
 simp only[acc,j8,e.1,e.2.1,e.2.2.1,e.2.2.2]
 omega
theorem Bi(a b:Nat)(ha:a<4294967296)(hb:b<256):bits .or .i64 (a*256:Int) (b:Int)=((a*256+b:Nat):Int):=by
 have h1:(a*256:Int)=((a*256:Nat):Int):=by simp
 have h2:a*256 ||| b=a*256+b:=by rw[Nat.mul_comm a 256,show 256=2 ^ 8 from rfl,Nat.two_pow_add_eq_or_of_lt (by simpa using hb)]
 have e0:∀n:Nat,n<18446744073709551616→(BitVec.ofInt 64 (n:Int)).toNat=n:=fun n hn=>by
  rw[BitVec.toNat_ofInt]
  simp
  omega
 rw[h1]
 show IntKind.i64.wrap ((BitVec.ofInt 64 ((a*256:Nat):Int) ||| BitVec.ofInt 64 (b:Int)).toNat:Int)=_
 rw[BitVec.toNat_or,e0 _ (by omega),e0 _ (by omega),h2]
 exact bD (by omega) (by omega)
end Go.Hx
end
section
namespace Go.Hx
open Go.Eng
def cF(l:List UInt8):Nat×Nat×Nat×Bool:=
 if(l.getD 0 0).toNat<128 then((l.getD 0 0).toNat+2,(l.getD 0 0).toNat+1,0,decide ((l.getD 0 0).toNat+2≤l.length))
 else if l.length<3 then(0,0,0,false)else(3,(l.getD 0 0).toNat-124,1+(l.getD 1 0).toNat+256*(l.getD 2 0).toNat,true)
def again(d:Nat):Nat→List UInt8→List UInt8
 |0,o=>o
 |k+1,o=>again d k (o++[o.getD (o.length-d) 0])
theorem mo(d:Nat):∀(k:Nat) (o:List UInt8),(again d k o).length=o.length+k
 |0,o=>rfl
 |k+1,o=>by rw[again,mo d k];simp;omega
theorem kJ{l:List UInt8}(h:(cF l).2.2.2=true):2≤(cF l).1∧(cF l).1≤l.length:=by
 unfold cF at h ⊢
 split at h
 ·rename_i h1
  rw[if_pos h1]
  have:=of_decide_eq_true h
  exact⟨by show 2≤_+2;omega,this⟩
 ·rename_i h1
  rw[if_neg h1]
  split at h
  ·cases h
  ·rename_i h2
   rw[if_neg h2]
   exact⟨by show 2≤3;decide,by show 3≤_;omega⟩
theorem Ei(l:List UInt8):(cF l).2.1≤131∧(cF l).2.2.1≤65536:=by
 have h0:=(l.getD 0 0).toNat_lt
 have h1:=(l.getD 1 0).toNat_lt
 have h2:=(l.getD 2 0).toNat_lt
 unfold cF
 split
 ·exact⟨by show _+1≤_;omega,by show 0≤_;omega⟩
 ·split
  ·exact⟨by show 0≤_;omega,by show 0≤_;omega⟩
  ·exact⟨by show _-124≤_;omega,by show 1+_+256*_≤_;omega⟩
def made(l o:List UInt8):List UInt8:=if(cF l).2.2.1=0 then o++(l.drop 1).take ((cF l).1-1)else again (cF l).2.2.1 (cF l).2.1 o
def jr(most:Int)(l o:List UInt8):List UInt8×Int:=
 if h0:l=[]then(o,0)
 else if h1:(cF l).2.2.2=true then
  if o.length<(cF l).2.2.1 then([],2)else if most<(o.length:Int)+((cF l).2.1:Nat)then([],3)else jr most (l.drop (cF l).1) (made l o)
 else([],2)
termination_by l.length
decreasing_by
 obtain⟨h2,h3⟩:=kJ h1
 rw[List.length_drop]
 omega
theorem om(most:Int)(o:List UInt8):jr most [] o=(o,0):=by
 rw[jr]
 rfl
theorem kH{most:Int}{l o:List UInt8}(h0:l≠ [])(h:¬((cF l).2.2.2=true∧(cF l).2.2.1≤o.length)):jr most l o=([],2):=by
 rw[jr,dif_neg h0]
 split
 ·rename_i h1
  rw[if_pos (Nat.lt_of_not_le fun h2=>h ⟨h1,h2⟩)]
 ·rfl
theorem ov{most:Int}{l o:List UInt8}(h0:l≠ [])(h1:(cF l).2.2.2=true)(h2:(cF l).2.2.1≤o.length)(h3:most<(o.length:Int)+((cF l).2.1:Nat)):jr most l o=([],3):=by
 rw[jr,dif_neg h0,dif_pos h1,if_neg (by omega),if_pos h3]
theorem mZ{most:Int}{l o:List UInt8}(h0:l≠ [])(h1:(cF l).2.2.2=true)(h2:(cF l).2.2.1≤o.length)(h3:¬most<(o.length:Int)+((cF l).2.1:Nat)):jr most l o=jr most (l.drop (cF l).1) (made l o):=by
 rw[jr,dif_neg h0,dif_pos h1,if_neg (by omega),if_neg h3]
theorem nQ{l o:List UInt8}(h1:(cF l).2.2.2=true):(made l o).length=o.length+(cF l).2.1:=by
 unfold made
 split
 ·rename_i h0
  obtain⟨h2,h3⟩:=kJ h1
  have e:(cF l).1-1=(cF l).2.1:=by
   unfold cF at h0 h1 ⊢
   split
   ·show _+2-1=_+1;omega
   ·split
    ·rename_i a1 a2;rw[if_neg a1,if_pos a2]at h1;cases h1
    ·rename_i a1 a2;rw[if_neg a1,if_neg a2]at h0;simp at h0
  rw[List.length_append,List.length_take,List.length_drop,e]
  omega
 ·exact mo _ _ _
end Go.Hx
end
section
namespace Go.Hx
open Go.Eng
def k9(b:List UInt8)(i k:Nat):Nat→Nat→Nat
 |0,n=>n
 |f+1,n=>if i+n<b.length∧b.getD (i+n) 0=b.getD (k+n) 0 then k9 b i k f (n+1)else n
def lD(b:List UInt8)(i k:Nat):Nat:=k9 b i k 131 0
theorem gn(b:List UInt8)(i k:Nat):∀f n,n≤k9 b i k f n∧k9 b i k f n≤n+f∧(i+n≤b.length→i+k9 b i k f n≤b.length)∧∀j,n≤j→j<k9 b i k f n→b.getD (i+j) 0=b.getD (k+j) 0
 |0,n=>⟨Nat.le_refl _,Nat.le_refl _,fun h=>h,fun j h1 h2=>by simp only[k9]at h2;omega⟩
 |f+1,n=>by
  unfold k9
  split
  ·rename_i h
   obtain⟨h1,h2,h3,h4⟩:=gn b i k f (n+1)
   refine⟨by omega,by omega,fun _=>h3 (by omega),fun j hj hj2=> ?_⟩
   rcases Nat.eq_or_lt_of_le hj with e|e
   ·rw[←e];exact h.2
   ·exact h4 j e hj2
  ·exact⟨Nat.le_refl _,by omega,fun h=>h,fun j h1 h2=>by omega⟩
theorem C3(b:List UInt8)(i k:Nat):lD b i k≤131:=by have:=(gn b i k 131 0).2.1;unfold lD;omega
theorem zG{b:List UInt8}{i:Nat}(k:Nat)(h:i≤b.length):i+lD b i k≤b.length:=(gn b i k 131 0).2.2.1 (by omega)
theorem oJ{b:List UInt8}{i k j:Nat}(h:j<lD b i k):b.getD (i+j) 0=b.getD (k+j) 0:=(gn b i k 131 0).2.2.2 j (Nat.zero_le _) h
theorem kX{b:List UInt8}{i k f n:Nat}(h:¬(i+n<b.length∧b.getD (i+n) 0=b.getD (k+n) 0)):k9 b i k f n=n:=by
 cases f with
 |zero=>rfl
 |succ f=>rw[k9,if_neg h]
theorem gN{b:List UInt8}{i k f n:Nat}(hf:0<f)(h:i+n<b.length∧b.getD (i+n) 0=b.getD (k+n) 0):k9 b i k f n=k9 b i k (f-1) (n+1):=by
 cases f with
 |zero=>omega
 |succ f=>rw[k9,if_pos h];rfl
def ei(b:List UInt8)(p:Nat):List UInt8:=(b.drop p).take 4
theorem bC{b:List UInt8}{p:Nat}(h:p+4≤b.length):(ei b p).length=4:=by unfold ei;rw[List.length_take,List.length_drop];omega
theorem Be{b:List UInt8}{i p:Nat}(hi:i+4≤b.length)(hp:p<i):ei b p=ei b i↔3<lD b i p:=by
 have e:∀q,q+4≤b.length→ei b q=[b.getD (q+0) 0,b.getD (q+1) 0,b.getD (q+2) 0,b.getD (q+3) 0]:=by
  intro q hq
  apply List.ext_getElem?
  intro j
  unfold ei
  rw[List.getElem?_take,List.getElem?_drop]
  rcases j with _|_|_|_|j
  all_goals simp
  all_goals (try (rw[List.getElem?_eq_getElem (by omega)];rfl))
  all_goals (try (intro h;omega))
 rw[e p (by omega),e i hi]
 constructor
 ·intro h
  simp only[List.cons.injEq,and_true]at h
  have e0:lD b i p=k9 b i p 127 4:=by
   unfold lD
   rw[gN (by decide) ⟨by omega,h.1.symm⟩,gN (by decide) ⟨by omega,h.2.1.symm⟩,gN (by decide) ⟨by omega,h.2.2.1.symm⟩,gN (by decide) ⟨by omega,h.2.2.2.symm⟩]
  rw[e0]
  exact(gn b i p 127 4).1
 ·intro h
  simp only[List.cons.injEq,and_true]
  exact⟨(oJ (by omega)).symm,(oJ (by omega)).symm,(oJ (by omega)).symm,(oJ (by omega)).symm⟩
def gg(b:List UInt8)(i:Nat)(s:Nat×Nat)(d:Nat):Nat×Nat:=if 3<lD b i (i-d)∧s.1<lD b i (i-d)then(lD b i (i-d),d)else s
def b8(b:List UInt8)(i k:Nat):Nat×Nat:=(List.range' 1 k).foldl (gg b i) (0,0)
theorem dC(b:List UInt8)(i k:Nat):b8 b i (k+1)=gg b i (b8 b i k) (k+1):=by
 unfold b8
 rw[List.range'_concat,List.foldl_append]
 simp[Nat.add_comm]
def aV(b:List UInt8)(i:Nat):Nat×Nat:=b8 b i (min i 1024)
def fG(b:List UInt8)(i:Nat)(s:Nat×Nat)(p:Nat):Nat×Nat:=if 1024<i-p then s else if s.1<lD b i p then(lD b i p,i-p)else s
def kC(b:List UInt8)(n:Nat)(k:List UInt8):List Nat:=(List.range n).filter fun p=>decide (ei b p=k)
theorem xe(b:List UInt8)(n:Nat)(k:List UInt8):kC b (n+1) k=kC b n k++if ei b n=k then [n]else []:=by
 unfold kC
 rw[List.range_succ,List.filter_append]
 congr 1
 by_cases h:ei b n=k <;> simp[h]
theorem Bz{b:List UInt8}{n p:Nat}{k:List UInt8}(h:p∈kC b n k):p<n∧ei b p=k:=by
 unfold kC at h
 simpa using h
theorem nu(b:List UInt8)(n:Nat)(k:List UInt8):(kC b n k).length≤n:=by
 unfold kC
 exact Nat.le_trans (List.length_filter_le _ _) (by simp)
theorem wZ(i:Nat):(List.range i).reverse=(List.range' 1 i).map fun d=>i-d:=by
 apply List.ext_getElem
 ·simp
 ·intro j h1 h2
  simp
  omega
theorem jP{α β:Type}(f:β→α→β)(s:β):∀(l:List α),(∀x∈l,∀t,f t x=t)→l.foldl f s=s
 | [],_=>rfl
 |x::l,h=>by
  rw[List.foldl_cons,h x (by simp) s]
  exact jP f s l (fun y hy=>h y (List.mem_cons_of_mem _ hy))
theorem tD{b:List UInt8}{i:Nat}(hi:i+4≤b.length):(kC b i (ei b i)).reverse.foldl (fG b i) (0,0)=aV b i:=by
 unfold kC aV
 rw[←List.filter_reverse,wZ,List.filter_map,List.foldl_map,List.foldl_filter]
 have h1:∀(l:List Nat) (s:Nat×Nat),(∀d∈l,1≤d∧d≤i)→l.foldl (fun s d=>if((fun p=>decide (ei b p=ei b i)) ∘ fun d=>i-d) d=true then fG b i s (i-d)else s) s=l.foldl (fun s d=>if 1024<d then s else gg b i s d) s:=by
  intro l
  induction l with
  |nil=>intro s _;rfl
  |cons d l ih=>
   intro s hd
   simp only[List.foldl_cons]
   rw[ih _ (fun x hx=>hd x (List.mem_cons_of_mem _ hx))]
   congr 1
   obtain⟨hd1,hd2⟩:=hd d (by simp)
   have e:=Be (p:=i-d) hi (by omega)
   simp only[Function.comp_apply,decide_eq_true_eq]
   unfold fG gg
   rw[show i-(i-d)=d by omega]
   by_cases hk:ei b (i-d)=ei b i
   ·rw[if_pos hk]
    have:=e.1 hk
    split
    ·rfl
    ·by_cases h:s.1<lD b i (i-d)
     ·rw[if_pos h,if_pos ⟨this,h⟩]
     ·rw[if_neg h,if_neg (fun q=>h q.2)]
   ·rw[if_neg hk]
    split
    ·rfl
    ·rw[if_neg (fun q=>hk (e.2 q.1))]
 rw[h1 _ _ (fun d hd=>by simp at hd;omega)]
 have h2:List.range' 1 i=List.range' 1 (min i 1024)++List.range' (1+min i 1024) (i-min i 1024):=by
  rw[List.range'_append_1]
  congr 1
  omega
 rw[h2,List.foldl_append,jP _ _ (List.range' (1+min i 1024) (i-min i 1024))]
 ·unfold b8
  have h3:∀(l:List Nat) (s:Nat×Nat),(∀d∈l,d≤1024)→l.foldl (fun s d=>if 1024<d then s else gg b i s d) s=l.foldl (gg b i) s:=by
   intro l
   induction l with
   |nil=>intro s _;rfl
   |cons d l ih=>
    intro s hd
    simp only[List.foldl_cons]
    rw[if_neg (by have:=hd d (by simp);omega)]
    exact ih _ (fun x hx=>hd x (List.mem_cons_of_mem _ hx))
  exact h3 _ _ (fun d hd=>by simp at hd;omega)
 ·intro d hd t
  simp at hd
  rw[if_pos (by omega)]
theorem sX(b:List UInt8)(n:Nat)(k:List UInt8):(kC b n k).Pairwise (· <·):=(List.pairwise_lt_range).filter _
theorem wL{b:List UInt8}{i n x:Nat}{k:List UInt8}{pre rest:List Nat}{s:Nat×Nat}(h:(kC b n k).reverse=pre++x::rest)(hx:1024<i-x):(kC b n k).reverse.foldl (fG b i) s=pre.foldl (fG b i) s:=by
 have hs:(pre++x::rest).Pairwise (· >·):=by
  rw[←h,List.pairwise_reverse]
  exact sX b n k
 rw[h,List.foldl_append]
 refine jP _ _ _ fun y hy t=> ?_
 have h1:=(List.pairwise_cons.1 (List.pairwise_append.1 hs).2.1).1
 unfold fG
 rw[if_pos]
 rcases List.mem_cons.1 hy with rfl|hy
 ·exact hx
 ·have:=h1 y hy
  omega
theorem sV{b:List UInt8}{i:Nat}(hi:i≤b.length)(h:b.length<i+4):aV b i=(0,0):=by
 unfold aV b8
 refine jP _ _ _ fun d hd t=> ?_
 unfold gg
 rw[if_neg]
 intro q
 have:=zG (i-d) hi
 omega
theorem qq(b:List UInt8)(i:Nat)(hi:i≤b.length):∀k,k≤i→(b8 b i k=(0,0))∨(4≤(b8 b i k).1∧(b8 b i k).1≤131∧1≤(b8 b i k).2∧(b8 b i k).2≤k∧i+(b8 b i k).1≤b.length∧(b8 b i k).1=lD b i (i-(b8 b i k).2))
 |0,_=>.inl rfl
 |k+1,hk=>by
  rw[dC]
  unfold gg
  split
  ·rename_i h
   exact .inr ⟨by show 4≤lD _ _ _;omega,C3 _ _ _,by show 1≤k+1;omega,Nat.le_refl _,zG _ hi,rfl⟩
  ·rcases qq b i hi k (by omega)with h|h
   ·exact .inl h
   ·exact .inr ⟨h.1,h.2.1,h.2.2.1,by omega,h.2.2.2.2.1,h.2.2.2.2.2⟩
theorem kS{b:List UInt8}{i:Nat}(hi:i≤b.length):(aV b i=(0,0))∨(4≤(aV b i).1∧(aV b i).1≤131∧1≤(aV b i).2∧(aV b i).2≤min i 1024∧i+(aV b i).1≤b.length∧(aV b i).1=lD b i (i-(aV b i).2)):=qq b i hi _ (by omega)
def ej(l:List UInt8):List UInt8:=if h:l=[]then []else UInt8.ofNat (min l.length 128-1)::l.take 128++ej (l.drop 128)
termination_by l.length
decreasing_by
 have:=List.length_pos_iff.2 h
 rw[List.length_drop]
 omega
theorem mz:ej []=[]:=by rw[ej];rfl
theorem kZ{l:List UInt8}(h:l≠ []):ej l=UInt8.ofNat (min l.length 128-1)::l.take 128++ej (l.drop 128):=by rw[ej,dif_neg h]
theorem fi(l:List UInt8):(ej l).length≤2*l.length:=by
 by_cases h:l=[]
 ·subst h;rw[mz];simp
 ·have hp:=List.length_pos_iff.2 h
  have hd:(l.drop 128).length=l.length-128:=List.length_drop
  have:=fi (l.drop 128)
  rw[kZ h]
  simp only[List.length_append,List.length_cons,List.length_take]
  omega
termination_by l.length
decreasing_by
 rw[List.length_drop]
 have:=List.length_pos_iff.2 h
 omega
def fK(m:Nat×Nat):List UInt8:=[UInt8.ofNat (124+m.1),UInt8.ofNat (m.2-1),UInt8.ofNat ((m.2-1)/256)]
def gb(b:List UInt8)(i:Nat)(own out:List UInt8):List UInt8:=
 if h:i<b.length then
  if h0:(aV b i).1=0 then gb b (i+1) (own++[b.getD i 0]) out
  else gb b (i+(aV b i).1) [] (out++ej own++fK (aV b i))
 else out++ej own
termination_by b.length-i
def er(b:List UInt8):List UInt8:=gb b 0 [] []
theorem kL{b own out:List UInt8}{i:Nat}(h:¬i<b.length):gb b i own out=out++ej own:=by rw[gb,dif_neg h]
theorem kM{b own out:List UInt8}{i:Nat}(h:i<b.length)(h0:(aV b i).1=0):gb b i own out=gb b (i+1) (own++[b.getD i 0]) out:=by rw[gb,dif_pos h,dif_pos h0]
theorem iy{b own out:List UInt8}{i:Nat}(h:i<b.length)(h0:(aV b i).1≠0):gb b i own out=gb b (i+(aV b i).1) [] (out++ej own++fK (aV b i)):=by rw[gb,dif_pos h,dif_neg h0]
theorem jG:∀(b:List UInt8) (i:Nat) (own out:List UInt8),i≤b.length→out.length+2*own.length≤2*i→(gb b i own out).length≤2*b.length
 |b,i,own,out,hi,h=>by
  by_cases hlt:i<b.length
  ·by_cases h0:(aV b i).1=0
   ·rw[kM hlt h0]
    exact jG b (i+1) _ _ (by omega) (by simp;omega)
   ·rw[iy hlt h0]
    rcases kS hi with hm|hm
    ·rw[hm]at h0;exact absurd rfl h0
    ·have:=fi own
     exact jG b _ _ _ (by omega) (by simp[fK];omega)
  ·rw[kL hlt,List.length_append]
   have:=fi own
   omega
termination_by b i=>b.length-i
theorem l6(b:List UInt8):(er b).length≤2*b.length:=jG b 0 [] [] (Nat.zero_le _) (by simp)
theorem BS{k:Nat}{l r:List UInt8}(hk:k<128)(hl:l.length=k+1):cF (UInt8.ofNat k::(l++r))=(k+2,k+1,0,true):=by
 have e:(UInt8.ofNat k).toNat=k:=by rw[UInt8.toNat_ofNat',Nat.mod_eq_of_lt (by omega)]
 unfold cF
 rw[List.getD_cons_zero,e,if_pos hk]
 simp only[List.length_cons,List.length_append,hl]
 congr 3
 exact decide_eq_true (by omega)
theorem oy{most:Int}(l r o:List UInt8)(hm:(o.length:Int)+l.length≤most):jr most (ej l++r) o=jr most r (o++l):=by
 by_cases h:l=[]
 ·subst h;rw[mz];simp
 ·have hp:=List.length_pos_iff.2 h
  have hk:min l.length 128-1<128:=by omega
  have htl:(l.take 128).length=(min l.length 128-1)+1:=by rw[List.length_take];omega
  have hsp:l.take 128++l.drop 128=l:=List.take_append_drop 128 l
  have hlen:l.length=(l.take 128).length+(l.drop 128).length:=by rw[←List.length_append,hsp]
  rw[kZ h,List.append_assoc,List.cons_append]
  have ht:=BS (r:=ej (l.drop 128)++r) hk htl
  rw[mZ (by simp) (by rw[ht]) (by rw[ht];exact Nat.zero_le _) (by rw[ht];simp only;omega)]
  have hmd:made (UInt8.ofNat (min l.length 128-1)::(l.take 128++(ej (l.drop 128)++r))) o=o++l.take 128:=by
   unfold made
   rw[ht,if_pos rfl]
   simp only[List.drop_succ_cons,List.drop_zero]
   rw[List.take_append_of_le_length (by omega),List.take_of_length_le (by omega)]
  rw[hmd,ht]
  have hdr:(UInt8.ofNat (min l.length 128-1)::(l.take 128++(ej (l.drop 128)++r))).drop (min l.length 128-1+2)=ej (l.drop 128)++r:=by
   rw[show min l.length 128-1+2=(l.take 128).length+1 by omega,List.drop_succ_cons,List.drop_left]
  simp only
  rw[hdr,oy (l.drop 128) r (o++l.take 128) (by rw[List.length_append];omega),List.append_assoc,hsp]
termination_by l.length
decreasing_by
 rw[List.length_drop]
 have:=List.length_pos_iff.2 h
 omega
theorem nB{b:List UInt8}{i d:Nat}(hd:1≤d)(hdi:d≤i):∀(n k:Nat),i+k+n≤b.length→(∀j,k≤j→j<k+n→b.getD (i+j) 0=b.getD (i-d+j) 0)→again d n (b.take (i+k))=b.take (i+k+n)
 |0,k,_,_=>rfl
 |n+1,k,hb,h=>by
  have hl:(b.take (i+k)).length=i+k:=by rw[List.length_take];omega
  rw[again,hl]
  have e:(b.take (i+k)).getD (i+k-d) 0=b.getD (i+k) 0:=by
   rw[h k (Nat.le_refl _) (by omega)]
   rw[List.getD_eq_getElem?_getD,List.getElem?_take,if_pos (by omega),←List.getD_eq_getElem?_getD]
   congr 1
   omega
  rw[e]
  have e2:b.take (i+k)++[b.getD (i+k) 0]=b.take (i+(k+1)):=by
   rw[show i+(k+1)=(i+k)+1 by omega,eI (by omega)]
  rw[e2,nB hd hdi n (k+1) (by omega) (fun j h1 h2=>h j (by omega) (by omega))]
  congr 1
  omega
theorem wK{m:Nat×Nat}{r:List UInt8}(h1:4≤m.1)(h2:m.1≤131)(h3:1≤m.2)(h4:m.2≤1024):cF (fK m++r)=(3,m.1,m.2,true):=by
 have e0:(UInt8.ofNat (124+m.1)).toNat=124+m.1:=by rw[UInt8.toNat_ofNat',Nat.mod_eq_of_lt (by omega)]
 have e1:(UInt8.ofNat (m.2-1)).toNat=(m.2-1) % 256:=UInt8.toNat_ofNat'
 have e2:(UInt8.ofNat ((m.2-1)/256)).toNat=(m.2-1)/256:=by rw[UInt8.toNat_ofNat',Nat.mod_eq_of_lt (by omega)]
 unfold cF fK
 simp only[List.cons_append,List.nil_append,List.getD_cons_zero,List.getD_cons_succ,List.length_cons,e0,e1,e2]
 rw[if_neg (by omega),if_neg (by omega)]
 simp only[Prod.mk.injEq,true_and,and_true]
 omega
theorem mX{most:Int}:∀(b:List UInt8) (i:Nat) (own out o:List UInt8),(b.length:Int)≤most→i≤b.length→o++own=b.take i→(∀r,jr most (out++r) []=jr most r o)→jr most (gb b i own out) []=(b,0)
 |b,i,own,out,o,hm,hi,hown,hout=>by
  have hol:o.length+own.length=i:=by
   have:=congrArg List.length hown
   rw[List.length_append,List.length_take]at this
   omega
  by_cases hlt:i<b.length
  ·by_cases h0:(aV b i).1=0
   ·rw[kM hlt h0]
    refine mX b (i+1) _ _ o hm (by omega) ?_ hout
    rw[←List.append_assoc,hown,eI hlt]
   ·rw[iy hlt h0]
    rcases kS hi with hk|⟨m1,m2,m3,m4,m5,m6⟩
    ·rw[hk]at h0;exact absurd rfl h0
    ·have hd1:(aV b i).2≤i:=by omega
     have hd2:(aV b i).2≤1024:=by omega
     refine mX b _ _ _ (b.take (i+(aV b i).1)) hm m5 (by simp) fun r=> ?_
     rw[List.append_assoc,List.append_assoc,hout,oy _ _ _ (by omega),hown]
     have ht:=wK (r:=r) m1 m2 m3 hd2
     have hl:(b.take i).length=i:=by rw[List.length_take];omega
     rw[mZ (by simp[fK]) (by rw[ht]) (by rw[ht,hl];exact hd1) (by rw[ht,hl];simp only;omega)]
     rw[ht]
     have hdr:(fK (aV b i)++r).drop 3=r:=rfl
     simp only
     rw[hdr]
     congr 1
     unfold made
     rw[ht,if_neg (by simp only;omega)]
     have:=nB (b:=b) (i:=i) m3 hd1 (aV b i).1 0 (by omega) (fun j _ hj=>oJ (by omega))
     exact this
  ·rw[kL hlt,hout]
   have:=oy (most:=most) own [] o (by omega)
   rw[List.append_nil]at this
   rw[this,om,hown,List.take_of_length_le (by omega)]
termination_by b i=>b.length-i
theorem wM{b:List UInt8}{most:Int}(h:(b.length:Int)≤most):jr most (er b) []=(b,0):=mX b 0 [] [] [] h (Nat.zero_le _) rfl (fun r=>rfl)
end Go.Hx
end
section
namespace Go.Hx
open Go.Eng
def uG(b:List UInt8):Bool:=decide ((er b).length<b.length)
def gW(b:List UInt8):List UInt8:=if uG b then er b else b
def bA(b:List UInt8):List UInt8:=[76,if uG b then 1 else 0]++fZ b.length++gW b++fZ (cJ b)
theorem rN(b:List UInt8):(gW b).length≤b.length:=by
 unfold gW uG
 split
 ·rename_i h;have:=of_decide_eq_true h;omega
 ·exact Nat.le_refl _
theorem jF(b:List UInt8):(bA b).length=(gW b).length+10:=by simp[bA,eY];omega
theorem kD(b:List UInt8):10≤(bA b).length∧(bA b).length≤b.length+10:=by
 have:=rN b
 rw[jF]
 omega
def gq(f:List UInt8):Option Nat:=if f.length<10∨f.getD 0 0≠76∨1<(f.getD 1 0).toNat then none else some (j8 (f.drop 2))
def de(f:List UInt8):List UInt8:=(f.drop 6).take (f.length-10)
def uR(f:List UInt8)(n:Nat):List UInt8×Int:=if f.getD 1 0=1 then jr n (de f) []else(de f,0)
def fC(f:List UInt8)(n:Nat):List UInt8×Int:=
 if(uR f n).2≠0 then([],2)else if(uR f n).1.length≠n then([],2)else if fZ (cJ (uR f n).1)≠f.drop (f.length-4)then([],7)else((uR f n).1,0)
def cS(f:List UInt8)(most:Int):List UInt8×Int:=
 match gq f with
 |none=>([],2)
 |some n=>if most<n then([],3)else fC f n
theorem oL{most:Int}:∀(l o:List UInt8),(o.length:Int)≤most→(((jr most l o).1.length:Int)≤most∨(jr most l o).1=[])∧((jr most l o).2=0∨(jr most l o).2=2∨(jr most l o).2=3)∧((jr most l o).2≠0→(jr most l o).1=[])
 |l,o,hm=>by
  by_cases h0:l=[]
  ·subst h0;rw[om];exact⟨.inl hm,.inl rfl,fun h=>absurd rfl h⟩
  ·by_cases h1:(cF l).2.2.2=true∧(cF l).2.2.1≤o.length
   ·by_cases h2:most<(o.length:Int)+((cF l).2.1:Nat)
    ·rw[ov h0 h1.1 h1.2 h2];exact⟨.inr rfl,.inr (.inr rfl),fun _=>rfl⟩
    ·rw[mZ h0 h1.1 h1.2 h2]
     exact oL _ _ (by rw[nQ h1.1];omega)
   ·rw[kH h0 h1];exact⟨.inr rfl,.inr (.inl rfl),fun _=>rfl⟩
termination_by l=>l.length
decreasing_by
 obtain⟨h2,h3⟩:=kJ h1.1
 rw[List.length_drop]
 omega
theorem yW{f:List UInt8}{n:Nat}(h:(fC f n).2=0):(fC f n).1.length=n:=by
 unfold fC at h ⊢
 split at h
 ·cases h
 ·rename_i h1
  rw[if_neg h1]
  split at h
  ·cases h
  ·rename_i h2
   rw[if_neg h2]
   split at h
   ·cases h
   ·rename_i h3
    rw[if_neg h3]
    exact Decidable.not_not.1 h2
theorem xt{f:List UInt8}{n:Nat}(h:(fC f n).2≠0):(fC f n).1=[]:=by
 unfold fC at h ⊢
 split at h
 ·rename_i h1;rw[if_pos h1]
 ·rename_i h1
  rw[if_neg h1]
  split at h
  ·rename_i h2;rw[if_pos h2]
  ·rename_i h2
   rw[if_neg h2]
   split at h
   ·rename_i h3;rw[if_pos h3]
   ·exact absurd rfl h
theorem xb{f:List UInt8}{most:Int}(h:(cS f most).2≠0):(cS f most).1=[]:=by
 unfold cS at h ⊢
 split at h
 ·rfl
 ·rename_i n hn
  split at h
  ·rename_i h1;rw[if_pos h1]
  ·rename_i h1;rw[if_neg h1];exact xt h
theorem zn{f:List UInt8}{most:Int}(h:(cS f most).2=0):((cS f most).1.length:Int)≤most:=by
 unfold cS at h ⊢
 split at h
 ·cases h
 ·rename_i n hn
  split at h
  ·cases h
  ·rename_i h1;rw[if_neg h1,yW h];omega
theorem qi{f:List UInt8}{most:Int}(hm:0≤most):((cS f most).1.length:Int)≤most:=by
 by_cases h:(cS f most).2=0
 ·exact zn h
 ·rw[xb h];simpa using hm
theorem lJ(b:List UInt8):(bA b).getD 0 0=76∧(bA b).getD 1 0=(if uG b then 1 else 0)∧(bA b).drop 2=fZ b.length++(gW b++fZ (cJ b))∧de (bA b)=gW b∧(bA b).drop ((bA b).length-4)=fZ (cJ b):=by
 refine⟨by simp[bA],by simp[bA],by simp[bA], ?_, ?_⟩
 ·unfold de
  have h6:(bA b).drop 6=gW b++fZ (cJ b):=by simp[bA,fZ]
  rw[h6,jF,Nat.add_sub_cancel]
  exact List.take_left
 ·rw[jF]
  have:bA b=([76,if uG b then 1 else 0]++fZ b.length++gW b)++fZ (cJ b):=rfl
  rw[this,List.drop_append_of_le_length (by simp[eY];omega),List.drop_of_length_le (by simp[eY];omega)]
  rfl
theorem xk{b:List UInt8}(h:b.length<4294967296):gq (bA b)=some b.length:=by
 obtain⟨h0,h1,h2,_,_⟩:=lJ b
 have hl:=kD b
 unfold gq
 rw[if_neg,h2]
 ·congr 1
  have:j8 (fZ b.length++(gW b++fZ (cJ b)))=j8 (fZ b.length):=by simp[j8,fZ]
  rw[this,yH h]
 ·rw[h0,h1]
  rintro(q|q|q)
  ·omega
  ·exact q rfl
  ·cases hp:uG b <;> rw[hp]at q <;> exact absurd q (by decide)
theorem x8(b:List UInt8):uR (bA b) b.length=(b,0):=by
 obtain⟨_,h1,_,h3,_⟩:=lJ b
 unfold uR
 rw[h1,h3]
 cases hp:uG b with
 |true=>
  rw[if_pos rfl]
  unfold gW
  rw[hp,if_pos rfl]
  exact wM (Int.le_refl _)
 |false=>
  rw[if_neg (by decide)]
  unfold gW
  rw[hp]
  rfl
theorem xB{b:List UInt8}{most:Int}(h:b.length<4294967296)(hm:(b.length:Int)≤most):cS (bA b) most=(b,0):=by
 unfold cS
 rw[xk h]
 simp only
 rw[if_neg (by omega)]
 unfold fC
 rw[x8,(lJ b).2.2.2.2,if_neg (by simp),if_neg (by simp),if_neg (by simp)]
end Go.Hx
end
section
namespace Go.Proofs.YtmibdabdlgmafaaGreatDoor
open Go.Eng Go.Hx
def aF(nm:List UInt8):List UInt8:=[99,47]++(bW nm).take 2++[47]++bW nm
def bJ(nm:List UInt8):List UInt8:=[116,47]++bW nm
theorem dS{nm:List UInt8}(h:nm.length=32):(aF nm).length=69:=by simp[aF,dA,h]
theorem iV{nm:List UInt8}(h:nm.length=32):(bJ nm).length=66:=by simp[bJ,dA,h]
theorem ik{nm:List UInt8}(h:nm.length=32):(aF nm).drop 5=bW nm:=by
 have h2:((bW nm).take 2).length=2:=by rw[List.length_take,dA,h];rfl
 unfold aF
 rw[List.drop_append_of_le_length (by simp[h2]),List.drop_of_length_le (by simp[h2])]
 rfl
theorem hC{a b:List UInt8}(ha:a.length=32)(hb:b.length=32)(h:aF a=aF b):a=b:=by
 have:=congrArg (List.drop 5) h
 rw[ik ha,ik hb]at this
 exact z6 this
def RD.wI(d:RD)(nm:List UInt8):List UInt8×Int:=cS (d.cm (aF nm)) 4096
def RD.dY(d:RD)(nm:List UInt8):Int:=if d.cd (aF nm)≠0 then d.cd (aF nm)else if(d.wI nm).2≠0∨ba (d.wI nm).1≠nm then 7 else 0
def RD.oU(d:RD)(nm:List UInt8):List UInt8:=if d.dY nm=0 then(d.wI nm).1 else []
theorem jn{d:RD}{nm:List UInt8}(h:d.cd (aF nm)≠0):d.dY nm=d.cd (aF nm):=by unfold RD.dY;rw[if_pos h]
theorem l9{d:RD}{nm:List UInt8}(h:d.cd (aF nm)=0)(h2:(d.wI nm).2≠0∨ba (d.wI nm).1≠nm):d.dY nm=7:=by unfold RD.dY;rw[if_neg (fun q=>q h),if_pos h2]
theorem rC{d:RD}{nm:List UInt8}(h:d.cd (aF nm)=0)(h2:¬((d.wI nm).2≠0∨ba (d.wI nm).1≠nm)):d.dY nm=0:=by unfold RD.dY;rw[if_neg (fun q=>q h),if_neg h2]
theorem kY{d:RD}{nm:List UInt8}(h:d.dY nm≠0):d.oU nm=[]:=by unfold RD.oU;rw[if_neg h]
theorem rZ{d:RD}{nm:List UInt8}(h:d.dY nm=0):d.oU nm=(d.wI nm).1:=by unfold RD.oU;rw[if_pos h]
def cg:List (RD→RD×Int)→RD→RD×Int
 | [],d=>(d,0)
 |f::r,d=>if(f d).2≠0 then f d else cg r (f d).1
def rL(p b:List UInt8)(d:RD):RD×Int:=(d.write p b,d.bE p b)
def cq(d:RD):RD×Int:=(d.sync,d.cT)
def rO(a c:List UInt8)(d:RD):RD×Int:=(d.rename a c,d.bQ a c)
def nj(p:List UInt8)(d:RD):RD×Int:=(d.remove p,d.cd p)
def dR:List UInt8:=List.replicate 32 0
def RD.hZ(d:RD)(b:List UInt8):RD×Int:=cg [rL (bJ (ba b)) (bA b),cq,rO (bJ (ba b)) (aF (ba b)),cq] d
def RD.put(d:RD)(b:List UInt8):RD×List UInt8×Int:=
 if 4096<b.length then(d,dR,3)
 else if d.dY (ba b)=6 then(d,dR,6)
 else if d.dY (ba b)=0 then(d,ba b,0)
 else((d.hZ b).1,if(d.hZ b).2=0 then ba b else dR,(d.hZ b).2)
end Go.Proofs.YtmibdabdlgmafaaGreatDoor
end
section
set_option maxRecDepth 20000
set_option maxHeartbeats 2000000
namespace Go.Proofs.YtmibdabdlgmafaaGreatDoor
open Go.Eng Go.Hx
theorem ij{a b:List UInt8}(h:a.length+b.length≤1000000):(strOf a).size+(strOf b).size≤9223372036854775807:=by rw[cY,cY];omega
theorem rp{nm:List UInt8}(hm:nm.length=32):cf Tryz.prog 94 [.agg (aQ nm).toArray] [] [] (fun v_ X_ S_=>v_=(.string (strOf (aF nm)))∧X_=[]∧S_=[]):=by
 have hhl:(bW nm).length=64:=by rw[dA,hm]
 have h2:((bW nm).take 2).length=2:=by rw[List.length_take,hhl];rfl
 refine aP (N:=12) Tryz.func94 rfl rfl (by simp) fun b=> ?_
 refine ah<|aj<| ?_
 refine hx (cy rfl (fun g1=> ?_))
 refine aR (fun w m=>m.bO 0 rfl (show _=aI g1 53 (aQ nm)from congrArg (aI _ _) (bq _))) ?_
 refine hy (fun _=>ab rfl)<|ai<|ak (X' :=[_]) (S' :=[]) (fun _ m=>m)<|ag<|ah<|aj<|hy (fun m=>a6 rfl cr bp (by rw[az];exact hm) ((m.aY 0 rfl).ay))<| ?_
 refine hx (aq rfl Tryz.call104 (Aa hm) [] rfl [] rfl ?_)
 rintro _ _ _ ⟨rfl,rfl,rfl⟩
 refine hy (fun _=>ab rfl)<|ai<|al (ρ' :=[(3,_),(2,_),(1,_),(0,_)]) ⟨rfl,rfl,rfl,rfl,trivial⟩<|ak (X' :=[_]) (S' :=[]) (fun _ m=>m)<|ag<|ah<|aj<|hy (fun _=>aa rfl)<|hy (fun _=>yV (r7 rfl rfl Tryz.underlying9 (show((2:Nat):Int)=2 from rfl) (show 2≤(bW nm).length by omega)) ((rfl:_=Value.string (strOf ((bW nm).take 2)))))<|hy (fun _=>yV (iS rfl rfl (ij (a:=[99,47]) (b:=(bW nm).take 2) (by simp[h2]))) ((show Value.string (strOf [99,47]++strOf ((bW nm).take 2))= .string (strOf ([99,47]++(bW nm).take 2))from congrArg Value.string (c7 _ _))))<|hy (fun _=>yV (iS rfl rfl (ij (a:=[99,47]++(bW nm).take 2) (b:=[47]) (by simp[h2]))) ((show Value.string (strOf ([99,47]++(bW nm).take 2)++strOf [47])= .string (strOf ([99,47]++(bW nm).take 2++[47]))from congrArg Value.string (c7 _ _))))<|hy (fun _=>aa rfl)<|hy (fun _=>yV (iS rfl rfl (ij (a:=[99,47]++(bW nm).take 2++[47]) (b:=bW nm) (by simp[h2,hhl]))) ((show Value.string (strOf ([99,47]++(bW nm).take 2++[47])++strOf (bW nm))= .string (strOf (aF nm))from congrArg Value.string (c7 _ _))))<|hy (fun _=>ab rfl)<|ai<|al (ρ' :=[(2,_),(3,_),(1,_),(0,_)]) ⟨rfl,rfl,rfl,rfl,trivial⟩<|ag<|aU<| ?_
 exact bc trivial rfl rfl [] rfl [] rfl ⟨rfl,rfl,rfl⟩
theorem rW{nm:List UInt8}(hm:nm.length=32):cf Tryz.prog 29 [.agg (aQ nm).toArray] [] [] (fun v_ X_ S_=>v_=(.string (strOf (aF nm)))∧X_=[]∧S_=[]):=by
 have hhl:(bW nm).length=64:=by rw[dA,hm]
 have h2:((bW nm).take 2).length=2:=by rw[List.length_take,hhl];rfl
 refine aP (N:=12) Tryz.func29 rfl rfl (by simp) fun b=> ?_
 refine ah<|aj<| ?_
 refine hx (cy rfl (fun g1=> ?_))
 refine aR (fun w m=>m.bO 0 rfl (show _=aI g1 53 (aQ nm)from congrArg (aI _ _) (bq _))) ?_
 refine hy (fun _=>ab rfl)<|ai<|ak (X' :=[_]) (S' :=[]) (fun _ m=>m)<|ag<|ah<|aj<|hy (fun m=>a6 rfl cr bp (by rw[az];exact hm) ((m.aY 0 rfl).ay))<| ?_
 refine hx (aq rfl Tryz.call111 (wv hm) [] rfl [] rfl ?_)
 rintro _ _ _ ⟨rfl,rfl,rfl⟩
 refine hy (fun _=>ab rfl)<|ai<|al (ρ' :=[(3,_),(2,_),(1,_),(0,_)]) ⟨rfl,rfl,rfl,rfl,trivial⟩<|ak (X' :=[_]) (S' :=[]) (fun _ m=>m)<|ag<|ah<|aj<|hy (fun _=>aa rfl)<|hy (fun _=>yV (r7 rfl rfl Tryz.underlying9 (show((2:Nat):Int)=2 from rfl) (show 2≤(bW nm).length by omega)) ((rfl:_=Value.string (strOf ((bW nm).take 2)))))<|hy (fun _=>yV (iS rfl rfl (ij (a:=[99,47]) (b:=(bW nm).take 2) (by simp[h2]))) ((show Value.string (strOf [99,47]++strOf ((bW nm).take 2))= .string (strOf ([99,47]++(bW nm).take 2))from congrArg Value.string (c7 _ _))))<|hy (fun _=>yV (iS rfl rfl (ij (a:=[99,47]++(bW nm).take 2) (b:=[47]) (by simp[h2]))) ((show Value.string (strOf ([99,47]++(bW nm).take 2)++strOf [47])= .string (strOf ([99,47]++(bW nm).take 2++[47]))from congrArg Value.string (c7 _ _))))<|hy (fun _=>aa rfl)<|hy (fun _=>yV (iS rfl rfl (ij (a:=[99,47]++(bW nm).take 2++[47]) (b:=bW nm) (by simp[h2,hhl]))) ((show Value.string (strOf ([99,47]++(bW nm).take 2++[47])++strOf (bW nm))= .string (strOf (aF nm))from congrArg Value.string (c7 _ _))))<|hy (fun _=>ab rfl)<|ai<|al (ρ' :=[(2,_),(3,_),(1,_),(0,_)]) ⟨rfl,rfl,rfl,rfl,trivial⟩<|ag<|aU<| ?_
 exact bc trivial rfl rfl [] rfl [] rfl ⟨rfl,rfl,rfl⟩
end Go.Proofs.YtmibdabdlgmafaaGreatDoor
end
section
set_option maxRecDepth 20000
namespace Go.Proofs.YtmibdabdlgmafaaGreatDoor
open Go.Eng Go.Hx
theorem D8{g:Nat}{st:cG}{d:RD}{kk:Nat}{p:List UInt8}(hD:DS st d kk):cf Tryz.prog 90 [.pointer (some ⟨g,0,none⟩),.string (strOf p)] [bn g st] [] (fun v_ X_ S_=>∃v,v_=(.tuple #[v,.int .i64 (d.cd p)])∧X_=[bn g st,aG 5 1 v (d.cm p).length (aQ (d.cm p))]∧S_=[]):=by
 rw[hD.cd,hD.cm]
 exact EF hD.ok.sm
theorem vT{g:Nat}{st:cG}{d:RD}{kk:Nat}{p:List UInt8}{A:Option Addr}{n c:Nat}{l:List UInt8}(hD:DS st d kk)(hkk:kk≤99000)(hl:l.length=n)(hn:n≤1048576):cf Tryz.prog 33 [.pointer (some ⟨g,0,none⟩),.string (strOf p),.slice A n c] [bn g st] [c6 1 A n (aQ l)] (fun v_ X_ S_=>∃st1,v_=(.int .i64 (d.bE p l))∧X_=[bn g st1]∧S_=[]∧(DS st1 (d.write p l) (kk+1))):=by
 exact cf.mono (Ey hD.ok (by omega) hn) (fun v X S h=>by
  obtain⟨st1,B,c1,A1,c2,h1,h2,h3,hw⟩:=h
  have hW:=hD.write hl hn hw
  exact⟨st1,by rw[hW.2];exact h1,h2,h3,hW.1⟩)
theorem uL{g:Nat}{st:cG}{d:RD}{kk:Nat}(hD:DS st d kk):cf Tryz.prog 110 [.pointer (some ⟨g,0,none⟩)] [bn g st] [] (fun v_ X_ S_=>∃st1,v_=(.int .i64 d.cT)∧X_=[bn g st1]∧S_=[]∧(DS st1 d.sync kk)):=by
 exact cf.mono (E1 hD.ok) (fun v X S h=>by
  obtain⟨st1,gl,h1,h2,h3,hw⟩:=h
  have hW:=hD.sync hw
  exact⟨st1,by rw[hW.2];exact h1,h2,h3,hW.1⟩)
theorem yw{g:Nat}{st:cG}{d:RD}{kk:Nat}{a c:List UInt8}(hD:DS st d kk)(hkk:kk≤99000):cf Tryz.prog 108 [.pointer (some ⟨g,0,none⟩),.string (strOf a),.string (strOf c)] [bn g st] [] (fun v_ X_ S_=>∃st1,v_=(.int .i64 (d.bQ a c))∧X_=[bn g st1]∧S_=[]∧(DS st1 (d.rename a c) (kk+1))):=by
 exact cf.mono (Bm hD.ok (by omega)) (fun v X S h=>by
  obtain⟨st1,A,j,h1,h2,h3,hw⟩:=h
  have hW:=hD.rename hw
  exact⟨st1,by rw[hW.2];exact h1,h2,h3,hW.1⟩)
theorem DS.uO{st:cG}{d:RD}{kk:Nat}(h:DS st d kk)(p:List UInt8):(d.cm p).length≤1048576:=by
 rw[h.cm]
 by_cases he:dF st p=0
 ·obtain⟨r,hr⟩:=tC he
  rw[sY he hr]
  have h1:=h.ok.small r (List.mem_append_left _ (List.mem_append_left _ (List.mem_map.2 ⟨_,jb hr,rfl⟩)))
  have h2:r.n=r.l.length:=h.n7.files.len _ (jb hr)
  omega
 ·rw[th he];exact Nat.zero_le _
end Go.Proofs.YtmibdabdlgmafaaGreatDoor
end
section
set_option maxRecDepth 20000
namespace Go.Proofs.YtmibdabdlgmafaaGreatDoor
open Go.Eng Go.Hx
theorem Rd.part{w:World}{a:Addr}{n k m:Nat}{B:List UInt8}(h:Rd w 1 (some a) n (aQ B)):∀(j:Nat) (u:Value),(aQ ((B.drop k).take m))[j]? =some u→w.cell? ((a.add k).add j)=some u:=by
 intro j u hu
 rw[add_add]
 refine h.cell ?_
 unfold aQ at hu ⊢
 rw[List.getElem?_map,List.getElem?_take]at hu
 rw[List.getElem?_map]
 split at hu
 ·rw[List.getElem?_drop]at hu;exact hu
 ·simp at hu
end Go.Proofs.YtmibdabdlgmafaaGreatDoor
end
section
set_option maxRecDepth 20000
set_option maxHeartbeats 2000000
namespace Go.Proofs.YtmibdabdlgmafaaGreatDoor
open Go.Eng Go.Hx
theorem Cy{A:Option Addr}{n c i k:Nat}{l:List UInt8}(hn:n≤1000000000)(hl:l.length=n)(hi:i≤n)(hk:k≤i):cf Tryz.prog 272 [.slice A n c,.int .i64 (i:Nat),.int .i64 (k:Nat)] [] [c6 1 A n (aQ l)] (fun v_ X_ S_=>v_=(.int .i64 (lD l i k:Nat))∧X_=[]∧S_=[]):=by
 refine aP (N:=36) Tryz.func272 rfl rfl (by simp) fun b=> ?_
 refine aZ (fun m=>gz (m.rd 0 rfl)) ?_
 rintro⟨hl_r,hA_r⟩
 refine ah<|aj<|hy (fun _=>ab rfl)<|ai<|ag<|ah<|aj<|hy (fun _=>ab rfl)<|ai<|ag<|ah<|aK<| ?_
 refine dz (fun m=>131-m) (fun m=>[(7,.int .i64 (m:Nat))]) (fun m=>[]) (fun m=>[]) (fun m=>m≤131∧i+m≤n∧k9 l i k (131-m) m=lD l i k) 0 [(6,_),(0,_),(1,_),(2,_)] ⟨rfl,rfl,rfl,rfl,trivial⟩ [] rfl [] rfl (⟨by decide,hi,rfl⟩) ⟨rfl,trivial⟩ (fun m ⟨hm,him,hL⟩=> ?_)
 refine ah<|ah<|cN [] [(0,some 0),(1,some 0),(2,some 0),(3,some 0),(4,some 0),(5,some 0),(6,some 0),(7,some 0),(8,some 0),(9,some 0),(10,some 0),(11,some 0),(12,some 0),(13,some 0),(14,some 0),(15,some 0),(16,some 0),(17,some 0),(18,some 0),(19,some 0),(20,some 0),(21,some 0),(22,some 0),(23,some 0),(24,some 0)] (by kernel_rfl) (by kernel_rfl) rfl 99<|an (aa rfl)<|an (bw rfl rfl)<|an (aa rfl)<| ?_
 refine kN 10 rfl (fun h1=> ?_) (fun h1=> ?_)
 ·refine bG (o:=_) rfl rfl rfl (aa rfl)<|bG (o:=_) rfl rfl rfl (aa rfl)<|bG (o:=_) rfl rfl rfl (aM rfl rfl (bD (by omega) (by omega)))<|bG (o:=_) rfl rfl rfl (aa rfl)<|bG (o:=_) rfl rfl rfl (aX rfl Tryz.underlying27)<|bG (o:=_) rfl rfl rfl (bw rfl rfl)<|an (bU rfl rfl)<|an (aa rfl)<| ?_
  refine kN 18 rfl (fun h2=> ?_) (fun h2=> ?_)
  ·refine bG (o:=_) rfl rfl rfl (aa rfl)<|bG (o:=_) rfl rfl rfl (aa rfl)<|bG (o:=_) rfl rfl rfl (aa rfl)<|bG (o:=_) rfl rfl rfl (aM rfl rfl (bD (by omega) (by omega)))<|bG (o:=_) rfl rfl rfl (aO rfl rfl Tryz.underlying27 dZ hA_r (show((i+m:Nat):Int)=_ by omega) (by omega))<|lR (o:=_) rfl rfl rfl (fun m=>aw rfl jt ((m.rd 0 rfl).cell (bI (by omega))))<|bG (o:=_) rfl rfl rfl (aa rfl)<|bG (o:=_) rfl rfl rfl (aa rfl)<|bG (o:=_) rfl rfl rfl (aa rfl)<|bG (o:=_) rfl rfl rfl (aM rfl rfl (bD (by omega) (by omega)))<|bG (o:=_) rfl rfl rfl (aO rfl rfl Tryz.underlying27 dZ hA_r (show((k+m:Nat):Int)=_ by omega) (by omega))<|lR (o:=_) rfl rfl rfl (fun m=>aw rfl jt ((m.rd 0 rfl).cell (bI (by omega))))<|bG (o:=_) rfl rfl rfl (cH rfl rfl)<|an (bU rfl rfl)<|bz<|al (ρ' :=[(32,_),(7,_),(6,_),(0,_),(1,_),(2,_)]) ⟨rfl,rfl,rfl,rfl,rfl,rfl,trivial⟩<|ag<| ?_
   refine cD rfl (fun h3=> ?_) (fun h3=> ?_)
   ·have e3:l.getD (i+m) 0=l.getD (k+m) 0:=UInt8.toNat_inj.1 (by omega)
    rw[gN (by omega) ⟨by omega,e3⟩]at hL
    refine aD<|ag<|aK<|aj<|hy (fun _=>aa rfl)<|hy (fun _=>aM rfl rfl (bD (by omega) (by omega)))<|hy (fun _=>ab rfl)<|ai<|al (ρ' :=[(7,_),(32,_),(6,_),(0,_),(1,_),(2,_)]) ⟨rfl,rfl,rfl,rfl,rfl,rfl,trivial⟩<|aT<| ?_
    refine cM (m+1) ⟨rfl,rfl,rfl,rfl,rfl,trivial⟩ [] rfl [0] rfl (⟨by omega,by omega,by rw[←hL];rfl⟩) (by omega)
   ·rw[kX (fun q=>h3 (by rw[q.2]))]at hL
    rw[←hL]
    refine bK<|ao<|ao<|aC<|ag<|ah<|aj<|hy (fun _=>aa rfl)<|hy (fun _=>ab rfl)<|ai<|al (ρ' :=[(6,_),(32,_),(7,_),(0,_),(1,_),(2,_)]) ⟨rfl,rfl,rfl,rfl,rfl,rfl,trivial⟩<|ag<|aU<| ?_
    exact bc trivial rfl rfl [] rfl [] rfl ⟨rfl,rfl,rfl⟩
  ·rw[kX (fun q=>h2 (by omega))]at hL
   rw[←hL]
   refine a7 rfl rfl rfl (by decide)<|a7 rfl rfl rfl (by decide)<|a7 rfl rfl rfl (by decide)<|a7 rfl rfl rfl (by decide)<|a7 rfl rfl rfl (by decide)<|a7 rfl rfl rfl (by decide)<|a7 rfl rfl rfl (by decide)<|a7 rfl rfl rfl (by decide)<|a7 rfl rfl rfl (by decide)<|a7 rfl rfl rfl (by decide)<|a7 rfl rfl rfl (by decide)<|a7 rfl rfl rfl (by decide)<|a7 rfl rfl rfl (by decide)<|an (bP rfl rfl)<|bz<|al (ρ' :=[(32,_),(7,_),(6,_),(0,_),(1,_),(2,_)]) ⟨rfl,rfl,rfl,rfl,rfl,rfl,trivial⟩<|ag<| ?_
   refine dP rfl (rfl) ?_
   refine bK<|ao<|ao<|aC<|ag<|ah<|aj<|hy (fun _=>aa rfl)<|hy (fun _=>ab rfl)<|ai<|al (ρ' :=[(6,_),(32,_),(7,_),(0,_),(1,_),(2,_)]) ⟨rfl,rfl,rfl,rfl,rfl,rfl,trivial⟩<|ag<|aU<| ?_
   exact bc trivial rfl rfl [] rfl [] rfl ⟨rfl,rfl,rfl⟩
 ·obtain rfl:m=131:=by omega
  have hL:131=lD l i k:=hL
  rw[←hL]
  refine a7 rfl rfl rfl (by decide)<|a7 rfl rfl rfl (by decide)<|a7 rfl rfl rfl (by decide)<|a7 rfl rfl rfl (by decide)<|a7 rfl rfl rfl (by decide)<|a7 rfl rfl rfl (by decide)<|an (bP rfl rfl)<|an (aa rfl)<| ?_
  refine a7 rfl rfl rfl (by decide)<|a7 rfl rfl rfl (by decide)<|a7 rfl rfl rfl (by decide)<|a7 rfl rfl rfl (by decide)<|a7 rfl rfl rfl (by decide)<|a7 rfl rfl rfl (by decide)<|a7 rfl rfl rfl (by decide)<|a7 rfl rfl rfl (by decide)<|a7 rfl rfl rfl (by decide)<|a7 rfl rfl rfl (by decide)<|a7 rfl rfl rfl (by decide)<|a7 rfl rfl rfl (by decide)<|a7 rfl rfl rfl (by decide)<|an (bP rfl rfl)<|bz<|al (ρ' :=[(32,_),(7,_),(6,_),(0,_),(1,_),(2,_)]) ⟨rfl,rfl,rfl,rfl,rfl,rfl,trivial⟩<|ag<| ?_
  refine dP rfl (rfl) ?_
  refine bK<|ao<|ao<|aC<|ag<|ah<|aj<|hy (fun _=>aa rfl)<|hy (fun _=>ab rfl)<|ai<|al (ρ' :=[(6,_),(32,_),(7,_),(0,_),(1,_),(2,_)]) ⟨rfl,rfl,rfl,rfl,rfl,rfl,trivial⟩<|ag<|aU<| ?_
  exact bc trivial rfl rfl [] rfl [] rfl ⟨rfl,rfl,rfl⟩
structure kl where
 A:Option Addr
 c:Nat
 l:List Nat
def kl.val(r:kl):Value:=.slice r.A r.l.length r.c
def BH(l:List Nat):List Value:=l.map fun n=>Value.int .i64 (n:Nat)
theorem vt{l:List Nat}:∀u∈BH l,u.oneCell' =true:=by
 intro u hu
 obtain⟨n,_,rfl⟩:=List.mem_map.1 hu
 rfl
def kl.res(r:kl):bg:=aG 3 1 (.slice r.A r.l.length r.c) r.l.length (BH r.l)
abbrev ug:=List (Bn 4×kl)
def jf(es:ug):List (Bn 4×Value):=es.map fun x=>(x.1,x.2.val)
def fF(es:ug):List bg:=es.map fun x=>x.2.res
abbrev mV(g gm:Nat)(A:Option Addr)(n c m:Nat)(es:ug):bg:=fm [aI g 359 [.slice A n c,.map (some gm),.int .i64 (m:Nat)],c5 (KN (n:=4)) gm (jf es),fm (fF es)]
def xO(l:List UInt8)(m:Nat)(es:ug):Prop:=∀k:Bn 4,((b4 es k).map kl.l).getD []=kC l m k.1
theorem kO(k:Bn 4):∀es:ug,b4 (jf es) k=(b4 es k).map kl.val
 | []=>rfl
 |(q,r)::t=>by
  have ih:=kO k t
  unfold jf at ih ⊢
  simp only[List.map_cons,b4]
  split
  ·rfl
  ·exact ih
theorem m9(k:Bn 4)(r:kl):∀es:ug,cL (jf es) k r.val=jf (cL es k r)
 | []=>rfl
 |(q,x)::t=>by
  have ih:=m9 k r t
  unfold jf at ih ⊢
  simp only[List.map_cons,cL]
  split
  ·rfl
  ·rw[ih];rfl
theorem o4{k:Bn 4}(r:kl):∀{es:ug},b4 es k=none→fF (cL es k r)=fF es++[r.res]
 | [],_=>rfl
 |(q,x)::t,h=>by
  simp only[b4]at h
  split at h
  ·cases h
  ·rename_i hq
   have ih:=o4 r h
   unfold fF at ih ⊢
   simp only[cL,if_neg hq,List.map_cons,ih,List.cons_append]
theorem kh{k:Bn 4}:∀{es:ug} {x:kl},b4 es k=some x→∃i,(fF es)[i]? =some x.res∧∀r:kl,fF (cL es k r)=(fF es).set i r.res
 | [],_,h=>by cases h
 |(q,y)::t,x,h=>by
  simp only[b4]at h
  split at h
  ·rename_i hq
   cases h
   exact⟨0,rfl,fun r=>by simp[fF,cL,hq]⟩
  ·rename_i hq
   obtain⟨i,h1,h2⟩:=kh h
   refine⟨i+1,by simpa[fF]using h1,fun r=> ?_⟩
   have h2:=h2 r
   unfold fF at h2 ⊢
   simp only[cL,if_neg hq,List.map_cons,h2,List.set_cons_succ]
theorem set_perm{α:Type}:∀(l:List α) (i:Nat) (x:α),i<l.length→(l.set i x).Perm (x::l.eraseIdx i)
 | [],i,x,h=>by simp at h
 |a::t,0,x,h=>by simp
 |a::t,i+1,x,h=>by
  have:=set_perm t i x (by simpa using h)
  simp only[List.set_cons_succ,List.eraseIdx_cons_succ]
  exact(this.cons a).trans (List.Perm.swap ..)
theorem vd{l:List UInt8}{m:Nat}{es:ug}{A:Option Addr}{c:Nat}(h:xO l m es)(hm:m+4≤l.length):xO l (m+1) (cL es ⟨ei l m,bC hm⟩ ⟨A,c,kC l m (ei l m)++[m]⟩):=by
 intro k
 rw[p9,xe]
 by_cases hk:ei l m=k.1
 ·rw[if_pos (Subtype.ext hk),if_pos hk,←hk];rfl
 ·rw[if_neg (fun e=>hk (congrArg Subtype.val e)),if_neg hk,List.append_nil]
  exact h k
theorem B9(l:List UInt8):xO l 0 []:=fun k=>rfl
theorem tw{es:ug}{l:List UInt8}{m:Nat}{k:Bn 4}{r:kl}(h:xO l m es)(hr:b4 es k=some r):r.l=kC l m k.1:=by
 have:=h k
 rw[hr]at this
 exact this
theorem qh{es:ug}{l:List UInt8}{m:Nat}{k:Bn 4}(h:xO l m es)(hr:b4 es k=none):kC l m k.1=[]:=by
 have:=h k
 rw[hr]at this
 exact this.symm
theorem ES{g gm:Nat}{A:Option Addr}{n c p i:Nat}{l:List UInt8}{es:ug}(hc:n≤c)(hn:n≤1000000000)(hl:l.length=n)(hpi:p≤i)(hi:i+4≤n)(hF:xO l p es):cf Tryz.prog 270 [.pointer (some ⟨g,0,none⟩),.int .i64 (i:Nat)] [mV g gm A n c p es] [c6 1 A n (aQ l)] (fun v_ X_ S_=>∃es1,v_=(.tuple #[])∧X_=[mV g gm A n c i es1]∧S_=[]∧(xO l i es1)):=by
 refine aP (N:=61) Tryz.func270 rfl rfl (by simp) fun b=> ?_
 refine aZ (fun m=>gz (m.rd 0 rfl)) ?_
 rintro⟨hl_r,hA_r⟩
 refine bB (fun w m=>(m.perm (ar [0] _ [_] _ rfl)).unpack) ?_
 refine aK<| ?_
 refine yL (fun p es=>i-p) (fun p es=>[]) (fun p es=>[aI g 359 [.slice A n c,.map (some gm),.int .i64 (p:Nat)],c5 (KN (n:=4)) gm (jf es),fm (fF es)]) (fun p es=>[]) (fun p es=>p≤i∧xO l p es) p es [(0,_),(1,_)] ⟨rfl,rfl,trivial⟩ [0,0,0] rfl [] rfl (⟨hpi,hF⟩) trivial (fun p es ⟨hpi,hF⟩=> ?_)
 refine ah<|ah<|cN [] [(0,some 0),(1,some 0),(2,some 0),(3,some 0),(4,some 0),(5,some 0),(6,some 0),(7,some 0),(8,some 0),(9,some 0),(10,some 0),(11,some 0),(12,some 0),(13,some 0),(14,some 0),(15,some 0),(16,some 0),(17,some 0),(18,some 0)] (by kernel_rfl) (by kernel_rfl) rfl 99<|an (aa rfl)<|an (bh rfl)<|an (aL rfl gJ (by decide))<|b6 (fun m=>aw rfl fE (aA (m.aY 0 rfl) rfl))<|an (aa rfl)<|an (bw rfl rfl)<|an (aa rfl)<| ?_
 refine kN 11 rfl (fun h1=> ?_) (fun h1=> ?_)
 ·refine bG (o:=_) rfl rfl rfl (aa rfl)<|bG (o:=_) rfl rfl rfl (bh rfl)<|bG (o:=_) rfl rfl rfl (aL rfl gJ (by decide))<|lR (o:=_) rfl rfl rfl (fun m=>aw rfl fE (aA (m.aY 0 rfl) rfl))<|bG (o:=_) rfl rfl rfl (aM rfl rfl (bD (by omega) (by omega)))<|bG (o:=_) rfl rfl rfl (aa rfl)<|bG (o:=_) rfl rfl rfl (bh rfl)<|bG (o:=_) rfl rfl rfl (aL rfl jA (by decide))<|lR (o:=_) rfl rfl rfl (fun m=>aw rfl dX (aA (m.aY 0 rfl) rfl))<|bG (o:=_) rfl rfl rfl (aX rfl Tryz.underlying27)<|bG (o:=_) rfl rfl rfl (qJ rfl rfl)<|an (bU rfl rfl)<|bz<|al (ρ' :=[(23,_),(0,_),(1,_)]) ⟨rfl,rfl,rfl,trivial⟩<|ag<| ?_
  refine ib rfl ((decide_eq_true (by omega))) ?_
  refine aZ (fun m=>(m.rd 0 rfl).some (by omega)) fun h_=> ?_
  obtain⟨a,rfl⟩:∃a_,A=some a_:=⟨_,h_⟩
  clear h_
  refine aD<|ag<|ah<|aK<|ah<|cN [16,17] [(0,some 1),(1,some 1),(2,some 1),(3,some 1),(4,some 1),(5,some 1),(6,some 1),(7,some 1),(8,some 1),(9,some 1),(10,some 1),(11,some 1),(12,some 1),(13,some 1),(14,some 1),(15,some 1),(16,none),(17,none)] (by kernel_rfl) (by kernel_rfl) rfl 1<|an (aa rfl)<|an (bh rfl)<|an (aL rfl jA (by decide))<|b6 (fun m=>aw rfl dX (aA (m.aY 0 rfl) rfl))<|an (aa rfl)<|an (bh rfl)<|an (aL rfl gJ (by decide))<|b6 (fun m=>aw rfl fE (aA (m.aY 0 rfl) rfl))<|an (aa rfl)<|an (bh rfl)<|an (aL rfl gJ (by decide))<|b6 (fun m=>aw rfl fE (aA (m.aY 0 rfl) rfl))<|an (aM rfl rfl (bD (by omega) (by omega)))<|an (yV (ey rfl rfl rfl Tryz.underlying27 dZ rfl (show((p+4:Nat):Int)=_ by omega) (by omega) (by omega)) ((show Value.slice (if c=p then some a else(some a).map (·.add (p*1))) (p+4-p) (c-p)= .slice (some (a.add p)) 4 (c-p) by rw[if_neg (by omega),Nat.mul_one,Nat.add_sub_cancel_left];rfl)))<|an (oq rfl Tryz.underlying364 (by omega))<|b6 (fun m=>yV (a6 rfl vr sT (by rw[az];exact bC (by omega)) (Rd.part (m.rd 0 rfl))) ((rfl:Value.agg _= .agg (aQ (ei l p)).toArray)))<| ?_
  refine dT (aN FC (fun g4=>⟨(fun _=>wk [1,1,1] [0] rfl rfl), ?_⟩))
  refine j5 (aJ 0 rfl rfl rfl sT (by rw[az];exact bC (by omega)) aS rfl ⟨(fun h=>absurd h (by decide)), ?_⟩)
  refine bz<|al (ρ' :=[(4,_),(23,_),(0,_),(1,_)]) ⟨rfl,rfl,rfl,rfl,trivial⟩<|ak (X' :=[_,_,_,_]) (S' :=[_]) (fun _ m=>m)<|ag<| ?_
  refine cN [9,10,12,14] [(0,some 1),(1,some 1),(2,some 1),(3,some 1),(4,some 1),(5,some 0),(6,some 0),(7,some 0),(8,some 0),(9,none),(10,none),(11,some 2),(13,some 3),(12,none),(14,none)] (by kernel_rfl) (by kernel_rfl) rfl 1<|an (aa rfl)<|an (bh rfl)<|an (aL rfl sa (by decide))<|b6 (fun m=>aw rfl y5 (aA (m.aY 1 rfl) rfl))<|b6 (fun m=>yV (a6 rfl vr sT (by rw[az];exact bC (by omega)) ((m.aY 0 rfl).ay)) ((rfl:Value.agg _=KN ⟨ei l p,bC (by omega)⟩)))<|an (aa rfl)<|an (bh rfl)<|an (aL rfl gJ (by decide))<|b6 (fun m=>aw rfl fE (aA (m.aY 1 rfl) rfl))<| ?_
  refine dT (bV Tryz.underlying44 Dy rfl rfl rfl (by simp[Value.cells,B8]) (by decide) (by decide) (fun g57=>⟨(fun _=>wk [1,1,1,1] [0] rfl rfl), ?_⟩))
  have hA_b57:0<1→(some (⟨g57,0,none⟩:Addr))≠none:=fun _ h=>by cases h
  refine fg (fun w m=>m.bO 0 rfl (show _=aG 3 1 (.slice (some ⟨g57,0,none⟩) 1 1) 1 (BH [p])from rfl)) ?_
  refine dT (zo (enc:=(KN (n:=4))) (k:=⟨ei l p,bC (by omega)⟩) 3 rfl rfl rfl Tryz.underlying357 Dr (yM Tryz.underlying364 Tryz.underlying5 (by kernel_rfl) (by kernel_rfl) (by kernel_rfl)) (fun st58=>⟨(fun h=>absurd h (by decide)), ?_⟩))
  rw[kO]
  rcases hq:b4 es ⟨ei l p,bC (by omega)⟩with _|x
  ·have e0:=qh hF hq
   refine fg (fun w m=>m.dx (r' :=aG 3 1 (.slice none 0 0) 0 []) (.refl _ _) (Own.nil _ _ _ _) (fun k hk=>hk.elim)) ?_
   refine an (au rfl rfl)<|an (au rfl rfl)<| ?_
   refine dT (bH 0 rfl rfl rfl Tryz.underlying44 Tryz.underlying44 (by exact .inl rfl) Dy rfl (fun m=>Src.bY (m.ord 2 rfl)) (vt (l:=[p])) (by unfold maxLen;omega) (by omega) (fun u=>⟨(fun h=>absurd h (by decide)), ?_⟩))
   refine b9 (fun m=>(m.own 0 rfl).slice) ?_
   rintro⟨A_x,c_x,rfl,hc_x⟩
   refine b9 (fun m=>(m.ord 0 rfl).2.1) fun hA_x=> ?_
   refine j5 (p7 (enc:=(KN (n:=4))) 1 rfl rfl rfl rfl ⟨(fun h=>absurd h (by decide)), ?_⟩)
   refine bz<|al (ρ' :=[(4,_),(23,_),(0,_),(1,_)]) ⟨rfl,rfl,rfl,rfl,trivial⟩<|ak (X' :=[_,_,_,_,_,_]) (S' :=[_]) (fun _ m=>m)<|aT<|ag<|aj<|hy (fun _=>aa rfl)<|hy (fun _=>bh rfl)<|hy (fun _=>aL rfl gJ (by decide))<|hy (fun m=>aw rfl fE (aA (m.aY 4 rfl) rfl))<|hy (fun _=>aM rfl rfl (bD (by omega) (by omega)))<|hy (fun _=>bh rfl)<|hy (fun _=>aL rfl gJ (by decide))<| ?_
   refine cI (cz 4 rfl rfl rfl tW rfl (by first|exact Nat.le_of_ble_eq_true rfl|simp) ?_)
   refine ai<|al (ρ' :=[(4,_),(23,_),(0,_),(1,_)]) ⟨rfl,rfl,rfl,rfl,trivial⟩<|ak (X' :=[_,_,_,_,_,_]) (S' :=[_]) (fun _ m=>m)<| ?_
   refine ak (fun w m=>m.bO 0 rfl (show _=aI g 359 [.slice (some a) n c,.map (some gm),.int .i64 ((p+1:Nat):Int)]from rfl)) ?_
   refine ak (fun w m=>m.bO 1 rfl (show _=c5 (KN (n:=4)) gm (jf (cL es ⟨ei l p,bC (by omega)⟩ ⟨A_x,c_x,[p]⟩))from congrArg (c5 _ _) (qA.trans (m9 _ ⟨A_x,c_x,[p]⟩ es)))) ?_
   refine ak (X' :=fm (fF (cL es ⟨ei l p,bC (by omega)⟩ ⟨A_x,c_x,[p]⟩))::_) (fun w m=>(Mem.rn (m.perm (ar [2,4] _ [_,_] _ rfl))).mr (by rw[o4 _ hq];exact(List.perm_append_singleton _ _).symm)) ?_
   refine tY (p+1) (cL es ⟨ei l p,bC (by omega)⟩ ⟨A_x,c_x,[p]⟩) ⟨rfl,rfl,trivial⟩ [2,1,0] rfl [0] rfl (⟨by omega,by have:=vd (A:=A_x) (c:=c_x) hF (by omega);rw[e0]at this;exact this⟩) (by omega)
  ·obtain⟨j,hj1,hj2⟩:=kh hq
   have e0:=tw hF hq
   have hxl:x.l.length≤n:=by rw[e0];exact Nat.le_trans (nu _ _ _) (by omega)
   refine fg (X' :=aG 3 1 (.slice x.A x.l.length x.c) x.l.length (BH x.l)::_) (fun w m=>(m.perm (ar [4] _ [_] _ rfl)).sU j hj1) ?_
   refine an (au rfl rfl)<|an (au rfl rfl)<| ?_
   refine dT (bH 0 rfl rfl rfl Tryz.underlying44 Tryz.underlying44 (by exact .inl rfl) Dy rfl (fun m=>Src.bY (m.ord 3 rfl)) (vt (l:=[p])) (by unfold maxLen;omega) (by omega) (fun u=>⟨(fun h=>absurd h (by decide)), ?_⟩))
   refine b9 (fun m=>(m.own 0 rfl).slice) ?_
   rintro⟨A_y,c_y,rfl,hc_y⟩
   refine b9 (fun m=>(m.ord 0 rfl).2.1) fun hA_y=> ?_
   refine j5 (p7 (enc:=(KN (n:=4))) 2 rfl rfl rfl rfl ⟨(fun h=>absurd h (by decide)), ?_⟩)
   refine bz<|al (ρ' :=[(4,_),(23,_),(0,_),(1,_)]) ⟨rfl,rfl,rfl,rfl,trivial⟩<|ak (X' :=[_,_,_,_,_,_]) (S' :=[_]) (fun _ m=>m)<|aT<|ag<|aj<|hy (fun _=>aa rfl)<|hy (fun _=>bh rfl)<|hy (fun _=>aL rfl gJ (by decide))<|hy (fun m=>aw rfl fE (aA (m.aY 5 rfl) rfl))<|hy (fun _=>aM rfl rfl (bD (by omega) (by omega)))<|hy (fun _=>bh rfl)<|hy (fun _=>aL rfl gJ (by decide))<| ?_
   refine cI (cz 5 rfl rfl rfl tW rfl (by first|exact Nat.le_of_ble_eq_true rfl|simp) ?_)
   refine ai<|al (ρ' :=[(4,_),(23,_),(0,_),(1,_)]) ⟨rfl,rfl,rfl,rfl,trivial⟩<|ak (X' :=[_,_,_,_,_,_]) (S' :=[_]) (fun _ m=>m)<| ?_
   refine ak (fun w m=>m.bO 0 rfl (show _=aI g 359 [.slice (some a) n c,.map (some gm),.int .i64 ((p+1:Nat):Int)]from rfl)) ?_
   have h1e:cL (jf es) ⟨ei l p,bC (by omega)⟩ (.slice A_y (x.l.length+1) c_y)=jf (cL es ⟨ei l p,bC (by omega)⟩ ⟨A_y,c_y,x.l++[p]⟩):=by rw[←m9];simp[kl.val]
   refine ak (fun w m=>m.bO 1 rfl (show _=c5 (KN (n:=4)) gm (jf (cL es ⟨ei l p,bC (by omega)⟩ ⟨A_y,c_y,x.l++[p]⟩))from congrArg (c5 _ _) (qA.trans h1e))) ?_
   have h2e:aG 3 1 (.slice A_y (x.l.length+1) c_y) (x.l.length+1) (BH x.l++BH [p])=(⟨A_y,c_y,x.l++[p]⟩:kl).res:=by simp[kl.res,BH]
   refine ak (fun w m=>m.bO 2 rfl (show _=(⟨A_y,c_y,x.l++[p]⟩:kl).res from h2e)) ?_
   have hjl:=(List.getElem?_eq_some_iff.1 hj1).1
   refine ak (X' :=fm (fF (cL es ⟨ei l p,bC (by omega)⟩ ⟨A_y,c_y,x.l++[p]⟩))::_) (fun w m=>(Mem.rn (m.perm (ar [0,2] _ [_,_] _ rfl))).mr (by rw[hj2];exact(set_perm _ _ _ hjl).symm)) ?_
   refine tY (p+1) (cL es ⟨ei l p,bC (by omega)⟩ ⟨A_y,c_y,x.l++[p]⟩) ⟨rfl,rfl,trivial⟩ [2,1,0] rfl [0] rfl (⟨by omega,by have:=vd (A:=A_y) (c:=c_y) hF (by omega);rw[←e0]at this;exact this⟩) (by omega)
 ·obtain rfl:p=i:=by omega
  refine a7 rfl rfl rfl (by decide)<|a7 rfl rfl rfl (by decide)<|a7 rfl rfl rfl (by decide)<|a7 rfl rfl rfl (by decide)<|a7 rfl rfl rfl (by decide)<|a7 rfl rfl rfl (by decide)<|a7 rfl rfl rfl (by decide)<|a7 rfl rfl rfl (by decide)<|a7 rfl rfl rfl (by decide)<|a7 rfl rfl rfl (by decide)<|a7 rfl rfl rfl (by decide)<|an (bP rfl rfl)<|bz<|al (ρ' :=[(23,_),(0,_),(1,_)]) ⟨rfl,rfl,rfl,trivial⟩<|ag<| ?_
  refine dP rfl (rfl) ?_
  refine bK<|ao<|ao<|aC<| ?_
  refine ak (X' :=mV g gm A n c p es::_) (fun w m=>(m.perm (ar [0,0,0] _ [_,_,_] _ rfl)).pack) ?_
  exact fD trivial rfl [0] rfl [] rfl ⟨es,rfl,rfl,rfl,hF⟩
end Go.Proofs.YtmibdabdlgmafaaGreatDoor
end
section
namespace Go.Eng
open Go.RowKit
def qn:Op→Bool
 | .defer _=>true
 |_=>false
abbrev mU(l:Nat):Fence:=Fence.wide.inRound l
section
variable{P:Program}{Q:Exit→Act→World→Prop}{a:Act}{w:World}{l n:Nat}
theorem Fy{o:Oper}{next next' :Act→World→Prop}(h:o.wp P a w next Q)(hd:qn o.op=false)(hn:∀a w,next a w→next' a w):o.wpIn (mU l) n P a w next' Q:=by
 refine⟨fun _ _=>trivial, ?_⟩
 have e:o.semAt (mU l).round a.eval=execOp a.eval o:=Oper.semAt_eq _ _ _ (fun c hc=>by rw[hc]at hd;cases hd)
 rw[e]
 unfold Oper.wp at h
 generalize(execOp a.eval o).run P w=r at h
 match r,h with
 | .ok (.value v) w',h=>exact hn _ _ h
 | .ok .skip w',h=>exact hn _ _ h
 | .ok (.defer d) w',h=>exact hn _ _ h
 | .ok (.enter f args) w',h=>
  refine⟨fun h=>by simp[Fence.wide]at h,CallsIn.inRound l (callsIn_wide.2 (Calls.mono h ?_))⟩
  intro e w'' q
  cases e with
  |returned v=>exact hn _ _ q
  |panicked c=>exact q
  |outgrown=>exact q
 | .ok (.row row args) w',h=>exact⟨fun h=>by simp[Fence.wide]at h,fun c cs _=>let⟨v,w'',r,s⟩:=h c cs;⟨v,w'',hn _ _ r,stepsIn_wide.2 s⟩⟩
 | .halt (.panic v) w',h=>exact h
theorem mO{ops:Array Oper}(hQ:¬LetsOut Q)(hd:ops.toList.all (fun o=> !qn o.op)=true):∀(il:List Nat) (a:Act) (w:World),wpOps P ops Q il a w→wpOpsIn (mU l) n P ops Q il a w
 | [],a,w,h=>h
 |i::rest,a,w,h=>by
  unfold wpOps at h
  unfold wpOpsIn
  cases ho:ops[i]? with
  |none=>simp only[ho]at h ⊢;exact mO hQ hd rest a w h
  |some o=>
   simp only[ho]at h ⊢
   have hod:qn o.op=false:=by
    have h1:=List.all_eq_true.1 hd o (by obtain⟨hi,he⟩:=Array.getElem?_eq_some_iff.1 ho;rw[←he];exact Array.getElem_mem_toList ..)
    simpa using h1
   split
   ·rename_i hw
    rw[if_pos hw]at h
    rcases h with h|⟨_,h⟩
    ·exact Fy h hod (fun a w h=>mO hQ hd rest a w h)
    ·exact absurd h hQ
   ·rename_i hw
    rw[if_neg hw]at h
    exact⟨fun _ _=>trivial,mO hQ hd rest _ w h⟩
end
def u0(l n:Nat)(P:Program)(Q:Exit→Act→World→Prop)(N:Nat)(D:List Deferred)(c:Code)(ρ:Env)(b:cw)(X S:List bg):Prop:=
 ¬LetsOut Q→∀w,Mem b X S w→∀a,Ag N D ρ a→c.wpIn (mU l) n P Q a w
section
variable{P:Program}{Q:Exit→Act→World→Prop}{N:Nat}{D:List Deferred}{ρ ρ' :Env}{b:cw}{X X' X1 Xr S S' S1:List bg}{c c' :Code}{l n:Nat}{ops:Array Oper}
theorem rR{K:Act→World→Prop}:LetsOut (Exit.then K Q)→LetsOut Q:=fun⟨a,w,h⟩=>⟨a,w,h⟩
theorem pT{id:Nat}:LetsOut (Exit.inBlock id Q)→LetsOut Q:=fun⟨a,w,h⟩=>⟨a,w,h⟩
theorem lu:LetsOut (eL Q)→LetsOut Q:=fun⟨a,w,h⟩=>⟨a,w,by first|exact h|exact h.elim⟩
theorem nF(h:u0 l n P (Exit.then (fun a w=>¬LetsOut Q→c'.wpIn (mU l) n P Q a w) Q) N D c ρ b X S):u0 l n P Q N D (.seq c c') ρ b X S:=fun hQ w m a ha=>
 wpIn_seq (wpIn_mono (h (fun k=>hQ (rR k)) w m a ha) (fun e a w q=>by cases e <;> first|exact q hQ|exact q))
theorem qd{id:Nat}{il:List Oper}(h:HL P il.toArray Q N D il ρ b X S)(hd:il.all (fun o=> !qn o.op)=true:=by rfl):u0 l n P Q N D (.region id il.toArray false) ρ b X S:=fun hQ w m a ha=>by
 refine wpIn_region (mO hQ (by simpa using hd) _ _ _ ?_)
 have h1:=h w m a ha
 rw[List.range_eq_range',←Array.length_toList,wpOps_eq_wpList il.toArray.toList 0 (by simp)]
 simpa using h1
theorem oe(h:HQ Q N D .normal ρ b X S):u0 l n P Q N D .skip ρ b X S:=fun hQ w m a ha=>wpIn_skip (h w m a ha)
theorem zA{id:Nat}(h:HQ Q N D (.exit id) ρ b X S):u0 l n P Q N D (.exit id) ρ b X S:=fun hQ w m a ha=>wpIn_exit (h w m a ha)
theorem vZ{id:Nat}(h:u0 l n P (Exit.inBlock id Q) N D c ρ b X S):u0 l n P Q N D (.block id c) ρ b X S:=fun hQ w m a ha=>wpIn_block (h (fun k=>hQ (pT k)) w m a ha)
theorem Bv{p:Prop}[Decidable p]{x:Operand}(hc:ev ρ x=some (.bool (decide p)))(ht:p→u0 l n P Q N D c ρ b X S)(he:¬p→u0 l n P Q N D c' ρ b X S):u0 l n P Q N D (.cond x c c') ρ b X S:=
 fun hQ w m a ha=>wpIn_cond_split (ha.eval hc) (fun h=>ht (of_decide_eq_true h) hQ w m a ha) (fun h=>he (of_decide_eq_false h) hQ w m a ha)
theorem kv(h:u0 l n P Q N D c ρ b X S):HQ (Exit.then (fun a w=>¬LetsOut Q→c.wpIn (mU l) n P Q a w) Q) N D .normal ρ b X S:=fun w m a ha hQ=>h hQ w m a ha
theorem CJ{id:Nat}{il:List (Option Nat×Oper)}(Xs:List Nat)(L:List (Nat×Option Nat))(hm:P.follows .mixedOrders=true)(hk:(Region.noSelect ops && en ops Xs L (Array.replicate ops.size false) && decide (L.length≤ops.size))=true)
  (hp:gY ops L=some il) (cc:Nat) (h:HT P ops (eL Q) (TT b X S cc) N D 0 il ρ b X S) (hd:ops.toList.all (fun o=> !qn o.op)=true:=by rfl):u0 l n P Q N D (.region id ops true) ρ b X S:=fun hQ w m a ha=>by
 simp only[Bool.and_eq_true,decide_eq_true_eq]at hk
 refine wpIn_mono (Q:=eL Q) ?_ (fun e a w q=>by cases e <;> first|exact q|exact q.elim)
 refine wpIn_region_draw fun t=>mO (fun k=>hQ (lu k)) hd _ _ _ ?_
 simp only[Region.schedule,hm,Bool.true_or,if_true]
 refine wpAny_sound ops.size t _ a _ ?_
 refine eG _ _ _ _ (fP (X:=Xs) hk.1.1 (fun c a d v w q=>q.elim) L il _ a _ _ 0 hp hk.1.2 hk.2 ?_ ?_ (T:=TT b X S cc) (fun _=>m.lift (Fr.drew w)) (h _ (m.lift (Fr.drew w)) a ha))
 ·intro j hj
  simp[Array.getElem?_replicate]at hj
  split at hj <;> cases hj
 ·unfold iB
  rw[List.countP_eq_zero]
  intro x _
  simp[Array.getElem?_replicate]
  split <;> rfl
theorem zZ{id:Nat}{il:List (Option Nat×Oper)}(is js:List Nat)(hX:bR is X=some (X1,Xr))(hS:dM js S=some S1)(Xs:List Nat)(L:List (Nat×Option Nat))(hm:P.follows .mixedOrders=true)(hk:(Region.noSelect ops && en ops Xs L (Array.replicate ops.size false) && decide (L.length≤ops.size))=true)
  (hp:gY ops L=some il) (cc:Nat) (h:HT P ops (eL Q) (TT b X1 S1 cc) N D 0 il ρ b X S) (hd:ops.toList.all (fun o=> !qn o.op)=true:=by rfl):u0 l n P Q N D (.region id ops true) ρ b X S:=fun hQ w m a ha=>by
 simp only[Bool.and_eq_true,decide_eq_true_eq]at hk
 refine wpIn_mono (Q:=eL Q) ?_ (fun e a w q=>by cases e <;> first|exact q|exact q.elim)
 refine wpIn_region_draw fun t=>mO (fun k=>hQ (lu k)) hd _ _ _ ?_
 simp only[Region.schedule,hm,Bool.true_or,if_true]
 refine wpAny_sound ops.size t _ a _ ?_
 refine eG _ _ _ _ (fP (X:=Xs) hk.1.1 (fun c a d v w q=>q.elim) L il _ a _ _ 0 hp hk.1.2 hk.2 ?_ ?_ (T:=TT b X1 S1 cc) (fun _=>(wk is js hX hS).mem (m.lift (Fr.drew w))) (h _ (m.lift (Fr.drew w)) a ha))
 ·intro j hj
  simp[Array.getElem?_replicate]at hj
  split at hj <;> cases hj
 ·unfold iB
  rw[List.countP_eq_zero]
  intro x _
  simp[Array.getElem?_replicate]
  split <;> rfl
end
end Go.Eng
end
