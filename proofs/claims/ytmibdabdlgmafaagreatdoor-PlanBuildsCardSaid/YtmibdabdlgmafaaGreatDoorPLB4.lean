/- Part. -/
import Derived.Test.YtmibdabdlgmafaaGreatDoorPLB3
import Derived.ScopeJumps
import Derived.Shelf.Sort.Plain
import Derived.Test.YtmibdabdlgmafaaGreatDoorProg
import Derived.Sort.OwnSorted
set_option linter.all false
section
namespace Go.Eng
open Go.RowKit
theorem rY{P:Program}{Q:Exit→Act→World→Prop}{ι:Type}{c rest:Code}(l:Nat)(J:ι→Act→World→Prop)(μ:ι→Nat)(hf:findLabel c l=some rest){a:Act}{w:World}
  (first:c.wp P (Exit.jump l (fun a w=>∃j,J j a w) Q) a w)
  (pass:∀i a w,J i a w→rest.wp P (Exit.jump l (fun a' w' =>∃j,J j a' w' ∧μ j<μ i) Q) a w):(Code.scope c).wp P Q a w:=by
 intro b k cs
 have hg:gotoIn l (.inScope c::k)=some (.code rest:: .inScope c::k):=by simp[gotoIn,hf]
 have key:∀n i a w,μ i=n→J i a w→∃e a' w',Q e a' w' ∧Arrives P (lone (b.at a (.code rest:: .inScope c::k)) cs w) b k cs e a' w' :=by
  intro n
  induction n using Nat.strongRecOn with
  |_ n ih=>
   intro i a w hn hJ
   obtain⟨e,a₁,w₁,hq,harr⟩:=pass i a w hJ b (.inScope c::k) cs
   cases e with
   |normal=>exact⟨.normal,a₁,w₁,hq,Steps.trans harr (.one step_inScope)⟩
   |exit id=>exact⟨.exit id,a₁,w₁,hq,fun k' hk=>harr k' (by simp[exitTo,hk])⟩
   |goto l' =>
    obtain⟨rfl,j,hJ',hlt⟩:=hq
    obtain⟨e₂,a₂,w₂,hq₂,harr₂⟩:=ih _ (by omega) j a₁ w₁ rfl hJ'
    exact⟨e₂,a₂,w₂,hq₂,.of_steps (harr _ hg) harr₂⟩
   |ret=>exact⟨_,a₁,w₁,hq,harr⟩
   |panic ch=>exact⟨_,a₁,w₁,hq,harr⟩
   |outgrown=>exact⟨_,a₁,w₁,hq,harr⟩
 obtain⟨e,a₁,w₁,hq,harr⟩:=first b (.inScope c::k) cs
 cases e with
 |normal=>exact⟨.normal,a₁,w₁,hq,.head step_scope (Steps.trans harr (.one step_inScope))⟩
 |exit id=>exact⟨.exit id,a₁,w₁,hq,fun k' hk=>.head step_scope (harr k' (by simp[exitTo,hk]))⟩
 |goto l' =>
  obtain⟨rfl,j,hJ'⟩:=hq
  obtain⟨e₂,a₂,w₂,hq₂,harr₂⟩:=key _ j a₁ w₁ rfl hJ'
  exact⟨e₂,a₂,w₂,hq₂,.of_steps (.head step_scope (harr _ hg)) harr₂⟩
 |ret=>exact⟨_,a₁,w₁,hq,.of_steps (.one step_scope) harr⟩
 |panic ch=>exact⟨_,a₁,w₁,hq,.of_steps (.one step_scope) harr⟩
 |outgrown=>exact⟨_,a₁,w₁,hq,.of_steps (.one step_scope) harr⟩
section
variable{P:Program}{Q:Exit→Act→World→Prop}{N:Nat}{D:List Deferred}{ρ:Env}{b:cg}{X S:List bg}{c:Code}
theorem DU{ι:Type}{l:Nat}{rest:Code}(μ:ι→Nat)(R:ι→Env)(X1 S1:ι→List bg)(I:ι→Prop)(ρk:Env)(Xr Sr:List bg)(hf:findLabel c l=some rest)
  (first:HC P (Exit.jump l (fun a' w' =>∃j,Ag N D (R j++ρk) a' ∧Mem b (X1 j++Xr) (S1 j++Sr) w' ∧I j) Q) N D c ρ b X S)
  (pass:∀i,I i→HC P (Exit.jump l (fun a' w' =>∃j,Ag N D (R j++ρk) a' ∧Mem b (X1 j++Xr) (S1 j++Sr) w' ∧I j∧μ j<μ i) Q) N D rest (R i++ρk) b (X1 i++Xr) (S1 i++Sr)):HC P Q N D (.scope c) ρ b X S:=fun w m a ha=>
 rY l (fun j a' w' =>Ag N D (R j++ρk) a' ∧Mem b (X1 j++Xr) (S1 j++Sr) w' ∧I j) μ hf (first w m a ha)
  (fun i a' w' h=>Code.wp_mono (fun e a' w' q=>by
   cases e <;> first|exact q|(obtain⟨h0,j,h1,h2,h3,h4⟩:=q;exact⟨h0,j,⟨h1,h2,h3⟩,h4⟩)) (pass i h.2.2 w' h.2.1 a' h.1))
theorem yE{l:Nat}(h:HQ Q N D (.goto l) ρ b X S):HC P Q N D (.goto l) ρ b X S:=fun w m a ha=>wp_goto (h w m a ha)
theorem uy{K:Act→World→Prop}{l:Nat}(h:HQ Q N D (.goto l) ρ b X S):HQ (Exit.then K Q) N D (.goto l) ρ b X S:=h
theorem xH{l:Nat}{J:Act→World→Prop}(h:HQ Q N D .ret ρ b X S):HQ (Exit.jump l J Q) N D .ret ρ b X S:=h
theorem Em{l:Nat}{J:Act→World→Prop}{r:Code}(h:HQ (Exit.jump l J Q) N D (.goto l) ρ b X S)(k:∀a w,J a w→r.wp P (Exit.jump l J Q) a w):HC P (Exit.jump l J Q) N D (.seq (.label l) r) ρ b X S:=fun w m a ha=>wp_seq (wp_label (k a w (h w m a ha).2))
theorem BP{α:Type}{l:Nat}{rest:Code}(μ:α→Nat)(R:α→Env)(X1 S1:α→List bg)(I:α→Prop)(ρk:Env)(Xr Sr:List bg)(hf:findLabel c l=some rest)
  (first:HC P (Exit.jump l (fun a' w' =>∃x,Ag N D (R x++ρk) a' ∧Mem b (X1 x++Xr) (S1 x++Sr) w' ∧I x) Q) N D c ρ b X S)
  (pass:∀a,I a→HC P (Exit.jump l (fun a' w' =>∃x,Ag N D (R x++ρk) a' ∧Mem b (X1 x++Xr) (S1 x++Sr) w' ∧I x∧μ x<μ a) Q) N D rest (R a++ρk) b (X1 a++Xr) (S1 a++Sr)):HC P Q N D (.scope c) ρ b X S:=
 DU (ι:=α) (fun i=>μ i) (fun i=>R i) (fun i=>X1 i) (fun i=>S1 i) (fun i=>I i) ρk Xr Sr hf
  (fun w m a ha=>Code.wp_mono (fun e a' w' q=>by
   cases e <;> first|exact q|(obtain⟨h0,x,h⟩:=q;exact⟨h0,x,h⟩)) (first w m a ha))
  (fun i hi w m a ha=>Code.wp_mono (fun e a' w' q=>by
   cases e <;> first|exact q|(obtain⟨h0,x,h⟩:=q;exact⟨h0,x,h⟩)) (pass i hi w m a ha))
theorem zQ{α:Type}{l:Nat}{r:Code}(μ:α→Nat)(R:α→Env)(X1 S1:α→List bg)(I:α→Prop)(ρk:Env)(hk:eb ρk ρ)(is:List Nat){Xt Xr:List bg}(hX:bN is X=some (Xt,Xr))(hf:findLabel c l=some (.seq .skip r))
  (pass:∀a,I a→HC P (Exit.jump l (fun a' w' =>∃x,Ag N D (R x++ρk) a' ∧Mem b (X1 x++Xr) (S1 x++S) w' ∧I x∧μ x<μ a) Q) N D r (R a++ρk) b (X1 a++Xr) (S1 a++S))
  (first:(∀a w,(∃x,Ag N D (R x++ρk) a∧Mem b (X1 x++Xr) (S1 x++S) w∧I x)→r.wp P (Exit.jump l (fun a' w' =>∃x,Ag N D (R x++ρk) a' ∧Mem b (X1 x++Xr) (S1 x++S) w' ∧I x) Q) a w)→
   HC P (Exit.jump l (fun a' w' =>∃x,Ag N D (R x++ρk) a' ∧Mem b (X1 x++Xr) (S1 x++S) w' ∧I x) Q) N D c ρ b X S):HC P Q N D (.scope c) ρ b X S:=
 BP (l:=l) (rest:=.seq .skip r) μ R X1 S1 I ρk Xr S hf
  (first fun a w h=>by
   obtain⟨x,h1,h2,h3⟩:=h
   exact Code.wp_mono (fun e a' w' q=>by
    cases e <;> first|exact q|(obtain⟨h0,x_,g1,g2,g3,g4⟩:=q;exact⟨h0,x_,g1,g2,g3⟩)) (pass x h3 w h2 a h1))
  (fun a h=>fun w m a9 ha=>wp_seq (wp_skip (pass a h w m a9 ha)))
theorem zF{α:Type}{l M:Nat}{μ:α→Nat}{R:α→Env}{X1 S1:α→List bg}{Xr Sr:List bg}{ρ0:Env}{I:α→Prop}(x:α)(hs:eb (R x++ρ0) ρ)(is:List Nat){Xz:List bg}(hX:bN is X=some (X1 x++Xr,Xz))(js:List Nat)(hS:dh js S=some (S1 x++Sr))(hI:I x)(hlt:μ x<M):
  HQ (Exit.jump l (fun a' w' =>∃x,Ag N D (R x++ρ0) a' ∧Mem b (X1 x++Xr) (S1 x++Sr) w' ∧I x∧μ x<M) Q) N D (.goto l) ρ b X S:=
 fun w m a ha=>⟨rfl,x,ha.sub hs.sub,((m.perm (ao _ _ _ _ hX)).jw).iT (cb _ _ _ hS),hI,hlt⟩
theorem E1{α:Type}{l:Nat}{R:α→Env}{X1 S1:α→List bg}{Xr Sr:List bg}{ρ0:Env}{I:α→Prop}(x:α)(hs:eb (R x++ρ0) ρ)(is:List Nat){Xz:List bg}(hX:bN is X=some (X1 x++Xr,Xz))(js:List Nat)(hS:dh js S=some (S1 x++Sr))(hI:I x):
  HQ (Exit.jump l (fun a' w' =>∃x,Ag N D (R x++ρ0) a' ∧Mem b (X1 x++Xr) (S1 x++Sr) w' ∧I x) Q) N D (.goto l) ρ b X S:=
 fun w m a ha=>⟨rfl,x,ha.sub hs.sub,((m.perm (ao _ _ _ _ hX)).jw).iT (cb _ _ _ hS),hI⟩
end
end Go.Eng
end
section
set_option maxRecDepth 20000
set_option maxHeartbeats 2000000
namespace Go.Proofs.YtmibdabdlgmafaaGreatDoor
open Go.Eng Go.Hx
theorem FG{g0 g1:Nat}{A1 A2:Option Addr}{c1 c2:Nat}{own out:List UInt8}(hlen:out.length+2*own.length≤4000000000):cf Tryz.prog 230 [.pointer (some ⟨g0,0,none⟩),.pointer (some ⟨g1,0,none⟩)] [aE g0 27 [.slice A1 own.length c1],aI 5 1 (.slice A1 own.length c1) own.length (aT own),aE g1 27 [.slice A2 out.length c2],aI 5 1 (.slice A2 out.length c2) out.length (aT out)] [] (fun v_ X_ S_=>∃A3 A4 c3 c4,v_=(.tuple #[])∧X_=[aE g0 27 [.slice A3 0 c3],aI 5 1 (.slice A3 0 c3) 0 [],aE g1 27 [.slice A4 (out++eQ own).length c4],aI 5 1 (.slice A4 (out++eQ own).length c4) (out++eQ own).length (aT (out++eQ own))]∧S_=[]):=by
 obtain⟨o0,ho0⟩:∃o0,o0=out++eQ own:=⟨_,rfl⟩
 rw[←ho0]
 refine aK (N:=22) Tryz.func230 rfl rfl (by simp) fun b=> ?_
 refine aM<| ?_
 refine u6 (fun own out A1 c1 A2 c2=>own.length) (fun own out A1 c1 A2 c2=>[]) (fun own out A1 c1 A2 c2=>[aE g0 27 [.slice A1 own.length c1],aI 5 1 (.slice A1 own.length c1) own.length (aT own),aE g1 27 [.slice A2 out.length c2],aI 5 1 (.slice A2 out.length c2) out.length (aT out)]) (fun own out A1 c1 A2 c2=>[]) (fun own out A1 c1 A2 c2=>out.length+2*own.length≤4000000000∧out++eQ own=o0) own out A1 c1 A2 c2 [(0,_),(1,_)] ⟨rfl,rfl,trivial⟩ [0,0,0,0] rfl [] rfl (⟨hlen,ho0.symm⟩) trivial (fun own out A1 c1 A2 c2 ⟨hlen,hE⟩=> ?_)
 refine ae<|ae<|ah<|hy (fun m=>ak rfl di (ar (m.aN 0 rfl) rfl))<|hy (fun _=>a6 rfl Tryz.underlying27)<|hy (fun _=>cw rfl rfl)<|ag<|az [5,0,1] rfl<|aa<| ?_
 refine cu rfl (fun h0=> ?_) (fun h0=> ?_)
 ·have hne:own≠ []:=fun e=>by rw[e]at h0;exact absurd h0 (by decide)
  rw[mS hne]at hE
  obtain⟨k,hk⟩:∃k,k=min own.length 128:=⟨_,rfl⟩
  have hk1:1≤k∧k≤128∧k≤own.length:=by omega
  rw[←hk]at hE
  have htk:own.take 128=own.take k:=by
   rcases Nat.lt_or_ge own.length 128 with h|h
   ·rw[List.take_of_length_le (by omega),List.take_of_length_le (by omega)]
   ·rw[show k=128 by omega]
  have hdk:own.drop 128=own.drop k:=by
   rcases Nat.lt_or_ge own.length 128 with h|h
   ·rw[List.drop_of_length_le (by omega),List.drop_of_length_le (by omega)]
   ·rw[show k=128 by omega]
  rw[htk,hdk]at hE
  refine aQ (fun m=>(Own.rd (m.own 1 rfl)).2.1) fun hc1=> ?_
  refine aB<|aa<|aM<|ae<|ah<|hy (fun m=>ak rfl di (ar (m.aN 0 rfl) rfl))<|hy (fun _=>a6 rfl Tryz.underlying27)<|hy (fun _=>yV (wm rfl rfl) ((show Value.int .i64 _= .int .i64 (k:Nat) by congr 1;omega)))<|aG rfl<|ag<|az [2,5,0,1] rfl<|aa<|ae<|kD [0,0,0] [] rfl rfl [4,5,9,10] [(0,some 1),(1,some 3),(2,some 0),(3,some 0),(6,some 2),(7,some 2),(8,some 2),(4,none),(5,none),(9,none),(10,none)] (by kernel_rfl) (by kernel_rfl) rfl 3<|bV (fun m=>ak rfl di (ar (m.aN 2 rfl) rfl))<|aj (ai rfl)<|aj (yV (ct rfl rfl (bE (by omega) (by omega))) ((show Value.int .i64 ((k:Int)-1)= .int .i64 ((k-1:Nat):Int) by congr 1;omega)))<|aj (yV (b8 rfl Tryz.underlying3 Tryz.underlying5 (iM (k-1))) ((show Value.int .u8 _=B8 (UInt8.ofNat (k-1))from rfl)))<|bV (fun m=>ak rfl di (ar (m.aN 0 rfl) rfl))<|aj (ai rfl)<|aj (mT rfl rfl Tryz.underlying27 dJ rfl (by omega))<| ?_
  refine dk (b5 Tryz.underlying27 fh rfl rfl rfl (by simp[Value.cells,B8]) (by decide) (by decide) (fun g13=>⟨(fun _=>wk [1,1,1] [] rfl rfl), ?_⟩))
  have hA_b13:0<1→(some (⟨g13,0,none⟩:Addr))≠none:=fun _ h=>by cases h
  refine dk (bC 4 rfl rfl rfl Tryz.underlying27 Tryz.underlying27 (by exact .inl rfl) fh rfl (fun m=>Src.b9 (m.ord 0 rfl)) (bl (l:=[UInt8.ofNat (k-1)])) (by unfold maxLen;omega) (by omega) (fun u=>⟨(fun _=>wk [2,2,2] [] rfl rfl), ?_⟩))
  refine bU (fun m=>(m.own 0 rfl).slice) ?_
  rintro⟨A_y,c_y,rfl,hc_y⟩
  refine bU (fun m=>(m.ord 0 rfl).2.1) fun hA_y=> ?_
  refine dk (bC 0 rfl rfl rfl Tryz.underlying27 Tryz.underlying27 (by exact .inl rfl) fh rfl (fun m=>Src.b9 (Rd.CX (m.ord 3 rfl) hk1.2.2)) bl (by unfold maxLen;omega) (by omega) (fun u2=>⟨(fun _=>wk [2,2,2] [] rfl rfl), ?_⟩))
  refine bU (fun m=>(m.own 0 rfl).slice) ?_
  rintro⟨A_y2,c_y2,rfl,hc_y⟩
  refine bU (fun m=>(m.ord 0 rfl).2.1) fun hA_y=> ?_
  refine gi (dw 4 rfl rfl rfl je rfl (by first|exact Nat.le_of_ble_eq_true rfl|simp) ⟨(fun h=>absurd h (by decide)), ?_⟩)
  refine bp<|az [2,5,0,1] rfl<|aY rfl rfl<|aa<|ah<|hy (fun m=>ak rfl di (ar (m.aN 3 rfl) rfl))<|au rfl<|hy (fun _=>ef rfl rfl Tryz.underlying27 dJ rfl (by omega))<| ?_
  refine cF (dw 3 rfl rfl rfl je rfl (by first|exact Nat.le_of_ble_eq_true rfl|simp) ?_)
  refine ag<|az [2,5,0,1] rfl<|aY rfl rfl<|aW<| ?_
  refine bd (X' :=aI 5 1 (.slice (if c1=k then A1 else A1.map (·.add (k*1))) (own.length-k) (c1-k)) (own.length-k) ((aT own).drop (k*1))::_) (fun w m=>(m.perm (ao [4] _ [_] _ rfl)).Aq (View.rM hk1.2.2 hc1)) ?_
  have hdl:own.length-k=(own.drop k).length:=by rw[List.length_drop]
  have hol:out.length+1+k=(out++(UInt8.ofNat (k-1)::own.take k)).length:=by simp;omega
  rw[hdl,hol]
  refine bd (fun w m=>m.bw 0 rfl (show _=aI 5 1 (.slice (if c1=k then A1 else A1.map (·.add (k*1))) (own.drop k).length (c1-k)) (own.drop k).length (aT (own.drop k))from congrArg (aI _ _ _ _) (by rw[Nat.mul_one,pQ]))) ?_
  refine bd (fun w m=>m.bw 3 rfl (show _=aI 5 1 (.slice A_y2 (out++(UInt8.ofNat (k-1)::own.take k)).length c_y2) (out++(UInt8.ofNat (k-1)::own.take k)).length (aT (out++(UInt8.ofNat (k-1)::own.take k)))from congrArg (aI _ _ _ _) (show aT out++aT [UInt8.ofNat (k-1)]++aT (own.take k)=_ by rw[←bR,←bR,List.append_assoc];rfl))) ?_
  refine jT (own.drop k) (out++(UInt8.ofNat (k-1)::own.take k)) _ _ _ _ ⟨rfl,rfl,trivial⟩ [2,1,1,0] rfl [] rfl (⟨by rw[←hdl,←hol];omega,by rw[←hE];simp⟩) (by rw[←hdl];omega)
 ·have hne:own=[]:=List.eq_nil_of_length_eq_zero (by omega)
  rw[hne,o4,List.append_nil]at hE
  subst hne
  subst hE
  refine bH<|al<|al<|aD<| ?_
  exact fA trivial rfl [0,0,0,0] rfl [] rfl ⟨_,_,_,_,rfl,rfl,rfl⟩
structure Bi where
 g:Nat
 gm:Nat
 g4:Nat
 g5:Nat
 i:Nat
 p:Nat
 c1:Nat
 c2:Nat
 A1:Option Addr
 A2:Option Addr
 own:List UInt8
 out:List UInt8
 es:u0
theorem F4{A:Option Addr}{n c:Nat}{l:List UInt8}(hc:n≤c)(hn:n≤500000000)(hl:l.length=n):cf Tryz.prog 178 [.slice A n c] [] [cz 1 A n (aT l)] (fun v_ X_ S_=>∃v,v_=v∧X_=[aI 5 1 v (eF l).length (aT (eF l))]∧S_=[]):=by
 refine aK (N:=56) Tryz.func178 rfl rfl (by simp) fun b=> ?_
 refine aQ (fun m=>ek (m.rd 0 rfl)) ?_
 rintro⟨hl_r,hA_r⟩
 refine ae<|ah<|aG rfl<|ag<|aa<| ?_
 refine zQ (l:=0) (fun(t:Bi)=>n-t.i) (fun(t:Bi)=>[(7,.int .i64 (t.i:Nat)),(3,.pointer (some ⟨t.g,0,none⟩)),(4,.pointer (some ⟨t.g4,0,none⟩)),(5,.pointer (some ⟨t.g5,0,none⟩)),(6,.func (.func 230) #[] #[.pointer (some ⟨t.g5,0,none⟩),.pointer (some ⟨t.g4,0,none⟩)])]) (fun(t:Bi)=>[nL t.g t.gm A n c t.p t.es,aE t.g5 27 [.slice t.A1 t.own.length t.c1],aI 5 1 (.slice t.A1 t.own.length t.c1) t.own.length (aT t.own),aE t.g4 27 [.slice t.A2 t.out.length t.c2],aI 5 1 (.slice t.A2 t.out.length t.c2) t.out.length (aT t.out)]) (fun(t:Bi)=>[]) (fun(t:Bi)=>t.i≤n∧t.p≤t.i∧x6 l t.p t.es∧t.out.length+2*t.own.length≤2*t.i∧gO l t.i t.own t.out=eF l) [(0,_)] ⟨rfl,trivial⟩ [] rfl rfl (fun t ⟨hin,hpi,hF,hlen,hE⟩=> ?_) (fun hfall_=> ?_)
 ·obtain⟨g,gm,g4,g5,i,p,c1,c2,A1,A2,own,out,es⟩:=t
  dsimp only at hin hpi hF hlen hE ⊢
  refine ae<|ae<|ah<|au rfl<|au rfl<|hy (fun _=>a6 rfl Tryz.underlying27)<|hy (fun _=>cD rfl rfl)<|ag<|az [16,7,3,4,5,6,0] rfl<|aa<| ?_
  refine ES rfl (fun hfin=> ?_) (fun hfin=> ?_)
  ·have hi:i=n:=by have:=of_decide_eq_true hfin;omega
   rw[nE (by omega)]at hE
   refine ae<|ah<|au rfl<| ?_
   refine hx (eG rfl rfl Tryz.call230 (FG (by omega)) [1,1,1,1] rfl [] rfl ?_)
   rintro _ _ _ ⟨A3,A4,c3,c4,rfl,rfl,rfl⟩
   rw[hE]
   refine ag<|az [16,7,3,4,5,6,0] rfl<|aY rfl rfl<|aa<|ae<|ah<|hy (fun m=>ak rfl di (ar (m.aN 2 rfl) rfl))<|aG rfl<|ag<|az [2,16,7,3,4,5,6,0] rfl<|aa<|aR<|aq<|xH<| ?_
   exact bc trivial rfl rfl [3] rfl [] rfl ⟨_,rfl,rfl,rfl⟩
  ·have hi:i<n:=by have:=of_decide_eq_false hfin;omega
   refine aB<|aa<|ae<|ah<|au rfl<|au rfl<| ?_
   refine hx (an rfl Tryz.call231 (DX (by omega) (by omega) hl (by omega) (by omega) hF) [0] rfl [0] rfl ?_)
   rintro _ _ _ ⟨p1,es1,rfl,rfl,rfl,hp⟩
   obtain⟨hp1,hF1⟩:=hp
   refine au rfl<|hy (fun _=>aF rfl rfl)<|hy (fun _=>aF rfl rfl)<|aG rfl<|aG rfl<|ag<|az [9,8,16,7,3,4,5,6,0] rfl<|aY rfl rfl<|aa<|ae<|ae<|ah<|au rfl<|hy (fun _=>cD rfl rfl)<|ag<|az [27,9,8,16,7,3,4,5,6,0] rfl<|aa<| ?_
   refine cu rfl (fun h0=> ?_) (fun h0=> ?_)
   ·rw[nz (by omega) (by omega)]at hE
    refine ae<|kD [0,0,1,1] [0] rfl rfl [5,6,7] [(0,some 1),(1,some 0),(2,some 0),(3,some 0),(4,some 0),(5,none),(6,none),(7,none)] (by kernel_rfl) (by kernel_rfl) rfl 2<|bV (fun m=>ak rfl di (ar (m.aN 1 rfl) rfl))<|aj (ai rfl)<|aj (ai rfl)<|aj (aS rfl rfl Tryz.underlying27 dJ hA_r rfl (by omega))<|bV (fun m=>ak rfl iV ((m.rd 0 rfl).cell (bO (by omega))))<| ?_
    refine dk (b5 Tryz.underlying27 fh rfl rfl rfl (by simp[Value.cells,B8]) (by decide) (by decide) (fun g33=>⟨(fun _=>wk [1,1,2,2] [0] rfl rfl), ?_⟩))
    have hA_b33:0<1→(some (⟨g33,0,none⟩:Addr))≠none:=fun _ h=>by cases h
    refine dU (fun w m=>m.bw 0 rfl (show _=aI 5 1 (.slice (some ⟨g33,0,none⟩) 1 1) 1 (aT [l.getD i 0])from rfl)) ?_
    refine dk (bC 3 rfl rfl rfl Tryz.underlying27 Tryz.underlying27 (by exact .inl rfl) fh rfl (fun m=>Src.b9 (m.ord 0 rfl)) bl (by unfold maxLen;omega) (by omega) (fun u=>⟨(fun _=>wk [2,2,2,2] [0] rfl rfl), ?_⟩))
    refine bU (fun m=>(m.own 0 rfl).slice) ?_
    rintro⟨A_x,c_x,rfl,hc_x⟩
    refine bU (fun m=>(m.ord 0 rfl).2.1) fun hA_x=> ?_
    refine gi (dw 3 rfl rfl rfl je rfl (by first|exact Nat.le_of_ble_eq_true rfl|simp) ⟨(fun h=>absurd h (by decide)), ?_⟩)
    refine bp<|az [27,9,8,16,7,3,4,5,6,0] rfl<|aY rfl rfl<|aa<|ae<|ah<|au rfl<|hy (fun _=>aO rfl rfl (bE (by omega) (by omega)))<|aG rfl<|ag<|az [7,27,9,8,16,3,4,5,6,0] rfl<|aa<|yE<|uy<| ?_
    have hol:own.length+1=(own++[l.getD i 0]).length:=by simp
    rw[hol]
    refine bd (fun w m=>m.bw 1 rfl (show _=aI 5 1 (.slice A_x (own++[l.getD i 0]).length c_x) (own++[l.getD i 0]).length (aT (own++[l.getD i 0]))from congrArg (aI _ _ _ _) (bR _ _).symm)) ?_
    exact zF (⟨g,gm,g4,g5,i+1,p1,c_x,c2,A_x,A2,own++[l.getD i 0],out,es1⟩) ⟨rfl,rfl,rfl,rfl,rfl,rfl,trivial⟩ [3,1,0,1,1] rfl [0] rfl (⟨hi,Nat.le_succ_of_le hp1,hF1,by show out.length+2*(own++[l.getD i 0]).length≤2*(i+1);rw[←hol];omega,hE⟩) (by show n-(i+1)<n-i;omega)
   ·have hm:=mZ (b:=l) (i:=i) (by omega)
    rw[ke (by omega) (by omega)]at hE
    obtain⟨m1,m2,m3,m4,m5,m6⟩:=hm.resolve_left (fun e=>h0 (by rw[e];rfl))
    refine aB<|aa<|ae<|ah<|au rfl<| ?_
    refine hx (eG rfl rfl Tryz.call230 (FG (by omega)) [1,1,1,1] rfl [] rfl ?_)
    rintro _ _ _ ⟨A3,A4,c3,c4,rfl,rfl,rfl⟩
    refine ag<|az [27,9,8,16,7,3,4,5,6,0] rfl<|aY rfl rfl<|aa<|ae<|ah<|hy (fun m=>ak rfl di (ar (m.aN 2 rfl) rfl))<|au rfl<|hy (fun _=>aO rfl rfl (bE (by omega) (by omega)))<|hy (fun _=>yV (ct rfl rfl (bE (by omega) (by omega))) ((show Value.int .i64 (128+((bf l i).1:Int)-4)= .int .i64 ((124+(bf l i).1:Nat):Int) by congr 1;omega)))<|hy (fun _=>yV (b8 rfl Tryz.underlying3 Tryz.underlying5 (iM _)) ((show Value.int .u8 _=B8 (UInt8.ofNat (124+(bf l i).1))from rfl)))<|au rfl<|hy (fun _=>yV (ct rfl rfl (bE (by omega) (by omega))) ((show Value.int .i64 (((bf l i).2:Int)-1)= .int .i64 (((bf l i).2-1:Nat):Int) by congr 1;omega)))<|hy (fun _=>yV (b8 rfl Tryz.underlying3 Tryz.underlying5 (iM _)) ((show Value.int .u8 _=B8 (UInt8.ofNat ((bf l i).2-1))from rfl)))<|au rfl<|hy (fun _=>yV (ct rfl rfl (bE (by omega) (by omega))) ((show Value.int .i64 (((bf l i).2:Int)-1)= .int .i64 (((bf l i).2-1:Nat):Int) by congr 1;omega)))<|hy (fun _=>yV (mE (p:=256) rfl rfl (by decide) (by decide) (by decide)) ((show Value.int .i64 ((((bf l i).2-1:Nat):Int)/256)= .int .i64 ((((bf l i).2-1)/256:Nat):Int) by congr 1)))<|hy (fun _=>yV (b8 rfl Tryz.underlying3 Tryz.underlying5 (iM _)) ((show Value.int .u8 _=B8 (UInt8.ofNat (((bf l i).2-1)/256))from rfl)))<| ?_
    refine hx (b5 Tryz.underlying27 fh rfl rfl rfl (by simp[Value.cells,B8]) (by decide) (by decide) (fun g51=> ?_))
    have hA_b51:0<3→(some (⟨g51,0,none⟩:Addr))≠none:=fun _ h=>by cases h
    refine aH (fun w m=>m.bw 0 rfl (show _=aI 5 1 (.slice (some ⟨g51,0,none⟩) 3 3) 3 (aT (iz (bf l i)))from rfl)) ?_
    have hll:=fq own
    have hlo:(out++eQ own).length=out.length+(eQ own).length:=by simp
    refine hx (bC 4 rfl rfl rfl Tryz.underlying27 Tryz.underlying27 (by exact .inl rfl) fh rfl (fun m=>Src.b9 (m.ord 0 rfl)) bl (by unfold maxLen;omega) (by omega) (fun u=> ?_))
    refine aC (fun m=>(m.own 0 rfl).slice) ?_
    rintro⟨A_y,c_y,rfl,hc_y⟩
    refine aC (fun m=>(m.ord 0 rfl).2.1) fun hA_y=> ?_
    refine cF (dw 4 rfl rfl rfl je rfl (by first|exact Nat.le_of_ble_eq_true rfl|simp) ?_)
    refine ag<|az [27,9,8,16,7,3,4,5,6,0] rfl<|aY rfl rfl<|aa<|ae<|ah<|au rfl<|au rfl<|hy (fun _=>yV (aO rfl rfl (bE (by omega) (by omega))) ((show Value.int .i64 ((i:Int)+((bf l i).1:Int))= .int .i64 ((i+(bf l i).1:Nat):Int) by congr 1)))<|aG rfl<|ag<|az [7,27,9,8,16,3,4,5,6,0] rfl<|aa<|yE<| ?_
    have hol:(out++eQ own).length+3=(out++eQ own++iz (bf l i)).length:=by simp[iz];omega
    rw[hol]
    refine bd (fun w m=>m.bw 1 rfl (show _=aI 5 1 (.slice A_y (out++eQ own++iz (bf l i)).length c_y) (out++eQ own++iz (bf l i)).length (aT (out++eQ own++iz (bf l i)))from congrArg (aI _ _ _ _) (bR _ _).symm)) ?_
    exact zF (⟨g,gm,g4,g5,i+(bf l i).1,p1,c3,c_y,A3,A_y,[],out++eQ own++iz (bf l i),es1⟩) ⟨rfl,rfl,rfl,rfl,rfl,rfl,trivial⟩ [5,3,3,1,0] rfl [0] rfl (⟨by show i+(bf l i).1≤n;omega,by show p1≤i+(bf l i).1;omega,hF1,by show(out++eQ own++iz (bf l i)).length+2*0≤2*(i+(bf l i).1);rw[←hol];omega,hE⟩) (by show n-(i+(bf l i).1)<n-i;omega)
 ·refine ae<|ah<|au rfl<| ?_
  refine hx (an rfl Tryz.call229 (FO) [] rfl [] rfl ?_)
  rintro _ _ _ ⟨g,gm,rfl,rfl,rfl⟩
  refine aG rfl<|ag<|az [3,2,0] rfl<|aY rfl rfl<|aa<|ae<|ah<| ?_
  refine hx (ba ku (fun g4=> ?_))
  refine hx (ba ku (fun g5=> ?_))
  refine ag<|aY rfl rfl<|aa<|ae<|ah<|hy (fun _=>fD rfl rfl)<|aG rfl<|ag<|az [6,5,4,3,2,0] rfl<|aa<|ae<|ah<|aG rfl<|ag<|aa<| ?_
  refine a8 (fun w m=>m.bw 1 rfl (show _=aE g4 27 [.slice none 0 0]from rfl)) ?_
  refine a8 (fun w m=>m.bw 1 rfl (show _=aE g5 27 [.slice none 0 0]from rfl)) ?_
  refine a8 (fun w m=>m.cL (r' :=aI 5 1 (.slice none 0 0) 0 []) (.refl _ _) (Own.nil _ _ _ _) (fun k hk=>hk.elim)) ?_
  refine a8 (fun w m=>m.cL (r' :=aI 5 1 (.slice none 0 0) 0 []) (.refl _ _) (Own.nil _ _ _ _) (fun k hk=>hk.elim)) ?_
  exact Em (E1 (R:=fun(t:Bi)=>[(7,.int .i64 (t.i:Nat)),(3,.pointer (some ⟨t.g,0,none⟩)),(4,.pointer (some ⟨t.g4,0,none⟩)),(5,.pointer (some ⟨t.g5,0,none⟩)),(6,.func (.func 230) #[] #[.pointer (some ⟨t.g5,0,none⟩),.pointer (some ⟨t.g4,0,none⟩)])]) (X1:=fun(t:Bi)=>[nL t.g t.gm A n c t.p t.es,aE t.g5 27 [.slice t.A1 t.own.length t.c1],aI 5 1 (.slice t.A1 t.own.length t.c1) t.own.length (aT t.own),aE t.g4 27 [.slice t.A2 t.out.length t.c2],aI 5 1 (.slice t.A2 t.out.length t.c2) t.out.length (aT t.out)]) (S1:=fun(t:Bi)=>[]) (I:=fun(t:Bi)=>t.i≤n∧t.p≤t.i∧x6 l t.p t.es∧t.out.length+2*t.own.length≤2*t.i∧gO l t.i t.own t.out=eF l) (⟨g,gm,g4,g5,0,0,0,0,none,none,[],[],[]⟩) ⟨rfl,rfl,rfl,rfl,rfl,rfl,trivial⟩ [4,2,1,1,0] rfl [0] rfl (⟨Nat.zero_le _,Nat.le_refl _,BC _,Nat.le_refl _,rfl⟩)) hfall_
end Go.Proofs.YtmibdabdlgmafaaGreatDoor
end
section
set_option maxRecDepth 20000
set_option maxHeartbeats 2000000
namespace Go.Proofs.YtmibdabdlgmafaaGreatDoor
open Go.Eng Go.Hx
theorem oX{A:Option Addr}{n c:Nat}{l:List UInt8}(hn:n≤70368744177664):cf Tryz.prog 180 [.slice A n c] [] [cz 1 A n (aT l)] (fun v_ X_ S_=>v_=(.int .u32 (dj l:Nat))∧X_=[]∧S_=[]):=by
 exact jn fun m=>Calls.mono (zi A n c l _ (m.rd 0 rfl) (by omega)) (fun e w' ⟨h,hf⟩=>⟨_,h,⟨rfl,rfl,rfl⟩,hf⟩)
theorem jr{k:Nat}(hk:k<4294967296):cf Tryz.prog 179 [.int .u32 (k:Nat)] [] [] (fun v_ X_ S_=>∃v,v_=v∧X_=[aI 5 1 v 4 (aT (jA k))]∧S_=[]):=by
 refine aK (N:=15) Tryz.func179 rfl rfl (by simp) fun b=> ?_
 refine ae<|ah<|aG rfl<|ag<|aa<|ae<|ah<|au rfl<|hy (fun _=>yV (b8 rfl Tryz.underlying166 Tryz.underlying5 (iM _)) ((show Value.int .u8 _=B8 (UInt8.ofNat k)from rfl)))<|au rfl<|hy (fun _=>yV (mE (p:=256) rfl rfl (by decide) (by decide) (by decide)) ((show Value.int .u32 ((k:Int)/256)= .int .u32 ((k/256:Nat):Int) by congr 1)))<|hy (fun _=>yV (b8 rfl Tryz.underlying166 Tryz.underlying5 (iM _)) ((show Value.int .u8 _=B8 (UInt8.ofNat (k/256))from rfl)))<|au rfl<|hy (fun _=>yV (mE (p:=65536) rfl rfl (by decide) (by decide) (by decide)) ((show Value.int .u32 ((k:Int)/65536)= .int .u32 ((k/65536:Nat):Int) by congr 1)))<|hy (fun _=>yV (b8 rfl Tryz.underlying166 Tryz.underlying5 (iM _)) ((show Value.int .u8 _=B8 (UInt8.ofNat (k/65536))from rfl)))<|au rfl<|hy (fun _=>yV (mE (p:=16777216) rfl rfl (by decide) (by decide) (by decide)) ((show Value.int .u32 ((k:Int)/16777216)= .int .u32 ((k/16777216:Nat):Int) by congr 1)))<|hy (fun _=>yV (b8 rfl Tryz.underlying166 Tryz.underlying5 (iM _)) ((show Value.int .u8 _=B8 (UInt8.ofNat (k/16777216))from rfl)))<| ?_
 refine hx (b5 Tryz.underlying27 fh rfl rfl rfl (by simp[Value.cells,B8]) (by decide) (by decide) (fun g14=> ?_))
 have hA_b14:0<4→(some (⟨g14,0,none⟩:Addr))≠none:=fun _ h=>by cases h
 refine aG rfl<|ag<|az [2,0] rfl<|aY rfl rfl<|aa<|aR<| ?_
 refine bd (fun w m=>m.bw 0 rfl (show _=aI 5 1 (.slice (some ⟨g14,0,none⟩) 4 4) 4 (aT (jA k))from rfl)) ?_
 exact bc trivial rfl rfl [0] rfl [] rfl ⟨_,rfl,rfl,rfl⟩
theorem Gc{A:Option Addr}{n c:Nat}{l:List UInt8}(hc:n≤c)(hn:n≤100000000)(hl:l.length=n):cf Tryz.prog 106 [.slice A n c] [] [cz 1 A n (aT l)] (fun v_ X_ S_=>∃v,v_=v∧X_=[aI 5 1 v (cj l).length (aT (cj l))]∧S_=[]):=by
 have hpl:=lS l
 have hlt:n<4294967296:=by omega
 have hcl:=ju l
 refine aK (N:=31) Tryz.func106 rfl rfl (by simp) fun b=> ?_
 refine aQ (fun m=>ek (m.rd 0 rfl)) ?_
 rintro⟨hl_r,hA_r⟩
 refine ae<|ah<|aG rfl<|ag<|aa<|ae<|ah<|au rfl<|aG rfl<|aG rfl<|ag<|az [4,3,2,0] rfl<|aa<|ae<|ae<|ah<|au rfl<| ?_
 refine hx (an rfl Tryz.call178 (F4 (by omega) (by omega) (by omega)) [] rfl [0] rfl ?_)
 rintro _ _ _ ⟨v,rfl,rfl,rfl⟩
 refine aC (fun m=>(m.own 0 rfl).slice) ?_
 rintro⟨A_y,c_y,rfl,hc_y⟩
 refine aC (fun m=>(m.ord 0 rfl).2.1) fun hA_y=> ?_
 refine aG rfl<|ag<|az [5,4,3,2,0] rfl<|aY rfl rfl<|aa<|ae<|ah<|au rfl<|hy (fun _=>a6 rfl Tryz.underlying27)<|au rfl<|hy (fun _=>a6 rfl Tryz.underlying27)<|hy (fun _=>bx rfl rfl)<|ag<|az [14,5,4,3,2,0] rfl<|aa<| ?_
 refine cu rfl (fun hp=> ?_) (fun hp=> ?_)
 ·have hq:cj l=[76,1]++jA l.length++eF l++jA (dj l):=by
   have:zV l=true:=by unfold zV;exact decide_eq_true (by omega)
   unfold cj n9
   rw[this];rfl
  refine ah<|au rfl<|aG rfl<|aG rfl<|ag<|az [4,3,14,5,2,0] rfl<|aa<|ae<|ah<|au rfl<| ?_
  refine hx (b5 Tryz.underlying27 fh rfl rfl rfl (by simp[Value.cells,B8]) (by decide) (by decide) (fun g17=> ?_))
  have hA_b17:0<2→(some (⟨g17,0,none⟩:Addr))≠none:=fun _ h=>by cases h
  refine au rfl<|hy (fun _=>a6 rfl Tryz.underlying27)<|hy (fun _=>b8 rfl Tryz.underlying3 Tryz.underlying166 (wQ (by omega) (by omega)))<| ?_
  refine hx (an rfl Tryz.call179 (jr (by omega)) [] rfl [] rfl ?_)
  rintro _ _ _ ⟨v2,rfl,rfl,rfl⟩
  refine aC (fun m=>(m.own 0 rfl).slice) ?_
  rintro⟨A_x,c_x,rfl,hc_x⟩
  refine aC (fun m=>(m.ord 0 rfl).2.1) fun hA_x=> ?_
  refine aH (fun w m=>m.bw 1 rfl (show _=aI 5 1 (.slice (some ⟨g17,0,none⟩) 2 2) 2 (aT [76,1])from rfl)) ?_
  refine hx (bC 0 rfl rfl rfl Tryz.underlying27 Tryz.underlying27 (by exact .inl rfl) fh rfl (fun m=>Src.b9 (m.ord 1 rfl)) bl (by unfold maxLen;omega) (by omega) (fun u=> ?_))
  refine aC (fun m=>(m.own 0 rfl).slice) ?_
  rintro⟨A_b17,c_b17,rfl,hc_b17⟩
  refine aC (fun m=>(m.ord 0 rfl).2.1) fun hA_b17=> ?_
  refine aG rfl<|ag<|az [6,4,3,14,5,2,0] rfl<|aY rfl rfl<|aa<|ae<|ah<|au rfl<|au rfl<| ?_
  refine hx (bC 0 rfl rfl rfl Tryz.underlying27 Tryz.underlying27 (by exact .inl rfl) fh rfl (fun m=>Src.b9 (m.ord 2 rfl)) bl (by unfold maxLen;omega) (by omega) (fun u2=> ?_))
  refine aC (fun m=>(m.own 0 rfl).slice) ?_
  rintro⟨A_b172,c_b172,rfl,hc_b17⟩
  refine aC (fun m=>(m.ord 0 rfl).2.1) fun hA_b17=> ?_
  refine aG rfl<|ag<|az [6,4,3,14,5,2,0] rfl<|aY rfl rfl<|aa<|ae<|ah<|au rfl<|au rfl<| ?_
  refine hx (an rfl Tryz.call180 (oX (by omega)) [] rfl [0] rfl ?_)
  rintro _ _ _ ⟨rfl,rfl,rfl⟩
  refine hx (an rfl Tryz.call179 (jr (by omega)) [] rfl [] rfl ?_)
  rintro _ _ _ ⟨v3,rfl,rfl,rfl⟩
  refine aC (fun m=>(m.own 0 rfl).slice) ?_
  rintro⟨A_x2,c_x2,rfl,hc_x2⟩
  refine aC (fun m=>(m.ord 0 rfl).2.1) fun hA_x2=> ?_
  refine hx (bC 1 rfl rfl rfl Tryz.underlying27 Tryz.underlying27 (by exact .inl rfl) fh rfl (fun m=>Src.b9 (m.ord 0 rfl)) bl (by unfold maxLen;omega) (by omega) (fun u3=> ?_))
  refine aC (fun m=>(m.own 0 rfl).slice) ?_
  rintro⟨A_b173,c_b173,rfl,hc_b17⟩
  refine aC (fun m=>(m.ord 0 rfl).2.1) fun hA_b17=> ?_
  refine aG rfl<|ag<|az [2,6,4,3,14,5,0] rfl<|aY rfl rfl<|aa<|aR<| ?_
  have hol:2+4+(eF l).length+4=(cj l).length:=by rw[hq];simp[iq,hl];try omega
  rw[hol]
  have hsl:aT [76,1]++aT (jA n)++aT (eF l)++aT (jA (dj l))=aT (cj l):=by rw[hq,hl,bR,bR,bR]
  rw[hsl]
  exact bc trivial rfl rfl [0] rfl [] rfl ⟨_,rfl,rfl,rfl⟩
 ·have hq:cj l=[76,0]++jA l.length++l++jA (dj l):=by
   have:zV l=false:=by unfold zV;exact decide_eq_false (by omega)
   unfold cj n9
   rw[this];rfl
  refine aB<|aa<|ae<|ah<|au rfl<| ?_
  refine hx (b5 Tryz.underlying27 fh rfl rfl rfl (by simp[Value.cells,B8]) (by decide) (by decide) (fun g17=> ?_))
  have hA_b17:0<2→(some (⟨g17,0,none⟩:Addr))≠none:=fun _ h=>by cases h
  refine au rfl<|hy (fun _=>a6 rfl Tryz.underlying27)<|hy (fun _=>b8 rfl Tryz.underlying3 Tryz.underlying166 (wQ (by omega) (by omega)))<| ?_
  refine hx (an rfl Tryz.call179 (jr (by omega)) [] rfl [] rfl ?_)
  rintro _ _ _ ⟨v2,rfl,rfl,rfl⟩
  refine aC (fun m=>(m.own 0 rfl).slice) ?_
  rintro⟨A_x,c_x,rfl,hc_x⟩
  refine aC (fun m=>(m.ord 0 rfl).2.1) fun hA_x=> ?_
  refine aH (fun w m=>m.bw 1 rfl (show _=aI 5 1 (.slice (some ⟨g17,0,none⟩) 2 2) 2 (aT [76,0])from rfl)) ?_
  refine hx (bC 0 rfl rfl rfl Tryz.underlying27 Tryz.underlying27 (by exact .inl rfl) fh rfl (fun m=>Src.b9 (m.ord 1 rfl)) bl (by unfold maxLen;omega) (by omega) (fun u=> ?_))
  refine aC (fun m=>(m.own 0 rfl).slice) ?_
  rintro⟨A_b17,c_b17,rfl,hc_b17⟩
  refine aC (fun m=>(m.ord 0 rfl).2.1) fun hA_b17=> ?_
  refine aG rfl<|ag<|az [6,14,5,4,3,2,0] rfl<|aY rfl rfl<|aa<|ae<|ah<|au rfl<|au rfl<| ?_
  refine hx (bC 0 rfl rfl rfl Tryz.underlying27 Tryz.underlying27 (by exact .inl rfl) fh rfl (fun m=>Src.b9 (m.rd 0 rfl)) bl (by unfold maxLen;omega) (by omega) (fun u2=> ?_))
  refine aC (fun m=>(m.own 0 rfl).slice) ?_
  rintro⟨A_b172,c_b172,rfl,hc_b17⟩
  refine aC (fun m=>(m.ord 0 rfl).2.1) fun hA_b17=> ?_
  refine aG rfl<|ag<|az [6,14,5,4,3,2,0] rfl<|aY rfl rfl<|aa<|ae<|ah<|au rfl<|au rfl<| ?_
  refine hx (an rfl Tryz.call180 (oX (by omega)) [] rfl [0] rfl ?_)
  rintro _ _ _ ⟨rfl,rfl,rfl⟩
  refine hx (an rfl Tryz.call179 (jr (by omega)) [] rfl [] rfl ?_)
  rintro _ _ _ ⟨v3,rfl,rfl,rfl⟩
  refine aC (fun m=>(m.own 0 rfl).slice) ?_
  rintro⟨A_x2,c_x2,rfl,hc_x2⟩
  refine aC (fun m=>(m.ord 0 rfl).2.1) fun hA_x2=> ?_
  refine hx (bC 1 rfl rfl rfl Tryz.underlying27 Tryz.underlying27 (by exact .inl rfl) fh rfl (fun m=>Src.b9 (m.ord 0 rfl)) bl (by unfold maxLen;omega) (by omega) (fun u3=> ?_))
  refine aC (fun m=>(m.own 0 rfl).slice) ?_
  rintro⟨A_b173,c_b173,rfl,hc_b17⟩
  refine aC (fun m=>(m.ord 0 rfl).2.1) fun hA_b17=> ?_
  refine aG rfl<|ag<|az [2,6,14,5,4,3,0] rfl<|aY rfl rfl<|aa<|aR<| ?_
  have hol:2+4+n+4=(cj l).length:=by rw[hq];simp[iq,hl];try omega
  rw[hol]
  have hsl:aT [76,0]++aT (jA n)++aT l++aT (jA (dj l))=aT (cj l):=by rw[hq,hl,bR,bR,bR]
  rw[hsl]
  exact bc trivial rfl rfl [0] rfl [] rfl ⟨_,rfl,rfl,rfl⟩
theorem kX{f:List UInt8}(h:f.length<10∨f.getD 0 0≠76∨1<(f.getD 1 0).toNat):ij f=none:=by unfold ij;rw[if_pos h]
theorem xM{f:List UInt8}(h:¬(f.length<10∨f.getD 0 0≠76∨1<(f.getD 1 0).toNat)):ij f=some (oG (f.drop 2)):=by unfold ij;rw[if_neg h]
theorem rR{A:Option Addr}{n c:Nat}{f:List UInt8}(hc:n≤c)(hn:n≤1000000000)(hl:f.length=n):cf Tryz.prog 211 [.slice A n c] [] [cz 1 A n (aT f)] (fun v_ X_ S_=>v_=(.tuple #[.int .i64 (((ij f).getD 0:Nat):Int),.int .i64 (if(ij f).isSome then 0 else 2)])∧X_=[]∧S_=[]):=by
 have b0:=(f.getD 0 0).toNat_lt
 have b1:=(f.getD 1 0).toNat_lt
 refine aK (N:=34) Tryz.func211 rfl rfl (by simp) fun b=> ?_
 refine aQ (fun m=>ek (m.rd 0 rfl)) ?_
 rintro⟨hl_r,hA_r⟩
 refine ae<|ah<|aG rfl<|aG rfl<|ag<|aa<|ae<|ae<|ah<|au rfl<|hy (fun _=>a6 rfl Tryz.underlying27)<|hy (fun _=>bx rfl rfl)<|au rfl<| ?_
 refine fH 9 rfl (fun h1=> ?_) (fun h1=> ?_)
 ·refine aJ rfl rfl rfl (by decide)<|aJ rfl rfl rfl (by decide)<|aJ rfl rfl rfl (by decide)<|aJ rfl rfl rfl (by decide)<|hy (fun _=>bz rfl rfl)<|au rfl<| ?_
  rw[kX (.inl (by omega))]
  refine aJ rfl rfl rfl (by decide)<|aJ rfl rfl rfl (by decide)<|aJ rfl rfl rfl (by decide)<|aJ rfl rfl rfl (by decide)<|hy (fun _=>bz rfl rfl)<|ag<|az [20,3,2,0] rfl<|aa<| ?_
  refine fx rfl (rfl) ?_
  refine ae<|ah<|aG rfl<|aG rfl<|ag<|aa<|aR<|aq<| ?_
  exact cQ trivial rfl rfl rfl [] rfl [] rfl ⟨rfl,rfl,rfl⟩
 ·refine bQ (o:=_) rfl rfl rfl (fun _=>ai rfl)<|bQ (o:=_) rfl rfl rfl (fun _=>aS rfl rfl Tryz.underlying27 dJ hA_r (show((0:Nat):Int)=0 from rfl) (by omega))<|bQ (o:=_) rfl rfl rfl (fun m=>ak rfl iV ((m.rd 0 rfl).cell (bO (by omega))))<|bQ (o:=_) rfl rfl rfl (fun _=>de rfl rfl)<|hy (fun _=>bn rfl rfl)<|au rfl<| ?_
  refine fH 15 rfl (fun h2=> ?_) (fun h2=> ?_)
  ·rw[kX (.inr (.inl (fun e=>h2 (by rw[e];rfl))))]
   refine aJ rfl rfl rfl (by decide)<|aJ rfl rfl rfl (by decide)<|aJ rfl rfl rfl (by decide)<|aJ rfl rfl rfl (by decide)<|hy (fun _=>bz rfl rfl)<|ag<|az [20,3,2,0] rfl<|aa<| ?_
   refine fx rfl (rfl) ?_
   refine ae<|ah<|aG rfl<|aG rfl<|ag<|aa<|aR<|aq<| ?_
   exact cQ trivial rfl rfl rfl [] rfl [] rfl ⟨rfl,rfl,rfl⟩
  ·refine bQ (o:=_) rfl rfl rfl (fun _=>ai rfl)<|bQ (o:=_) rfl rfl rfl (fun _=>aS rfl rfl Tryz.underlying27 dJ hA_r (show((1:Nat):Int)=1 from rfl) (by omega))<|bQ (o:=_) rfl rfl rfl (fun m=>ak rfl iV ((m.rd 0 rfl).cell (bO (by omega))))<|bQ (o:=_) rfl rfl rfl (fun _=>cw rfl rfl)<|hy (fun _=>bn rfl rfl)<|ag<|az [20,3,2,0] rfl<|aa<| ?_
   refine cu rfl (fun h3=> ?_) (fun h3=> ?_)
   ·rw[kX (.inr (.inr (by omega)))]
    refine ae<|ah<|aG rfl<|aG rfl<|ag<|aa<|aR<|aq<| ?_
    exact cQ trivial rfl rfl rfl [] rfl [] rfl ⟨rfl,rfl,rfl⟩
   ·have h2' :f.getD 0 0=76:=UInt8.toNat_inj.1 (by have:=Decidable.not_not.1 h2;show _=76;omega)
    rw[xM (by rintro(q|q|q);omega;exact q h2';omega)]
    refine aB<|aa<|ae<|ah<|aG rfl<|ag<|aa<|ae<|ae<|ah<|aG rfl<|ag<|aa<|aM<| ?_
    refine dD (fun j=>4-j) (fun j=>[(4,.int .i64 ((acc ((f.drop 2).take 4) j:Nat):Int)),(5,.int .i64 (5-(j:Int)))]) (fun j=>[]) (fun j=>[]) (fun j=>j≤4) 0 [(20,_),(3,_),(2,_),(0,_)] ⟨rfl,rfl,rfl,rfl,trivial⟩ [] rfl [] rfl (Nat.zero_le _) ⟨rfl,rfl,trivial⟩ (fun j hI=> ?_)
    refine ae<|ae<|ah<|au rfl<|hy (fun _=>cw rfl rfl)<|ag<|az [22,4,5,20,3,2,0] rfl<|aa<| ?_
    refine cu rfl (fun hj=> ?_) (fun hj=> ?_)
    ·have hl4:((f.drop 2).take 4).length=4:=by rw[List.length_take,List.length_drop];omega
     have hac:=EO ((f.drop 2).take 4) (show j≤4 by omega)
     have hby:(((f.drop 2).take 4).getD (3-j) 0).toNat<256:=UInt8.toNat_lt _
     have hget:f.getD (5-j) 0=((f.drop 2).take 4).getD (3-j) 0:=by
      simp only[List.getD,List.getElem?_take,List.getElem?_drop]
      rw[if_pos (by omega),show 2+(3-j)=5-j by omega]
     refine aB<|aa<|ae<|aM<|ah<|au rfl<|hy (fun _=>w8 (p:=256) rfl rfl (by decide) (by decide) (by decide) (bE (by omega) (by omega)))<|au rfl<|au rfl<|hy (fun _=>aS rfl rfl Tryz.underlying27 dJ hA_r (show((5-j:Nat):Int)=_ by omega) (by omega))<|hy (fun m=>yV (ak rfl iV ((m.rd 0 rfl).cell (bO (by omega)))) ((show B8 (f.getD (5-j) 0)=B8 (((f.drop 2).take 4).getD (3-j) 0) by rw[hget])))<|hy (fun _=>b8 rfl Tryz.underlying5 Tryz.underlying3 (AX _))<|hy (fun _=>gJ (by simp) rfl rfl (BG _ _ hac hby))<|aG rfl<|ag<|az [4,22,5,20,3,2,0] rfl<|aW<|aa<|ah<|au rfl<|hy (fun _=>yV (ct rfl rfl (bE (by omega) (by omega))) ((show Value.int .i64 ((5-(j:Int))-1)= .int .i64 (5-((j+1:Nat):Int)) by congr 1;omega)))<|aG rfl<|ag<|az [5,4,22,20,3,2,0] rfl<| ?_
     refine cH (j+1) ⟨rfl,rfl,rfl,rfl,rfl,rfl,trivial⟩ [] rfl [0] rfl (by omega) (by omega)
    ·obtain rfl:j=4:=by omega
     have e4:acc ((f.drop 2).take 4) 4=oG (f.drop 2):=by
      rw[HX]
      have hx:∀q:Nat,q<4→((f.drop 2).take 4).getD q 0=(f.drop 2).getD q 0:=fun q hq=>by simp only[List.getD,List.getElem?_take,if_pos hq]
      unfold oG
      rw[hx 0 (by decide),hx 1 (by decide),hx 2 (by decide),hx 3 (by decide)]
     rw[e4]
     refine bH<|al<|al<|aD<|aa<|ae<|ah<|au rfl<|aG rfl<|aG rfl<|ag<|az [3,2,22,4,5,20,0] rfl<|aa<|aR<| ?_
     exact cQ trivial rfl rfl rfl [] rfl [] rfl ⟨rfl,rfl,rfl⟩
theorem Ca{A:Option Addr}{n c:Nat}{f:List UInt8}(hc:n≤c)(hn:n≤1000000000)(hl:f.length=n):cf Tryz.prog 213 [.slice A n c] [] [cz 1 A n (aT f)] (fun v_ X_ S_=>v_=(.bool (decide ((ij f).isSome∧f.getD 1 0=1)))∧X_=[]∧S_=[]):=by
 refine aK (N:=18) Tryz.func213 rfl rfl (by simp) fun b=> ?_
 refine aQ (fun m=>ek (m.rd 0 rfl)) ?_
 rintro⟨hl_r,hA_r⟩
 refine ae<|ah<|aG rfl<|ag<|aa<|ae<|ah<|au rfl<| ?_
 refine hx (an rfl Tryz.call211 (rR (by omega) (by omega) (by omega)) [] rfl [0] rfl ?_)
 rintro _ _ _ ⟨rfl,rfl,rfl⟩
 refine au rfl<|hy (fun _=>aF rfl rfl)<|hy (fun _=>aF rfl rfl)<|aG rfl<|aG rfl<|ag<|az [4,2,0] rfl<|aY rfl rfl<|aa<|ae<|ah<|au rfl<|hy (fun _=>cD rfl rfl)<|au rfl<| ?_
 refine fH 12 rfl (fun hs=> ?_) (fun hs=> ?_)
 ·have hs1:(ij f).isSome=true:=by
   cases h:(ij f).isSome with
   |true=>rfl
   |false=>rw[h]at hs;exact absurd hs (by decide)
  have hn10:¬n<10:=fun h=>by rw[kX (.inl (by omega))]at hs1;cases hs1
  have hd:decide ((ij f).isSome∧f.getD 1 0=1)=decide (((f.getD 1 0).toNat:Int)=1):=decide_eq_decide.2 ⟨fun h=>by rw[h.2];rfl,fun h=>⟨hs1,UInt8.toNat_inj.1 (by show _=1;omega)⟩⟩
  rw[hd]
  refine bQ (o:=_) rfl rfl rfl (fun _=>ai rfl)<|bQ (o:=_) rfl rfl rfl (fun _=>aS rfl rfl Tryz.underlying27 dJ hA_r (show((1:Nat):Int)=1 from rfl) (by omega))<|bQ (o:=_) rfl rfl rfl (fun m=>ak rfl iV ((m.rd 0 rfl).cell (bO (by omega))))<|bQ (o:=_) rfl rfl rfl (fun _=>cD rfl rfl)<|hy (fun _=>bz rfl rfl)<|aG rfl<|ag<|az [2,4,0] rfl<|aa<|aR<| ?_
  exact bc trivial rfl rfl [] rfl [] rfl ⟨rfl,rfl,rfl⟩
 ·have hd:decide ((ij f).isSome∧f.getD 1 0=1)=false:=decide_eq_false fun h=>hs (by rw[h.1];rfl)
  rw[hd]
  refine aJ rfl rfl rfl (by decide)<|aJ rfl rfl rfl (by decide)<|aJ rfl rfl rfl (by decide)<|aJ rfl rfl rfl (by decide)<|hy (fun _=>bn rfl rfl)<|aG rfl<|ag<|az [2,4,0] rfl<|aa<|aR<| ?_
  exact bc trivial rfl rfl [] rfl [] rfl ⟨rfl,rfl,rfl⟩
end Go.Proofs.YtmibdabdlgmafaaGreatDoor
end
section
set_option maxRecDepth 20000
set_option maxHeartbeats 2000000
namespace Go.Proofs.YtmibdabdlgmafaaGreatDoor
open Go.Eng Go.Hx
theorem GX{v:Value}(h:v.oneCell' =true:=by rfl):∀u∈ [v],u.oneCell' =true:=fun u hu=>by rw[List.mem_singleton.1 hu];exact h
theorem oe{q:Bool}{e:Int}:EE Tryz.prog 212 [.bool q,.int .i64 e] [] [] (fun v_ X_ S_=>v_=(.tuple #[])∧X_=[]∧S_=[]∧(q=true)) (fun v_ X_ S_=>v_=(.iface 288 (.agg #[.int .i64 e]))∧X_=[]∧S_=[]∧(q=false)):=by
 refine Ck (N:=9) Tryz.func212 rfl rfl (by simp) fun b=> ?_
 refine ae<|ah<|au rfl<|hy (fun _=>(j5 rfl))<|ag<|az [5,0,1] rfl<|aa<| ?_
 refine ES rfl (fun hq=> ?_) (fun hq=> ?_)
 ·refine ah<|au rfl<|hy (fun _=>b6 vE rfl rfl (by kernel_rfl) (.cons (o:=0) (sz:=1) (by kernel_rfl) rfl rfl (Nat.le_of_ble_eq_true rfl) .nil))<|hy (fun _=>re rfl Tryz.underlying288 (fun _ h=>by cases h))<| ?_
  refine cF (zc rfl ?_)
  exact F6 [] rfl [] rfl ⟨rfl,rfl,rfl,(by simpa using hq)⟩
 ·refine aB<| ?_
  refine Gx ?_
  exact fA trivial rfl [] rfl [] rfl ⟨rfl,rfl,rfl,(by simpa using hq)⟩
theorem fV{g4 g5:Nat}{v:Value}{e0 e:Int}:BR Tryz.prog 210 [.pointer (some ⟨g4,0,none⟩),.pointer (some ⟨g5,0,none⟩)] (.panicking (Ge (.iface 288 (.agg #[.int .i64 e])))) [aE g4 27 [v],aE g5 47 [.int .i64 e0]] [] (fun u_ X_ S_=>u_= .returning∧X_=[aE g4 27 [.slice none 0 0],aE g5 47 [.int .i64 e]]∧S_=[]):=by
 refine vC (N:=12) Tryz.func210 rfl rfl (by simp) fun b c_0 cs_ hu_=> ?_
 show uv _ _ _ _ _ [0,1,2,3,4,5,6,7] _ _ _ _ _
 refine BJ rfl hu_ ?_
 refine ln rfl (fun _=>qu rfl (AF Tryz.underlying288))<|ln rfl (fun _=>ai rfl)<|ln rfl (fun _=>aF rfl rfl)<|ln rfl (fun _=>aF rfl rfl)<| ?_
 refine De rfl (ba vE (fun g2=> ?_))
 refine yL rfl (a7 0 rfl rfl rfl Db rfl GX rfl ?_)
 refine DH (fun w m=>m.bw 0 rfl (show _=aE g2 288 [.int .i64 e]from rfl)) ?_
 refine ln rfl (fun _=>ay rfl)<|sO<|a8 (X' :=[_,_,_]) (S' :=[]) (fun _ m=>m)<|ae<|ah<|au rfl<|ag<|az [9,3,2,0,1] rfl<|aa<| ?_
 refine fx rfl (rfl) ?_
 refine kD [0] [] rfl rfl [2,3] [(0,some 1),(1,some 1),(2,none),(3,none)] (by kernel_rfl) (by kernel_rfl) rfl 99<|aj (ax rfl Cp (by decide))<|bV (fun m=>ak rfl k4 (ar (m.aN 0 rfl) (i:=0) rfl))<| ?_
 refine gi (dw 1 rfl rfl rfl je rfl (by first|exact Nat.le_of_ble_eq_true rfl|simp) ⟨(fun _=>wk [1] [] rfl rfl), ?_⟩)
 refine gi (dw 2 rfl rfl rfl xD rfl (by first|exact Nat.le_of_ble_eq_true rfl|simp) ⟨(fun _=>wk [2] [] rfl rfl), ?_⟩)
 refine bp<|az [9,3,2,0,1] rfl<|aY rfl rfl<| ?_
 exact fA trivial rfl [1,0] rfl [] rfl ⟨rfl,rfl,rfl,rfl⟩
theorem s7{g4 g5:Nat}{v:Value}{e:Int}:BR Tryz.prog 210 [.pointer (some ⟨g4,0,none⟩),.pointer (some ⟨g5,0,none⟩)] .returning [aE g4 27 [v],aE g5 47 [.int .i64 e]] [] (fun u_ X_ S_=>u_= .returning∧X_=[aE g4 27 [v],aE g5 47 [.int .i64 e]]∧S_=[]):=by
 refine vC (N:=12) Tryz.func210 rfl rfl (by simp) fun b c_0 cs_ hu_=> ?_
 show uv _ _ _ _ _ [0,1,2,3,4,5,6,7] _ _ _ _ _
 refine zI rfl hu_ ?_
 refine ln rfl (fun _=>qu rfl (AK Tryz.underlying288 vE))<|ln rfl (fun _=>ai rfl)<|ln rfl (fun _=>aF rfl rfl)<|ln rfl (fun _=>aF rfl rfl)<| ?_
 refine De rfl (ba vE (fun g2=> ?_))
 refine yL rfl (a7 0 rfl rfl rfl Db rfl GX rfl ?_)
 refine ln rfl (fun _=>ay rfl)<|sO<|a8 (X' :=[_,_,_]) (S' :=[]) (fun _ m=>m)<|ae<|ah<|au rfl<|ag<|az [9,3,2,0,1] rfl<|aa<| ?_
 refine dm rfl (rfl) ?_
 refine aB<| ?_
 exact fA trivial rfl [1,1] rfl [] rfl ⟨rfl,rfl,rfl,rfl⟩
end Go.Proofs.YtmibdabdlgmafaaGreatDoor
end
section
set_option maxRecDepth 20000
set_option maxHeartbeats 2000000
namespace Go.Proofs.YtmibdabdlgmafaaGreatDoor
open Go.Eng Go.Hx
theorem EU{A:Option Addr}{n c:Nat}{l:List UInt8}(h0:0<n)(hn:n≤140737488351232):cf Tryz.prog 257 [.slice A n c] [] [cz 1 A n (aT l)] (fun v_ X_ S_=>v_=(.tuple #[.int .i64 ((cM l).1:Nat),.int .i64 ((cM l).2.1:Nat),.int .i64 ((cM l).2.2.1:Nat),.bool (cM l).2.2.2])∧X_=[]∧S_=[]):=by
 have b0:=(l.getD 0 0).toNat_lt
 have b1:=(l.getD 1 0).toNat_lt
 have b2:=(l.getD 2 0).toNat_lt
 refine aK (N:=39) Tryz.func257 rfl rfl (by simp) fun b=> ?_
 refine aQ (fun m=>ek (m.rd 0 rfl)) ?_
 rintro⟨hl_r,hA_r⟩
 refine ae<|ah<|aG rfl<|aG rfl<|aG rfl<|aG rfl<|ag<|aa<|ae<|ah<|au rfl<|hy (fun _=>aS rfl rfl Tryz.underlying27 dJ hA_r (show((0:Nat):Int)=0 from rfl) (by omega))<|hy (fun m=>ak rfl iV ((m.rd 0 rfl).cell (bO (by omega))))<|hy (fun _=>b8 rfl Tryz.underlying5 Tryz.underlying3 (bE (by omega) (by omega)))<|aG rfl<|ag<|az [6,5,4,3,2,0] rfl<|aa<|ae<|ae<|ah<|au rfl<|hy (fun _=>bx rfl rfl)<|ag<|az [12,6,5,4,3,2,0] rfl<|aa<| ?_
 refine cu rfl (fun h1=> ?_) (fun h1=> ?_)
 ·have e:cM l=((l.getD 0 0).toNat+2,(l.getD 0 0).toNat+1,0,decide ((l.getD 0 0).toNat+2≤l.length)):=by rw[cM,if_pos (by omega)]
  rw[e]
  refine ae<|ah<|au rfl<|hy (fun _=>aO rfl rfl (bE (by omega) (by omega)))<|au rfl<|hy (fun _=>aO rfl rfl (bE (by omega) (by omega)))<|au rfl<|hy (fun _=>a6 rfl Tryz.underlying27)<|au rfl<|hy (fun _=>aO rfl rfl (bE (by omega) (by omega)))<|hy (fun _=>yV (eO rfl rfl) ((congrArg Value.bool (decide_eq_decide.2 (by omega)):Value.bool (decide ((n:Int)≥((l.getD 0 0).toNat:Int)+2))= .bool (decide ((l.getD 0 0).toNat+2≤l.length)))))<|aG rfl<|aG rfl<|aG rfl<|aG rfl<|ag<|az [5,4,3,2,12,6,0] rfl<|aa<|aR<|aq<| ?_
  exact zP trivial rfl rfl rfl rfl rfl [] rfl [] rfl ⟨rfl,rfl,rfl⟩
 ·refine aB<|aa<|ae<|ae<|ah<|au rfl<|hy (fun _=>a6 rfl Tryz.underlying27)<|hy (fun _=>bx rfl rfl)<|ag<|az [24,12,6,5,4,3,2,0] rfl<|aa<| ?_
  refine cu rfl (fun h3=> ?_) (fun h3=> ?_)
  ·have e:cM l=(0,0,0,false):=by rw[cM,if_neg (by omega),if_pos (by omega)]
   rw[e]
   refine ae<|ah<|aG rfl<|aG rfl<|aG rfl<|aG rfl<|ag<|aa<|aR<|aq<| ?_
   exact zP trivial rfl rfl rfl rfl rfl [] rfl [] rfl ⟨rfl,rfl,rfl⟩
  ·have e:cM l=(3,(l.getD 0 0).toNat-124,1+(l.getD 1 0).toNat+256*(l.getD 2 0).toNat,true):=by rw[cM,if_neg (by omega),if_neg (by omega)]
   rw[e]
   refine aB<|aa<|ae<|cA [] [(0,some 0),(1,some 0),(2,some 0),(3,some 0),(4,some 0),(5,some 0),(6,some 0),(7,some 0),(8,some 0),(9,some 0),(10,some 0),(11,some 0),(12,some 0),(13,some 0),(14,some 0),(15,some 0),(16,some 0),(17,some 0)] (by kernel_rfl) (by kernel_rfl) rfl 99<|aj (ai rfl)<|aj (ct rfl rfl (bE (by omega) (by omega)))<|aj (yV (aO rfl rfl (bE (by omega) (by omega))) ((show Value.int .i64 (((l.getD 0 0).toNat:Int)-128+4)= .int .i64 (((l.getD 0 0).toNat-124:Nat):Int) by congr 1;omega)))<|aj (ai rfl)<|aj (aS rfl rfl Tryz.underlying27 dJ hA_r (show((1:Nat):Int)=1 from rfl) (by omega))<|bV (fun m=>ak rfl iV ((m.rd 0 rfl).cell (bO (by omega))))<|aj (b8 rfl Tryz.underlying5 Tryz.underlying3 (bE (by omega) (by omega)))<|aj (aO rfl rfl (bE (by omega) (by omega)))<|aj (ai rfl)<|aj (aS rfl rfl Tryz.underlying27 dJ hA_r (show((2:Nat):Int)=2 from rfl) (by omega))<|bV (fun m=>ak rfl iV ((m.rd 0 rfl).cell (bO (by omega))))<|aj (b8 rfl Tryz.underlying5 Tryz.underlying3 (bE (by omega) (by omega)))<|aj (w8 (p:=256) rfl rfl (by decide) (by decide) (by decide) (bE (by omega) (by omega)))<|aj (yV (aO rfl rfl (bE (by omega) (by omega))) ((show Value.int .i64 (1+((l.getD 1 0).toNat:Int)+((l.getD 2 0).toNat:Int)*256)= .int .i64 ((1+(l.getD 1 0).toNat+256*(l.getD 2 0).toNat:Nat):Int) by congr 1;omega)))<|aj (ay rfl)<|aj (ay rfl)<|aj (ay rfl)<|aj (ay rfl)<|bp<|az [5,4,3,2,24,12,6,0] rfl<|aa<|aR<| ?_
   exact zP trivial rfl rfl rfl rfl rfl [] rfl [] rfl ⟨rfl,rfl,rfl⟩
theorem BK{A:Option Addr}{c:Nat}{l:List UInt8}{z:Int}(hc:l.length≤c)(hn:l.length≤10000000)(hz:z≤10000000):cf Tryz.prog 214 [.slice A l.length c,.int .i64 z] [] [cz 1 A l.length (aT l)] (fun v_ X_ S_=>∃v,v_=(.tuple #[v,.int .i64 (kF z l []).2])∧X_=[aI 5 1 v (kF z l []).1.length (aT (kF z l []).1)]∧S_=[]):=by
 refine aK (N:=66) Tryz.func214 rfl rfl (by simp) fun b=> ?_
 refine aQ (fun m=>ek (m.rd 0 rfl)) ?_
 rintro⟨hl_r,hA_r⟩
 refine ae<|ah<|aG rfl<|aG rfl<|ag<|aa<|ae<|ah<|aG rfl<|ag<|aa<|ae<|aM<| ?_
 refine a8 (fun w m=>m.cL (r' :=aI 5 1 (.slice none 0 0) 0 []) (.refl _ _) (Own.nil _ _ _ _) (fun k hk=>hk.elim)) ?_
 refine u6 (fun p o A2 c2 A3 c3=>p.length) (fun p o A2 c2 A3 c3=>[(0,.slice A2 p.length c2),(6,.slice A3 o.length c3)]) (fun p o A2 c2 A3 c3=>[aI 5 1 (.slice A3 o.length c3) o.length (aT o)]) (fun p o A2 c2 A3 c3=>[cz 1 A2 p.length (aT p)]) (fun p o A2 c2 A3 c3=>p.length≤c2∧p.length≤10000000∧o.length≤10000000∧kF z p o=kF z l []) l [] A c none 0 [(1,_)] ⟨rfl,trivial⟩ [0] rfl [0] rfl (⟨hc,hn,by decide,rfl⟩) ⟨rfl,rfl,trivial⟩ (fun p o A2 c2 A3 c3 ⟨hpc,hpn,hon,hU⟩=> ?_)
 refine ae<|ae<|ah<|au rfl<|hy (fun _=>a6 rfl Tryz.underlying27)<|hy (fun _=>cw rfl rfl)<|ag<|az [14,0,6,1] rfl<|aa<| ?_
 refine cu rfl (fun hlt=> ?_) (fun hlt=> ?_)
 ·have hp0:p≠ []:=fun e=>by rw[e]at hlt;exact absurd hlt (by decide)
  obtain⟨ht1,ht2⟩:=Dr p
  refine aB<|aa<|aM<|ae<|ah<|au rfl<| ?_
  refine hx (an rfl Tryz.call257 (EU (by omega) (by omega)) [] rfl [0] rfl ?_)
  rintro _ _ _ ⟨rfl,rfl,rfl⟩
  refine au rfl<|hy (fun _=>aF rfl rfl)<|hy (fun _=>aF rfl rfl)<|hy (fun _=>aF rfl rfl)<|hy (fun _=>aF rfl rfl)<|aG rfl<|aG rfl<|aG rfl<|aG rfl<|ag<|az [10,9,8,7,14,0,6,1] rfl<|aY rfl rfl<|aa<|ae<|ae<|ah<|au rfl<|hy (fun _=>(j5 rfl))<|au rfl<| ?_
  refine BS 24 rfl (fun hw=> ?_) (fun hw=> ?_)
  ·rw[kQ hp0 (fun h=>by rw[h.1]at hw;cases hw)]at hU
   rw[←hU]
   refine aJ rfl rfl rfl (by decide)<|aJ rfl rfl rfl (by decide)<|aJ rfl rfl rfl (by decide)<|aJ rfl rfl rfl (by decide)<|hy (fun _=>bz rfl rfl)<|ag<|az [29,10,9,8,7,14,0,6,1] rfl<|aa<| ?_
   refine fx rfl (rfl) ?_
   refine ae<|ah<|aG rfl<|aG rfl<|ag<|aa<|aR<|aq<|aU<|aq<|aU<|aq<| ?_
   refine bd (fun w m=>m.cL (r' :=aI 5 1 (.slice none 0 0) 0 []) (.refl _ _) (Own.nil _ _ _ _) (fun k hk=>hk.elim)) ?_
   exact cQ trivial rfl rfl rfl [0] rfl [] rfl ⟨_,rfl,rfl,rfl⟩
  ·have hw1:(cM p).2.2.2=true:=by simpa using hw
   refine bQ (o:=_) rfl rfl rfl (fun _=>ai rfl)<|bQ (o:=_) rfl rfl rfl (fun _=>ai rfl)<|bQ (o:=_) rfl rfl rfl (fun _=>a6 rfl Tryz.underlying27)<|bQ (o:=_) rfl rfl rfl (fun _=>cw rfl rfl)<|hy (fun _=>bn rfl rfl)<|ag<|az [29,10,9,8,7,14,0,6,1] rfl<|aa<| ?_
   refine cu rfl (fun hd=> ?_) (fun hd=> ?_)
   ·rw[kQ hp0 (fun h=>by omega)]at hU
    rw[←hU]
    refine ae<|ah<|aG rfl<|aG rfl<|ag<|aa<|aR<|aq<|aU<|aq<|aU<|aq<| ?_
    refine bd (fun w m=>m.cL (r' :=aI 5 1 (.slice none 0 0) 0 []) (.refl _ _) (Own.nil _ _ _ _) (fun k hk=>hk.elim)) ?_
    exact cQ trivial rfl rfl rfl [0] rfl [] rfl ⟨_,rfl,rfl,rfl⟩
   ·have hd1:(cM p).2.2.1≤o.length:=by omega
    refine aB<|aa<|ae<|ae<|ah<|au rfl<|hy (fun _=>a6 rfl Tryz.underlying27)<|au rfl<|hy (fun _=>aO rfl rfl (bE (by omega) (by omega)))<|au rfl<|hy (fun _=>cw rfl rfl)<|ag<|az [35,29,10,9,8,7,14,0,6,1] rfl<|aa<| ?_
    refine cu rfl (fun hm=> ?_) (fun hm=> ?_)
    ·rw[oO hp0 hw1 hd1 (by omega)]at hU
     rw[←hU]
     refine ae<|ah<|aG rfl<|aG rfl<|ag<|aa<|aR<|aq<|aU<|aq<|aU<|aq<| ?_
     refine bd (fun w m=>m.cL (r' :=aI 5 1 (.slice none 0 0) 0 []) (.refl _ _) (Own.nil _ _ _ _) (fun k hk=>hk.elim)) ?_
     exact cQ trivial rfl rfl rfl [0] rfl [] rfl ⟨_,rfl,rfl,rfl⟩
    ·rw[sr hp0 hw1 hd1 (by omega)]at hU
     obtain⟨hs2,hs3⟩:=kV hw1
     have hml:=ow (o:=o) hw1
     have hmn:(made p o).length≤10000000:=by omega
     have hdl:p.length-(cM p).1=(p.drop (cM p).1).length:=by rw[List.length_drop]
     generalize hsz:(cM p).1=sz at hs2 hs3 hU hdl ⊢
     refine aB<|aa<|ae<|ae<|ah<|au rfl<|hy (fun _=>cD rfl rfl)<|ag<|az [37,35,29,10,9,8,7,14,0,6,1] rfl<|aa<| ?_
     refine cu rfl (fun hz0=> ?_) (fun hz0=> ?_)
     ·have hd0:(cM p).2.2.1=0:=by omega
      have hma:made p o=o++(p.drop 1).take (sz-1):=by rw[made,if_pos hd0,hsz]
      refine a8 (fun w m=>m.ew 0 rfl (View.sub (n:=p.length) (c:=c2) (k:=1) (m:=sz-1) (by omega) (by omega))) ?_
      refine aQ (fun m=>ek (m.rd 0 rfl)) ?_
      rintro⟨hl_q,hA_q⟩
      refine ah<|au rfl<|au rfl<|au rfl<|hy (fun _=>eA rfl rfl rfl Tryz.underlying27 dJ (show((1:Nat):Int)=1 from rfl) (rfl:((sz:Nat):Int)=_) (by omega) (by omega))<| ?_
      refine hx (bC 0 rfl rfl rfl Tryz.underlying27 Tryz.underlying27 (by exact .inl rfl) fh rfl (fun m=>Src.b9 (m.rd 0 rfl)) bl (by unfold maxLen;omega) (by omega) (fun u=> ?_))
      refine aC (fun m=>(m.own 0 rfl).slice) ?_
      rintro⟨A_x,c_x,rfl,hc_x⟩
      refine aC (fun m=>(m.ord 0 rfl).2.1) fun hA_x=> ?_
      have hlm:o.length+(sz-1)=(made p o).length:=by rw[hma,List.length_append,List.length_take,List.length_drop];omega
      rw[hlm]at hc_x hA_x ⊢
      refine aH (fun w m=>m.bw 0 rfl (show _=aI 5 1 (.slice A_x (made p o).length c_x) (made p o).length (aT (made p o))from congrArg (aI _ _ _ _) (by rw[hma,bR]))) ?_
      refine aG rfl<|ag<|az [6,37,35,29,10,9,8,7,14,0,1] rfl<|aY rfl rfl<|aa<|ae<|ae<|ah<|aG rfl<|ag<|aa<|aM<| ?_
      refine dD (fun k2=>1) (fun k2=>[(11,.int .i64 (k2:Nat)),(6,.slice A_x (made p o).length c_x)]) (fun k2=>[aI 5 1 (.slice A_x (made p o).length c_x) (made p o).length (aT (made p o))]) (fun k2=>[]) (fun k2=>True) 0 [(37,_),(35,_),(29,_),(10,_),(9,_),(8,_),(7,_),(14,_),(0,_),(1,_)] ⟨rfl,rfl,rfl,rfl,rfl,rfl,rfl,rfl,rfl,rfl,trivial⟩ [0] rfl [] rfl (trivial) ⟨rfl,rfl,trivial⟩ (fun k2 _=> ?_)
      refine ae<|ae<|ah<|au rfl<|hy (fun _=>yF (cw rfl rfl) ((decide_eq_false (by omega))))<|au rfl<|aJ rfl rfl rfl (by decide)<|aJ rfl rfl rfl (by decide)<|aJ rfl rfl rfl (by decide)<|hy (fun _=>bn rfl rfl)<|ag<|az [49,11,6,37,35,29,10,9,8,7,14,0,1] rfl<|aa<| ?_
      refine dm rfl (rfl) ?_
      refine a8 (fun w m=>m.ew 1 rfl (View.drop (n:=p.length) (c:=c2) (k:=sz) (by omega) (by omega))) ?_
      refine aQ (fun m=>ek (m.rd 0 rfl)) ?_
      rintro⟨hl_p2,hA_p2⟩
      refine bH<|al<|al<|aD<|aa<|ah<|au rfl<|au rfl<|hy (fun _=>ef rfl rfl Tryz.underlying27 dJ rfl (by omega))<|aG rfl<|ag<|az [0,49,11,6,37,35,29,10,9,8,7,14,1] rfl<|aW<| ?_
      rw[hdl]
      refine jT (p.drop sz) (made p o) _ (c2-sz) A_x c_x ⟨rfl,rfl,rfl,trivial⟩ [0] rfl [0,3] rfl (⟨by rw[←hdl];omega,by rw[←hdl];omega,hmn,hU⟩) (by rw[←hdl];omega)
     ·have hd0:0<(cM p).2.2.1:=by omega
      have hma:made p o=again (cM p).2.2.1 (cM p).2.1 o:=by rw[made,if_neg (by omega)]
      generalize hdd:(cM p).2.2.1=dd at*
      generalize hnn:(cM p).2.1=nn at*
      refine aB<|aa<|ae<|ae<|ah<|aG rfl<|ag<|aa<|aM<| ?_
      refine nD (fun k2 o2 A4 c4=>nn-k2) (fun k2 o2 A4 c4=>[(11,.int .i64 (k2:Nat)),(6,.slice A4 o2.length c4)]) (fun k2 o2 A4 c4=>[aI 5 1 (.slice A4 o2.length c4) o2.length (aT o2)]) (fun k2 o2 A4 c4=>[]) (fun k2 o2 A4 c4=>k2≤nn∧o2.length=o.length+k2∧again dd (nn-k2) o2=made p o) 0 o A3 c3 [(37,_),(35,_),(29,_),(10,_),(9,_),(8,_),(7,_),(14,_),(0,_),(1,_)] ⟨rfl,rfl,rfl,rfl,rfl,rfl,rfl,rfl,rfl,rfl,trivial⟩ [0] rfl [] rfl (⟨Nat.zero_le _,rfl,hma.symm⟩) ⟨rfl,rfl,trivial⟩ (fun k2 o2 A4 c4 ⟨hk2,ho2,hag⟩=> ?_)
      refine ae<|ae<|ah<|au rfl<|hy (fun _=>yT (cw rfl rfl) ((decide_eq_true (by omega))))<|au rfl<|bQ (o:=_) rfl rfl rfl (fun _=>ai rfl)<|bQ (o:=_) rfl rfl rfl (fun _=>ai rfl)<|bQ (o:=_) rfl rfl rfl (fun _=>bx rfl rfl)<|hy (fun _=>bz rfl rfl)<|ag<|az [49,11,6,37,35,29,10,9,8,7,14,0,1] rfl<|aa<| ?_
      refine cu rfl (fun hkn=> ?_) (fun hkn=> ?_)
      ·have hag2:again dd (nn-(k2+1)) (o2++[o2.getD (o2.length-dd) 0])=made p o:=by
        rw[←hag,show nn-k2=(nn-(k2+1))+1 by omega]
        rfl
       refine aQ (fun m=>(m.ord 0 rfl).2.1) fun hA4=> ?_
       refine aB<|aa<|ae<|aM<|ah<|au rfl<|au rfl<|au rfl<|hy (fun _=>a6 rfl Tryz.underlying27)<|au rfl<|hy (fun _=>ct rfl rfl (bE (by omega) (by omega)))<|hy (fun _=>aS rfl rfl Tryz.underlying27 dJ hA4 (show((o2.length-dd:Nat):Int)=_ by omega) (by omega))<|hy (fun m=>ak rfl iV ((m.ord 0 rfl).cell (bO (by omega))))<| ?_
       refine hx (b5 Tryz.underlying27 fh rfl rfl rfl (by simp[Value.cells,B8]) (by decide) (by decide) (fun g60=> ?_))
       have hA_b60:0<1→(some (⟨g60,0,none⟩:Addr))≠none:=fun _ h=>by cases h
       refine aH (fun w m=>m.bw 0 rfl (show _=aI 5 1 (.slice (some ⟨g60,0,none⟩) 1 1) 1 (aT [o2.getD (o2.length-dd) 0])from rfl)) ?_
       refine hx (bC 1 rfl rfl rfl Tryz.underlying27 Tryz.underlying27 (by exact .inl rfl) fh rfl (fun m=>Src.b9 (m.ord 0 rfl)) bl (by unfold maxLen;omega) (by omega) (fun u=> ?_))
       refine aC (fun m=>(m.own 0 rfl).slice) ?_
       rintro⟨A_x,c_x,rfl,hc_x⟩
       refine aC (fun m=>(m.ord 0 rfl).2.1) fun hA_x=> ?_
       refine aH (fun w m=>m.bw 0 rfl (show _=aI 5 1 (.slice A_x (o2.length+1) c_x) (o2.length+1) (aT (o2++[o2.getD (o2.length-dd) 0]))from congrArg (aI _ _ _ _) (bR _ _).symm)) ?_
       have hl1:o2.length+1=(o2++[o2.getD (o2.length-dd) 0]).length:=by simp
       rw[hl1]at hc_x hA_x ⊢
       refine aG rfl<|ag<|az [6,49,11,37,35,29,10,9,8,7,14,0,1] rfl<|aY rfl rfl<|aW<|aa<|ah<|au rfl<|hy (fun _=>aO rfl rfl (bE (by omega) (by omega)))<|aG rfl<|ag<|az [11,6,49,37,35,29,10,9,8,7,14,0,1] rfl<| ?_
       refine kx (k2+1) (o2++[o2.getD (o2.length-dd) 0]) A_x c_x ⟨rfl,rfl,rfl,rfl,rfl,rfl,rfl,rfl,rfl,rfl,rfl,rfl,trivial⟩ [0] rfl [0,1] rfl (⟨by omega,by rw[←hl1];omega,hag2⟩) (by omega)
      ·obtain rfl:k2=nn:=by omega
       have hag2:o2=made p o:=by rw[←hag,Nat.sub_self];rfl
       rw[hag2]
       refine a8 (fun w m=>m.ew 0 rfl (View.drop (n:=p.length) (c:=c2) (k:=sz) (by omega) (by omega))) ?_
       refine aQ (fun m=>ek (m.rd 0 rfl)) ?_
       rintro⟨hl_p2,hA_p2⟩
       refine bH<|al<|al<|aD<|aa<|ah<|au rfl<|au rfl<|hy (fun _=>ef rfl rfl Tryz.underlying27 dJ rfl (by omega))<|aG rfl<|ag<|az [0,49,11,6,37,35,29,10,9,8,7,14,1] rfl<|aW<| ?_
       rw[hdl]
       refine jT (p.drop sz) (made p o) _ (c2-sz) A4 c4 ⟨rfl,rfl,rfl,trivial⟩ [0] rfl [0,2] rfl (⟨by rw[←hdl];omega,by rw[←hdl];omega,hmn,hU⟩) (by rw[←hdl];omega)
 ·have hp0:p=[]:=List.eq_nil_of_length_eq_zero (by omega)
  rw[hp0,sl]at hU
  rw[←hU]
  refine bH<|al<|al<|aD<|aa<|ae<|ah<|au rfl<|aG rfl<|aG rfl<|ag<|az [5,4,14,0,6,1] rfl<|aa<|aR<| ?_
  exact cQ trivial rfl rfl rfl [0] rfl [] rfl ⟨_,rfl,rfl,rfl⟩
end Go.Proofs.YtmibdabdlgmafaaGreatDoor
end
section
set_option maxRecDepth 20000
set_option maxHeartbeats 4000000
namespace Go.Proofs.YtmibdabdlgmafaaGreatDoor
open Go.Eng Go.Hx
theorem p8{f:List UInt8}{most:Int}(h:ij f=none):c7 f most=([],2):=by unfold c7;rw[h]
theorem qS{f:List UInt8}{most:Int}{k:Nat}(h:ij f=some k)(hm:most<(k:Int)):c7 f most=([],3):=by unfold c7;rw[h];simp only;rw[if_pos hm]
theorem s3{f:List UInt8}{most:Int}{k:Nat}(h:ij f=some k)(hm:¬most<(k:Int)):c7 f most=gH f k:=by unfold c7;rw[h];simp only;rw[if_neg hm]
theorem tH{f:List UInt8}{k:Nat}(h:ij f=some k):10≤f.length∧k<4294967296:=by
 unfold ij at h
 split at h
 ·cases h
 ·rename_i hq
  cases h
  exact⟨by have:¬f.length<10:=fun e=>hq (.inl e);omega,A5 _⟩
theorem GP{A:Option Addr}{c:Nat}{f:List UInt8}{most:Int}(hc:f.length≤c)(hn:f.length≤10000000)(hm:most≤1000000):cf Tryz.prog 155 [.slice A f.length c,.int .i64 most] [] [cz 1 A f.length (aT f)] (fun v_ X_ S_=>∃v,v_=(.tuple #[v,.int .i64 (c7 f most).2])∧X_=[aI 5 1 v (c7 f most).1.length (aT (c7 f most).1)]∧S_=[]):=by
 refine wb (N:=54) Tryz.func155 rfl rfl (by simp) fun b=> ?_
 refine aQ (fun m=>ek (m.rd 0 rfl)) ?_
 rintro⟨hl_r,hA_r⟩
 refine ae<|ah<| ?_
 refine hx (ba ku (fun g4=> ?_))
 refine aH (fun w m=>m.bw 0 rfl (show _=aE g4 27 [.slice none 0 0]from rfl)) ?_
 refine hx (ba HA (fun g5=> ?_))
 refine aH (fun w m=>m.bw 0 rfl (show _=aE g5 47 [.int .i64 0]from rfl)) ?_
 rcases hL:ij f with _|k
 ·refine ag<|aY rfl rfl<|aa<|ae<|ah<|hy (fun _=>fD rfl rfl)<|vL rfl rfl<|ag<|az [5,4,0,1] rfl<|aa<|ae<|ah<|au rfl<| ?_
  refine hx (an rfl Tryz.call211 (rR (by omega) (by omega) rfl) [] rfl [0] rfl ?_)
  rintro _ _ _ ⟨rfl,rfl,rfl⟩
  refine au rfl<|hy (fun _=>aF rfl rfl)<|hy (fun _=>aF rfl rfl)<|aG rfl<| ?_
  refine cF (dw 0 rfl rfl rfl xD rfl (by first|exact Nat.le_of_ble_eq_true rfl|simp) ?_)
  refine ag<|az [6,5,4,0,1] rfl<|aY rfl rfl<|aa<|ae<|ah<|hy (fun m=>ak rfl k4 (ar (m.aN 0 rfl) rfl))<|hy (fun _=>cD rfl rfl)<|hy (fun m=>ak rfl k4 (ar (m.aN 0 rfl) rfl))<| ?_
  refine hx (gG rfl Tryz.call212 (oe) [] rfl [] rfl ?_ ?_)
  ·rintro _ _ _ ⟨rfl,rfl,rfl,q1⟩
   refine dX<|iQ<| ?_
   rw[hL]
   rw[(p8 hL)]
   refine l6 (by simp) Tryz.call210 (fV) [1,0] rfl [] rfl ?_
   rintro _ _ _ ⟨rfl,rfl,rfl⟩
   refine pH (fun w m=>m.cL (r' :=aI 5 1 (.slice none 0 0) 0 []) (.refl _ _) (Own.nil _ _ _ _) (fun k hk=>hk.elim)) ?_
   exact gT rfl rfl rfl di k4 (fun m=>ar (m.aN 1 rfl) (i:=0) rfl) (fun m=>ar (m.aN 2 rfl) (i:=0) rfl) [0] rfl [] rfl ⟨_,rfl,rfl,rfl⟩
  ·rintro _ _ _ ⟨rfl,rfl,rfl,q1⟩
   exact absurd q1 (by rw[hL];simp)
 ·refine ag<|aY rfl rfl<|aa<|ae<|ah<|hy (fun _=>fD rfl rfl)<|vL rfl rfl<|ag<|az [5,4,0,1] rfl<|aa<|ae<|ah<|au rfl<| ?_
  refine hx (an rfl Tryz.call211 (rR (by omega) (by omega) (by omega)) [] rfl [0] rfl ?_)
  rintro _ _ _ ⟨rfl,rfl,rfl⟩
  refine au rfl<|hy (fun _=>aF rfl rfl)<|hy (fun _=>aF rfl rfl)<|aG rfl<| ?_
  refine cF (dw 0 rfl rfl rfl xD rfl (by first|exact Nat.le_of_ble_eq_true rfl|simp) ?_)
  refine ag<|az [6,5,4,0,1] rfl<|aY rfl rfl<|aa<|ae<|ah<|hy (fun m=>ak rfl k4 (ar (m.aN 0 rfl) rfl))<|hy (fun _=>cD rfl rfl)<|hy (fun m=>ak rfl k4 (ar (m.aN 0 rfl) rfl))<| ?_
  refine hx (gG rfl Tryz.call212 (oe) [] rfl [] rfl ?_ ?_)
  ·rintro _ _ _ ⟨rfl,rfl,rfl,q1⟩
   refine dX<|iQ<| ?_
   exact absurd q1 (by rw[hL];simp)
  ·rintro _ _ _ ⟨rfl,rfl,rfl,q1⟩
   rw[hL,Option.getD_some]
   refine ag<|az [6,5,4,0,1] rfl<|aY rfl rfl<|aa<|ae<|ah<|au rfl<|au rfl<|hy (fun _=>jo rfl rfl)<| ?_
   refine hx (gG rfl Tryz.call212 (oe) [] rfl [] rfl ?_ ?_)
   ·rintro _ _ _ ⟨rfl,rfl,rfl,q2⟩
    refine dX<|iQ<| ?_
    rw[(qS hL (Int.not_le.1 (of_decide_eq_false q2)))]
    refine l6 (by simp) Tryz.call210 (fV) [1,0] rfl [] rfl ?_
    rintro _ _ _ ⟨rfl,rfl,rfl⟩
    refine pH (fun w m=>m.cL (r' :=aI 5 1 (.slice none 0 0) 0 []) (.refl _ _) (Own.nil _ _ _ _) (fun k hk=>hk.elim)) ?_
    exact gT rfl rfl rfl di k4 (fun m=>ar (m.aN 1 rfl) (i:=0) rfl) (fun m=>ar (m.aN 2 rfl) (i:=0) rfl) [0] rfl [] rfl ⟨_,rfl,rfl,rfl⟩
   ·rintro _ _ _ ⟨rfl,rfl,rfl,q2⟩
    obtain⟨h10,hk32⟩:=tH hL
    have hkm:(k:Int)≤most:=of_decide_eq_true q2
    have hopen:=s3 hL (Int.not_lt.2 hkm)
    refine aH (fun w m=>m.ew 0 rfl (View.sub (n:=f.length) (c:=c) (k:=6) (m:=f.length-10) (by omega) (by omega))) ?_
    refine aC (fun m=>ek (m.rd 0 rfl)) ?_
    rintro⟨hl_p,hA_p⟩
    refine ag<|az [6,5,4,0,1] rfl<|aY rfl rfl<|aa<|ae<|ah<|au rfl<|au rfl<|hy (fun _=>a6 rfl Tryz.underlying27)<|hy (fun _=>yV (ct rfl rfl (bE (by omega) (by omega))) ((show Value.int .i64 ((f.length:Int)-4)= .int .i64 ((f.length-4:Nat):Int) by congr 1;omega)))<|hy (fun _=>yV (eA rfl rfl rfl Tryz.underlying27 dJ (show((6:Nat):Int)=6 from rfl) rfl (by omega) (by omega)) ((show Value.slice (if c=6 then A else A.map (·.add (6*1))) (f.length-4-6) (c-6)= .slice (if c=6 then A else A.map (·.add (6*1))) (f.length-10) (c-6) by congr 1)))<| ?_
    refine hx (an rfl Tryz.call117 (nh (by omega)) [] rfl [0] rfl ?_)
    rintro _ _ _ ⟨v,rfl,rfl,rfl⟩
    refine aC (fun m=>(m.own 0 rfl).slice) ?_
    rintro⟨A_x,c_x,rfl,hc_x⟩
    refine aC (fun m=>(m.ord 0 rfl).2.1) fun hA_x=> ?_
    have hbl:f.length-10=(dA f).length:=by unfold dA;rw[List.length_take,List.length_drop];omega
    have hb2:(f.drop 6).take (dA f).length=dA f:=by rw[←hbl];rfl
    rw[hbl,hb2]
    rw[hbl]at hc_x
    refine cF (dw 2 rfl rfl rfl je rfl (by first|exact Nat.le_of_ble_eq_true rfl|simp) ?_)
    refine ag<|az [6,5,4,0,1] rfl<|aY rfl rfl<|aa<|ae<|ae<|ah<|au rfl<| ?_
    refine hx (an rfl Tryz.call213 (Ca (by omega) (by omega) rfl) [] rfl [1] rfl ?_)
    rintro _ _ _ ⟨rfl,rfl,rfl⟩
    refine ag<|az [28,6,5,4,0,1] rfl<|aY rfl rfl<|aa<| ?_
    refine cu rfl (fun hpk=> ?_) (fun hpk=> ?_)
    ·have hu:x1 f k=kF (k:Int) (dA f) []:=by
      unfold x1
      exact if_pos hpk.2
     have hkz:(k:Int)≤10000000:=by omega
     have hul:=pf (most:=(k:Int)) (dA f) [] (by simp)
     have hbn:(dA f).length≤10000000:=by omega
     refine ae<|ah<|hy (fun m=>ak rfl di (ar (m.aN 0 rfl) rfl))<|au rfl<| ?_
     refine hx (cS rfl Tryz.call214 (BK hc_x hbn hkz) [] rfl (.x 1 rfl .own .nil) ?_)
     rintro _ _ _ ⟨v2,rfl,rfl,rfl⟩
     refine⟨rfl, ?_⟩
     refine aC (fun m=>(m.own 0 rfl).slice) ?_
     rintro⟨A_x2,c_x2,rfl,hc_x2⟩
     refine aC (fun m=>(m.ord 0 rfl).2.1) fun hA_x2=> ?_
     refine au rfl<|hy (fun _=>aF rfl rfl)<|hy (fun _=>aF rfl rfl)<| ?_
     refine cF (dw 1 rfl rfl rfl je rfl (by first|exact Nat.le_of_ble_eq_true rfl|simp) ?_)
     refine cF (dw 3 rfl rfl rfl xD rfl (by first|exact Nat.le_of_ble_eq_true rfl|simp) ?_)
     refine ag<|az [28,6,5,4,0,1] rfl<|aY rfl rfl<|aa<|ah<|hy (fun m=>ak rfl k4 (ar (m.aN 0 rfl) rfl))<|hy (fun _=>cD rfl rfl)<| ?_
     refine hx (gG rfl Tryz.call212 (oe) [] rfl [] rfl ?_ ?_)
     ·rintro _ _ _ ⟨rfl,rfl,rfl,q3⟩
      refine dX<|iQ<| ?_
      have hno:c7 f most=([],2):=by
       rw[hopen]
       unfold gH
       rw[hu]
       exact if_pos (of_decide_eq_false q3)
      rw[hno]
      refine l6 (by simp) Tryz.call210 (fV) [1,0] rfl [] rfl ?_
      rintro _ _ _ ⟨rfl,rfl,rfl⟩
      refine pH (fun w m=>m.cL (r' :=aI 5 1 (.slice none 0 0) 0 []) (.refl _ _) (Own.nil _ _ _ _) (fun k hk=>hk.elim)) ?_
      exact gT rfl rfl rfl di k4 (fun m=>ar (m.aN 1 rfl) (i:=0) rfl) (fun m=>ar (m.aN 2 rfl) (i:=0) rfl) [0] rfl [] rfl ⟨_,rfl,rfl,rfl⟩
     ·rintro _ _ _ ⟨rfl,rfl,rfl,q3⟩
      have hE0:(kF (k:Int) (dA f) []).2=0:=of_decide_eq_true q3
      obtain⟨u,hu2⟩:∃u,kF (k:Int) (dA f) []=(u,0):=⟨_,Prod.ext rfl hE0⟩
      rw[hu2]at hu hul
      rw[hu2]
      dsimp only
      have hun:u.length≤1000000:=by
       rcases hul.1 with h|h
       ·have h:(u.length:Int)≤k:=h
        omega
       ·have h:u=[]:=h
        rw[h];exact Nat.zero_le _
      refine ag<|az [28,6,5,4,0,1] rfl<|aY rfl rfl<|aa<|ae<|ah<|hy (fun m=>ak rfl di (ar (m.aN 1 rfl) rfl))<|hy (fun _=>a6 rfl Tryz.underlying27)<|au rfl<|hy (fun _=>cD rfl rfl)<| ?_
      refine hx (gG rfl Tryz.call212 (oe) [] rfl [] rfl ?_ ?_)
      ·rintro _ _ _ ⟨rfl,rfl,rfl,q4⟩
       refine dX<|iQ<| ?_
       have hno:c7 f most=([],2):=by
        rw[hopen]
        unfold gH
        rw[hu]
        exact(if_neg (by simp)).trans (if_pos (by have:=of_decide_eq_false q4;simp only;omega))
       rw[hno]
       refine l6 (by simp) Tryz.call210 (fV) [1,0] rfl [] rfl ?_
       rintro _ _ _ ⟨rfl,rfl,rfl⟩
       refine pH (fun w m=>m.cL (r' :=aI 5 1 (.slice none 0 0) 0 []) (.refl _ _) (Own.nil _ _ _ _) (fun k hk=>hk.elim)) ?_
       exact gT rfl rfl rfl di k4 (fun m=>ar (m.aN 1 rfl) (i:=0) rfl) (fun m=>ar (m.aN 2 rfl) (i:=0) rfl) [0] rfl [] rfl ⟨_,rfl,rfl,rfl⟩
      ·rintro _ _ _ ⟨rfl,rfl,rfl,q4⟩
       have hlen:(u).length=k:=by have:=of_decide_eq_true q4;omega
       have hgo:c7 f most=if jA (dj u)≠f.drop (f.length-4)then([],7)else(u,0):=by
        rw[hopen]
        unfold gH
        rw[hu]
        exact(if_neg (by simp)).trans (if_neg (by simp only;omega))
       refine aH (fun w m=>m.ew 1 rfl (View.drop (n:=f.length) (c:=c) (k:=f.length-4) (by omega) (by omega))) ?_
       refine aC (fun m=>ek (m.rd 0 rfl)) ?_
       rintro⟨hl_t,hA_t⟩
       have hcl:=ju u
       refine ag<|az [28,6,5,4,0,1] rfl<|aY rfl rfl<|aa<|ae<|y8 [43,44,45,46,47,48,49,50,51,52] [0,0,0,0] [0,1,2] rfl rfl [1,2,8,9] [(0,some 0),(3,some 2),(4,some 4),(5,some 2),(6,some 2),(7,some 2),(1,none),(2,none),(8,none),(9,none)] (by kernel_rfl) (by kernel_rfl) (by kernel_rfl) rfl 99<|bV (fun m=>ak rfl di (ar (m.aN 1 rfl) rfl))<|aj (ai rfl)<|aj (ai rfl)<|aj (a6 rfl Tryz.underlying27)<|aj (yV (ct rfl rfl (bE (by omega) (by omega))) ((show Value.int .i64 ((f.length:Int)-4)= .int .i64 ((f.length-4:Nat):Int) by congr 1;omega)))<|aj (ef rfl rfl Tryz.underlying27 dJ rfl (by omega))<| ?_
       refine dk (cS rfl Tryz.call180 (oX (by omega)) [] rfl (.x 2 rfl .own .nil) ?_)
       rintro _ _ _ ⟨rfl,rfl,rfl⟩
       refine⟨rfl, ?_⟩
       refine⟨(fun _=>wk [0,0,0,0] [0,1,2] rfl rfl), ?_⟩
       refine dk (an rfl Tryz.call179 (jr (by omega)) [] rfl [] rfl ?_)
       rintro _ _ _ ⟨v3,rfl,rfl,rfl⟩
       refine⟨(fun _=>wk [1,1,1,1] [0,1,2] rfl rfl), ?_⟩
       refine bU (fun m=>(m.own 0 rfl).slice) ?_
       rintro⟨A_x3,c_x3,rfl,hc_x3⟩
       refine bU (fun m=>(m.ord 0 rfl).2.1) fun hA_x3=> ?_
       refine dk (cS rfl Tryz.call215 (nS) [] rfl (.x 0 rfl .own (.s 0 rfl .nil)) ?_)
       rintro _ _ _ ⟨rfl,rfl,rfl⟩
       refine⟨rfl, ?_⟩
       refine⟨(fun _=>wk [1,1,1,1] [0,1,2] rfl rfl), ?_⟩
       refine dk (gG rfl Tryz.call212 (oe) [] rfl [] rfl ?_ ?_)
       ·rintro _ _ _ ⟨rfl,rfl,rfl,q5⟩
        refine C1<|dX<|iQ<| ?_
        rw[(hgo.trans (if_pos (of_decide_eq_false q5)))]
        refine l6 (by simp) Tryz.call210 (fV) [2,1] rfl [] rfl ?_
        rintro _ _ _ ⟨rfl,rfl,rfl⟩
        refine pH (fun w m=>m.cL (r' :=aI 5 1 (.slice none 0 0) 0 []) (.refl _ _) (Own.nil _ _ _ _) (fun k hk=>hk.elim)) ?_
        exact gT rfl rfl rfl di k4 (fun m=>ar (m.aN 1 rfl) (i:=0) rfl) (fun m=>ar (m.aN 2 rfl) (i:=0) rfl) [0] rfl [] rfl ⟨_,rfl,rfl,rfl⟩
       ·rintro _ _ _ ⟨rfl,rfl,rfl,q5⟩
        refine⟨(fun _=>wk [1,1,1,1] [0,1,2] rfl rfl), ?_⟩
        rw[hgo.trans (if_neg (fun h=>h (of_decide_eq_true q5)))]
        refine yB<|az [28,6,5,4,0,1] rfl<|aY rfl rfl<|aa<|ae<|ah<|hy (fun m=>ak rfl di (ar (m.aN 2 rfl) rfl))<| ?_
        refine cF (dw 2 rfl rfl rfl je rfl (by first|exact Nat.le_of_ble_eq_true rfl|simp) ?_)
        refine cF (dw 2 rfl rfl rfl xD rfl (by first|exact Nat.le_of_ble_eq_true rfl|simp) ?_)
        refine ag<|az [28,6,5,4,0,1] rfl<|aY rfl rfl<|aa<|aR<| ?_
        refine wy trivial ?_
        refine l6 (by simp) Tryz.call210 (s7) [1,0] rfl [] rfl ?_
        rintro _ _ _ ⟨rfl,rfl,rfl⟩
        exact gT rfl rfl rfl di k4 (fun m=>ar (m.aN 0 rfl) (i:=0) rfl) (fun m=>ar (m.aN 1 rfl) (i:=0) rfl) [3] rfl [] rfl ⟨_,rfl,rfl,rfl⟩
    ·have hu:x1 f k=(dA f,0):=by
      unfold x1
      exact if_neg fun e=>hpk ⟨by rw[hL];rfl,e⟩
     refine aB<|aa<|ae<|ah<|hy (fun m=>ak rfl di (ar (m.aN 0 rfl) rfl))<|hy (fun _=>a6 rfl Tryz.underlying27)<|au rfl<|hy (fun _=>cD rfl rfl)<| ?_
     refine hx (gG rfl Tryz.call212 (oe) [] rfl [] rfl ?_ ?_)
     ·rintro _ _ _ ⟨rfl,rfl,rfl,q4⟩
      refine dX<|iQ<| ?_
      have hno:c7 f most=([],2):=by
       rw[hopen]
       unfold gH
       rw[hu]
       exact(if_neg (by simp)).trans (if_pos (by have:=of_decide_eq_false q4;simp only;omega))
      rw[hno]
      refine l6 (by simp) Tryz.call210 (fV) [0,1] rfl [] rfl ?_
      rintro _ _ _ ⟨rfl,rfl,rfl⟩
      refine pH (fun w m=>m.cL (r' :=aI 5 1 (.slice none 0 0) 0 []) (.refl _ _) (Own.nil _ _ _ _) (fun k hk=>hk.elim)) ?_
      exact gT rfl rfl rfl di k4 (fun m=>ar (m.aN 1 rfl) (i:=0) rfl) (fun m=>ar (m.aN 2 rfl) (i:=0) rfl) [0] rfl [] rfl ⟨_,rfl,rfl,rfl⟩
     ·rintro _ _ _ ⟨rfl,rfl,rfl,q4⟩
      have hlen:((dA f)).length=k:=by have:=of_decide_eq_true q4;omega
      have hgo:c7 f most=if jA (dj (dA f))≠f.drop (f.length-4)then([],7)else((dA f),0):=by
       rw[hopen]
       unfold gH
       rw[hu]
       exact(if_neg (by simp)).trans (if_neg (by simp only;omega))
      refine aH (fun w m=>m.ew 1 rfl (View.drop (n:=f.length) (c:=c) (k:=f.length-4) (by omega) (by omega))) ?_
      refine aC (fun m=>ek (m.rd 0 rfl)) ?_
      rintro⟨hl_t,hA_t⟩
      have hcl:=ju (dA f)
      refine ag<|az [28,6,5,4,0,1] rfl<|aY rfl rfl<|aa<|ae<|y8 [43,44,45,46,47,48,49,50,51,52] [0,0,0] [0,1,2] rfl rfl [1,2,8,9] [(0,some 0),(3,some 2),(4,some 4),(5,some 2),(6,some 2),(7,some 2),(1,none),(2,none),(8,none),(9,none)] (by kernel_rfl) (by kernel_rfl) (by kernel_rfl) rfl 99<|bV (fun m=>ak rfl di (ar (m.aN 0 rfl) rfl))<|aj (ai rfl)<|aj (ai rfl)<|aj (a6 rfl Tryz.underlying27)<|aj (yV (ct rfl rfl (bE (by omega) (by omega))) ((show Value.int .i64 ((f.length:Int)-4)= .int .i64 ((f.length-4:Nat):Int) by congr 1;omega)))<|aj (ef rfl rfl Tryz.underlying27 dJ rfl (by omega))<| ?_
      refine dk (cS rfl Tryz.call180 (oX (by omega)) [] rfl (.x 1 rfl .own .nil) ?_)
      rintro _ _ _ ⟨rfl,rfl,rfl⟩
      refine⟨rfl, ?_⟩
      refine⟨(fun _=>wk [0,0,0] [0,1,2] rfl rfl), ?_⟩
      refine dk (an rfl Tryz.call179 (jr (by omega)) [] rfl [] rfl ?_)
      rintro _ _ _ ⟨v2,rfl,rfl,rfl⟩
      refine⟨(fun _=>wk [1,1,1] [0,1,2] rfl rfl), ?_⟩
      refine bU (fun m=>(m.own 0 rfl).slice) ?_
      rintro⟨A_x2,c_x2,rfl,hc_x2⟩
      refine bU (fun m=>(m.ord 0 rfl).2.1) fun hA_x2=> ?_
      refine dk (cS rfl Tryz.call215 (nS) [] rfl (.x 0 rfl .own (.s 0 rfl .nil)) ?_)
      rintro _ _ _ ⟨rfl,rfl,rfl⟩
      refine⟨rfl, ?_⟩
      refine⟨(fun _=>wk [1,1,1] [0,1,2] rfl rfl), ?_⟩
      refine dk (gG rfl Tryz.call212 (oe) [] rfl [] rfl ?_ ?_)
      ·rintro _ _ _ ⟨rfl,rfl,rfl,q5⟩
       refine C1<|dX<|iQ<| ?_
       rw[(hgo.trans (if_pos (of_decide_eq_false q5)))]
       refine l6 (by simp) Tryz.call210 (fV) [1,2] rfl [] rfl ?_
       rintro _ _ _ ⟨rfl,rfl,rfl⟩
       refine pH (fun w m=>m.cL (r' :=aI 5 1 (.slice none 0 0) 0 []) (.refl _ _) (Own.nil _ _ _ _) (fun k hk=>hk.elim)) ?_
       exact gT rfl rfl rfl di k4 (fun m=>ar (m.aN 1 rfl) (i:=0) rfl) (fun m=>ar (m.aN 2 rfl) (i:=0) rfl) [0] rfl [] rfl ⟨_,rfl,rfl,rfl⟩
      ·rintro _ _ _ ⟨rfl,rfl,rfl,q5⟩
       refine⟨(fun _=>wk [1,1,1] [0,1,2] rfl rfl), ?_⟩
       rw[hgo.trans (if_neg (fun h=>h (of_decide_eq_true q5)))]
       refine yB<|az [28,6,5,4,0,1] rfl<|aY rfl rfl<|aa<|ae<|ah<|hy (fun m=>ak rfl di (ar (m.aN 1 rfl) rfl))<| ?_
       refine cF (dw 1 rfl rfl rfl je rfl (by first|exact Nat.le_of_ble_eq_true rfl|simp) ?_)
       refine cF (dw 3 rfl rfl rfl xD rfl (by first|exact Nat.le_of_ble_eq_true rfl|simp) ?_)
       refine ag<|az [28,6,5,4,0,1] rfl<|aY rfl rfl<|aa<|aR<| ?_
       refine wy trivial ?_
       refine l6 (by simp) Tryz.call210 (s7) [1,0] rfl [] rfl ?_
       rintro _ _ _ ⟨rfl,rfl,rfl⟩
       exact gT rfl rfl rfl di k4 (fun m=>ar (m.aN 0 rfl) (i:=0) rfl) (fun m=>ar (m.aN 1 rfl) (i:=0) rfl) [3] rfl [] rfl ⟨_,rfl,rfl,rfl⟩
end Go.Proofs.YtmibdabdlgmafaaGreatDoor
end
section
set_option maxRecDepth 20000
namespace Go.Proofs.YtmibdabdlgmafaaGreatDoor
open Go.Eng Go.Hx
structure um where
 h:List UInt32
 n:Nat
 A:Option Addr
 c:Nat
 rest:List UInt8
def mi(h:List UInt32)(n:Nat)(A:Option Addr)(m c:Nat):List Value:=dL h++[.int .i64 (n:Int),.slice A m c]
abbrev l9(g:Nat)(s:um):bg:=eD [aE g 308 (mi s.h s.n s.A s.rest.length s.c),aI 5 1 (.slice s.A s.rest.length s.c) s.rest.length (aT s.rest)]
structure um.ok(s:um)(all:List UInt8):Prop where
 len:s.h.length=8
 n:s.n=all.length
 HV:∃d,d++s.rest=all∧d.length % 64=0∧s.h=fm lN d
theorem jW{h:List UInt32}{n:Nat}{A:Option Addr}{m c:Nat}(hh:h.length=8):(mi h n A m c).length=10:=by simp[mi,dL,hh]
theorem vX{h:List UInt32}{n:Nat}{A:Option Addr}{m c:Nat}(hh:h.length=8):(mi h n A m c)[8]? =some (.int .i64 (n:Int)):=by
 rw[mi,List.getElem?_append_right (by rw[aX];omega),aX,hh];rfl
theorem sQ{h:List UInt32}{n:Nat}{A:Option Addr}{m c:Nat}(hh:h.length=8):(mi h n A m c)[9]? =some (.slice A m c):=by
 rw[mi,List.getElem?_append_right (by rw[aX];omega),aX,hh];rfl
theorem Ak{h:List UInt32}{n:Nat}{A:Option Addr}{m c:Nat}{j:Nat}{u:Value}(hu:(dL h)[j]? =some u):(mi h n A m c)[j]? =some u:=by
 rw[mi,List.getElem?_append_left ((List.getElem?_eq_some_iff.1 hu).1)];exact hu
theorem zd{h:List UInt32}{n n' :Nat}{A:Option Addr}{m c:Nat}(hh:h.length=8):(mi h n A m c).set 8 (.int .i64 (n' :Int))=mi h n' A m c:=by
 rw[mi,List.set_append_right _ _ (by rw[aX];omega),aX,hh];rfl
theorem tu{h:List UInt32}{n:Nat}{A A' :Option Addr}{m c m' c' :Nat}(hh:h.length=8):(mi h n A m c).set 9 (.slice A' m' c')=mi h n A' m' c' :=by
 rw[mi,List.set_append_right _ _ (by rw[aX];omega),aX,hh];rfl
theorem By{h h' :List UInt32}{n:Nat}{A:Option Addr}{m c:Nat}(hh:h.length=8)(hh' :h'.length=8):bD (mi h n A m c) 0 (dL h')=mi h' n A m c:=by
 rw[bD,List.take_zero,List.nil_append,Nat.zero_add,aX,hh',mi,List.drop_append_of_le_length (by rw[aX];omega),List.drop_of_length_le (by rw[aX];omega)];rfl
theorem FW:cf Tryz.prog 172 [] [] [] (fun v_ X_ S_=>∃g,v_=(.pointer (some ⟨g,0,none⟩))∧X_=[l9 g ⟨lN,0,none,0,[]⟩]∧S_=[]):=by
 refine aK (N:=4) Tryz.func172 rfl rfl (by simp) fun b=> ?_
 refine ae<|ah<|aG rfl<|ag<|aa<|ae<|ah<|hy (fun _=>yV (sU (n:=8) wB (by kernel_rfl) rfl (by kernel_rfl) rfl (by kernel_rfl) (by kernel_rfl) (qM (l:=[1779033703,3144134277,1013904242,2773480762,1359893119,2600822924,528734635,1541459225]))) ((rfl:_=Value.agg (dL lN).toArray)))<|hy (fun _=>yV (b6 CV rfl rfl (by kernel_rfl) (.cons (o:=0) (sz:=8) (by kernel_rfl) rfl rfl (Nat.le_of_ble_eq_true rfl) .nil)) ((rfl:_=Value.agg (mi lN 0 none 0 0).toArray)))<| ?_
 refine hx (br rfl (fun g3=> ?_))
 refine aG rfl<|ag<|az [0] rfl<|aY rfl rfl<|aa<|aR<| ?_
 refine bd (fun w m=>m.bw 0 rfl (show _=aE g3 308 (mi lN 0 none 0 0)from congrArg (aE _ _) (aV _))) ?_
 refine bd (fun w m=>m.cL (r' :=aI 5 1 (.slice none 0 0) 0 []) (.refl _ _) (Own.nil _ _ _ _) (fun k hk=>hk.elim)) ?_
 refine bd (X' :=l9 g3 ⟨lN,0,none,0,[]⟩::_) (fun w m=>(m.perm (ao [1,0] _ [_,_] _ rfl)).pack) ?_
 exact bc trivial rfl rfl [0] rfl [] rfl ⟨_,rfl,rfl,rfl⟩
theorem EK:um.ok ⟨lN,0,none,0,[]⟩ []:=⟨rfl,rfl,[],rfl,rfl,rfl⟩
theorem vD{g:Nat}{s:um}{B:Option Addr}{mb mc:Nat}{l:List UInt8}(hh:s.h.length=8)(hn:s.n+mb≤1000000000000000)(hr:s.rest.length+mb≤140737488355328):cf Tryz.prog 173 [.pointer (some ⟨g,0,none⟩),.slice B mb mc] [l9 g s] [cz 1 B mb (aT l),dF] (fun v_ X_ S_=>∃s1,v_=(.tuple #[])∧X_=[l9 g s1]∧S_=[]∧(s1.rest.length<64∧∀all,s.ok all→s1.ok (all++l))):=by
 refine aK (N:=49) Tryz.func173 rfl rfl (by simp) fun b=> ?_
 refine aQ (fun m=>ek (m.rd 0 rfl)) ?_
 rintro⟨hl_r,hA_r⟩
 have hlm:l.length=mb:=hl_r
 have hl0:=jW (n:=s.n) (A:=s.A) (m:=s.rest.length) (c:=s.c) hh
 refine a8 (fun w m=>(m.perm (ao [0] _ [_] _ rfl)).unpack) ?_
 refine ae<|ah<|au rfl<|hy (fun _=>aL rfl)<|hy (fun _=>ax rfl mq (by decide))<|hy (fun m=>ak rfl cY ((m.aN 0 rfl).aw 8 _ (vX hh)))<|au rfl<|hy (fun _=>a6 rfl Tryz.underlying27)<|hy (fun _=>aO rfl rfl (bE (by omega) (by omega)))<|hy (fun _=>aL rfl)<|hy (fun _=>ax rfl mq (by decide))<| ?_
 refine cF (bZ 0 rfl rfl rfl tA rfl (by rw[hl0];decide) ?_)
 refine ag<|az [0,1] rfl<|aY rfl rfl<|aa<|ae<|ah<| ?_
 refine aH (fun w m=>m.bw 0 rfl (show _=aE g 308 (mi s.h (s.n+mb) s.A s.rest.length s.c)from by rw[Nat.zero_add,←Int.natCast_add,zd hh])) ?_
 refine au rfl<|au rfl<|hy (fun _=>aL rfl)<|hy (fun _=>ax rfl jJ (by decide))<|hy (fun m=>ak rfl di ((m.aN 0 rfl).aw 9 _ (sQ hh)))<|au rfl<| ?_
 refine hx (bC 1 rfl rfl rfl Tryz.underlying27 Tryz.underlying27 (by exact .inl rfl) fh rfl (fun m=>Src.b9 (m.rd 0 rfl)) bl (by unfold maxLen;omega) (by omega) (fun u=> ?_))
 refine aC (fun m=>(m.own 0 rfl).slice) ?_
 rintro⟨A_d1,c_d1,rfl,hc_d1⟩
 refine aC (fun m=>(m.ord 0 rfl).2.1) fun hA_d1=> ?_
 refine aH (fun w m=>m.bw 0 rfl (show _=aI 5 1 (.slice A_d1 (s.rest++l).length c_d1) (s.rest++l).length (aT (s.rest++l))from by rw[List.length_append,hlm];simp[aT])) ?_
 have hls:=jW (n:=s.n+mb) (A:=s.A) (m:=s.rest.length) (c:=s.c) hh
 refine hy (fun _=>aL rfl)<|hy (fun _=>ax rfl jJ (by decide))<| ?_
 refine cF (bZ 1 rfl rfl rfl je rfl (by rw[hls];decide) ?_)
 refine ag<|az [0,1] rfl<|aY rfl rfl<|aa<|aM<| ?_
 refine a8 (fun w m=>m.bw 0 rfl (show _=aE g 308 (mi s.h (s.n+mb) A_d1 (s.rest++l).length c_d1)from by rw[Nat.zero_add,tu hh,List.length_append,hlm])) ?_
 have hlen:(s.rest++l).length=s.rest.length+mb:=by rw[List.length_append,hlm]
 refine ry (fun h A1 c1 q dn=>q.length) (fun h A1 c1 q dn=>[]) (fun h A1 c1 q dn=>[aE g 308 (mi h (s.n+mb) A1 q.length c1),aI 5 1 (.slice A1 q.length c1) q.length (aT q)]) (fun h A1 c1 q dn=>[]) (fun h A1 c1 q dn=>h.length=8∧q.length≤c1∧dn++q=s.rest++l∧dn.length % 64=0∧∀D,D.length % 64=0→s.h=fm lN D→h=fm lN (D++dn)) s.h A_d1 c_d1 (s.rest++l) [] [(0,_),(1,_)] ⟨rfl,rfl,trivial⟩ [0,0] rfl [] rfl (⟨hh,(by omega),rfl,rfl,fun D _ e=>by rw[List.append_nil];exact e⟩) trivial (fun h A1 c1 q dn ⟨h8,hqc,hdq,hd64,hD⟩=> ?_)
 have hls:=jW (n:=s.n+mb) (A:=A1) (m:=q.length) (c:=c1) h8
 refine ae<|ae<|ah<|au rfl<|hy (fun _=>aL rfl)<|hy (fun _=>ax rfl jJ (by decide))<|hy (fun m=>ak rfl di ((m.aN 0 rfl).aw 9 _ (sQ h8)))<|hy (fun _=>a6 rfl Tryz.underlying27)<|hy (fun _=>eO rfl rfl)<|ag<|az [27,0,1] rfl<|aa<| ?_
 refine cu rfl (fun hge=> ?_) (fun hge=> ?_)
 ·have hq64:64≤q.length:=by omega
  refine aB<|aa<|aM<|ae<|cA [10,13] [(0,some 1),(1,some 0),(2,some 0),(3,some 0),(4,some 0),(5,some 1),(6,some 0),(7,some 0),(8,some 0),(9,some 0),(10,none),(11,some 1),(12,some 1),(13,none)] (by kernel_rfl) (by kernel_rfl) rfl 1<|aj (ai rfl)<|aj (ai rfl)<|aj (aL rfl)<|aj (ax rfl oM (by decide))<|bV (fun m=>yV (aP rfl qv lr (by rw[aX,h8]) (fun j u hu=>(m.aN 0 rfl).aw j u (Ak hu))) ((rfl:_=Value.agg (dL h).toArray)))<|aj (ai rfl)<|aj (aL rfl)<|aj (ax rfl jJ (by decide))<|bV (fun m=>ak rfl di ((m.aN 0 rfl).aw 9 _ (sQ h8)))<|aj (mT rfl rfl Tryz.underlying27 dJ (show((64:Nat):Int)=64 from rfl) (by omega))<| ?_
  refine dk (cS rfl Tryz.call227 (H5 (by omega) h8 (l:=(q.take 64))) [] rfl (.x 1 rfl (View.own.trans (View.take hq64)) (.s 1 rfl .nil)) ?_)
  rintro _ _ _ ⟨rfl,rfl,rfl⟩
  refine⟨rfl, ?_⟩
  refine⟨(fun _=>wk [0,0] [0,1] rfl rfl), ?_⟩
  refine aj (aL rfl)<|aj (ax rfl oM (by decide))<| ?_
  have hb8:=iS h8 (q.take 64)
  refine gi (sb 0 rfl rfl rfl lr (by rw[aX,hb8]) gy (by rw[hls];decide) ⟨(fun h=>absurd h (by decide)), ?_⟩)
  refine dU (fun w m=>m.bw 0 rfl (show _=aE g 308 (mi (ea h (q.take 64)) (s.n+mb) A1 q.length c1)from by rw[Nat.zero_add,By h8 hb8])) ?_
  have hls2:=jW (n:=s.n+mb) (A:=A1) (m:=q.length) (c:=c1) hb8
  refine dU (X' :=aI 5 1 (.slice (if c1=64 then A1 else A1.map (·.add (64*1))) (q.length-64) (c1-64)) (q.length-64) ((aT q).drop (64*1))::_) (fun w m=>(m.perm (ao [1] _ [_] _ rfl)).Aq (View.rM hq64 hqc)) ?_
  refine bp<|az [27,0,1] rfl<|aY rfl rfl<|aa<|ah<|au rfl<|au rfl<|hy (fun _=>aL rfl)<|hy (fun _=>ax rfl jJ (by decide))<|hy (fun m=>ak rfl di ((m.aN 1 rfl).aw 9 _ (sQ hb8)))<|hy (fun _=>ef rfl rfl Tryz.underlying27 dJ (show((64:Nat):Int)=64 from rfl) (by omega))<|hy (fun _=>aL rfl)<|hy (fun _=>ax rfl jJ (by decide))<| ?_
  refine cF (bZ 1 rfl rfl rfl je rfl (by rw[hls2];decide) ?_)
  refine ag<|az [27,0,1] rfl<|aY rfl rfl<|aW<| ?_
  have hqd:(q.drop 64).length=q.length-64:=List.length_drop
  have e9:(aT q).drop (64*1)=aT (q.drop 64):=by simp[aT,List.map_drop]
  generalize hA2:(if c1=64 then A1 else A1.map (·.add (64*1)))=A2
  refine bd (fun w m=>m.bw 0 rfl (show _=aE g 308 (mi (ea h (q.take 64)) (s.n+mb) A2 (q.drop 64).length (c1-64))from by rw[Nat.zero_add,tu hb8,hqd])) ?_
  refine bd (fun w m=>m.bw 1 rfl (show _=aI 5 1 (.slice A2 (q.drop 64).length (c1-64)) (q.drop 64).length (aT (q.drop 64))from by rw[hqd,e9])) ?_
  refine nJ (ea h (q.take 64)) A2 (c1-64) (q.drop 64) (dn++q.take 64) ⟨rfl,rfl,trivial⟩ [1,0] rfl [0,1] rfl (⟨hb8,by omega,by rw[List.append_assoc,List.take_append_drop];exact hdq,by rw[List.length_append,List.length_take];omega,fun D h1 h2=>by rw[←List.append_assoc,pV (by rw[List.length_append];omega) (by rw[List.length_take];omega),←hD D h1 h2]⟩) (by omega)
 ·refine bH<|al<|al<|aD<| ?_
  have hok:∀all,s.ok all→um.ok ⟨h,s.n+mb,A1,c1,q⟩ (all++l):=fun all ok=>by
   obtain⟨D,e1,e2,e3⟩:=ok.HV
   refine⟨h8, ?_,D++dn, ?_, ?_,hD D e2 e3⟩
   ·show s.n+mb=_
    rw[List.length_append,ok.n,hlm]
   ·show(D++dn)++q=_
    rw[List.append_assoc,hdq,←List.append_assoc,e1]
   ·rw[List.length_append];omega
  refine bd (X' :=l9 g ⟨h,s.n+mb,A1,c1,q⟩::_) (fun w m=>(m.perm (ao [0,0] _ [_,_] _ rfl)).pack) ?_
  exact fA trivial rfl [0] rfl [] rfl ⟨_,rfl,rfl,rfl,⟨(by show q.length<64;omega),hok⟩⟩
theorem CH{h:List UInt32}{n:Nat}{A:Option Addr}{m c:Nat}(hh:h.length=8){z:List Value}(hz:z.length=10):bD (bD (bD z 0 (dL h)) 8 [.int .i64 (n:Int)]) 9 [.slice A m c]=mi h n A m c:=by
 have hw:(dL h).length=8:=by rw[aX,hh]
 have e1:bD z 0 (dL h)=dL h++z.drop 8:=by simp[bD,hw]
 match hq:z.drop 8,(show(z.drop 8).length=2 by rw[List.length_drop,hz])with
 | [x,y],_=>
  rw[e1,hq]
  have e2:bD (dL h++[x,y]) 8 [.int .i64 (n:Int)]=dL h++[.int .i64 (n:Int),y]:=by
   rw[bD,List.take_append_of_le_length (by omega),List.take_of_length_le (by omega),List.drop_append,List.drop_of_length_le (by omega)]
   simp[hw]
  rw[e2,bD,List.take_append,List.take_of_length_le (by omega),List.drop_of_length_le (by simp[hw])]
  simp[hw,mi]
theorem EM{P:Program}{pl:Nat→Option (Nat×Nat)}{h:List UInt32}(hh:h.length=8){zs:List Value}(hz:zs.length=10)(p0:pl 0=some (0,8))(p1:pl 1=some (8,1))(p2:pl 2=some (9,1)){n:Nat}{A:Option Addr}{m c:Nat}:
  wq P pl zs [(0,.agg (dL h).toArray),(1,.int .i64 (n:Int)),(2,.slice A m c)] (mi h n A m c):=by
 have hw:(dL h).length=8:=by rw[aX,hh]
 have l1:(bD zs 0 (dL h)).length=10:=by rw[en (by omega),hz]
 have l2:(bD (bD zs 0 (dL h)) 8 [Value.int .i64 (n:Int)]).length=10:=by rw[en (by rw[l1];show 8+1≤10;decide),l1]
 refine .cons (vs:=dL h) p0 rfl hw (by omega) (.cons (vs:=[.int .i64 (n:Int)]) p1 rfl rfl (by omega) (.cons (vs:=[.slice A m c]) p2 rfl rfl (by omega) ?_))
 have e:=CH (n:=n) (A:=A) (m:=m) (c:=c) hh hz
 show wq P pl (bD (bD (bD zs 0 (dL h)) 8 [.int .i64 (n:Int)]) 9 [.slice A m c]) [] _
 rw[e]
 exact .nil
theorem BX{g:Nat}{s:um}(hh:s.h.length=8)(hr:s.rest.length≤140737488351232):cf Tryz.prog 228 [.pointer (some ⟨g,0,none⟩)] [l9 g s] [] (fun v_ X_ S_=>∃g2 s2,v_=(.pointer (some ⟨g2,0,none⟩))∧X_=[l9 g s,l9 g2 s2]∧S_=[]∧(s2.h=s.h∧s2.n=s.n∧s2.rest=s.rest)):=by
 refine aK (N:=18) Tryz.func228 rfl rfl (by simp) fun b=> ?_
 refine a8 (fun w m=>(m.perm (ao [0] _ [_] _ rfl)).unpack) ?_
 have hl0:=jW (n:=s.n) (A:=s.A) (m:=s.rest.length) (c:=s.c) hh
 refine ae<|ah<|aG rfl<|ag<|aa<|ae<|cA [12,14] [(0,some 2),(1,some 1),(2,some 1),(3,some 1),(4,some 2),(5,some 1),(6,some 1),(7,some 1),(8,some 2),(9,some 2),(10,some 0),(11,some 0),(12,none),(13,some 1),(14,none),(15,some 2)] (by kernel_rfl) (by kernel_rfl) rfl 99<|aj (ai rfl)<|aj (aL rfl)<|aj (ax rfl oM (by decide))<|bV (fun m=>yV (aP rfl qv lr (by rw[aX,hh]) (fun j u hu=>(m.aN 0 rfl).aw j u (Ak hu))) ((rfl:_=Value.agg (dL s.h).toArray)))<|aj (ai rfl)<|aj (aL rfl)<|aj (ax rfl mq (by decide))<|bV (fun m=>ak rfl cY ((m.aN 0 rfl).aw 8 _ (vX hh)))<|aj (ai rfl)<|aj (aL rfl)<|aj (ax rfl jJ (by decide))<|bV (fun m=>ak rfl di ((m.aN 0 rfl).aw 9 _ (sQ hh)))<| ?_
 refine dk (cS rfl Tryz.call117 (nh (by omega)) [] rfl (.x 1 rfl .own .nil) ?_)
 rintro _ _ _ ⟨v,rfl,rfl,rfl⟩
 refine⟨rfl, ?_⟩
 refine⟨(fun _=>wk [1,1] [] rfl rfl), ?_⟩
 refine bU (fun m=>(m.own 0 rfl).slice) ?_
 rintro⟨A_x,c_x,rfl,hc_x⟩
 refine bU (fun m=>(m.ord 0 rfl).2.1) fun hA_x=> ?_
 refine aj (b6 CV rfl rfl (by kernel_rfl) (EM hh rfl (by kernel_rfl) (by kernel_rfl) (by kernel_rfl)))<| ?_
 refine dk (br rfl (fun g17=>⟨(fun _=>wk [2,2] [] rfl rfl), ?_⟩))
 refine aj (ay rfl)<|bp<|az [2,0] rfl<|aY rfl rfl<|aa<|aR<| ?_
 refine bd (fun w m=>m.bw 0 rfl (show _=aE g17 308 (mi s.h s.n A_x s.rest.length c_x)from congrArg (aE _ _) (aV _))) ?_
 refine bd (X' :=l9 g s::_) (fun w m=>(m.perm (ao [2,2] _ [_,_] _ rfl)).pack) ?_
 refine bd (X' :=l9 g17 ⟨s.h,s.n,A_x,c_x,s.rest⟩::_) (fun w m=>(m.perm (ao [1,1] _ [_,_] _ rfl)).pack) ?_
 exact bc trivial rfl rfl [1,0] rfl [] rfl ⟨_,_,rfl,rfl,rfl,⟨rfl,rfl,rfl⟩⟩
end Go.Proofs.YtmibdabdlgmafaaGreatDoor
end
section
set_option maxRecDepth 20000
namespace Go.Proofs.YtmibdabdlgmafaaGreatDoor
open Go.Eng Go.Hx
theorem Aj(n:Nat)(h:n<18446744073709551616):IntKind.u64.wrap (n:Int)=(n:Int):=by
 simp[IntKind.wrap,IntKind.signed,IntKind.bits];omega
theorem yC{n i:Nat}(hi:i<8):(sE n).take (i+1)=(sE n).take i++[UInt8.ofNat (n/256 ^ (7-i))]:=by
 rw[sE,←List.map_take,←List.map_take,List.take_range,List.take_range,show min (i+1) 8=i+1 by omega,show min i 8=i by omega,List.range_succ,List.map_append];rfl
theorem Ir{i:Nat}(hi:i<8):2 ^ (56-8*i)=256 ^ (7-i):=by
 rw[show(256:Nat)=2 ^ 8 from rfl,←Nat.pow_mul];congr 1;omega
theorem wP(h:List UInt32)(j:Nat)(hj:j<h.length):eE (h.take (j+1))=eE (h.take j)++AV (h.getD j 0):=by
 rw[List.take_succ_eq_append_getElem hj,eE,eE,List.flatMap_append]
 simp[List.getD,List.getElem?_eq_getElem hj]
theorem pY(h:List UInt32):∀j,j≤h.length→(eE (h.take j)).length=4*j
 |0,_=>rfl
 |j+1,hj=>by rw[wP h j (by omega),List.length_append,pY h j (by omega)];show 4*j+4=_;omega
theorem Hl{p r:List UInt8}{k:Nat}{a b c d x y z u:UInt8}(hp:p.length=k):
  ((((aT (p++x::y::z::u::r)).set k (B8 a)).set (k+1) (B8 b)).set (k+2) (B8 c)).set (k+3) (B8 d)=aT (p++a::b::c::d::r):=by
 subst hp
 simp[aT,List.set_append]
theorem Gs{g:Nat}{s:um}{all:List UInt8}(ok:s.ok all)(hr:s.rest.length<64)(ha:all.length≤140737488351232):cf Tryz.prog 174 [.pointer (some ⟨g,0,none⟩)] [l9 g s] [dF] (fun v_ X_ S_=>v_=(.agg (aT (bA all)).toArray)∧X_=[l9 g s]∧S_=[]):=by
 have hh:=ok.len
 have hsn:=ok.n
 have hl0:=jW (n:=s.n) (A:=s.A) (m:=s.rest.length) (c:=s.c) hh
 have hz64:ir s.n<64:=Nat.mod_lt _ (by decide)
 have hzp:(s.n+(1+ir s.n)) % 64=56:=by unfold ir;omega
 have hzm:∀j,j<ir s.n→(s.n+(1+j)) % 64≠56:=fun j hj=>by unfold ir at hj;omega
 refine aK (N:=83) Tryz.func174 rfl rfl (by simp) fun b=> ?_
 refine ae<|ah<| ?_
 refine hx (ba fw (fun g2=> ?_))
 refine ag<|aY rfl rfl<|aa<|ae<|ah<|au rfl<| ?_
 refine hx (an rfl Tryz.call228 (BX (by omega) (by omega)) [1] rfl [] rfl ?_)
 rintro _ _ _ ⟨g22,s2,rfl,rfl,rfl,hp⟩
 refine aG rfl<|ag<|az [3,2,0] rfl<|aY rfl rfl<|aa<|ae<|ah<| ?_
 refine hx (b5 Tryz.underlying27 fh rfl rfl rfl (by simp[Value.cells,B8]) (by decide) (by decide) (fun g12=> ?_))
 have hA_b12:0<1→(some (⟨g12,0,none⟩:Addr))≠none:=fun _ h=>by cases h
 refine aG rfl<|ag<|az [4,3,2,0] rfl<|aY rfl rfl<|aa<|ae<|aM<| ?_
 obtain⟨c1,c2,c3⟩:=hp
 refine a8 (fun w m=>m.bw 0 rfl (show _=aI 5 1 (.slice (some ⟨g12,0,none⟩) 1 1) (1+0) (aT (128::List.replicate 0 0))from rfl)) ?_
 refine gh (fun j A1 cc=>ir s.n-j) (fun j A1 cc=>[(4,.slice A1 (1+j) cc)]) (fun j A1 cc=>[aI 5 1 (.slice A1 (1+j) cc) (1+j) (aT (128::List.replicate j 0)),l9 g s]) (fun j A1 cc=>[]) (fun j A1 cc=>j≤ir s.n) 0 (some ⟨g12,0,none⟩) 1 [(3,_),(2,_),(0,_)] ⟨rfl,rfl,rfl,trivial⟩ [0,0] rfl [] rfl (Nat.zero_le _) ⟨rfl,trivial⟩ (fun j A1 cc hjz=> ?_)
 refine a8 (fun w m=>(m.perm (ao [1] _ [_] _ rfl)).unpack) ?_
 refine ae<|ae<|ah<|au rfl<|hy (fun _=>aL rfl)<|hy (fun _=>ax rfl mq (by decide))<|hy (fun m=>ak rfl cY ((m.aN 0 rfl).aw 8 _ (vX hh)))<|au rfl<|hy (fun _=>a6 rfl Tryz.underlying27)<|hy (fun _=>aO rfl rfl (bE (by omega) (by omega)))<|hy (fun _=>hZ rfl rfl (by omega) (by omega))<|hy (fun _=>de rfl rfl)<|ag<|az [21,4,3,2,0] rfl<|aa<| ?_
 refine a8 (X' :=l9 g s::_) (fun w m=>(m.perm (ao [0,0] _ [_,_] _ rfl)).pack) ?_
 refine cu rfl (fun hne=> ?_) (fun hne=> ?_)
 ·have hj:j<ir s.n:=by
   rcases Nat.lt_or_eq_of_le hjz with h|h
   ·exact h
   ·rw[←h]at hzp;omega
  refine aB<|aa<|aM<|ah<|au rfl<| ?_
  refine hx (b5 Tryz.underlying27 fh rfl rfl rfl (by simp[Value.cells,B8]) (by decide) (by decide) (fun g23=> ?_))
  have hA_b23:0<1→(some (⟨g23,0,none⟩:Addr))≠none:=fun _ h=>by cases h
  refine aH (fun w m=>m.bw 0 rfl (show _=aI 5 1 (.slice (some ⟨g23,0,none⟩) 1 1) 1 (aT [0])from rfl)) ?_
  refine hx (bC 2 rfl rfl rfl Tryz.underlying27 Tryz.underlying27 (by exact .inl rfl) fh rfl (fun m=>Src.b9 (m.ord 0 rfl)) bl (by unfold maxLen;omega) (by omega) (fun u=> ?_))
  refine aC (fun m=>(m.own 0 rfl).slice) ?_
  rintro⟨A_b12,c_b12,rfl,hc_b12⟩
  refine aC (fun m=>(m.ord 0 rfl).2.1) fun hA_b12=> ?_
  refine aG rfl<|ag<|az [4,21,3,2,0] rfl<|aY rfl rfl<|aW<| ?_
  refine bd (fun w m=>m.bw 0 rfl (show _=aI 5 1 (.slice A_b12 (1+(j+1)) c_b12) (1+(j+1)) (aT (128::List.replicate (j+1) 0))from by rw[Nat.add_assoc,List.replicate_succ',aT,aT,aT,←List.map_append];rfl)) ?_
  refine gj (j+1) A_b12 c_b12 ⟨rfl,rfl,rfl,rfl,trivial⟩ [0,1,1,1] rfl [0] rfl (by omega) (by omega)
 ·have hj:j=ir s.n:=by
   refine Decidable.byContradiction fun hn=> ?_
   have:=hzm j (by omega)
   omega
  subst hj
  have hsl:IntKind.u64.wrap ((s.n:Int)*8)=((8*s.n:Nat):Int):=by
   rw[show(s.n:Int)*8=((8*s.n:Nat):Int) by omega]
   exact Aj _ (by omega)
  refine bH<|al<|al<|aD<|aa<|ae<|ah<|au rfl<|hy (fun _=>aL rfl)<|hy (fun _=>ax rfl mq (by decide))<|hy (fun m=>ak rfl cY ((show e8 _ _ _ _ from m.G5 0 rfl 0 rfl).aw 8 _ (vX hh)))<|hy (fun _=>b8 rfl Tryz.underlying3 Tryz.underlying310 (Aj s.n (by omega)))<|hy (fun _=>w8 (p:=8) rfl rfl (by decide) (by decide) (by decide) hsl)<|aG rfl<|ag<|az [5,21,4,3,2,0] rfl<|aa<|ae<|ae<|ah<|au rfl<|ag<|aa<|aM<| ?_
  generalize hz:ir s.n=z at hz64
  refine a8 (fun w m=>m.bw 1 rfl (show _=aI 5 1 (.slice A1 (1+z+0) cc) (1+z+0) (aT (128::List.replicate z 0++(sE (8*s.n)).take 0))from by rw[List.take_zero,List.append_nil];rfl)) ?_
  refine gh (fun i A2 ce=>8-i) (fun i A2 ce=>[(4,.slice A2 (1+z+i) ce),(31,.int .i64 (i:Nat))]) (fun i A2 ce=>[aI 5 1 (.slice A2 (1+z+i) ce) (1+z+i) (aT (128::List.replicate z 0++(sE (8*s.n)).take i))]) (fun i A2 ce=>[]) (fun i A2 ce=>i≤8) 0 A1 cc [(5,_),(21,_),(3,_),(2,_),(0,_)] ⟨rfl,rfl,rfl,rfl,rfl,trivial⟩ [0] rfl [] rfl (Nat.zero_le _) ⟨rfl,rfl,trivial⟩ (fun i A2 ce hi8=> ?_)
  refine ae<|ah<|hy (fun _=>bx rfl rfl)<|ag<|aa<|ae<| ?_
  refine cu rfl (fun hi=> ?_) (fun hi=> ?_)
  ·have hcv:IntKind.u8.wrap (((8*s.n:Nat):Int)/((2 ^ (56-8*i):Nat):Int))=((UInt8.ofNat (8*s.n/256 ^ (7-i))).toNat:Int):=by
    rw[←Int.natCast_ediv,Ir (by omega)]
    exact iM _
   have hsb:(56:Int)-8*(i:Int)=((56-8*i:Nat):Int):=by omega
   refine aB<|aa<|ae<|aM<|ae<|ah<|au rfl<|aG rfl<|ag<|az [6,32,4,31,5,21,3,2,0] rfl<|aa<|ah<|au rfl<|au rfl<|au rfl<|hy (fun _=>gz rfl rfl (bE (by omega) (by omega)))<|hy (fun _=>ct rfl rfl (bE (by omega) (by omega)))<| ?_
   rw[hsb]
   refine hy (fun _=>mE rfl rfl (by omega) (by simp[IntKind.bits];omega) (show(2:Int) ^ (((56-8*i:Nat):Int)).toNat=((2 ^ (56-8*i):Nat):Int) by rw[Int.toNat_natCast];simp))<|hy (fun _=>b8 rfl Tryz.underlying310 Tryz.underlying5 hcv)<| ?_
   refine hx (b5 Tryz.underlying27 fh rfl rfl rfl (by simp[Value.cells,B8]) (by decide) (by decide) (fun g41=> ?_))
   have hA_b41:0<1→(some (⟨g41,0,none⟩:Addr))≠none:=fun _ h=>by cases h
   refine aH (fun w m=>m.bw 0 rfl (show _=aI 5 1 (.slice (some ⟨g41,0,none⟩) 1 1) 1 (aT [UInt8.ofNat (8*s.n/256 ^ (7-i))])from rfl)) ?_
   refine hx (bC 1 rfl rfl rfl Tryz.underlying27 Tryz.underlying27 (by exact .inl rfl) fh rfl (fun m=>Src.b9 (m.ord 0 rfl)) bl (by unfold maxLen;omega) (by omega) (fun u=> ?_))
   refine aC (fun m=>(m.own 0 rfl).slice) ?_
   rintro⟨A_b12,c_b12,rfl,hc_b12⟩
   refine aC (fun m=>(m.ord 0 rfl).2.1) fun hA_b12=> ?_
   refine aG rfl<|ag<|az [4,6,32,31,5,21,3,2,0] rfl<|aY rfl rfl<|aW<|aa<|ah<|hy (fun _=>aO rfl rfl (bE (by omega) (by omega)))<|au rfl<|ag<|az [31,4,6,32,5,21,3,2,0] rfl<| ?_
   refine bd (fun w m=>m.bw 0 rfl (show _=aI 5 1 (.slice A_b12 (1+z+(i+1)) c_b12) (1+z+(i+1)) (aT (128::List.replicate z 0++(sE (8*s.n)).take (i+1)))from by rw[yC (by omega),←List.append_assoc];simp[aT,Nat.add_assoc])) ?_
   refine gj (i+1) A_b12 c_b12 ⟨rfl,rfl,rfl,rfl,rfl,rfl,rfl,trivial⟩ [0,1,1,1] rfl [0] rfl (by omega) (by omega)
  ·obtain rfl:i=8:=by omega
   have hpad:all++(128::List.replicate z 0++(sE (8*s.n)).take 8)=ja all:=by
    rw[List.take_of_length_le (by simp[sE]),ja,←hsn,hz,List.append_assoc]
   refine bH<|al<|al<|aD<|aa<|ae<|ah<|au rfl<|au rfl<| ?_
   refine hx (cS rfl Tryz.call173 (vD (by rw[c1];exact hh) (by rw[c2];omega) (by rw[c3];omega) (s:=s2) (l:=(128::List.replicate z 0++(sE (8*s.n)).take 8))) [2] rfl (.x 0 rfl .own (.s 0 rfl .nil)) ?_)
   rintro _ _ _ ⟨s1,rfl,rfl,rfl,hw⟩
   refine⟨rfl, ?_⟩
   obtain⟨hw1,hw2⟩:=hw
   have ok2:s2.ok all:=⟨by rw[c1];exact hh,by rw[c2];exact hsn,by rw[c1,c3];exact ok.HV⟩
   have ok3:=hw2 all ok2
   rw[hpad]at ok3
   have hh3:=ok3.len
   have hfin:s1.h=fm lN (ja all):=by
    obtain⟨D,e1,e2,e3⟩:=ok3.HV
    have hl:=congrArg List.length e1
    rw[List.length_append]at hl
    have hp:=oo all
    have:s1.rest=[]:=List.eq_nil_of_length_eq_zero (by omega)
    rw[this,List.append_nil]at e1
    rw[e3,e1]
   have hsha:eE s1.h=bA all:=by rw[hfin];rfl
   have hd32:=pY s1.h
   have hl3:=jW (n:=s1.n) (A:=s1.A) (m:=s1.rest.length) (c:=s1.c) hh3
   refine aH (fun w m=>(m.perm (ao [0] _ [_] _ rfl)).unpack) ?_
   refine ag<|az [32,4,31,5,21,3,2,0] rfl<|aY rfl rfl<|aa<|ae<|ah<| ?_
   refine hx (ba fw (fun g7=> ?_))
   refine aH (fun w m=>m.bw 0 rfl (show _=aE g7 53 (aT (eE (s1.h.take 0)++List.replicate (32-4*0) 0))from rfl)) ?_
   refine ag<|aY rfl rfl<|aa<|ae<|ae<|ah<|au rfl<|hy (fun _=>aL rfl)<|hy (fun _=>ax rfl oM (by decide))<|hy (fun m=>yV (aP rfl qv lr (by rw[aX,hh3]) (fun j u hu=>(m.aN 1 rfl).aw j u (Ak hu))) ((rfl:_=Value.agg (dL s1.h).toArray)))<|au rfl<|ag<|az [51,50,7,32,4,31,5,21,3,2,0] rfl<|aa<|aM<| ?_
   refine dD (fun k=>8-k) (fun k=>[(51,.int .i64 (k:Nat))]) (fun k=>[aE g7 53 (aT (eE (s1.h.take k)++List.replicate (32-4*k) 0))]) (fun k=>[]) (fun k=>k≤8) 0 [(50,_),(7,_),(32,_),(4,_),(31,_),(5,_),(21,_),(3,_),(2,_),(0,_)] ⟨rfl,rfl,rfl,rfl,rfl,rfl,rfl,rfl,rfl,rfl,trivial⟩ [0] rfl [] rfl (Nat.zero_le _) ⟨rfl,trivial⟩ (fun k hk8=> ?_)
   refine ae<|ah<|hy (fun _=>bx rfl rfl)<|ag<|aa<|ae<| ?_
   refine cu rfl (fun hk=> ?_) (fun hk=> ?_)
   ·have hdk:=hd32 k (by omega)
    have hr4:List.replicate (32-4*k) (0:UInt8)=0::0::0::0::List.replicate (32-4*(k+1)) 0:=by
     rw[show 32-4*k=(32-4*(k+1))+4 by omega];rfl
    refine aB<|aa<|ae<|aM<|ae<|ah<|au rfl<|hy (fun _=>yV (DO rfl rfl Tryz.underlying306 bB bM rfl (by omega) (bo (by omega))) ((rfl:_=Wd (s1.h.getD k 0))))<|aG rfl<|aG rfl<|ag<|az [9,8,52,51,50,7,32,4,31,5,21,3,2,0] rfl<|aa<|ah<|au rfl<|hy (fun _=>gz rfl rfl (bE (by omega) (by omega)))<|au rfl<|hy (fun _=>gz rfl rfl (bE (by omega) (by omega)))<|hy (fun _=>aO rfl rfl (bE (by omega) (by omega)))<|au rfl<|hy (fun _=>gz rfl rfl (bE (by omega) (by omega)))<|hy (fun _=>aO rfl rfl (bE (by omega) (by omega)))<|au rfl<|hy (fun _=>gz rfl rfl (bE (by omega) (by omega)))<|hy (fun _=>aO rfl rfl (bE (by omega) (by omega)))<|au rfl<|hy (fun _=>kG (k:=24) (b:=16777216) (by decide) rfl rfl rfl)<|hy (fun _=>AA rfl Tryz.underlying166 Tryz.underlying5)<|au rfl<|hy (fun _=>kG (k:=16) (b:=65536) (by decide) rfl rfl rfl)<|hy (fun _=>AA rfl Tryz.underlying166 Tryz.underlying5)<|au rfl<|hy (fun _=>kG (k:=8) (b:=256) (by decide) rfl rfl rfl)<|hy (fun _=>AA rfl Tryz.underlying166 Tryz.underlying5)<|au rfl<|hy (fun _=>AA rfl Tryz.underlying166 Tryz.underlying5)<|hy (fun _=>bS rfl rfl Tryz.underlying53 dJ (show((4*k:Nat):Int)=_ by omega) (by omega))<| ?_
    refine cF (bZ 0 rfl rfl rfl dJ rfl (by simp[aT];omega) ?_)
    refine hy (fun _=>bS rfl rfl Tryz.underlying53 dJ (show((4*k+1:Nat):Int)=_ by omega) (by omega))<| ?_
    refine cF (bZ 0 rfl rfl rfl dJ rfl (by simp[aT];omega) ?_)
    refine hy (fun _=>bS rfl rfl Tryz.underlying53 dJ (show((4*k+2:Nat):Int)=_ by omega) (by omega))<| ?_
    refine cF (bZ 0 rfl rfl rfl dJ rfl (by simp[aT];omega) ?_)
    refine hy (fun _=>bS rfl rfl Tryz.underlying53 dJ (show((4*k+3:Nat):Int)=_ by omega) (by omega))<| ?_
    refine cF (bZ 0 rfl rfl rfl dJ rfl (by simp[aT];omega) ?_)
    refine ag<|az [9,8,52,51,50,7,32,4,31,5,21,3,2,0] rfl<|aY rfl rfl<|aW<|aa<|ah<|hy (fun _=>aO rfl rfl (bE (by omega) (by omega)))<|au rfl<|ag<|az [51,9,8,52,50,7,32,4,31,5,21,3,2,0] rfl<| ?_
    refine bd (fun w m=>m.bw 0 rfl (show _=aE g7 53 (aT (eE (s1.h.take (k+1))++List.replicate (32-4*(k+1)) 0))from by rw[hr4,Nat.zero_add,Nat.zero_add,Nat.zero_add,Nat.zero_add,Hl hdk,wP _ _ (by omega)];simp[AV])) ?_
    refine cH (k+1) ⟨rfl,rfl,rfl,rfl,rfl,rfl,rfl,rfl,rfl,rfl,rfl,trivial⟩ [0,0,0,0,0,0] rfl [0] rfl (by omega) (by omega)
   ·obtain rfl:k=8:=by omega
    refine a8 (fun w m=>m.bw 0 rfl (show _=aE g7 53 (aT (bA all))from by rw[List.take_of_length_le (by omega),hsha];simp)) ?_
    refine bH<|al<|al<|aD<|aa<|ae<|ah<|hy (fun m=>yV (aP rfl cB b7 (by rw[aA,bq]) ((m.aN 0 rfl).aw)) ((rfl:_=Value.agg (aT (bA all)).toArray)))<| ?_
    refine cF (a7 5 rfl rfl rfl b7 (by rw[aA,bq]) bl rfl ?_)
    refine ag<|az [52,51,50,7,32,4,31,5,21,3,2,0] rfl<|aY rfl rfl<|aa<|aR<| ?_
    exact eZ trivial rfl rfl cB b7 (by rw[aA,bq]) (fun m=>(m.aN 0 rfl).aw) [5] rfl [] rfl ⟨rfl,rfl,rfl⟩
theorem oN{A:Option Addr}{n c:Nat}{l:List UInt8}(hn:n≤140737488351232):cf Tryz.prog 102 [.slice A n c] [] [cz 1 A n (aT l),dF] (fun v_ X_ S_=>v_=(.agg (aT (bA l)).toArray)∧X_=[]∧S_=[]):=by
 refine aK (N:=10) Tryz.func102 rfl rfl (by simp) fun b=> ?_
 refine aQ (fun m=>ek (m.rd 0 rfl)) ?_
 rintro⟨hl_r,hA_r⟩
 have hln:l.length=n:=hl_r
 refine ae<|ah<| ?_
 refine hx (ba fw (fun g2=> ?_))
 refine ag<|aY rfl rfl<|aa<|ae<|ah<| ?_
 refine hx (an rfl Tryz.call172 (FW) [] rfl [] rfl ?_)
 rintro _ _ _ ⟨g,rfl,rfl,rfl⟩
 refine aG rfl<|ag<|az [3,2,0] rfl<|aY rfl rfl<|aa<|ae<|ah<|au rfl<|au rfl<| ?_
 refine hx (an rfl Tryz.call173 (vD rfl (by show 0+n≤_;omega) (by show 0+n≤_;omega) (s:=⟨lN,0,none,0,[]⟩)) [0] rfl [0,1] rfl ?_)
 rintro _ _ _ ⟨s1,rfl,rfl,rfl,hw⟩
 refine ag<|az [3,2,0] rfl<|aY rfl rfl<|aa<|ae<|ah<| ?_
 obtain⟨hw1,hw2⟩:=hw
 have ok1:=hw2 [] EK
 rw[List.nil_append]at ok1
 refine au rfl<| ?_
 refine hx (an rfl Tryz.call174 (Gs ok1 hw1 (by omega) (all:=l)) [0] rfl [1] rfl ?_)
 rintro _ _ _ ⟨rfl,rfl,rfl⟩
 refine cF (a7 1 rfl rfl rfl b7 (by rw[aA,bq]) bl rfl ?_)
 refine ag<|az [3,2,0] rfl<|aY rfl rfl<|aa<|aR<| ?_
 exact eZ trivial rfl rfl cB b7 (by rw[aA,bq]) (fun m=>(m.aN 0 rfl).aw) [] rfl [] rfl ⟨rfl,rfl,rfl⟩
end Go.Proofs.YtmibdabdlgmafaaGreatDoor
end
section
set_option maxRecDepth 20000
set_option maxHeartbeats 4000000
namespace Go.Proofs.YtmibdabdlgmafaaGreatDoor
open Go.Eng Go.Hx
theorem Dv{g:Nat}{st:cU}{d:RD}{kk:Nat}{nm:List UInt8}(hD:DS st d kk)(hm:nm.length=32):cf Tryz.prog 73 [.pointer (some ⟨g,0,none⟩),.agg (aT nm).toArray] [bG g st] [dF] (fun v_ X_ S_=>∃v,v_=(.tuple #[v,.int .i64 (d.fu nm)])∧X_=[bG g st,aI 5 1 v (d.ik nm).length (aT (d.ik nm))]∧S_=[]):=by
 have hlen:=hD.u9 (bI nm)
 have hol:=nu (f:=d.cJ (bI nm)) (most:=4096) (by decide)
 refine aK (N:=33) Tryz.func73 rfl rfl (by simp) fun b=> ?_
 refine ae<|ah<| ?_
 refine hx (br rfl (fun g3=> ?_))
 refine aH (fun w m=>m.bw 0 rfl (show _=aE g3 53 (aT nm)from congrArg (aE _ _) (aV _))) ?_
 refine aG rfl<|aG rfl<|ag<|aY rfl rfl<|aa<|ae<|ah<|au rfl<|hy (fun m=>aP rfl cB b7 (by rw[aA];exact hm) ((m.aN 0 rfl).aw))<| ?_
 refine hx (an rfl Tryz.call94 (Af hm) [] rfl [] rfl ?_)
 rintro _ _ _ ⟨rfl,rfl,rfl⟩
 refine hx (an rfl Tryz.call90 (Er hD) [1] rfl [] rfl ?_)
 rintro _ _ _ ⟨v,rfl,rfl,rfl⟩
 refine aC (fun m=>(m.own 1 rfl).slice) ?_
 rintro⟨A_x,c_x,rfl,hc_x⟩
 refine aC (fun m=>(m.ord 1 rfl).2.1) fun hA_x=> ?_
 refine au rfl<|hy (fun _=>aF rfl rfl)<|hy (fun _=>aF rfl rfl)<|aG rfl<|aG rfl<|ag<|az [7,6,5,4,3,0,1] rfl<|aY rfl rfl<|aa<|ae<|ae<|ah<|au rfl<|hy (fun _=>de rfl rfl)<|ag<|az [17,7,6,5,4,3,0,1] rfl<|aa<| ?_
 refine cu rfl (fun h1=> ?_) (fun h1=> ?_)
 ·rw[jm h1,jX (by rw[jm h1];exact h1)]
  refine ae<|ah<|au rfl<|aG rfl<|aG rfl<|ag<|az [5,4,17,7,6,3,0,1] rfl<|aa<|aR<|aq<| ?_
  refine bd (fun w m=>m.cL (r' :=aI 5 1 (.slice none 0 0) 0 []) (.refl _ _) (Own.nil _ _ _ _) (fun k hk=>hk.elim)) ?_
  exact cQ trivial rfl rfl rfl [1,0] rfl [] rfl ⟨_,rfl,rfl,rfl⟩
 ·have h1:=Decidable.not_not.1 h1
  refine aB<|aa<|ae<|ah<|au rfl<| ?_
  refine hx (cS rfl Tryz.call155 (GP hc_x (by omega) (show(4096:Int)≤1000000 by decide)) [] rfl (.x 1 rfl .own .nil) ?_)
  rintro _ _ _ ⟨v2,rfl,rfl,rfl⟩
  refine⟨rfl, ?_⟩
  refine aC (fun m=>(m.own 0 rfl).slice) ?_
  rintro⟨A_x2,c_x2,rfl,hc_x2⟩
  refine aC (fun m=>(m.ord 0 rfl).2.1) fun hA_x2=> ?_
  refine au rfl<|hy (fun _=>aF rfl rfl)<|hy (fun _=>aF rfl rfl)<|aG rfl<|aG rfl<|ag<|az [7,8,17,6,5,4,3,0,1] rfl<|aY rfl rfl<|aa<|ae<|ae<|cA [4] [(0,some 0),(1,some 0),(2,some 0),(3,some 0),(5,some 1),(4,none),(6,some 1),(7,some 1)] (by kernel_rfl) (by kernel_rfl) rfl 99<|aj (ai rfl)<|aj (de rfl rfl)<|aj (ai rfl)<| ?_
  refine kP 26 rfl (fun h2=> ?_) (fun h2=> ?_)
  ·have hE:=mK (d:=d) (nm:=nm) h1 (.inl h2)
   rw[hE,jX (by rw[hE];decide)]
   refine bj rfl rfl rfl (by decide)<|bj rfl rfl rfl (by decide)<|CL rfl rfl rfl (by decide) (fun _=>wk [0,0,0,0] [0] rfl rfl)<|bj rfl rfl rfl (by decide)<|aj (bz rfl rfl)<|bp<|az [31,7,8,17,6,5,4,3,0,1] rfl<|aa<| ?_
   refine fx rfl (rfl) ?_
   refine ae<|ah<|aG rfl<|aG rfl<|ag<|aa<|aR<|aq<| ?_
   refine bd (fun w m=>m.cL (r' :=aI 5 1 (.slice none 0 0) 0 []) (.refl _ _) (Own.nil _ _ _ _) (fun k hk=>hk.elim)) ?_
   exact cQ trivial rfl rfl rfl [2,0] rfl [] rfl ⟨_,rfl,rfl,rfl⟩
  ·have h2:=Decidable.not_not.1 h2
   refine cq (o:=_) rfl rfl rfl (ai rfl)<|pB (o:=_) rfl rfl rfl (fun m=>aP rfl cB b7 (by rw[aA];exact hm) ((m.aN 3 rfl).aw))<| ?_
   refine HH (o:=_) rfl rfl rfl (cS rfl Tryz.call102 (oN (by omega)) [] rfl (.x 0 rfl .own (.s 0 rfl .nil)) ?_)
   rintro _ _ _ ⟨rfl,rfl,rfl⟩
   refine⟨rfl, ?_⟩
   refine⟨(fun _=>wk [0,0,0,0] [0] rfl rfl), ?_⟩
   refine cq (o:=_) rfl rfl rfl (oR rfl rfl (bq _) hm)<|aj (bn rfl rfl)<|bp<|az [31,7,8,17,6,5,4,3,0,1] rfl<|aY rfl rfl<|aa<| ?_
   refine cu rfl (fun h3=> ?_) (fun h3=> ?_)
   ·have hE:=mK (d:=d) (nm:=nm) h1 (.inr h3)
    rw[hE,jX (by rw[hE];decide)]
    refine ae<|ah<|aG rfl<|aG rfl<|ag<|aa<|aR<|aq<| ?_
    refine bd (fun w m=>m.cL (r' :=aI 5 1 (.slice none 0 0) 0 []) (.refl _ _) (Own.nil _ _ _ _) (fun k hk=>hk.elim)) ?_
    exact cQ trivial rfl rfl rfl [2,0] rfl [] rfl ⟨_,rfl,rfl,rfl⟩
   ·have hE:=vx (d:=d) (nm:=nm) h1 (fun q=>q.elim (fun q=>q h2) h3)
    rw[hE,rl hE]
    refine aB<|aa<|ae<|ah<|au rfl<|aG rfl<|aG rfl<|ag<|az [5,4,31,7,8,17,6,3,0,1] rfl<|aa<|aR<| ?_
    exact cQ trivial rfl rfl rfl [1,0] rfl [] rfl ⟨_,rfl,rfl,rfl⟩
theorem Hw{g:Nat}{st:cU}{d:RD}{kk:Nat}{nm:List UInt8}(hD:DS st d kk)(hm:nm.length=32):cf Tryz.prog 145 [.pointer (some ⟨g,0,none⟩),.agg (aT nm).toArray] [bG g st] [dF] (fun v_ X_ S_=>v_=(.bool (decide (d.fu nm=0)))∧X_=[bG g st]∧S_=[]):=by
 refine aK (N:=15) Tryz.func145 rfl rfl (by simp) fun b=> ?_
 refine ae<|ah<| ?_
 refine hx (br rfl (fun g3=> ?_))
 refine aH (fun w m=>m.bw 0 rfl (show _=aE g3 53 (aT nm)from congrArg (aE _ _) (aV _))) ?_
 refine aG rfl<|ag<|aY rfl rfl<|aa<|ae<|ah<|au rfl<|hy (fun m=>aP rfl cB b7 (by rw[aA];exact hm) ((m.aN 0 rfl).aw))<| ?_
 refine hx (an rfl Tryz.call73 (Dv hD hm) [1] rfl [0] rfl ?_)
 rintro _ _ _ ⟨v,rfl,rfl,rfl⟩
 refine aC (fun m=>(m.own 1 rfl).slice) ?_
 rintro⟨A_x,c_x,rfl,hc_x⟩
 refine aC (fun m=>(m.ord 1 rfl).2.1) fun hA_x=> ?_
 refine au rfl<|hy (fun _=>aF rfl rfl)<|hy (fun _=>aF rfl rfl)<|aG rfl<|aG rfl<|ag<|az [6,4,3,0,1] rfl<|aY rfl rfl<|aa<|ae<|ah<|au rfl<|hy (fun _=>cD rfl rfl)<|aG rfl<|ag<|az [4,6,3,0,1] rfl<|aa<|aR<| ?_
 exact bc trivial rfl rfl [0] rfl [] rfl ⟨rfl,rfl,rfl⟩
end Go.Proofs.YtmibdabdlgmafaaGreatDoor
end
section
set_option maxRecDepth 20000
set_option maxHeartbeats 4000000
namespace Go.Proofs.YtmibdabdlgmafaaGreatDoor
open Go.Eng Go.Hx
theorem GS:c5 Tryz.prog 179=some false:=by kernel_rfl
theorem F2:fl Tryz.prog 179=some 1:=by kernel_rfl
theorem Ga:TI Tryz.prog 179 .nilFunc 1 8:=by unfold TI;kernel_rfl
def tm(g:Nat)(L:List bg)(v:Value)(F:RD→RD×Int):Prop:=∃(f:Nat) (first cap:List Value),v= .func (.func f) first.toArray cap.toArray∧(∀args w,(callFunc f args).run Tryz.prog w= .ok (.enter f args) w)∧
 ∀(st:cU) (d:RD) (kk:Nat),DS st d kk→kk≤99000→cf Tryz.prog f (first++[]++cap) [bG g st] [fB L] (fun v_ X_ S_=>∃st1,v_= .int .i64 (F d).2∧X_=[bG g st1]∧S_=[]∧DS st1 (F d).1 (kk+1))
theorem Hj{g:Nat}{st:cU}{d:RD}{kk:Nat}{A:Option Addr}{n c:Nat}{fs:List Value}{Fs:List (RD→RD×Int)}{L:List bg}(hD:DS st d kk)(hkk:kk+n≤99000)(hn:n≤100000)(hF:Fs.length=n)(hfs:∀(i:Nat) (F:RD→RD×Int),Fs[i]? =some F→∃v,fs[i]? =some v∧tm g L v F):cf Tryz.prog 109 [.slice A n c] [bG g st] [cz 1 A n fs,fB L] (fun v_ X_ S_=>∃st1,v_=(.int .i64 (gQ Fs d).2)∧X_=[bG g st1]∧S_=[]∧(DS st1 (gQ Fs d).1 (kk+n))):=by
 obtain⟨d0,hd0⟩:∃d0,d0=gQ Fs d:=⟨_,rfl⟩
 rw[←hd0]
 refine aK (N:=18) Tryz.func109 rfl rfl (by simp) fun b=> ?_
 refine aQ (fun m=>eU (m.rd 0 rfl)) ?_
 rintro⟨hl_f,hA_f⟩
 refine ae<|ah<|aG rfl<|ag<|aa<|ae<|ae<|ah<|au rfl<|hy (fun _=>a6 rfl Tryz.underlying239)<|au rfl<|ag<|aa<|aM<| ?_
 refine gh (fun k st d=>n-k) (fun k st d=>[(8,.int .i64 (k:Nat))]) (fun k st d=>[bG g st]) (fun k st d=>[]) (fun k st d=>k≤n∧DS st d (kk+k)∧gQ (Fs.drop k) d=d0) 0 st d [(7,_),(6,_),(0,_)] ⟨rfl,rfl,rfl,trivial⟩ [0] rfl [] rfl (⟨Nat.zero_le _,hD,hd0.symm⟩) ⟨rfl,trivial⟩ (fun k st d ⟨hk,hD,hR⟩=> ?_)
 refine ae<|ah<|hy (fun _=>bx rfl rfl)<|ag<|aa<|ae<| ?_
 refine cu rfl (fun hlt=> ?_) (fun hlt=> ?_)
 ·obtain⟨F,hFk⟩:∃F,Fs[k]? =some F:=⟨_,List.getElem?_eq_getElem (by omega)⟩
  obtain⟨v,hv,f,first,cap,rfl,hcall,hcon⟩:=hfs k F hFk
  have hdr:Fs.drop k=F::Fs.drop (k+1):=by
   have hlt2:k<Fs.length:=by omega
   rw[List.drop_eq_getElem_cons hlt2]
   congr 1
   exact Option.some.inj ((List.getElem?_eq_getElem hlt2).symm.trans hFk)
  rw[hdr]at hR
  refine aB<|aa<|ae<|aM<|ae<|ah<|hy (fun _=>aS rfl rfl Tryz.underlying239 F2 hA_f rfl (by omega))<|hy (fun m=>ak rfl GS ((m.rd 0 rfl).cell hv))<|aG rfl<|ag<|az [4,9,8,7,6,0] rfl<|aa<|ae<|ah<|au rfl<| ?_
  refine hx (eG rfl rfl hcall (hcon st d (kk+k) hD (by omega)) [0] rfl [1] rfl ?_)
  rintro _ _ _ ⟨st1,rfl,rfl,rfl,hD1⟩
  refine aG rfl<|ag<|az [5,4,9,8,7,6,0] rfl<|aY rfl rfl<|aa<|ae<|ah<|au rfl<|hy (fun _=>de rfl rfl)<|ag<|az [15,5,4,9,8,7,6,0] rfl<|aa<| ?_
  refine cu rfl (fun he=> ?_) (fun he=> ?_)
  ·have e0:gQ (F::Fs.drop (k+1)) d=F d:=if_pos he
   rw[e0]at hR
   rw[←hR]
   refine ae<|ah<|au rfl<|aG rfl<|ag<|az [2,15,5,4,9,8,7,6,0] rfl<|aa<|aR<|aU<|aq<|aq<|aU<|aq<| ?_
   exact bc trivial rfl rfl [0] rfl [] rfl ⟨st1,rfl,rfl,rfl,(hD1.le (by omega))⟩
  ·have e0:gQ (F::Fs.drop (k+1)) d=gQ (Fs.drop (k+1)) (F d).1:=if_neg he
   rw[e0]at hR
   refine aB<|aW<|aa<|ah<|hy (fun _=>aO rfl rfl (bE (by omega) (by omega)))<|au rfl<|ag<|az [8,15,5,4,9,7,6,0] rfl<| ?_
   refine gj (k+1) st1 (F d).1 ⟨rfl,rfl,rfl,rfl,trivial⟩ [0] rfl [0,1] rfl (⟨by omega,hD1,hR⟩) (by omega)
 ·obtain rfl:k=n:=by omega
  rw[List.drop_of_length_le (by omega)]at hR
  have hR:(d,0)=d0:=hR
  rw[←hR]
  refine bH<|al<|al<|aD<|aa<|ae<|ah<|aG rfl<|ag<|aa<|aR<| ?_
  exact bc trivial rfl rfl [0] rfl [] rfl ⟨st,rfl,rfl,rfl,hD⟩
end Go.Proofs.YtmibdabdlgmafaaGreatDoor
end
section
set_option maxRecDepth 20000
set_option maxHeartbeats 4000000
namespace Go.Proofs.YtmibdabdlgmafaaGreatDoor
open Go.Eng Go.Hx
theorem FF{g g2 g9 g3:Nat}{st:cU}{d:RD}{kk:Nat}{p:List UInt8}{A:Option Addr}{n c:Nat}{bb:List UInt8}(hD:DS st d kk)(hkk:kk≤99000)(hc:n≤c)(hl:bb.length=n)(hn:n≤4096):cf Tryz.prog 105 [.pointer (some ⟨g2,0,none⟩),.pointer (some ⟨g9,0,none⟩),.pointer (some ⟨g3,0,none⟩)] [bG g st] [aE g2 35 [.pointer (some ⟨g,0,none⟩)],aE g9 9 [SV p],aE g3 27 [.slice A n c],cz 1 A n (aT bb)] (fun v_ X_ S_=>∃st1,v_=(.int .i64 (d.bP p (cj bb)))∧X_=[bG g st1]∧S_=[]∧(DS st1 (d.write p (cj bb)) (kk+1))):=by
 have hsl:=pX bb
 refine aK (N:=9) Tryz.func105 rfl rfl (by simp) fun b=> ?_
 refine aQ (fun m=>ek (m.rd 3 rfl)) ?_
 rintro⟨hl_r,hA_r⟩
 refine ae<|ah<|aG rfl<|ag<|aa<|ae<|cA [3,4] [(0,some 1),(1,some 1),(2,some 0),(3,none),(4,none),(5,some 2)] (by kernel_rfl) (by kernel_rfl) rfl 1<|bV (fun m=>ak rfl pj (ar (m.rP 0 rfl) (i:=0) rfl))<|bV (fun m=>ak rfl lO (ar (m.rP 1 rfl) (i:=0) rfl))<|bV (fun m=>ak rfl di (ar (m.rP 2 rfl) (i:=0) rfl))<| ?_
 refine dk (an rfl Tryz.call106 (Gc (by omega) (by omega) hl) [] rfl [3] rfl ?_)
 rintro _ _ _ ⟨v,rfl,rfl,rfl⟩
 refine⟨(fun _=>wk [1] [0,1,2,3] rfl rfl), ?_⟩
 refine bU (fun m=>(m.own 0 rfl).slice) ?_
 rintro⟨A_x,c_x,rfl,hc_x⟩
 refine bU (fun m=>(m.ord 0 rfl).2.1) fun hA_x=> ?_
 refine dk (cS rfl Tryz.call33 (BN hD (by omega) rfl (by omega)) [1] rfl (.x 0 rfl .own .nil) ?_)
 rintro _ _ _ ⟨st1,rfl,rfl,rfl,hp⟩
 refine⟨rfl, ?_⟩
 refine⟨(fun h=>absurd h (by decide)), ?_⟩
 refine aj (ay rfl)<|bp<|az [3,0,1,2] rfl<|aY rfl rfl<|aa<|aR<| ?_
 exact bc trivial rfl rfl [0] rfl [] rfl ⟨st1,rfl,rfl,rfl,hp⟩
theorem Gl{g g2 g9 g6:Nat}{st:cU}{d:RD}{kk:Nat}{p nm:List UInt8}(hD:DS st d kk)(hkk:kk≤99000)(hm:nm.length=32):cf Tryz.prog 107 [.pointer (some ⟨g2,0,none⟩),.pointer (some ⟨g9,0,none⟩),.pointer (some ⟨g6,0,none⟩)] [bG g st] [aE g2 35 [.pointer (some ⟨g,0,none⟩)],aE g9 9 [SV p],aE g6 53 (aT nm)] (fun v_ X_ S_=>∃st1,v_=(.int .i64 (d.ca p (bI nm)))∧X_=[bG g st1]∧S_=[]∧(DS st1 (d.rename p (bI nm)) (kk+1))):=by
 refine aK (N:=9) Tryz.func107 rfl rfl (by simp) fun b=> ?_
 refine ae<|ah<|aG rfl<|ag<|aa<|ae<|cA [3,4] [(0,some 1),(1,some 1),(2,some 0),(3,none),(4,none),(5,some 2)] (by kernel_rfl) (by kernel_rfl) rfl 1<|bV (fun m=>ak rfl pj (ar (m.rP 0 rfl) (i:=0) rfl))<|bV (fun m=>ak rfl lO (ar (m.rP 1 rfl) (i:=0) rfl))<|bV (fun m=>aP rfl cB b7 (by rw[aA];exact hm) ((m.rP 2 rfl).aw))<| ?_
 refine dk (an rfl Tryz.call94 (Af hm) [] rfl [] rfl ?_)
 rintro _ _ _ ⟨rfl,rfl,rfl⟩
 refine⟨(fun _=>wk [0] [0,1,2] rfl rfl), ?_⟩
 refine dk (an rfl Tryz.call108 (yZ hD (by omega) (a:=p) (c:=bI nm)) [0] rfl [] rfl ?_)
 rintro _ _ _ ⟨st1,rfl,rfl,rfl,hp⟩
 refine⟨(fun h=>absurd h (by decide)), ?_⟩
 refine aj (ay rfl)<|bp<|az [3,0,1,2] rfl<|aY rfl rfl<|aa<|aR<| ?_
 exact bc trivial rfl rfl [0] rfl [] rfl ⟨st1,rfl,rfl,rfl,hp⟩
abbrev jx(g g2 g9 g3 g6:Nat)(A:Option Addr)(n c:Nat)(bb nm p:List UInt8):List bg:=[aE g2 35 [.pointer (some ⟨g,0,none⟩)],aE g9 9 [SV p],aE g3 27 [.slice A n c],aE g6 53 (aT nm),cz 1 A n (aT bb)]
theorem vk{g g2 g9 g3 g6:Nat}{A:Option Addr}{n c:Nat}{bb nm p:List UInt8}(hc:n≤c)(hl:bb.length=n)(hn:n≤4096):
  tm g (jx g g2 g9 g3 g6 A n c bb nm p) (.func (.func 105) #[] #[.pointer (some ⟨g2,0,none⟩),.pointer (some ⟨g9,0,none⟩),.pointer (some ⟨g3,0,none⟩)]) (rF p (cj bb)):=
 ⟨105,[],[.pointer (some ⟨g2,0,none⟩),.pointer (some ⟨g9,0,none⟩),.pointer (some ⟨g3,0,none⟩)],rfl,Tryz.call105,fun st d kk hD hk=>cf.uO (FF hD hk hc hl hn) (by
  intro s hs
  simp only[List.mem_cons,List.not_mem_nil,or_false]at hs
  rcases hs with rfl|rfl|rfl|rfl
  ·exact⟨_,List.mem_singleton.2 rfl,View.oH 0 rfl⟩
  ·exact⟨_,List.mem_singleton.2 rfl,View.oH 1 rfl⟩
  ·exact⟨_,List.mem_singleton.2 rfl,View.oH 2 rfl⟩
  ·exact⟨_,List.mem_singleton.2 rfl,View.oH 4 rfl⟩) (fun v X S h=>by
  obtain⟨st1,h1,h2,h3,h4⟩:=h
  exact⟨[],⟨st1,h1,h2,rfl,h4⟩,sg.nil⟩)⟩
theorem xb{g g2 g9 g3 g6:Nat}{A:Option Addr}{n c:Nat}{bb nm p:List UInt8}(hm:nm.length=32):
  tm g (jx g g2 g9 g3 g6 A n c bb nm p) (.func (.func 107) #[] #[.pointer (some ⟨g2,0,none⟩),.pointer (some ⟨g9,0,none⟩),.pointer (some ⟨g6,0,none⟩)]) (rH p (bI nm)):=
 ⟨107,[],[.pointer (some ⟨g2,0,none⟩),.pointer (some ⟨g9,0,none⟩),.pointer (some ⟨g6,0,none⟩)],rfl,Tryz.call107,fun st d kk hD hk=>cf.uO (Gl hD hk hm) (by
  intro s hs
  simp only[List.mem_cons,List.not_mem_nil,or_false]at hs
  rcases hs with rfl|rfl|rfl
  ·exact⟨_,List.mem_singleton.2 rfl,View.oH 0 rfl⟩
  ·exact⟨_,List.mem_singleton.2 rfl,View.oH 1 rfl⟩
  ·exact⟨_,List.mem_singleton.2 rfl,View.oH 3 rfl⟩) (fun v X S h=>by
  obtain⟨st1,h1,h2,h3,h4⟩:=h
  exact⟨[],⟨st1,h1,h2,rfl,h4⟩,sg.nil⟩)⟩
theorem qU{g:Nat}{L:List bg}:tm g L (.func (.func 110) #[.pointer (some ⟨g,0,none⟩)] #[]) lK:=
 ⟨110,[.pointer (some ⟨g,0,none⟩)],[],rfl,Tryz.call110,fun st d kk hD hk=>cf.uO (Ff hD) (fun s hs=>by cases hs) (fun v X S h=>by
  obtain⟨st1,h1,h2,h3,h4⟩:=h
  exact⟨[],⟨st1,h1,h2,rfl,h4.le (by omega)⟩,sg.nil⟩)⟩
theorem eY:dQ.length=32:=List.length_replicate
theorem xz:(aT dQ).length=32:=by rw[aA,eY]
theorem vR{d:RD}{b:List UInt8}(h:4096<b.length):d.put b=(d,dQ,3):=by unfold RD.put;rw[if_pos h]
theorem zK{d:RD}{b:List UInt8}(h:¬4096<b.length)(h6:d.fu (bA b)=6):d.put b=(d,dQ,6):=by unfold RD.put;rw[if_neg h,if_pos h6]
theorem xn{d:RD}{b:List UInt8}(h:¬4096<b.length)(h6:d.fu (bA b)=0):d.put b=(d,bA b,0):=by unfold RD.put;rw[if_neg h,if_neg (by rw[h6];decide),if_pos h6]
theorem B6{d:RD}{b:List UInt8}(h:¬4096<b.length)(h6:¬d.fu (bA b)=6)(h0:¬d.fu (bA b)=0):d.put b=((d.iZ b).1,if(d.iZ b).2=0 then bA b else dQ,(d.iZ b).2):=by unfold RD.put;rw[if_neg h,if_neg h6,if_neg h0]
abbrev zo(g g2 g9 g3 g6:Nat):List Value:=[.func (.func 105) #[] #[.pointer (some ⟨g2,0,none⟩),.pointer (some ⟨g9,0,none⟩),.pointer (some ⟨g3,0,none⟩)],.func (.func 110) #[.pointer (some ⟨g,0,none⟩)] #[],.func (.func 107) #[] #[.pointer (some ⟨g2,0,none⟩),.pointer (some ⟨g9,0,none⟩),.pointer (some ⟨g6,0,none⟩)],.func (.func 110) #[.pointer (some ⟨g,0,none⟩)] #[]]
abbrev yA(p b nm:List UInt8):List (RD→RD×Int):=[rF p (cj b),lK,rH p (bI nm),lK]
theorem xc{g g2 g9 g3 g6:Nat}{A:Option Addr}{n c:Nat}{bb nm p:List UInt8}(hc:n≤c)(hl:bb.length=n)(hn:n≤4096)(hm:nm.length=32):
  ∀(i:Nat) (F:RD→RD×Int),(yA p bb nm)[i]? =some F→∃v,(zo g g2 g9 g3 g6)[i]? =some v∧tm g (jx g g2 g9 g3 g6 A n c bb nm p) v F:=by
 intro i F h
 match i with
 |0=>cases h;exact⟨_,rfl,vk hc hl hn⟩
 |1=>cases h;exact⟨_,rfl,qU⟩
 |2=>cases h;exact⟨_,rfl,xb hm⟩
 |3=>cases h;exact⟨_,rfl,qU⟩
 |i+4=>cases h
theorem C8{g:Nat}{st:cU}{d:RD}{kk:Nat}{A:Option Addr}{n c:Nat}{bb:List UInt8}(hD:DS st d kk)(hkk:kk≤90000)(hc:n≤c)(hl:bb.length=n)(hn:n≤100000):cf Tryz.prog 28 [.pointer (some ⟨g,0,none⟩),.slice A n c] [bG g st] [cz 1 A n (aT bb),dF] (fun v_ X_ S_=>∃st1,v_=(.tuple #[.agg (aT (d.put bb).2.1).toArray,.int .i64 (d.put bb).2.2])∧X_=[bG g st1]∧S_=[]∧(DS st1 (d.put bb).1 (kk+4))):=by
 have h32:(aT (bA bb)).length=32:=by rw[aA,bq]
 have hhl:(cG (bA bb)).length=64:=by rw[dW,bq]
 refine aK (N:=53) Tryz.func28 rfl rfl (by simp) fun b=> ?_
 refine aQ (fun m=>ek (m.rd 0 rfl)) ?_
 rintro⟨hl_r,hA_r⟩
 refine ae<|ah<| ?_
 refine hx (br rfl (fun g2=> ?_))
 refine aH (fun w m=>m.bw 0 rfl (show _=aE g2 35 [.pointer (some ⟨g,0,none⟩)]from rfl)) ?_
 refine hx (br rfl (fun g3=> ?_))
 refine aH (fun w m=>m.bw 0 rfl (show _=aE g3 27 [.slice A n c]from rfl)) ?_
 refine hx (ba fw (fun g4=> ?_))
 refine aG rfl<|ag<|aY rfl rfl<|aa<|ae<|ae<|ah<|hy (fun m=>ak rfl di (ar (m.aN 1 rfl) rfl))<|hy (fun _=>a6 rfl Tryz.underlying27)<|hy (fun _=>cw rfl rfl)<|ag<|az [15,5,4,3,2,0,1] rfl<|aa<| ?_
 refine cu rfl (fun h1=> ?_) (fun h1=> ?_)
 ·have hb:4096<bb.length:=by omega
  rw[vR hb]
  refine ae<|ah<|hy (fun _=>yV (ej fw rfl (by kernel_rfl)) ((rfl:_=Value.agg (aT dQ).toArray)))<| ?_
  refine cF (a7 0 rfl rfl rfl b7 xz bl rfl ?_)
  refine aG rfl<|ag<|az [5,15,4,3,2,0,1] rfl<|aY rfl rfl<|aa<|aR<|aq<| ?_
  exact eo trivial rfl rfl rfl cB b7 xz (fun m=>(m.aN 0 rfl).aw) [3] rfl [] rfl ⟨st,rfl,rfl,rfl,(hD.le (by omega))⟩
 ·have hb:¬4096<bb.length:=by omega
  refine aB<|aa<|ae<|ah<|hy (fun m=>ak rfl di (ar (m.aN 1 rfl) rfl))<| ?_
  refine hx (an rfl Tryz.call102 (oN (by omega)) [] rfl [0,1] rfl ?_)
  rintro _ _ _ ⟨rfl,rfl,rfl⟩
  refine hx (ba fw (fun g6=> ?_))
  refine cF (a7 0 rfl rfl rfl b7 h32 bl rfl ?_)
  refine ag<|az [6,15,5,4,3,2,0,1] rfl<|aY rfl rfl<|aa<|ae<|ah<|hy (fun m=>ak rfl pj (ar (m.aN 3 rfl) rfl))<|hy (fun m=>aP rfl cB b7 h32 ((m.aN 0 rfl).aw))<| ?_
  refine hx (an rfl Tryz.call73 (Dv hD (bq _)) [4] rfl [1] rfl ?_)
  rintro _ _ _ ⟨v,rfl,rfl,rfl⟩
  refine aC (fun m=>(m.own 1 rfl).slice) ?_
  rintro⟨A_x,c_x,rfl,hc_x⟩
  refine aC (fun m=>(m.ord 1 rfl).2.1) fun hA_x=> ?_
  refine au rfl<|hy (fun _=>aF rfl rfl)<|hy (fun _=>aF rfl rfl)<|aG rfl<|aG rfl<|ag<|az [8,6,15,5,4,3,2,0,1] rfl<|aY rfl rfl<|aa<|ae<|ae<|ah<|au rfl<|hy (fun _=>re rfl Tryz.underlying47 (fun _ h=>by cases h))<|hy (fun _=>re rfl Tryz.underlying47 (fun _ h=>by cases h))<| ?_
  refine hx (an rfl Tryz.call103 (DL) [] rfl [] rfl ?_)
  rintro _ _ _ ⟨rfl,rfl,rfl⟩
  refine ag<|az [28,8,6,15,5,4,3,2,0,1] rfl<|aY rfl rfl<|aa<| ?_
  refine cu rfl (fun h6=> ?_) (fun h6=> ?_)
  ·rw[zK hb h6]
   have h6' :d.fu (bA bb)=6:=h6
   rw[h6']
   refine ae<|ah<|hy (fun _=>yV (ej fw rfl (by kernel_rfl)) ((rfl:_=Value.agg (aT dQ).toArray)))<|au rfl<| ?_
   refine cF (a7 3 rfl rfl rfl b7 xz bl rfl ?_)
   refine aG rfl<|ag<|az [5,28,8,6,15,4,3,2,0,1] rfl<|aY rfl rfl<|aa<|aR<|aq<| ?_
   exact eo trivial rfl rfl rfl cB b7 xz (fun m=>(m.aN 0 rfl).aw) [1] rfl [] rfl ⟨st,rfl,rfl,rfl,(hD.le (by omega))⟩
  ·refine aB<|aa<|ae<|ae<|ah<|au rfl<|hy (fun _=>cD rfl rfl)<|ag<|az [32,28,8,6,15,5,4,3,2,0,1] rfl<|aa<| ?_
   refine cu rfl (fun h0=> ?_) (fun h0=> ?_)
   ·rw[xn hb h0]
    have h0' :d.fu (bA bb)=0:=h0
    rw[h0']
    refine ae<|ah<|hy (fun m=>aP rfl cB b7 h32 ((m.aN 2 rfl).aw))<|au rfl<| ?_
    refine cF (a7 3 rfl rfl rfl b7 h32 bl rfl ?_)
    refine aG rfl<|ag<|az [5,32,28,8,6,15,4,3,2,0,1] rfl<|aY rfl rfl<|aa<|aR<|aq<| ?_
    exact eo trivial rfl rfl rfl cB b7 h32 (fun m=>(m.aN 0 rfl).aw) [1] rfl [] rfl ⟨st,rfl,rfl,rfl,(hD.le (by omega))⟩
   ·rw[B6 hb h6 h0]
    refine aB<|aa<|ae<|ah<|hy (fun m=>aP rfl cB b7 h32 ((m.aN 2 rfl).aw))<| ?_
    refine hx (an rfl Tryz.call104 (yx (bq _)) [] rfl [] rfl ?_)
    rintro _ _ _ ⟨rfl,rfl,rfl⟩
    refine hy (fun _=>yV (iB rfl rfl (iJ (a:=[116,47]) (b:=cG (bA bb)) (by simp[hhl]))) ((show Value.string (strOf [116,47]++strOf (cG (bA bb)))=SV (bW (bA bb))from congrArg Value.string (cX _ _))))<| ?_
    refine hx (ba Ij (fun g9=> ?_))
    refine cF (dw 0 rfl rfl rfl Io rfl (by first|exact Nat.le_of_ble_eq_true rfl|simp) ?_)
    refine ag<|az [9,32,28,8,6,15,5,4,3,2,0,1] rfl<|aY rfl rfl<|aa<|ae<|ah<|hy (fun _=>fD rfl rfl)<|aG rfl<|ag<|az [10,9,32,28,8,6,15,5,4,3,2,0,1] rfl<|aa<|ae<|ah<|hy (fun _=>fD rfl rfl)<|aG rfl<|ag<|az [11,10,9,32,28,8,6,15,5,4,3,2,0,1] rfl<|aa<|ae<|ae<|ah<|au rfl<|hy (fun m=>ak rfl pj (ar (m.aN 6 rfl) rfl))<|hy (fun _=>fD rfl rfl)<|au rfl<|hy (fun m=>ak rfl pj (ar (m.aN 6 rfl) rfl))<|hy (fun _=>fD rfl rfl)<| ?_
    refine hx (b5 Tryz.underlying239 Ga rfl rfl rfl (by simp[Value.cells,B8]) (by decide) (by decide) (fun g46=> ?_))
    have hA_b46:0<4→(some (⟨g46,0,none⟩:Addr))≠none:=fun _ h=>by cases h
    refine aH (fun w m=>m.bw 1 rfl (show _=aE g9 9 [SV (bW (bA bb))]from rfl)) ?_
    refine aH (fun w m=>m.bw 4 rfl (show _=aE g6 53 (aT (bA bb))from rfl)) ?_
    refine aH (fun w m=>m.bw 2 rfl (show _=aI 179 1 (.slice (some ⟨g46,0,none⟩) 4 4) 4 (zo g g2 g9 g3 g6)from rfl)) ?_
    refine aH (fun w m=>(m.perm (ao [7] _ [_] _ rfl)).freeze) ?_
    refine aH (fun w m=>(m.perm (ao [2] _ [_] _ rfl)).freeze) ?_
    refine aH (fun w m=>(m.perm (ao [5] _ [_] _ rfl)).freeze) ?_
    refine aH (fun w m=>(m.perm (ao [1] _ [_] _ rfl)).freeze) ?_
    refine aH (S' :=fB (jx g g2 g9 g3 g6 A n c bb (bA bb) (bW (bA bb)))::_) (fun w m=>m.nA [3,2,1,0,4] rfl) ?_
    refine hx (cS rfl Tryz.call109 (Hj hD (by omega) (show 4≤100000 by decide) rfl (xc hc hl (by omega) (bq _)) (kk:=kk) (Fs:=(yA (bW (bA bb)) bb (bA bb))) (fs:=(zo g g2 g9 g3 g6)) (L:=(jx g g2 g9 g3 g6 A n c bb (bA bb) (bW (bA bb))))) [1] rfl (.x 0 rfl .own (.s 0 rfl .nil)) ?_)
    rintro _ _ _ ⟨st1,rfl,rfl,rfl,hD1⟩
    refine⟨rfl, ?_⟩
    refine aG rfl<|ag<|az [12,11,10,9,32,28,8,6,15,5,4,3,2,0,1] rfl<|aY rfl rfl<|aa<|ae<|ah<|au rfl<|hy (fun _=>de rfl rfl)<|ag<|az [49,12,11,10,9,32,28,8,6,15,5,4,3,2,0,1] rfl<|aa<| ?_
    refine cu rfl (fun h2=> ?_) (fun h2=> ?_)
    ·have hn2:¬(d.iZ bb).2=0:=h2
     rw[if_neg hn2]
     refine ae<|ah<|hy (fun _=>yV (ej fw rfl (by kernel_rfl)) ((rfl:_=Value.agg (aT dQ).toArray)))<|au rfl<| ?_
     refine cF (a7 3 rfl rfl rfl b7 xz bl rfl ?_)
     refine aG rfl<|ag<|az [5,49,12,11,10,9,32,28,8,6,15,4,3,2,0,1] rfl<|aY rfl rfl<|aa<|aR<|aq<| ?_
     exact eo trivial rfl rfl rfl cB b7 xz (fun m=>(m.aN 0 rfl).aw) [1] rfl [] rfl ⟨st1,rfl,rfl,rfl,hD1⟩
    ·have h2:=Decidable.not_not.1 h2
     have h2' :(gQ (yA (bW (bA bb)) bb (bA bb)) d).2=0:=h2
     have h2'' :(d.iZ bb).2=0:=h2'
     rw[if_pos h2'',h2'']
     refine aB<|aa<|ae<|ah<|hy (fun m=>aP rfl cB b7 h32 ((m.rP 1 rfl).aw))<| ?_
     refine cF (a7 3 rfl rfl rfl b7 h32 bl rfl ?_)
     refine aG rfl<|ag<|az [5,49,12,11,10,9,32,28,8,6,15,4,3,2,0,1] rfl<|aY rfl rfl<|aa<|aR<| ?_
     exact eo trivial rfl rfl rfl cB b7 h32 (fun m=>(m.aN 0 rfl).aw) [1] rfl [] rfl ⟨st1,rfl,rfl,rfl,hD1⟩
end Go.Proofs.YtmibdabdlgmafaaGreatDoor
end
section
namespace Go.Hx
open Go.Eng
end Go.Hx
end
section
namespace Go.Proofs.YtmibdabdlgmafaaGreatDoor
open Go.Eng Go.Hx
end Go.Proofs.YtmibdabdlgmafaaGreatDoor
end
section
namespace Go.Proofs.YtmibdabdlgmafaaGreatDoor
open Go.Eng Go.Hx
theorem nM(q:FP→Bool)(l:List FP):dz (l.filter q)≤dz l:=by
 induction l with
 |nil=>exact Nat.le_refl _
 |cons x r ih=>
  rw[List.filter_cons]
  have e:dz (x::r)=x.2.length+dz r:=by simp[dz]
  split
  ·have e2:dz (x::r.filter q)=x.2.length+dz (r.filter q):=by simp[dz]
   omega
  ·omega
theorem oE{q:FP→Bool}{l:List FP}{x:FP}(hx:x∈l)(hq:q x=false):dz (l.filter q)+x.2.length≤dz l:=by
 induction l with
 |nil=>cases hx
 |cons y r ih=>
  rw[List.filter_cons]
  have e:dz (y::r)=y.2.length+dz r:=by simp[dz]
  rcases List.mem_cons.1 hx with rfl|hm
  ·rw[hq]
   have:=nM q r
   simp only[Bool.false_eq_true,if_false]
   omega
  ·have h1:=ih hm
   split
   ·have e2:dz (y::r.filter q)=y.2.length+dz (r.filter q):=by simp[dz]
    omega
   ·omega
theorem tD(l:List FP)(f:FP):dz (iF l f)≤dz l+f.2.length:=by
 induction l with
 |nil=>simp[iF,dz]
 |cons x r ih=>
  have e:dz (x::r)=x.2.length+dz r:=by simp[dz]
  rw[iF]
  split
  ·have e2:dz (x::iF r f)=x.2.length+dz (iF r f):=by simp[dz]
   omega
  ·have e2:dz (f::(x::r).filter fun y=>decide (y.1≠f.1))=f.2.length+dz ((x::r).filter fun y=>decide (y.1≠f.1)):=by simp[dz]
   have:=nM (fun y=>decide (y.1≠f.1)) (x::r)
   omega
structure At(d:RD)(F:List UInt8→Option (List UInt8))(T:Nat)(room:Int):Prop where
 pw:d.pw=-1
 room:d.room=room
 look:∀p,lk d.seen p=F p
 lH:dz d.seen≤T
def AW(F:List UInt8→Option (List UInt8))(p:List UInt8)(v:Option (List UInt8)):List UInt8→Option (List UInt8):=fun q=>if q=p then v else F q
theorem At.dx{d:RD}{F:List UInt8→Option (List UInt8)}{T:Nat}{room:Int}(h:At d F T room)(p:List UInt8):d.dx p=if F p=none then 4 else 0:=by
 have h1:=h.look p
 rw[←jV]at h1
 rw[RD.dx,if_neg (by rw[h.pw];decide)]
 cases hq:d.seen[cP d.seen p]? with
 |none=>rw[hq]at h1;rw[if_pos rfl,if_pos (by rw[←h1];rfl)]
 |some x=>rw[hq]at h1;rw[if_neg (by simp),if_neg (by rw[←h1];simp)]
theorem At.bP{d:RD}{F:List UInt8→Option (List UInt8)}{T:Nat}{room:Int}(h:At d F T room){p l:List UInt8}(hp:fQ p)(hr:(T:Int)+(l.length:Nat)≤room):d.bP p l=0:=by
 have h1:=h.lH
 have h2:=h.room
 rw[RD.bP,if_neg (fun h=>h hp),if_neg (by rw[h.pw];decide),if_neg (by omega)]
theorem At.write{d:RD}{F:List UInt8→Option (List UInt8)}{T:Nat}{room:Int}(h:At d F T room){p l:List UInt8}(hp:fQ p)(hr:(T:Int)+(l.length:Nat)≤room):At (d.write p l) (AW F p (some l)) (T+l.length) room:=by
 have hs:(d.write p l).seen=iF d.seen (p,l):=by
  rw[RD.write,if_pos (h.bP hp hr)]
  show eB d.seen 0 p [] l=_
  rw[eB,if_pos rfl,nC]
 refine⟨?_, ?_,fun q=> ?_, ?_⟩
 ·rw[RD.write,if_pos (h.bP hp hr)]
  show eH d.pw=-1
  rw[h.pw];rfl
 ·rw[RD.write,if_pos (h.bP hp hr)];exact h.room
 ·rw[hs,sB]
  unfold AW
  split
  ·rfl
  ·exact h.look q
 ·rw[hs]
  have:=tD d.seen (p,l)
  have:=h.lH
  have e:(p,l).2.length=l.length:=rfl
  omega
theorem At.dy{d:RD}{F:List UInt8→Option (List UInt8)}{T:Nat}{room:Int}(h:At d F T room):d.dy=0:=by rw[RD.dy,if_neg (by rw[h.pw];decide)]
theorem At.sync{d:RD}{F:List UInt8→Option (List UInt8)}{T:Nat}{room:Int}(h:At d F T room):At d.sync F T room:=by
 have e:d.sync={d with dq:=d.seen,waits:=[],pw:=eH d.pw}:=by rw[RD.sync,if_neg (by rw[h.pw];decide)]
 rw[e]
 exact⟨by show eH d.pw=-1;rw[h.pw];rfl,h.room,h.look,h.lH⟩
theorem At.ca{d:RD}{F:List UInt8→Option (List UInt8)}{T:Nat}{room:Int}(h:At d F T room){a c x:List UInt8}(hc:fQ c)(hx:F a=some x):d.ca a c=0:=by
 rw[RD.ca,if_neg (fun h=>h hc),h.dx,if_neg (by rw[hx];simp)]
theorem At.rename{d:RD}{F:List UInt8→Option (List UInt8)}{T:Nat}{room:Int}(h:At d F T room){a c x:List UInt8}(hc:fQ c)(hx:F a=some x):At (d.rename a c) (AW (AW F a none) c (some x)) T room:=by
 have h1:=h.look a
 rw[←jV,hx]at h1
 obtain⟨y,hy,hyx⟩:∃y,d.seen[cP d.seen a]? =some y∧y.2=x:=by
  cases hq:d.seen[cP d.seen a]? with
  |none=>rw[hq]at h1;cases h1
  |some y=>rw[hq]at h1;exact⟨y,rfl,by simpa using h1⟩
 have hya:y.1=a:=by
  obtain⟨hi,he⟩:=List.getElem?_eq_some_iff.1 hy
  have:=List.findIdx_getElem (p:=fun x:FP=>decide (x.1=a)) (xs:=d.seen) (w:=hi)
  rw[←he]
  exact of_decide_eq_true this
 have hs:(d.rename a c).seen=iF (dN d.seen a) (c,x):=by
  rw[RD.rename,if_pos (h.ca hc hx)]
  show eB d.seen 1 a c []=_
  rw[eB,if_neg (by decide),hy]
  show(if(1:Int)=2 then _ else _)=_
  rw[if_neg (by decide),nC,hyx]
 refine⟨?_, ?_,fun q=> ?_, ?_⟩
 ·rw[RD.rename,if_pos (h.ca hc hx)]
  show eH d.pw=-1
  rw[h.pw];rfl
 ·rw[RD.rename,if_pos (h.ca hc hx)];exact h.room
 ·rw[hs,sB]
  unfold AW dN
  split
  ·rfl
  ·rw[kR]
   split
   ·rfl
   ·exact h.look q
 ·rw[hs]
  have h2:=tD (dN d.seen a) (c,x)
  have h3:dz (dN d.seen a)+y.2.length≤dz d.seen:=oE (List.mem_of_getElem? hy) (by simp[hya])
  have:=h.lH
  have e:(c,x).2.length=x.length:=rfl
  rw[hyx]at h3
  omega
end Go.Proofs.YtmibdabdlgmafaaGreatDoor
end
section
namespace Go.Proofs.YtmibdabdlgmafaaGreatDoor
open Go.Eng Go.Hx
theorem uf:∀i:Nat,i<16→qe.getD i 0≠0:=by decide
theorem pR(l:List UInt8):¬(0:UInt8)∈cG l:=by
 intro h
 unfold cG at h
 obtain⟨x,hx,hc⟩:=List.mem_flatMap.1 h
 have hb:=x.toNat_lt
 simp only[va,List.mem_cons,List.not_mem_nil,or_false]at hc
 rcases hc with hc|hc
 ·exact uf _ (by omega) hc.symm
 ·exact uf _ (by omega) hc.symm
theorem AD{nm:List UInt8}(h:nm.length=32):fQ (bI nm):=by
 refine⟨by simp[bI],by rw[lq h];decide,fun hz=> ?_⟩
 unfold bI at hz
 simp only[List.mem_append,List.mem_cons,List.not_mem_nil,or_false]at hz
 rcases hz with((hz|hz)|hz)|hz
 ·rcases hz with hz|hz <;> exact absurd hz (by decide)
 ·exact pR nm (List.mem_of_mem_take hz)
 ·exact absurd hz (by decide)
 ·exact pR nm hz
theorem Ah{nm:List UInt8}(h:nm.length=32):fQ (bW nm):=by
 refine⟨by simp[bW],by rw[k9 h];decide,fun hz=> ?_⟩
 unfold bW at hz
 simp only[List.mem_append,List.mem_cons,List.not_mem_nil,or_false]at hz
 rcases hz with hz|hz
 ·rcases hz with hz|hz <;> exact absurd hz (by decide)
 ·exact pR nm hz
theorem ob(a b:List UInt8):bI a≠bW b:=by
 intro h
 unfold bI bW at h
 simp only[List.cons_append,List.nil_append,List.cons.injEq]at h
 exact absurd h.1 (by decide)
theorem vi{d:RD}(h:d.pw=-1):d.sync.dq=d.sync.seen∧d.sync.waits=[]:=by
 have e:d.sync={d with dq:=d.seen,waits:=[],pw:=eH d.pw}:=by rw[RD.sync,if_neg (by rw[h];decide)]
 rw[e]
 exact⟨rfl,rfl⟩
structure SD(d:RD)(F:List UInt8→Option (List UInt8))(T:Nat)(room:Int):Prop where
 at_:At d F T room
 same:d.dq=d.seen
 waits:d.waits=[]
theorem SD.new(room:Int):SD (RD.new room) (fun _=>none) 0 room:=⟨⟨rfl,rfl,fun p=>rfl,Nat.le_refl _⟩,rfl,rfl⟩
theorem w6{d:RD}{F:List UInt8→Option (List UInt8)}{T:Nat}{room:Int}(h:At d F T room){nm:List UInt8}(hF:F (bI nm)=none):d.fu nm=4:=by
 have e:d.dx (bI nm)=4:=by rw[h.dx,if_pos hF]
 rw[jm (by rw[e];decide),e]
def Dw(F:List UInt8→Option (List UInt8))(b:List UInt8):List UInt8→Option (List UInt8):=AW (AW (AW F (bW (bA b)) (some (cj b))) (bW (bA b)) none) (bI (bA b)) (some (cj b))
theorem SD.iZ{d:RD}{F:List UInt8→Option (List UInt8)}{T:Nat}{room:Int}(h:SD d F T room){b:List UInt8}(hr:(T:Int)+(cj b).length≤room):
  ∃d',d.iZ b=(d',0)∧SD d' (Dw F b) (T+(cj b).length) room:=by
 have hn:=Ah (nm:=bA b) (bq b)
 have hp:=AD (nm:=bA b) (bq b)
 have h1:=h.at_.write (p:=bW (bA b)) (l:=cj b) hn (by omega)
 have h2:=h1.sync
 have hx:AW F (bW (bA b)) (some (cj b)) (bW (bA b))=some (cj b):=if_pos rfl
 have h3:=h2.rename hp hx
 obtain⟨c1,c2⟩:=vi h3.pw
 refine⟨_, ?_,⟨h3.sync,c1,c2⟩⟩
 unfold RD.iZ
 rw[gQ,if_neg (by show¬d.bP _ _≠0;rw[h.at_.bP hn (by omega)];decide)]
 rw[gQ,if_neg (by show¬(d.write _ _).dy≠0;rw[h1.dy];decide)]
 rw[gQ,if_neg (by show¬(d.write _ _).sync.ca _ _≠0;rw[h2.ca hp hx];decide)]
 rw[gQ,if_neg (by show¬((d.write _ _).sync.rename _ _).dy≠0;rw[h3.dy];decide)]
 rfl
theorem SD.put{d:RD}{F:List UInt8→Option (List UInt8)}{T:Nat}{room:Int}(h:SD d F T room){b:List UInt8}(hb:b.length≤4096)(hF:F (bI (bA b))=none)(hr:(T:Int)+(cj b).length≤room):
  ∃d',d.put b=(d',bA b,0)∧SD d' (Dw F b) (T+(cj b).length) room:=by
 have e4:=w6 h.at_ hF
 obtain⟨d',e,hd⟩:=h.iZ hr
 refine⟨d', ?_,hd⟩
 unfold RD.put
 rw[if_neg (by omega),if_neg (by rw[e4];decide),if_neg (by rw[e4];decide),e]
 rfl
end Go.Proofs.YtmibdabdlgmafaaGreatDoor
end
section
namespace Go.Eng
open Go.RowKit
section
variable{P:Program}{fn:Func}{R:Value→List bg→List bg→Prop}{N:Nat}{ρ:Env}{b:cg}{X X' Xz S S' :List bg}{e:Exit}
theorem fg{t t2 t' sz sz2:Nat}{ty ty2:TypeId}{p p2:Addr}{cs cs2:List Value}{v' :Value}(he:Leaves e)(hr:fn.results= #[.cell t ty,.cell t2 ty2,.tmp t'])(hv:get ρ t=some (.pointer (some p)))(hv2:get ρ t2=some (.pointer (some p2)))(hv' :get ρ t' =some v')(ha:c5 P ty=some true)(hs:fl P ty=some sz)(hl:cs.length=sz)
  (hc:∀{w},Mem b X S w→∀j u,cs[j]? =some u→w.cell? (p.add j)=some u) (ha2:c5 P ty2=some true) (hs2:fl P ty2=some sz2) (hl2:cs2.length=sz2)
  (hc2:∀{w},Mem b X S w→∀j u,cs2[j]? =some u→w.cell? (p2.add j)=some u) (is:List Nat) (hX:bN is X=some (X',Xz)) (js:List Nat) (hS:dh js S=some S') (hR:R (.tuple #[.agg cs.toArray,.agg cs2.toArray,v']) X' S'):HQ (bodyPost P fn (RB b R)) N [] e ρ b X S:=
 fun w m=>iA he (fun a hA=>by have h1:=hA.getD hv;have h2:=hA.getD hv2;have h3:=hA.getD hv';simp at h1 h2 h3;simp[results,hr,h1,h2,h3,asAddr,kZ ha hs hl (hc m),kZ ha2 hs2 hl2 (hc2 m)]) ⟨_,_,_,rfl,hR,m.out is hX js hS⟩
end
end Go.Eng
end
section
set_option maxRecDepth 20000
set_option maxHeartbeats 2000000
namespace Go.Proofs.YtmibdabdlgmafaaGreatDoor
open Go.Eng Go.Hx
def mv(s:Nat×Nat):List Value:=[.int .i64 (s.1:Nat),.int .i64 (s.2:Nat)]
theorem na{s:Nat×Nat}:∀u∈mv s,u.oneCell' =true:=by
 intro u hu
 simp only[mv,List.mem_cons,List.not_mem_nil,or_false]at hu
 rcases hu with rfl|rfl <;> rfl
theorem Cu{A:Option Addr}{n c i:Nat}{l:List UInt8}(hn:n≤1000000000)(hl:l.length=n)(hi:i<n):cf Tryz.prog 218 [.slice A n c,.int .i64 (i:Nat)] [] [cz 1 A n (aT l)] (fun v_ X_ S_=>v_=(.agg (mv (bf l i)).toArray)∧X_=[]∧S_=[]):=by
 refine aK (N:=67) Tryz.func218 rfl rfl (by simp) fun b=> ?_
 refine aQ (fun m=>ek (m.rd 0 rfl)) ?_
 rintro⟨hl_r,hA_r⟩
 refine ae<|ah<| ?_
 refine hx (ba ri (fun g4=> ?_))
 refine ag<|aY rfl rfl<|aa<|ae<|ah<| ?_
 refine hx (ba ri (fun g5=> ?_))
 refine ag<|aY rfl rfl<|aa<|ae<|ae<|ah<|au rfl<|hy (fun _=>bx rfl rfl)<|au rfl<| ?_
 refine fH 10 rfl (fun h0=> ?_) (fun h0=> ?_)
 ·exact absurd h0 (by omega)
 ·refine bQ (o:=_) rfl rfl rfl (fun _=>ai rfl)<|bQ (o:=_) rfl rfl rfl (fun _=>ai rfl)<|bQ (o:=_) rfl rfl rfl (fun _=>a6 rfl Tryz.underlying27)<|bQ (o:=_) rfl rfl rfl (fun _=>eO rfl rfl)<|hy (fun _=>bn rfl rfl)<|ag<|az [15,5,4,0,1] rfl<|aa<| ?_
  refine dm rfl ((decide_eq_false (by omega))) ?_
  refine a8 (fun w m=>m.bw 0 rfl (show _=aE g5 298 (mv (cr l i 0))from rfl)) ?_
  refine a8 (fun w m=>m.bw 1 rfl (show _=aE g4 298 (mv (0,0))from rfl)) ?_
  refine aB<|aa<|ae<|ae<|ah<|aG rfl<|ag<|aa<|aM<| ?_
  refine dD (fun q=>2000-q) (fun q=>[(6,.int .i64 ((q+1:Nat):Int))]) (fun q=>[aE g5 298 (mv (cr l i q))]) (fun q=>[]) (fun q=>q≤min i 1024) 0 [(15,_),(5,_),(4,_),(0,_),(1,_)] ⟨rfl,rfl,rfl,rfl,rfl,trivial⟩ [1] rfl [] rfl (Nat.zero_le _) ⟨rfl,trivial⟩ (fun q hI=> ?_)
  refine ae<|ae<|ah<|au rfl<|au rfl<|hy (fun _=>jo rfl rfl)<|au rfl<| ?_
  refine fH 20 rfl (fun h1=> ?_) (fun h1=> ?_)
  ·refine bQ (o:=_) rfl rfl rfl (fun _=>ai rfl)<|bQ (o:=_) rfl rfl rfl (fun _=>jo rfl rfl)<|hy (fun _=>bz rfl rfl)<|ag<|az [23,6,15,5,4,0,1] rfl<|aa<| ?_
   refine cu rfl (fun h2=> ?_) (fun h2=> ?_)
   ·refine aB<|aa<|ae<|aM<|ae<|ah<|aG rfl<|ag<|aa<|ae<|aM<| ?_
    refine dD (fun j=>131-j) (fun j=>[(7,.int .i64 (j:Nat))]) (fun j=>[]) (fun j=>[]) (fun j=>j≤131∧i+j≤n∧k0 l i (i-(q+1)) (131-j) j=lv l i (i-(q+1))) 0 [(23,_),(6,_),(15,_),(5,_),(4,_),(0,_),(1,_)] ⟨rfl,rfl,rfl,rfl,rfl,rfl,rfl,trivial⟩ [] rfl [] rfl (⟨by decide,by omega,rfl⟩) ⟨rfl,trivial⟩ (fun j ⟨hj,hij,hL⟩=> ?_)
    refine ae<|ae<|cA [] [(0,some 0),(1,some 0),(2,some 0),(3,some 0),(4,some 0),(5,some 0),(6,some 0),(7,some 0),(8,some 0),(9,some 0),(10,some 0),(11,some 0),(12,some 0),(13,some 0),(14,some 0),(15,some 0),(16,some 0),(17,some 0),(18,some 0),(19,some 0),(20,some 0),(21,some 0),(22,some 0),(23,some 0),(24,some 0),(25,some 0),(26,some 0)] (by kernel_rfl) (by kernel_rfl) rfl 99<|aj (ai rfl)<|aj (ai rfl)<|aj (aO rfl rfl (bE (by omega) (by omega)))<|aj (ai rfl)<|aj (a6 rfl Tryz.underlying27)<|aj (bx rfl rfl)<|aj (ai rfl)<| ?_
    refine kP 32 rfl (fun g1=> ?_) (fun g1=> ?_)
    ·refine cq (o:=_) rfl rfl rfl (ai rfl)<|cq (o:=_) rfl rfl rfl (bx rfl rfl)<|aj (bz rfl rfl)<|aj (ai rfl)<| ?_
     refine kP 36 rfl (fun g2=> ?_) (fun g2=> ?_)
     ·refine cq (o:=_) rfl rfl rfl (ai rfl)<|cq (o:=_) rfl rfl rfl (ai rfl)<|cq (o:=_) rfl rfl rfl (ai rfl)<|cq (o:=_) rfl rfl rfl (aO rfl rfl (bE (by omega) (by omega)))<|cq (o:=_) rfl rfl rfl (aS rfl rfl Tryz.underlying27 dJ hA_r (show((i+j:Nat):Int)=_ by omega) (by omega))<|pB (o:=_) rfl rfl rfl (fun m=>ak rfl iV ((m.rd 0 rfl).cell (bO (by omega))))<|cq (o:=_) rfl rfl rfl (ai rfl)<|cq (o:=_) rfl rfl rfl (ai rfl)<|cq (o:=_) rfl rfl rfl (ai rfl)<|cq (o:=_) rfl rfl rfl (aO rfl rfl (bE (by omega) (by omega)))<|cq (o:=_) rfl rfl rfl (ai rfl)<|cq (o:=_) rfl rfl rfl (yV (ct rfl rfl (bE (by omega) (by omega))) ((show Value.int .i64 ((i:Int)+(j:Int)-((q+1:Nat):Int))= .int .i64 ((i-(q+1)+j:Nat):Int) by congr 1;omega)))<|cq (o:=_) rfl rfl rfl (aS rfl rfl Tryz.underlying27 dJ hA_r rfl (by omega))<|pB (o:=_) rfl rfl rfl (fun m=>ak rfl iV ((m.rd 0 rfl).cell (bO (by omega))))<|cq (o:=_) rfl rfl rfl (cD rfl rfl)<|aj (bz rfl rfl)<|bp<|az [52,7,23,6,15,5,4,0,1] rfl<|aa<| ?_
      refine cu rfl (fun g3=> ?_) (fun g3=> ?_)
      ·have e3:l.getD (i+j) 0=l.getD (i-(q+1)+j) 0:=UInt8.toNat_inj.1 (by omega)
       rw[gY (by omega) ⟨by omega,e3⟩]at hL
       refine aB<|aa<|aM<|ah<|au rfl<|hy (fun _=>aO rfl rfl (bE (by omega) (by omega)))<|aG rfl<|ag<|az [7,52,23,6,15,5,4,0,1] rfl<|aW<| ?_
       refine cH (j+1) ⟨rfl,rfl,rfl,rfl,rfl,rfl,rfl,rfl,trivial⟩ [0,0] rfl [0] rfl (⟨by omega,by omega,by rw[←hL];rfl⟩) (by omega)
      ·refine bH<|al<|al<|aD<|aa<|ae<|ah<|au rfl<|hy (fun _=>cw rfl rfl)<|au rfl<| ?_
       have hL2:j=lv l i (i-(q+1)):=(by rw[←hL,kY (fun e=>g3 (by rw[e.2]))])
       subst hL2
       refine fH 57 rfl (fun h3=> ?_) (fun h3=> ?_)
       ·refine bQ (o:=_) rfl rfl rfl (fun _=>ai rfl)<|bQ (o:=_) rfl rfl rfl (fun _=>ax rfl kJ (by decide))<|bQ (o:=_) rfl rfl rfl (fun m=>ak rfl cY (ar (m.aN 0 rfl) rfl))<|bQ (o:=_) rfl rfl rfl (fun _=>cw rfl rfl)<|hy (fun _=>bz rfl rfl)<|ag<|az [62,52,7,23,6,15,5,4,0,1] rfl<|aa<| ?_
        refine cu rfl (fun h4=> ?_) (fun h4=> ?_)
        ·refine ah<|au rfl<|au rfl<|hy (fun _=>b6 ri rfl rfl (by kernel_rfl) (.cons (o:=0) (sz:=1) (by kernel_rfl) rfl rfl (Nat.le_of_ble_eq_true rfl) (.cons (o:=1) (sz:=1) (by kernel_rfl) rfl rfl (Nat.le_of_ble_eq_true rfl) .nil)))<| ?_
         refine cF (a7 0 rfl rfl rfl k5 rfl (na (s:=(lv l i (i-(q+1)),q+1))) rfl ?_)
         have hst:mv (lv l i (i-(q+1)),q+1)=mv (cr l i (q+1)):=by
          rw[dB]
          unfold gC
          rw[if_pos ⟨by omega,by omega⟩]
         refine aH (fun w m=>m.bw 0 rfl (show _=aE g5 298 (mv (cr l i (q+1)))from congrArg (aE g5 _) hst)) ?_
         refine ag<|az [62,52,7,23,6,15,5,4,0,1] rfl<|aY rfl rfl<|aW<|aa<|ah<|au rfl<|hy (fun _=>aO rfl rfl (bE (by omega) (by omega)))<|aG rfl<|ag<|az [6,62,52,7,23,15,5,4,0,1] rfl<| ?_
         refine cH (q+1) ⟨rfl,rfl,rfl,rfl,rfl,rfl,trivial⟩ [0,0] rfl [0] rfl ((by omega)) (by omega)
        ·have hst:mv (cr l i q)=mv (cr l i (q+1)):=by
          rw[dB]
          unfold gC
          rw[if_neg (fun h=>by omega)]
         refine aB<|aW<|aa<|ah<|au rfl<|hy (fun _=>aO rfl rfl (bE (by omega) (by omega)))<|aG rfl<|ag<|az [6,62,52,7,23,15,5,4,0,1] rfl<| ?_
         refine bd (fun w m=>m.bw 0 rfl (show _=aE g5 298 (mv (cr l i (q+1)))from congrArg (aE g5 _) hst)) ?_
         refine cH (q+1) ⟨rfl,rfl,rfl,rfl,rfl,rfl,trivial⟩ [0,0] rfl [0] rfl ((by omega)) (by omega)
       ·have hst:mv (cr l i q)=mv (cr l i (q+1)):=by
         rw[dB]
         unfold gC
         rw[if_neg (fun h=>by omega)]
        refine aJ rfl rfl rfl (by decide)<|aJ rfl rfl rfl (by decide)<|aJ rfl rfl rfl (by decide)<|aJ rfl rfl rfl (by decide)<|hy (fun _=>bn rfl rfl)<|ag<|az [62,52,7,23,6,15,5,4,0,1] rfl<|aa<| ?_
        refine dm rfl (rfl) ?_
        refine aB<|aW<|aa<|ah<|au rfl<|hy (fun _=>aO rfl rfl (bE (by omega) (by omega)))<|aG rfl<|ag<|az [6,62,52,7,23,15,5,4,0,1] rfl<| ?_
        refine bd (fun w m=>m.bw 0 rfl (show _=aE g5 298 (mv (cr l i (q+1)))from congrArg (aE g5 _) hst)) ?_
        refine cH (q+1) ⟨rfl,rfl,rfl,rfl,rfl,rfl,trivial⟩ [0,0] rfl [0] rfl ((by omega)) (by omega)
     ·refine bj rfl rfl rfl (by decide)<|bj rfl rfl rfl (by decide)<|bj rfl rfl rfl (by decide)<|bj rfl rfl rfl (by decide)<|bj rfl rfl rfl (by decide)<|bj rfl rfl rfl (by decide)<|bj rfl rfl rfl (by decide)<|bj rfl rfl rfl (by decide)<|bj rfl rfl rfl (by decide)<|bj rfl rfl rfl (by decide)<|bj rfl rfl rfl (by decide)<|bj rfl rfl rfl (by decide)<|bj rfl rfl rfl (by decide)<|bj rfl rfl rfl (by decide)<|bj rfl rfl rfl (by decide)<|aj (bn rfl rfl)<|bp<|az [52,7,23,6,15,5,4,0,1] rfl<|aa<| ?_
      refine dm rfl (rfl) ?_
      refine bH<|al<|al<|aD<|aa<|ae<|ah<|au rfl<|hy (fun _=>cw rfl rfl)<|au rfl<| ?_
      have hL2:j=lv l i (i-(q+1)):=(by rw[←hL,show 131-j=0 by omega];rfl)
      subst hL2
      refine fH 57 rfl (fun h3=> ?_) (fun h3=> ?_)
      ·refine bQ (o:=_) rfl rfl rfl (fun _=>ai rfl)<|bQ (o:=_) rfl rfl rfl (fun _=>ax rfl kJ (by decide))<|bQ (o:=_) rfl rfl rfl (fun m=>ak rfl cY (ar (m.aN 0 rfl) rfl))<|bQ (o:=_) rfl rfl rfl (fun _=>cw rfl rfl)<|hy (fun _=>bz rfl rfl)<|ag<|az [62,52,7,23,6,15,5,4,0,1] rfl<|aa<| ?_
       refine cu rfl (fun h4=> ?_) (fun h4=> ?_)
       ·refine ah<|au rfl<|au rfl<|hy (fun _=>b6 ri rfl rfl (by kernel_rfl) (.cons (o:=0) (sz:=1) (by kernel_rfl) rfl rfl (Nat.le_of_ble_eq_true rfl) (.cons (o:=1) (sz:=1) (by kernel_rfl) rfl rfl (Nat.le_of_ble_eq_true rfl) .nil)))<| ?_
        refine cF (a7 0 rfl rfl rfl k5 rfl (na (s:=(lv l i (i-(q+1)),q+1))) rfl ?_)
        have hst:mv (lv l i (i-(q+1)),q+1)=mv (cr l i (q+1)):=by
         rw[dB]
         unfold gC
         rw[if_pos ⟨by omega,by omega⟩]
        refine aH (fun w m=>m.bw 0 rfl (show _=aE g5 298 (mv (cr l i (q+1)))from congrArg (aE g5 _) hst)) ?_
        refine ag<|az [62,52,7,23,6,15,5,4,0,1] rfl<|aY rfl rfl<|aW<|aa<|ah<|au rfl<|hy (fun _=>aO rfl rfl (bE (by omega) (by omega)))<|aG rfl<|ag<|az [6,62,52,7,23,15,5,4,0,1] rfl<| ?_
        refine cH (q+1) ⟨rfl,rfl,rfl,rfl,rfl,rfl,trivial⟩ [0,0] rfl [0] rfl ((by omega)) (by omega)
       ·have hst:mv (cr l i q)=mv (cr l i (q+1)):=by
         rw[dB]
         unfold gC
         rw[if_neg (fun h=>by omega)]
        refine aB<|aW<|aa<|ah<|au rfl<|hy (fun _=>aO rfl rfl (bE (by omega) (by omega)))<|aG rfl<|ag<|az [6,62,52,7,23,15,5,4,0,1] rfl<| ?_
        refine bd (fun w m=>m.bw 0 rfl (show _=aE g5 298 (mv (cr l i (q+1)))from congrArg (aE g5 _) hst)) ?_
        refine cH (q+1) ⟨rfl,rfl,rfl,rfl,rfl,rfl,trivial⟩ [0,0] rfl [0] rfl ((by omega)) (by omega)
      ·have hst:mv (cr l i q)=mv (cr l i (q+1)):=by
        rw[dB]
        unfold gC
        rw[if_neg (fun h=>by omega)]
       refine aJ rfl rfl rfl (by decide)<|aJ rfl rfl rfl (by decide)<|aJ rfl rfl rfl (by decide)<|aJ rfl rfl rfl (by decide)<|hy (fun _=>bn rfl rfl)<|ag<|az [62,52,7,23,6,15,5,4,0,1] rfl<|aa<| ?_
       refine dm rfl (rfl) ?_
       refine aB<|aW<|aa<|ah<|au rfl<|hy (fun _=>aO rfl rfl (bE (by omega) (by omega)))<|aG rfl<|ag<|az [6,62,52,7,23,15,5,4,0,1] rfl<| ?_
       refine bd (fun w m=>m.bw 0 rfl (show _=aE g5 298 (mv (cr l i (q+1)))from congrArg (aE g5 _) hst)) ?_
       refine cH (q+1) ⟨rfl,rfl,rfl,rfl,rfl,rfl,trivial⟩ [0,0] rfl [0] rfl ((by omega)) (by omega)
    ·refine bj rfl rfl rfl (by decide)<|bj rfl rfl rfl (by decide)<|aj (bn rfl rfl)<|aj (ai rfl)<| ?_
     refine bj rfl rfl rfl (by decide)<|bj rfl rfl rfl (by decide)<|bj rfl rfl rfl (by decide)<|bj rfl rfl rfl (by decide)<|bj rfl rfl rfl (by decide)<|bj rfl rfl rfl (by decide)<|bj rfl rfl rfl (by decide)<|bj rfl rfl rfl (by decide)<|bj rfl rfl rfl (by decide)<|bj rfl rfl rfl (by decide)<|bj rfl rfl rfl (by decide)<|bj rfl rfl rfl (by decide)<|bj rfl rfl rfl (by decide)<|bj rfl rfl rfl (by decide)<|bj rfl rfl rfl (by decide)<|aj (bn rfl rfl)<|bp<|az [52,7,23,6,15,5,4,0,1] rfl<|aa<| ?_
     refine dm rfl (rfl) ?_
     refine bH<|al<|al<|aD<|aa<|ae<|ah<|au rfl<|hy (fun _=>cw rfl rfl)<|au rfl<| ?_
     have hL2:j=lv l i (i-(q+1)):=(by rw[←hL,kY (fun e=>g1 (by omega))])
     subst hL2
     refine fH 57 rfl (fun h3=> ?_) (fun h3=> ?_)
     ·refine bQ (o:=_) rfl rfl rfl (fun _=>ai rfl)<|bQ (o:=_) rfl rfl rfl (fun _=>ax rfl kJ (by decide))<|bQ (o:=_) rfl rfl rfl (fun m=>ak rfl cY (ar (m.aN 0 rfl) rfl))<|bQ (o:=_) rfl rfl rfl (fun _=>cw rfl rfl)<|hy (fun _=>bz rfl rfl)<|ag<|az [62,52,7,23,6,15,5,4,0,1] rfl<|aa<| ?_
      refine cu rfl (fun h4=> ?_) (fun h4=> ?_)
      ·refine ah<|au rfl<|au rfl<|hy (fun _=>b6 ri rfl rfl (by kernel_rfl) (.cons (o:=0) (sz:=1) (by kernel_rfl) rfl rfl (Nat.le_of_ble_eq_true rfl) (.cons (o:=1) (sz:=1) (by kernel_rfl) rfl rfl (Nat.le_of_ble_eq_true rfl) .nil)))<| ?_
       refine cF (a7 0 rfl rfl rfl k5 rfl (na (s:=(lv l i (i-(q+1)),q+1))) rfl ?_)
       have hst:mv (lv l i (i-(q+1)),q+1)=mv (cr l i (q+1)):=by
        rw[dB]
        unfold gC
        rw[if_pos ⟨by omega,by omega⟩]
       refine aH (fun w m=>m.bw 0 rfl (show _=aE g5 298 (mv (cr l i (q+1)))from congrArg (aE g5 _) hst)) ?_
       refine ag<|az [62,52,7,23,6,15,5,4,0,1] rfl<|aY rfl rfl<|aW<|aa<|ah<|au rfl<|hy (fun _=>aO rfl rfl (bE (by omega) (by omega)))<|aG rfl<|ag<|az [6,62,52,7,23,15,5,4,0,1] rfl<| ?_
       refine cH (q+1) ⟨rfl,rfl,rfl,rfl,rfl,rfl,trivial⟩ [0,0] rfl [0] rfl ((by omega)) (by omega)
      ·have hst:mv (cr l i q)=mv (cr l i (q+1)):=by
        rw[dB]
        unfold gC
        rw[if_neg (fun h=>by omega)]
       refine aB<|aW<|aa<|ah<|au rfl<|hy (fun _=>aO rfl rfl (bE (by omega) (by omega)))<|aG rfl<|ag<|az [6,62,52,7,23,15,5,4,0,1] rfl<| ?_
       refine bd (fun w m=>m.bw 0 rfl (show _=aE g5 298 (mv (cr l i (q+1)))from congrArg (aE g5 _) hst)) ?_
       refine cH (q+1) ⟨rfl,rfl,rfl,rfl,rfl,rfl,trivial⟩ [0,0] rfl [0] rfl ((by omega)) (by omega)
     ·have hst:mv (cr l i q)=mv (cr l i (q+1)):=by
       rw[dB]
       unfold gC
       rw[if_neg (fun h=>by omega)]
      refine aJ rfl rfl rfl (by decide)<|aJ rfl rfl rfl (by decide)<|aJ rfl rfl rfl (by decide)<|aJ rfl rfl rfl (by decide)<|hy (fun _=>bn rfl rfl)<|ag<|az [62,52,7,23,6,15,5,4,0,1] rfl<|aa<| ?_
      refine dm rfl (rfl) ?_
      refine aB<|aW<|aa<|ah<|au rfl<|hy (fun _=>aO rfl rfl (bE (by omega) (by omega)))<|aG rfl<|ag<|az [6,62,52,7,23,15,5,4,0,1] rfl<| ?_
      refine bd (fun w m=>m.bw 0 rfl (show _=aE g5 298 (mv (cr l i (q+1)))from congrArg (aE g5 _) hst)) ?_
      refine cH (q+1) ⟨rfl,rfl,rfl,rfl,rfl,rfl,trivial⟩ [0,0] rfl [0] rfl ((by omega)) (by omega)
   ·have hq:q=min i 1024:=by omega
    subst hq
    refine bH<|al<|al<|aD<|aa<|ae<|ah<|hy (fun m=>aP rfl wV k5 rfl ((m.aN 0 rfl).aw))<| ?_
    refine cF (a7 1 rfl rfl rfl k5 rfl na rfl ?_)
    refine ag<|az [23,6,15,5,4,0,1] rfl<|aY rfl rfl<|aa<|aR<| ?_
    exact eZ trivial rfl rfl wV k5 rfl (fun m=>(m.aN 0 rfl).aw) [] rfl [] rfl ⟨rfl,rfl,rfl⟩
  ·refine aJ rfl rfl rfl (by decide)<|aJ rfl rfl rfl (by decide)<|hy (fun _=>bn rfl rfl)<|ag<|az [23,6,15,5,4,0,1] rfl<|aa<| ?_
   refine dm rfl (rfl) ?_
   have hq:q=min i 1024:=by omega
   subst hq
   refine bH<|al<|al<|aD<|aa<|ae<|ah<|hy (fun m=>aP rfl wV k5 rfl ((m.aN 0 rfl).aw))<| ?_
   refine cF (a7 1 rfl rfl rfl k5 rfl na rfl ?_)
   refine ag<|az [23,6,15,5,4,0,1] rfl<|aY rfl rfl<|aa<|aR<| ?_
   exact eZ trivial rfl rfl wV k5 rfl (fun m=>(m.aN 0 rfl).aw) [] rfl [] rfl ⟨rfl,rfl,rfl⟩
theorem CY{A:Option Addr}{n c:Nat}{l:List UInt8}(hc:n≤c)(hn:n≤500000000)(hl:l.length=n):cf Tryz.prog 219 [.slice A n c] [] [cz 1 A n (aT l)] (fun v_ X_ S_=>∃v,v_=v∧X_=[aI 5 1 v (eQ l).length (aT (eQ l))]∧S_=[]):=by
 refine aK (N:=31) Tryz.func219 rfl rfl (by simp) fun b=> ?_
 refine aQ (fun m=>ek (m.rd 0 rfl)) ?_
 rintro⟨hl_r,hA_r⟩
 refine ae<|ah<|aG rfl<|ag<|aa<|ae<|ah<|aG rfl<|ag<|aa<|ae<|ae<|ah<|aG rfl<|ag<|aa<|aM<| ?_
 refine a8 (fun w m=>m.cL (r' :=aI 5 1 (.slice none 0 0) 0 []) (.refl _ _) (Own.nil _ _ _ _) (fun k hk=>hk.elim)) ?_
 refine nD (fun i o A3 c3=>n-i) (fun i o A3 c3=>[(3,.slice A3 o.length c3),(4,.int .i64 (i:Nat))]) (fun i o A3 c3=>[aI 5 1 (.slice A3 o.length c3) o.length (aT o)]) (fun i o A3 c3=>[]) (fun i o A3 c3=>i≤n+128∧o.length≤2*i∧o++eQ (l.drop i)=eQ l) 0 [] none 0 [(2,_),(0,_)] ⟨rfl,rfl,trivial⟩ [0] rfl [] rfl (⟨by omega,by decide,rfl⟩) ⟨rfl,rfl,trivial⟩ (fun i o A3 c3 ⟨hin,hon,hE⟩=> ?_)
 refine ae<|ae<|ah<|au rfl<|au rfl<|hy (fun _=>a6 rfl Tryz.underlying27)<|hy (fun _=>bx rfl rfl)<|ag<|az [9,3,4,2,0] rfl<|aa<| ?_
 refine cu rfl (fun hi=> ?_) (fun hi=> ?_)
 ·obtain⟨k,hk⟩:∃k,k=min (n-i) 128:=⟨_,rfl⟩
  have hki:1≤k∧k≤128∧i+k≤n:=by omega
  have hdl:(l.drop i).length=n-i:=by rw[List.length_drop,hl]
  have hne:l.drop i≠ []:=fun e=>by rw[e]at hdl;simp at hdl;omega
  have htk:(l.drop i).take 128=(l.drop i).take k:=by
   rcases Nat.lt_or_ge (n-i) 128 with h|h
   ·rw[List.take_of_length_le (by omega),List.take_of_length_le (by omega)]
   ·rw[show k=128 by omega]
  rw[mS hne,hdl,←hk,htk,List.drop_drop]at hE
  refine a8 (fun w m=>m.ew 0 rfl (View.sub (n:=n) (c:=c) (k:=i) (m:=k) (by omega) (by omega))) ?_
  refine aQ (fun m=>ek (m.rd 0 rfl)) ?_
  rintro⟨hl_p,hA_p⟩
  refine aB<|aa<|ae<|aM<|ae<|ah<|au rfl<|au rfl<|au rfl<|hy (fun _=>aO rfl rfl (bE (by omega) (by omega)))<|au rfl<|hy (fun _=>a6 rfl Tryz.underlying27)<|hy (fun _=>yV (wm rfl rfl) ((show Value.int .i64 _= .int .i64 ((i+k:Nat):Int) by congr 1;omega)))<|hy (fun _=>yV (eA rfl rfl rfl Tryz.underlying27 dJ rfl rfl (by omega) (by omega)) ((show Value.slice (if c=i then A else A.map (·.add (i*1))) (i+k-i) (c-i)= .slice (if c=i then A else A.map (·.add (i*1))) k (c-i) by congr 1;omega)))<|aG rfl<|ag<|az [5,9,3,4,2,0] rfl<|aa<|ae<|ah<|au rfl<|au rfl<|hy (fun _=>a6 rfl Tryz.underlying27)<|hy (fun _=>yV (ct rfl rfl (bE (by omega) (by omega))) ((show Value.int .i64 ((k:Int)-1)= .int .i64 ((k-1:Nat):Int) by congr 1;omega)))<|hy (fun _=>yV (b8 rfl Tryz.underlying3 Tryz.underlying5 (iM _)) ((show Value.int .u8 _=B8 (UInt8.ofNat (k-1))from rfl)))<| ?_
  refine hx (b5 Tryz.underlying27 fh rfl rfl rfl (by simp[Value.cells,B8]) (by decide) (by decide) (fun g25=> ?_))
  have hA_b25:0<1→(some (⟨g25,0,none⟩:Addr))≠none:=fun _ h=>by cases h
  refine aH (fun w m=>m.bw 0 rfl (show _=aI 5 1 (.slice (some ⟨g25,0,none⟩) 1 1) 1 (aT [UInt8.ofNat (k-1)])from rfl)) ?_
  refine hx (bC 1 rfl rfl rfl Tryz.underlying27 Tryz.underlying27 (by exact .inl rfl) fh rfl (fun m=>Src.b9 (m.ord 0 rfl)) bl (by unfold maxLen;omega) (by omega) (fun u=> ?_))
  refine aC (fun m=>(m.own 0 rfl).slice) ?_
  rintro⟨A_x,c_x,rfl,hc_x⟩
  refine aC (fun m=>(m.ord 0 rfl).2.1) fun hA_x=> ?_
  refine aG rfl<|ag<|az [3,5,9,4,2,0] rfl<|aY rfl rfl<|aa<|ah<|au rfl<|au rfl<| ?_
  refine hx (bC 0 rfl rfl rfl Tryz.underlying27 Tryz.underlying27 (by exact .inl rfl) fh rfl (fun m=>Src.b9 (m.rd 0 rfl)) bl (by unfold maxLen;omega) (by omega) (fun u2=> ?_))
  refine aC (fun m=>(m.own 0 rfl).slice) ?_
  rintro⟨A_x2,c_x2,rfl,hc_x⟩
  refine aC (fun m=>(m.ord 0 rfl).2.1) fun hA_x=> ?_
  refine aG rfl<|ag<|az [3,5,9,4,2,0] rfl<|aY rfl rfl<|aW<|aa<|ah<|au rfl<|hy (fun _=>aO rfl rfl (bE (by omega) (by omega)))<|aG rfl<|ag<|az [4,3,5,9,2,0] rfl<| ?_
  have hol:o.length+1+k=(o++(UInt8.ofNat (k-1)::(l.drop i).take k)).length:=by simp;omega
  rw[hol]
  refine bd (fun w m=>m.bw 0 rfl (show _=aI 5 1 (.slice A_x2 (o++(UInt8.ofNat (k-1)::(l.drop i).take k)).length c_x2) (o++(UInt8.ofNat (k-1)::(l.drop i).take k)).length (aT (o++(UInt8.ofNat (k-1)::(l.drop i).take k)))from congrArg (aI _ _ _ _) (show aT o++aT [UInt8.ofNat (k-1)]++aT ((l.drop i).take k)=_ by rw[←bR,←bR,List.append_assoc];rfl))) ?_
  refine kx (i+128) (o++(UInt8.ofNat (k-1)::(l.drop i).take k)) _ _ ⟨rfl,rfl,rfl,rfl,trivial⟩ [0] rfl [1] rfl (⟨by omega,by rw[←hol];omega,by rw[←hE];simp⟩) (by omega)
 ·rw[List.drop_of_length_le (by omega),o4,List.append_nil]at hE
  subst hE
  refine bH<|al<|al<|aD<|aa<|ae<|ah<|au rfl<|aG rfl<|ag<|az [2,9,3,4,0] rfl<|aa<|aR<| ?_
  exact bc trivial rfl rfl [0] rfl [] rfl ⟨_,rfl,rfl,rfl⟩
theorem EY{A:Option Addr}{n c:Nat}{l:List UInt8}(hc:n≤c)(hn:n≤500000000)(hl:l.length=n):cf Tryz.prog 159 [.slice A n c] [] [cz 1 A n (aT l)] (fun v_ X_ S_=>∃v,v_=v∧X_=[aI 5 1 v (eF l).length (aT (eF l))]∧S_=[]):=by
 refine aK (N:=54) Tryz.func159 rfl rfl (by simp) fun b=> ?_
 refine aQ (fun m=>ek (m.rd 0 rfl)) ?_
 rintro⟨hl_r,hA_r⟩
 refine ae<|ah<|aG rfl<|ag<|aa<|ae<|ah<|aG rfl<|ag<|aa<|ae<|ah<|aG rfl<|ag<|aa<|ae<|ah<|aG rfl<|ag<|aa<|ae<|aM<| ?_
 refine a8 (fun w m=>m.cL (r' :=aI 5 1 (.slice none 0 0) 0 []) (.refl _ _) (Own.nil _ _ _ _) (fun k hk=>hk.elim)) ?_
 refine ry (fun i f o A3 c3=>n-i) (fun i f o A3 c3=>[(3,.slice A3 o.length c3),(4,.int .i64 (f:Nat)),(5,.int .i64 (i:Nat))]) (fun i f o A3 c3=>[aI 5 1 (.slice A3 o.length c3) o.length (aT o)]) (fun i f o A3 c3=>[]) (fun i f o A3 c3=>i≤n∧f≤i∧o.length+2*(i-f)≤2*i∧gO l i ((l.drop f).take (i-f)) o=eF l) 0 0 [] none 0 [(2,_),(0,_)] ⟨rfl,rfl,trivial⟩ [0] rfl [] rfl (⟨by omega,by decide,by decide,rfl⟩) ⟨rfl,rfl,rfl,trivial⟩ (fun i f o A3 c3 ⟨hin,hfi,hon,hE⟩=> ?_)
 have hown:((l.drop f).take (i-f)).length=i-f:=by rw[List.length_take,List.length_drop];omega
 refine ae<|ae<|ah<|au rfl<|au rfl<|hy (fun _=>a6 rfl Tryz.underlying27)<|hy (fun _=>bx rfl rfl)<|ag<|az [10,3,4,5,2,0] rfl<|aa<| ?_
 refine cu rfl (fun hi=> ?_) (fun hi=> ?_)
 ·refine aB<|aa<|aM<|ae<|ah<|au rfl<|au rfl<| ?_
  refine hx (an rfl Tryz.call218 (Cu (by omega) hl (by omega)) [] rfl [0] rfl ?_)
  rintro _ _ _ ⟨rfl,rfl,rfl⟩
  refine hx (ba ri (fun g6=> ?_))
  refine cF (a7 0 rfl rfl rfl k5 rfl na rfl ?_)
  refine ag<|az [6,10,3,4,5,2,0] rfl<|aY rfl rfl<|aa<|ae<|ae<|ah<|hy (fun _=>ax rfl kJ (by decide))<|hy (fun m=>ak rfl cY (ar (m.aN 0 rfl) rfl))<|hy (fun _=>cD rfl rfl)<|ag<|az [16,6,10,3,4,5,2,0] rfl<|aa<| ?_
  refine cu rfl (fun h0=> ?_) (fun h0=> ?_)
  ·rw[nz (by omega) (by omega)]at hE
   have hsn:(l.drop f).take (i-f)++[l.getD i 0]=(l.drop f).take (i+1-f):=by
    rw[show i+1-f=(i-f)+1 by omega,eK (by rw[List.length_drop];omega)]
    congr 2
    simp only[List.getD,List.getElem?_drop]
    rw[show f+(i-f)=i by omega]
   rw[hsn]at hE
   refine ae<|ah<|au rfl<|hy (fun _=>aO rfl rfl (bE (by omega) (by omega)))<|aG rfl<|ag<|az [5,16,6,10,3,4,2,0] rfl<|aa<|bH<|al<|aD<| ?_
   refine nJ (i+1) f o A3 c3 ⟨rfl,rfl,rfl,rfl,rfl,trivial⟩ [1] rfl [0] rfl (⟨by omega,by omega,by omega,hE⟩) (by omega)
  ·have hm:=mZ (b:=l) (i:=i) (by omega)
   rw[ke (by omega) (by omega)]at hE
   obtain⟨m1,m2,m3,m4,m5,m6⟩:=hm.resolve_left (fun e=>h0 (by rw[e];rfl))
   have hll:=fq ((l.drop f).take (i-f))
   refine a8 (fun w m=>m.ew 0 rfl (View.sub (n:=n) (c:=c) (k:=f) (m:=i-f) (by omega) (by omega))) ?_
   refine aQ (fun m=>ek (m.rd 0 rfl)) ?_
   rintro⟨hl_p,hA_p⟩
   refine aB<|aa<|ae<|ah<|au rfl<|au rfl<|au rfl<|au rfl<|hy (fun _=>eA rfl rfl rfl Tryz.underlying27 dJ rfl rfl (by omega) (by omega))<| ?_
   refine hx (an rfl Tryz.call219 (CY (by omega) (by omega) hown) [] rfl [0] rfl ?_)
   rintro _ _ _ ⟨v,rfl,rfl,rfl⟩
   refine aC (fun m=>(m.own 0 rfl).slice) ?_
   rintro⟨A_x2,c_x2,rfl,hc_x2⟩
   refine aC (fun m=>(m.ord 0 rfl).2.1) fun hA_x2=> ?_
   refine hx (bC 2 rfl rfl rfl Tryz.underlying27 Tryz.underlying27 (by exact .inl rfl) fh rfl (fun m=>Src.b9 (m.ord 0 rfl)) bl (by unfold maxLen;omega) (by omega) (fun u=> ?_))
   refine aC (fun m=>(m.own 0 rfl).slice) ?_
   rintro⟨A_x,c_x,rfl,hc_x⟩
   refine aC (fun m=>(m.ord 0 rfl).2.1) fun hA_x=> ?_
   generalize hLL:eQ ((l.drop f).take (i-f))=L at hE hll ⊢
   refine aG rfl<|ag<|az [3,16,6,10,4,5,2,0] rfl<|aY rfl rfl<|aa<|ae<|ah<|au rfl<|hy (fun _=>ax rfl kJ (by decide))<|hy (fun m=>ak rfl cY (ar (m.aN 2 rfl) rfl))<|hy (fun _=>yV (aO rfl rfl (bE (by omega) (by omega))) ((show Value.int .i64 (124+((bf l i).1:Int))= .int .i64 ((124+(bf l i).1:Nat):Int) by congr 1)))<|hy (fun _=>yV (b8 rfl Tryz.underlying3 Tryz.underlying5 (iM _)) ((show Value.int .u8 _=B8 (UInt8.ofNat (124+(bf l i).1))from rfl)))<|hy (fun _=>ax rfl wo (by decide))<|hy (fun m=>ak rfl cY (ar (m.aN 2 rfl) rfl))<|hy (fun _=>yV (ct rfl rfl (bE (by omega) (by omega))) ((show Value.int .i64 (((bf l i).2:Int)-1)= .int .i64 (((bf l i).2-1:Nat):Int) by congr 1;omega)))<|hy (fun _=>yV (hZ rfl rfl (by omega) (by omega)) ((show Value.int .i64 ((((bf l i).2-1:Nat):Int) % 256)= .int .i64 ((((bf l i).2-1) % 256:Nat):Int) by congr 1)))<|hy (fun _=>yV (b8 rfl Tryz.underlying3 Tryz.underlying5 (iM _)) ((show Value.int .u8 _=B8 (UInt8.ofNat (((bf l i).2-1) % 256))from rfl)))<|hy (fun _=>ax rfl wo (by decide))<|hy (fun m=>ak rfl cY (ar (m.aN 2 rfl) rfl))<|hy (fun _=>yV (ct rfl rfl (bE (by omega) (by omega))) ((show Value.int .i64 (((bf l i).2:Int)-1)= .int .i64 (((bf l i).2-1:Nat):Int) by congr 1;omega)))<|hy (fun _=>yV (kd rfl rfl (by omega) (by omega) (bE (by omega) (by omega))) ((show Value.int .i64 ((((bf l i).2-1:Nat):Int)/256)= .int .i64 ((((bf l i).2-1)/256:Nat):Int) by congr 1)))<|hy (fun _=>yV (b8 rfl Tryz.underlying3 Tryz.underlying5 (iM _)) ((show Value.int .u8 _=B8 (UInt8.ofNat (((bf l i).2-1)/256))from rfl)))<| ?_
   refine hx (b5 Tryz.underlying27 fh rfl rfl rfl (by simp[Value.cells,B8]) (by decide) (by decide) (fun g41=> ?_))
   have hA_b41:0<3→(some (⟨g41,0,none⟩:Addr))≠none:=fun _ h=>by cases h
   have htm:[UInt8.ofNat (124+(bf l i).1),UInt8.ofNat (((bf l i).2-1) % 256),UInt8.ofNat (((bf l i).2-1)/256)]=iz (bf l i):=by
    unfold iz
    congr 2
    exact UInt8.toNat_inj.1 (by rw[UInt8.toNat_ofNat',UInt8.toNat_ofNat'];omega)
   refine aH (fun w m=>m.bw 0 rfl (show _=aI 5 1 (.slice (some ⟨g41,0,none⟩) 3 3) 3 (aT (iz (bf l i)))from congrArg (aI _ _ _ _) (show aT [UInt8.ofNat (124+(bf l i).1),UInt8.ofNat (((bf l i).2-1) % 256),UInt8.ofNat (((bf l i).2-1)/256)]=_ by rw[htm]))) ?_
   refine hx (bC 1 rfl rfl rfl Tryz.underlying27 Tryz.underlying27 (by exact .inl rfl) fh rfl (fun m=>Src.b9 (m.ord 0 rfl)) bl (by unfold maxLen;omega) (by omega) (fun u2=> ?_))
   refine aC (fun m=>(m.own 0 rfl).slice) ?_
   rintro⟨A_x3,c_x3,rfl,hc_x⟩
   refine aC (fun m=>(m.ord 0 rfl).2.1) fun hA_x=> ?_
   refine aG rfl<|ag<|az [3,16,6,10,4,5,2,0] rfl<|aY rfl rfl<|aa<|ae<|ah<|au rfl<|hy (fun _=>ax rfl kJ (by decide))<|hy (fun m=>ak rfl cY (ar (m.aN 3 rfl) rfl))<|hy (fun _=>yV (aO rfl rfl (bE (by omega) (by omega))) ((show Value.int .i64 ((i:Int)+((bf l i).1:Int))= .int .i64 ((i+(bf l i).1:Nat):Int) by congr 1)))<|aG rfl<|ag<|az [5,3,16,6,10,4,2,0] rfl<|aa<|ah<|au rfl<|aG rfl<|ag<|az [4,5,3,16,6,10,2,0] rfl<|aW<| ?_
   have hol:o.length+L.length+3=(o++L++iz (bf l i)).length:=by simp[iz];omega
   rw[hol]
   refine bd (fun w m=>m.bw 0 rfl (show _=aI 5 1 (.slice A_x3 (o++L++iz (bf l i)).length c_x3) (o++L++iz (bf l i)).length (aT (o++L++iz (bf l i)))from congrArg (aI _ _ _ _) (show aT o++aT L++aT (iz (bf l i))=aT (o++L++iz (bf l i)) by rw[bR,bR]))) ?_
   have hE2:gO l (i+(bf l i).1) ((l.drop (i+(bf l i).1)).take (i+(bf l i).1-(i+(bf l i).1))) (o++L++iz (bf l i))=eF l:=by rw[Nat.sub_self,List.take_zero];exact hE
   refine nJ (i+(bf l i).1) (i+(bf l i).1) (o++L++iz (bf l i)) _ _ ⟨rfl,rfl,rfl,rfl,rfl,trivial⟩ [0] rfl [1] rfl (⟨by omega,Nat.le_refl _,by rw[←hol];omega,hE2⟩) (by omega)
 ·obtain rfl:i=n:=by omega
  rw[nE (by omega),List.take_of_length_le (by rw[List.length_drop];omega)]at hE
  have hdl:(l.drop f).length=i-f:=by rw[List.length_drop];omega
  have hll:=fq (l.drop f)
  refine a8 (fun w m=>m.ew 0 rfl (View.drop (n:=i) (c:=c) (k:=f) (by omega) (by omega))) ?_
  refine aQ (fun m=>ek (m.rd 0 rfl)) ?_
  rintro⟨hl_p,hA_p⟩
  refine bH<|al<|al<|aD<|aa<|ae<|ah<|au rfl<|au rfl<|au rfl<|hy (fun _=>ef rfl rfl Tryz.underlying27 dJ rfl (by omega))<| ?_
  refine hx (an rfl Tryz.call219 (CY (by omega) (by omega) hdl) [] rfl [0] rfl ?_)
  rintro _ _ _ ⟨v,rfl,rfl,rfl⟩
  refine aC (fun m=>(m.own 0 rfl).slice) ?_
  rintro⟨A_x2,c_x2,rfl,hc_x2⟩
  refine aC (fun m=>(m.ord 0 rfl).2.1) fun hA_x2=> ?_
  refine hx (bC 1 rfl rfl rfl Tryz.underlying27 Tryz.underlying27 (by exact .inl rfl) fh rfl (fun m=>Src.b9 (m.ord 0 rfl)) bl (by unfold maxLen;omega) (by omega) (fun u=> ?_))
  refine aC (fun m=>(m.own 0 rfl).slice) ?_
  rintro⟨A_x,c_x,rfl,hc_x⟩
  refine aC (fun m=>(m.ord 0 rfl).2.1) fun hA_x=> ?_
  have hol:o.length+(eQ (l.drop f)).length=(eF l).length:=by rw[←hE];simp
  rw[hol]
  refine aH (fun w m=>m.bw 0 rfl (show _=aI 5 1 (.slice A_x (eF l).length c_x) (eF l).length (aT (eF l))from congrArg (aI _ _ _ _) (show aT o++aT (eQ (l.drop f))=aT (eF l) by rw[←hE,bR]))) ?_
  refine aG rfl<|ag<|az [2,10,3,4,5,0] rfl<|aY rfl rfl<|aa<|aR<| ?_
  exact bc trivial rfl rfl [0] rfl [] rfl ⟨_,rfl,rfl,rfl⟩
end Go.Proofs.YtmibdabdlgmafaaGreatDoor
end
section
set_option maxRecDepth 20000
set_option maxHeartbeats 2000000
namespace Go.Proofs.YtmibdabdlgmafaaGreatDoor
open Go.Eng Go.Hx
theorem w9{A:Option Addr}{n c:Nat}{l:List UInt8}(hc:n≤c)(hn:n≤1000000000)(hl:l.length=n):cf Tryz.prog 161 [.slice A n c] [] [cz 1 A n (aT l)] (fun v_ X_ S_=>∃v,v_=v∧X_=[aI 5 1 v 4 (aT (jA (dj l)))]∧S_=[]):=by
 have e4:n+4-n=4:=by omega
 have ed:(aT (zX l)).drop (n*1)=aT (jA (dj l)):=by rw[Nat.mul_one,←pQ,zX,List.drop_append_of_le_length (by omega),List.drop_of_length_le (by omega)];rfl
 refine aK (N:=8) Tryz.func161 rfl rfl (by simp) fun b=> ?_
 refine aQ (fun m=>ek (m.rd 0 rfl)) ?_
 rintro⟨hl_r,hA_r⟩
 refine ae<|ah<|aG rfl<|ag<|aa<|ae<|ah<|au rfl<| ?_
 refine hx (an rfl Tryz.call189 (yw (by omega)) [] rfl [0] rfl ?_)
 rintro _ _ _ ⟨v,rfl,rfl,rfl⟩
 refine aC (fun m=>(m.own 0 rfl).slice) ?_
 rintro⟨A_x,c_x,rfl,hc_x⟩
 refine aC (fun m=>(m.ord 0 rfl).2.1) fun hA_x=> ?_
 refine au rfl<|hy (fun _=>a6 rfl Tryz.underlying27)<|hy (fun _=>yV (ef rfl rfl Tryz.underlying27 dJ rfl (by omega)) ((show Value.slice (if c_x=n then A_x else A_x.map (·.add (n*1))) (n+4-n) (c_x-n)= .slice (if c_x=n then A_x else A_x.map (·.add (n*1))) 4 (c_x-n) by congr 1)))<|aG rfl<|ag<|az [2,0] rfl<|aY rfl rfl<|aa<|aR<| ?_
 refine bd (X' :=aI 5 1 (.slice (if c_x=n then A_x else A_x.map (·.add (n*1))) (n+4-n) (c_x-n)) (n+4-n) ((aT (zX l)).drop (n*1))::_) (fun w m=>(m.perm (ao [0] _ [_] _ rfl)).Aq (View.rM (by omega) hc_x)) ?_
 rw[e4,ed]
 exact bc trivial rfl rfl [0] rfl [] rfl ⟨_,rfl,rfl,rfl⟩
theorem Fg{A:Option Addr}{n c:Nat}{l:List UInt8}(hc:n≤c)(hn:n≤100000000)(hl:l.length=n):cf Tryz.prog 81 [.slice A n c] [] [cz 1 A n (aT l)] (fun v_ X_ S_=>∃v,v_=v∧X_=[aI 5 1 v (cj l).length (aT (cj l))]∧S_=[]):=by
 have hpl:=lS l
 have hcl:=ju l
 refine aK (N:=30) Tryz.func81 rfl rfl (by simp) fun b=> ?_
 refine aQ (fun m=>ek (m.rd 0 rfl)) ?_
 rintro⟨hl_r,hA_r⟩
 refine ae<|ah<|aG rfl<|ag<|aa<|ae<|ah<|au rfl<| ?_
 refine hx (an rfl Tryz.call159 (EY (by omega) (by omega) (by omega)) [] rfl [0] rfl ?_)
 rintro _ _ _ ⟨v,rfl,rfl,rfl⟩
 refine aC (fun m=>(m.own 0 rfl).slice) ?_
 rintro⟨A_x,c_x,rfl,hc_x⟩
 refine aC (fun m=>(m.ord 0 rfl).2.1) fun hA_x=> ?_
 refine aG rfl<|ag<|az [3,2,0] rfl<|aY rfl rfl<|aa<|ae<|ah<| ?_
 refine hx (b5 Tryz.underlying27 fh rfl rfl rfl (by simp[Value.cells,B8]) (by decide) (by decide) (fun g7=> ?_))
 have hA_b7:0<2→(some (⟨g7,0,none⟩:Addr))≠none:=fun _ h=>by cases h
 refine aG rfl<|ag<|az [4,3,2,0] rfl<|aY rfl rfl<|aa<|ae<|ah<|au rfl<|au rfl<|hy (fun _=>a6 rfl Tryz.underlying27)<| ?_
 refine hx (an rfl Tryz.call160 (BQ (by omega)) [] rfl [] rfl ?_)
 rintro _ _ _ ⟨v2,rfl,rfl,rfl⟩
 refine aC (fun m=>(m.own 0 rfl).slice) ?_
 rintro⟨A_x2,c_x2,rfl,hc_x2⟩
 refine aC (fun m=>(m.ord 0 rfl).2.1) fun hA_x2=> ?_
 refine aH (fun w m=>m.bw 1 rfl (show _=aI 5 1 (.slice (some ⟨g7,0,none⟩) 2 2) 2 (aT [76,0])from rfl)) ?_
 refine hx (bC 0 rfl rfl rfl Tryz.underlying27 Tryz.underlying27 (by exact .inl rfl) fh rfl (fun m=>Src.b9 (m.ord 1 rfl)) bl (by unfold maxLen;omega) (by omega) (fun u=> ?_))
 refine aC (fun m=>(m.own 0 rfl).slice) ?_
 rintro⟨A_b7,c_b7,rfl,hc_b7⟩
 refine aC (fun m=>(m.ord 0 rfl).2.1) fun hA_b7=> ?_
 refine aG rfl<|ag<|az [4,3,2,0] rfl<|aY rfl rfl<|aa<|ae<|ae<|ah<|au rfl<|hy (fun _=>a6 rfl Tryz.underlying27)<|au rfl<|hy (fun _=>a6 rfl Tryz.underlying27)<|hy (fun _=>bx rfl rfl)<|ag<|az [17,4,3,2,0] rfl<|aa<| ?_
 refine cu rfl (fun hp=> ?_) (fun hp=> ?_)
 ·have hq:cj l=[76,1]++jA l.length++eF l++jA (dj l):=by
   have:zV l=true:=by unfold zV;exact decide_eq_true (by omega)
   unfold cj n9
   rw[this];rfl
  refine ae<|ah<|au rfl<|hy (fun _=>aS rfl rfl Tryz.underlying27 dJ hA_b7 (show((1:Nat):Int)=1 from rfl) (by omega))<| ?_
  refine cF (uQ 0 rfl rfl rfl dJ rfl (by omega) ?_)
  refine ag<|az [17,4,3,2,0] rfl<|aY rfl rfl<|aa<|ah<|au rfl<|au rfl<| ?_
  refine aH (fun w m=>m.bw 0 rfl (show _=aI 5 1 (.slice A_b7 (2+4) c_b7) (2+4) (aT ([76,1]++jA n))from rfl)) ?_
  refine hx (bC 0 rfl rfl rfl Tryz.underlying27 Tryz.underlying27 (by exact .inl rfl) fh rfl (fun m=>Src.b9 (m.ord 2 rfl)) bl (by unfold maxLen;omega) (by omega) (fun u2=> ?_))
  refine aC (fun m=>(m.own 0 rfl).slice) ?_
  rintro⟨A_b72,c_b72,rfl,hc_b7⟩
  refine aC (fun m=>(m.ord 0 rfl).2.1) fun hA_b7=> ?_
  refine aG rfl<|ag<|az [4,17,3,2,0] rfl<|aY rfl rfl<|aa<|ae<|ah<|au rfl<|au rfl<| ?_
  refine hx (an rfl Tryz.call161 (w9 (by omega) (by omega) (by omega)) [] rfl [0] rfl ?_)
  rintro _ _ _ ⟨v3,rfl,rfl,rfl⟩
  refine aC (fun m=>(m.own 0 rfl).slice) ?_
  rintro⟨A_x3,c_x3,rfl,hc_x3⟩
  refine aC (fun m=>(m.ord 0 rfl).2.1) fun hA_x3=> ?_
  refine hx (bC 1 rfl rfl rfl Tryz.underlying27 Tryz.underlying27 (by exact .inl rfl) fh rfl (fun m=>Src.b9 (m.ord 0 rfl)) bl (by unfold maxLen;omega) (by omega) (fun u3=> ?_))
  refine aC (fun m=>(m.own 0 rfl).slice) ?_
  rintro⟨A_b73,c_b73,rfl,hc_b7⟩
  refine aC (fun m=>(m.ord 0 rfl).2.1) fun hA_b7=> ?_
  refine aG rfl<|ag<|az [2,4,17,3,0] rfl<|aY rfl rfl<|aa<|aR<| ?_
  have hol:2+4+(eF l).length+4=(cj l).length:=by rw[hq];simp[iq,hl];try omega
  rw[hol]
  have hsl:aT ([76,1]++jA n)++aT (eF l)++aT (jA (dj l))=aT (cj l):=by rw[hq,hl,bR ([76,1]++jA n++(eF l)),bR ([76,1]++jA n)]
  rw[hsl]
  exact bc trivial rfl rfl [0] rfl [] rfl ⟨_,rfl,rfl,rfl⟩
 ·have hq:cj l=[76,0]++jA l.length++l++jA (dj l):=by
   have:zV l=false:=by unfold zV;exact decide_eq_false (by omega)
   unfold cj n9
   rw[this];rfl
  refine ah<|au rfl<|au rfl<| ?_
  refine aH (fun w m=>m.bw 0 rfl (show _=aI 5 1 (.slice A_b7 (2+4) c_b7) (2+4) (aT ([76,0]++jA n))from rfl)) ?_
  refine hx (bC 0 rfl rfl rfl Tryz.underlying27 Tryz.underlying27 (by exact .inl rfl) fh rfl (fun m=>Src.b9 (m.rd 0 rfl)) bl (by unfold maxLen;omega) (by omega) (fun u2=> ?_))
  refine aC (fun m=>(m.own 0 rfl).slice) ?_
  rintro⟨A_b72,c_b72,rfl,hc_b7⟩
  refine aC (fun m=>(m.ord 0 rfl).2.1) fun hA_b7=> ?_
  refine aG rfl<|ag<|az [4,17,3,2,0] rfl<|aY rfl rfl<|aa<|ae<|ah<|au rfl<|au rfl<| ?_
  refine hx (an rfl Tryz.call161 (w9 (by omega) (by omega) (by omega)) [] rfl [0] rfl ?_)
  rintro _ _ _ ⟨v3,rfl,rfl,rfl⟩
  refine aC (fun m=>(m.own 0 rfl).slice) ?_
  rintro⟨A_x3,c_x3,rfl,hc_x3⟩
  refine aC (fun m=>(m.ord 0 rfl).2.1) fun hA_x3=> ?_
  refine hx (bC 1 rfl rfl rfl Tryz.underlying27 Tryz.underlying27 (by exact .inl rfl) fh rfl (fun m=>Src.b9 (m.ord 0 rfl)) bl (by unfold maxLen;omega) (by omega) (fun u3=> ?_))
  refine aC (fun m=>(m.own 0 rfl).slice) ?_
  rintro⟨A_b73,c_b73,rfl,hc_b7⟩
  refine aC (fun m=>(m.ord 0 rfl).2.1) fun hA_b7=> ?_
  refine aG rfl<|ag<|az [2,4,17,3,0] rfl<|aY rfl rfl<|aa<|aR<| ?_
  have hol:2+4+n+4=(cj l).length:=by rw[hq];simp[iq,hl];try omega
  rw[hol]
  have hsl:aT ([76,0]++jA n)++aT l++aT (jA (dj l))=aT (cj l):=by rw[hq,hl,bR ([76,0]++jA n++l),bR ([76,0]++jA n)]
  rw[hsl]
  exact bc trivial rfl rfl [0] rfl [] rfl ⟨_,rfl,rfl,rfl⟩
end Go.Proofs.YtmibdabdlgmafaaGreatDoor
end
section
set_option maxRecDepth 20000
set_option maxHeartbeats 4000000
namespace Go.Proofs.YtmibdabdlgmafaaGreatDoor
open Go.Eng Go.Hx
@[reducible]def H9 (v:Value) (nn e:Int):List Value:=[v,.int .i64 nn,.int .i64 e]
theorem jU{A:Option Addr}{n c:Nat}{nn e:Int}:∀u∈H9 (.slice A n c) nn e,u.oneCell' =true:=by
 intro u hu
 simp only[List.mem_cons,List.not_mem_nil,or_false]at hu
 rcases hu with rfl|rfl|rfl <;> rfl
theorem kT(l:List UInt8)(i j:Nat):(l.drop i).getD j 0=l.getD (i+j) 0:=by simp[List.getD,List.getElem?_drop]
theorem As{A:Option Addr}{n c:Nat}{l:List UInt8}{z:Int}(hc:n≤c)(hn:n≤10000000)(hl:l.length=n)(hz:z≤10000000):cf Tryz.prog 217 [.slice A n c,.int .i64 z] [] [cz 1 A n (aT l)] (fun v_ X_ S_=>∃v nn,v_=(.agg (H9 v nn (kF z l []).2).toArray)∧X_=[aI 5 1 v (kF z l []).1.length (aT (kF z l []).1)]∧S_=[]):=by
 refine aK (N:=109) Tryz.func217 rfl rfl (by simp) fun b=> ?_
 refine aQ (fun m=>ek (m.rd 0 rfl)) ?_
 rintro⟨hl_r,hA_r⟩
 refine ae<|ah<| ?_
 refine hx (ba nZ (fun g4=> ?_))
 refine ag<|aY rfl rfl<|aa<|ae<|ah<|aG rfl<|ag<|aa<|ae<|ah<|aG rfl<|ag<|aa<|ae<|ae<|ah<|aG rfl<|ag<|aa<|aM<| ?_
 refine a8 (fun w m=>m.cL (r' :=aI 5 1 (.slice none 0 0) 0 []) (.refl _ _) (Own.nil _ _ _ _) (fun k hk=>hk.elim)) ?_
 refine ry (fun i o nn A3 c3=>n-i) (fun i o nn A3 c3=>[(5,.slice A3 (o:List UInt8).length c3),(6,.int .i64 (nn:Nat)),(7,.int .i64 (i:Nat))]) (fun i o nn A3 c3=>[aI 5 1 (.slice A3 o.length c3) o.length (aT o)]) (fun i o nn A3 c3=>[]) (fun i o nn A3 c3=>i≤n∧nn≤i∧o.length≤10000000∧kF z (l.drop i) o=kF z l []) 0 [] 0 none 0 [(4,_),(0,_),(1,_)] ⟨rfl,rfl,rfl,trivial⟩ [0] rfl [] rfl (⟨Nat.zero_le _,Nat.zero_le _,Nat.zero_le _,rfl⟩) ⟨rfl,rfl,rfl,trivial⟩ (fun i o nn A3 c3 ⟨hin,hni,hol,hU⟩=> ?_)
 refine ae<|ae<|ah<|au rfl<|au rfl<|hy (fun _=>a6 rfl Tryz.underlying27)<|hy (fun _=>bx rfl rfl)<|ag<|az [14,5,6,7,4,0,1] rfl<|aa<| ?_
 refine cu rfl (fun hlt=> ?_) (fun hlt=> ?_)
 ·have hil:i<l.length:=by omega
  have hq0:l.drop i≠ []:=fun e=>by have:=congrArg List.length e;rw[List.length_drop]at this;simp at this;omega
  have hql:(l.drop i).length=n-i:=by rw[List.length_drop,hl]
  have hg0:(l.drop i).getD 0 0=l.getD i 0:=kT l i 0
  have hc0:=(l.getD i 0).toNat_lt
  refine aB<|aa<|ae<|aM<|ae<|ah<|au rfl<|au rfl<|hy (fun _=>aS rfl rfl Tryz.underlying27 dJ hA_r rfl (by omega))<|hy (fun m=>ak rfl iV ((m.rd 0 rfl).cell (bO (by omega))))<|hy (fun _=>b8 rfl Tryz.underlying5 Tryz.underlying3 (AX _))<|aG rfl<|ag<|az [8,14,5,6,7,4,0,1] rfl<|aa<|ae<|ae<|ah<|au rfl<|hy (fun _=>bx rfl rfl)<|ag<|az [23,8,14,5,6,7,4,0,1] rfl<|aa<| ?_
  generalize hc8:(l.getD i 0).toNat=c8 at hc0 hg0 ⊢
  have hc8' :((l.drop i).getD 0 0).toNat=c8:=by rw[kT,Nat.add_zero,hc8]
  refine cu rfl (fun h128=> ?_) (fun h128=> ?_)
  ·have ht:cM (l.drop i)=(c8+2,c8+1,0,decide (c8+2≤n-i)):=by
    unfold cM;rw[hc8',if_pos (by omega),hql]
   refine ae<|ae<|ah<|au rfl<|au rfl<|hy (fun _=>aO rfl rfl (bE (by omega) (by omega)))<|hy (fun _=>aO rfl rfl (bE (by omega) (by omega)))<|au rfl<|hy (fun _=>a6 rfl Tryz.underlying27)<|hy (fun _=>cw rfl rfl)<|ag<|az [30,23,8,14,5,6,7,4,0,1] rfl<|aa<| ?_
   refine cu rfl (fun h30=> ?_) (fun h30=> ?_)
   ·rw[kQ hq0 (fun h=>by rw[ht]at h;have:=of_decide_eq_true h.1;omega)]at hU
    rw[←hU]
    refine ae<|ah<|hy (fun _=>b6 nZ rfl rfl (by kernel_rfl) (.cons (o:=2) (sz:=1) (by kernel_rfl) rfl rfl (Nat.le_of_ble_eq_true rfl) .nil))<| ?_
    refine cF (a7 1 rfl rfl rfl jk rfl jU rfl ?_)
    refine ag<|az [30,23,8,14,5,6,7,4,0,1] rfl<|aY rfl rfl<|aa<|aR<|aq<|aq<|aU<|aq<|aq<|aU<|aq<| ?_
    refine bd (fun w m=>m.cL (r' :=aI 5 1 (.slice none 0 0) 0 []) (.refl _ _) (Own.nil _ _ _ _) (fun k hk=>hk.elim)) ?_
    exact eZ trivial rfl rfl qN jk rfl (fun m=>(m.aN 1 rfl).aw) [0] rfl [] rfl ⟨_,_,rfl,rfl,rfl⟩
   ·have hok:(cM (l.drop i)).2.2.2=true:=by rw[ht];exact decide_eq_true (by omega)
    have hdo:(cM (l.drop i)).2.2.1≤o.length:=by rw[ht];exact Nat.zero_le _
    refine aB<|aa<|ae<|ae<|ah<|au rfl<|hy (fun _=>a6 rfl Tryz.underlying27)<|au rfl<|hy (fun _=>aO rfl rfl (bE (by omega) (by omega)))<|hy (fun _=>aO rfl rfl (bE (by omega) (by omega)))<|au rfl<|hy (fun _=>cw rfl rfl)<|ag<|az [38,30,23,8,14,5,6,7,4,0,1] rfl<|aa<| ?_
    refine cu rfl (fun h38=> ?_) (fun h38=> ?_)
    ·rw[oO hq0 hok hdo (by rw[ht];show z<(o.length:Int)+((c8+1:Nat):Int);omega)]at hU
     rw[←hU]
     refine ae<|ah<|hy (fun _=>b6 nZ rfl rfl (by kernel_rfl) (.cons (o:=2) (sz:=1) (by kernel_rfl) rfl rfl (Nat.le_of_ble_eq_true rfl) .nil))<| ?_
     refine cF (a7 1 rfl rfl rfl jk rfl jU rfl ?_)
     refine ag<|az [38,30,23,8,14,5,6,7,4,0,1] rfl<|aY rfl rfl<|aa<|aR<|aq<|aq<|aU<|aq<|aq<|aU<|aq<| ?_
     refine bd (fun w m=>m.cL (r' :=aI 5 1 (.slice none 0 0) 0 []) (.refl _ _) (Own.nil _ _ _ _) (fun k hk=>hk.elim)) ?_
     exact eZ trivial rfl rfl qN jk rfl (fun m=>(m.aN 1 rfl).aw) [0] rfl [] rfl ⟨_,_,rfl,rfl,rfl⟩
    ·rw[sr hq0 hok hdo (by rw[ht];show¬z<(o.length:Int)+((c8+1:Nat):Int);omega)]at hU
     have hK:i+1+(c8+1)-(i+1)=c8+1:=by omega
     have hma:made (l.drop i) o=o++(l.drop (i+1)).take (i+1+(c8+1)-(i+1)):=by unfold made;rw[ht,hK,if_pos rfl,List.drop_drop];rfl
     rw[hma,ht,List.drop_drop]at hU
     have hpl:((l.drop (i+1)).take (i+1+(c8+1)-(i+1))).length=i+1+(c8+1)-(i+1):=by rw[List.length_take,List.length_drop];omega
     refine a8 (fun w m=>m.ew 0 rfl (View.sub (n:=n) (c:=c) (k:=i+1) (m:=i+1+(c8+1)-(i+1)) (by omega) (by omega))) ?_
     refine aQ (fun m=>ek (m.rd 0 rfl)) ?_
     rintro⟨hl_q,hA_q⟩
     refine aB<|aa<|ae<|ah<|au rfl<|au rfl<|au rfl<|hy (fun _=>aO rfl rfl (bE (by omega) (by omega)))<|au rfl<|au rfl<|hy (fun _=>aO rfl rfl (bE (by omega) (by omega)))<|hy (fun _=>aO rfl rfl (bE (by omega) (by omega)))<|hy (fun _=>eA rfl rfl rfl Tryz.underlying27 dJ (show((i+1:Nat):Int)=_ by omega) (show((i+1+(c8+1):Nat):Int)=_ by omega) (by omega) (by omega))<| ?_
     refine hx (bC 0 rfl rfl rfl Tryz.underlying27 Tryz.underlying27 (by exact .inl rfl) fh rfl (fun m=>Src.b9 (m.rd 0 rfl)) bl (by unfold maxLen;omega) (by omega) (fun u=> ?_))
     refine aC (fun m=>(m.own 0 rfl).slice) ?_
     rintro⟨A_x,c_x,rfl,hc_x⟩
     refine aC (fun m=>(m.ord 0 rfl).2.1) fun hA_x=> ?_
     have hlm:o.length+(i+1+(c8+1)-(i+1))=(o++(l.drop (i+1)).take (i+1+(c8+1)-(i+1))).length:=by rw[List.length_append,hpl]
     rw[hlm]at hc_x hA_x ⊢
     refine aH (fun w m=>m.bw 0 rfl (show _=aI 5 1 (.slice A_x (o++(l.drop (i+1)).take (i+1+(c8+1)-(i+1))).length c_x) (o++(l.drop (i+1)).take (i+1+(c8+1)-(i+1))).length (aT (o++(l.drop (i+1)).take (i+1+(c8+1)-(i+1))))from congrArg (aI _ _ _ _) (by rw[bR]))) ?_
     refine aG rfl<|ag<|az [5,38,30,23,8,14,6,7,4,0,1] rfl<|aY rfl rfl<|aa<|ae<|ah<|au rfl<|au rfl<|hy (fun _=>aO rfl rfl (bE (by omega) (by omega)))<|hy (fun _=>yV (aO rfl rfl (bE (by omega) (by omega))) ((show Value.int .i64 _= .int .i64 ((i+(c8+2):Nat):Int) by congr 1)))<|aG rfl<|ag<|az [7,5,38,30,23,8,14,6,4,0,1] rfl<|aa<|bH<|al<|aD<|aa<|ah<|au rfl<|hy (fun _=>aO rfl rfl (bE (by omega) (by omega)))<|aG rfl<|ag<|az [6,7,5,38,30,23,8,14,4,0,1] rfl<| ?_
     refine nJ (i+(c8+2)) (o++(l.drop (i+1)).take (i+1+(c8+1)-(i+1))) (nn+1) A_x c_x ⟨rfl,rfl,rfl,rfl,rfl,rfl,trivial⟩ [0,0] rfl [1] rfl (⟨by omega,by omega,by rw[←hlm];omega,hU⟩) (by omega)
  ·refine aB<|aa<|ae<|ae<|ah<|au rfl<|hy (fun _=>aO rfl rfl (bE (by omega) (by omega)))<|au rfl<|hy (fun _=>a6 rfl Tryz.underlying27)<|hy (fun _=>cw rfl rfl)<|ag<|az [58,23,8,14,5,6,7,4,0,1] rfl<|aa<| ?_
   refine cu rfl (fun h58=> ?_) (fun h58=> ?_)
   ·have ht:cM (l.drop i)=(0,0,0,false):=by unfold cM;rw[hc8',if_neg (by omega),if_pos (by omega)]
    rw[kQ hq0 (fun h=>by rw[ht]at h;cases h.1)]at hU
    rw[←hU]
    refine ae<|ah<|hy (fun _=>b6 nZ rfl rfl (by kernel_rfl) (.cons (o:=2) (sz:=1) (by kernel_rfl) rfl rfl (Nat.le_of_ble_eq_true rfl) .nil))<| ?_
    refine cF (a7 1 rfl rfl rfl jk rfl jU rfl ?_)
    refine ag<|az [58,23,8,14,5,6,7,4,0,1] rfl<|aY rfl rfl<|aa<|aR<|aq<|aU<|aq<|aq<|aU<|aq<| ?_
    refine bd (fun w m=>m.cL (r' :=aI 5 1 (.slice none 0 0) 0 []) (.refl _ _) (Own.nil _ _ _ _) (fun k hk=>hk.elim)) ?_
    exact eZ trivial rfl rfl qN jk rfl (fun m=>(m.aN 1 rfl).aw) [0] rfl [] rfl ⟨_,_,rfl,rfl,rfl⟩
   ·have ht:cM (l.drop i)=(3,c8-124,1+(l.getD (i+1) 0).toNat+256*(l.getD (i+2) 0).toNat,true):=by
     unfold cM;rw[hc8',if_neg (by omega),if_neg (by omega),kT,kT]
    have b1:=(l.getD (i+1) 0).toNat_lt
    have b2:=(l.getD (i+2) 0).toNat_lt
    have hok:(cM (l.drop i)).2.2.2=true:=by rw[ht]
    refine aB<|aa<|ae<|cA [] [(0,some 0),(1,some 0),(2,some 0),(3,some 0),(4,some 0),(5,some 0),(6,some 0),(7,some 0),(8,some 0),(9,some 0),(10,some 0),(11,some 0),(12,some 0),(13,some 0),(14,some 0),(15,some 0)] (by kernel_rfl) (by kernel_rfl) rfl 99<|aj (ai rfl)<|aj (ai rfl)<|aj (aO rfl rfl (bE (by omega) (by omega)))<|aj (aS rfl rfl Tryz.underlying27 dJ hA_r (show((i+1:Nat):Int)=_ by omega) (by omega))<|bV (fun m=>ak rfl iV ((m.rd 0 rfl).cell (bO (by omega))))<|aj (b8 rfl Tryz.underlying5 Tryz.underlying3 (AX _))<|aj (aO rfl rfl (bE (by omega) (by omega)))<|aj (ai rfl)<|aj (ai rfl)<|aj (aO rfl rfl (bE (by omega) (by omega)))<|aj (aS rfl rfl Tryz.underlying27 dJ hA_r (show((i+2:Nat):Int)=_ by omega) (by omega))<|bV (fun m=>ak rfl iV ((m.rd 0 rfl).cell (bO (by omega))))<|aj (b8 rfl Tryz.underlying5 Tryz.underlying3 (AX _))<|aj (gz rfl rfl (bE (by omega) (by omega)))<|aj (yV (aO rfl rfl (bE (by omega) (by omega))) ((show Value.int .i64 ((1:Int)+((l.getD (i+1) 0).toNat:Int)+256*((l.getD (i+2) 0).toNat:Int))= .int .i64 ((1+(l.getD (i+1) 0).toNat+256*(l.getD (i+2) 0).toNat:Nat):Int) by congr 1)))<|aj (ay rfl)<|bp<|az [9,58,23,8,14,5,6,7,4,0,1] rfl<|aa<|ae<|ae<|ah<|au rfl<|au rfl<|hy (fun _=>a6 rfl Tryz.underlying27)<|hy (fun _=>cw rfl rfl)<|ag<|az [78,9,58,23,8,14,5,6,7,4,0,1] rfl<|aa<| ?_
    generalize hdd:1+(l.getD (i+1) 0).toNat+256*(l.getD (i+2) 0).toNat=dd at ht ⊢
    refine cu rfl (fun h78=> ?_) (fun h78=> ?_)
    ·rw[kQ hq0 (fun h=>by rw[ht]at h;have h2:dd≤o.length:=h.2;omega)]at hU
     rw[←hU]
     refine ae<|ah<|hy (fun _=>b6 nZ rfl rfl (by kernel_rfl) (.cons (o:=2) (sz:=1) (by kernel_rfl) rfl rfl (Nat.le_of_ble_eq_true rfl) .nil))<| ?_
     refine cF (a7 1 rfl rfl rfl jk rfl jU rfl ?_)
     refine ag<|az [78,9,58,23,8,14,5,6,7,4,0,1] rfl<|aY rfl rfl<|aa<|aR<|aq<|aU<|aq<|aq<|aU<|aq<| ?_
     refine bd (fun w m=>m.cL (r' :=aI 5 1 (.slice none 0 0) 0 []) (.refl _ _) (Own.nil _ _ _ _) (fun k hk=>hk.elim)) ?_
     exact eZ trivial rfl rfl qN jk rfl (fun m=>(m.aN 1 rfl).aw) [0] rfl [] rfl ⟨_,_,rfl,rfl,rfl⟩
    ·have hdo:(cM (l.drop i)).2.2.1≤o.length:=by rw[ht];show dd≤_;omega
     refine aB<|aa<|ae<|ae<|ah<|au rfl<|hy (fun _=>a6 rfl Tryz.underlying27)<|au rfl<|hy (fun _=>aO rfl rfl (bE (by omega) (by omega)))<|hy (fun _=>ct rfl rfl (bE (by omega) (by omega)))<|au rfl<|hy (fun _=>cw rfl rfl)<|ag<|az [86,78,9,58,23,8,14,5,6,7,4,0,1] rfl<|aa<| ?_
     refine cu rfl (fun h86=> ?_) (fun h86=> ?_)
     ·rw[oO hq0 hok hdo (by rw[ht];show z<(o.length:Int)+((c8-124:Nat):Int);omega)]at hU
      rw[←hU]
      refine ae<|ah<|hy (fun _=>b6 nZ rfl rfl (by kernel_rfl) (.cons (o:=2) (sz:=1) (by kernel_rfl) rfl rfl (Nat.le_of_ble_eq_true rfl) .nil))<| ?_
      refine cF (a7 1 rfl rfl rfl jk rfl jU rfl ?_)
      refine ag<|az [86,78,9,58,23,8,14,5,6,7,4,0,1] rfl<|aY rfl rfl<|aa<|aR<|aq<|aU<|aq<|aq<|aU<|aq<| ?_
      refine bd (fun w m=>m.cL (r' :=aI 5 1 (.slice none 0 0) 0 []) (.refl _ _) (Own.nil _ _ _ _) (fun k hk=>hk.elim)) ?_
      exact eZ trivial rfl rfl qN jk rfl (fun m=>(m.aN 1 rfl).aw) [0] rfl [] rfl ⟨_,_,rfl,rfl,rfl⟩
     ·rw[sr hq0 hok hdo (by rw[ht];show¬z<(o.length:Int)+((c8-124:Nat):Int);omega)]at hU
      have hma:made (l.drop i) o=again dd (c8-124) o:=by unfold made;rw[ht];exact if_neg (show¬dd=0 by omega)
      rw[hma,ht,List.drop_drop]at hU
      refine aB<|aa<|ae<|ae<|ah<|aG rfl<|ag<|aa<|aM<| ?_
      refine nD (fun k2 o2 A4 c4=>c8-124-k2) (fun k2 o2 A4 c4=>[(5,.slice A4 (o2:List UInt8).length c4),(10,.int .i64 (k2:Nat))]) (fun k2 o2 A4 c4=>[aI 5 1 (.slice A4 o2.length c4) o2.length (aT o2)]) (fun k2 o2 A4 c4=>[]) (fun k2 o2 A4 c4=>k2≤c8-124∧o2.length=o.length+k2∧again dd (c8-124-k2) o2=again dd (c8-124) o) 0 o A3 c3 [(86,_),(78,_),(9,_),(58,_),(23,_),(8,_),(14,_),(6,_),(7,_),(4,_),(0,_),(1,_)] ⟨rfl,rfl,rfl,rfl,rfl,rfl,rfl,rfl,rfl,rfl,rfl,rfl,trivial⟩ [0] rfl [] rfl (⟨Nat.zero_le _,rfl,rfl⟩) ⟨rfl,rfl,trivial⟩ (fun k2 o2 A4 c4 ⟨hk2,ho2,hag⟩=> ?_)
      refine ae<|ae<|ah<|au rfl<|au rfl<|hy (fun _=>ct rfl rfl (bE (by omega) (by omega)))<|hy (fun _=>bx rfl rfl)<|ag<|az [91,5,10,86,78,9,58,23,8,14,6,7,4,0,1] rfl<|aa<| ?_
      refine cu rfl (fun hk=> ?_) (fun hk=> ?_)
      ·have hk3:k2<c8-124:=by omega
       have hi2:o2.length-dd<o2.length:=by omega
       have hs:again dd (c8-124-k2) o2=again dd (c8-124-(k2+1)) (o2++[o2.getD (o2.length-dd) 0]):=by
        rw[show c8-124-k2=(c8-124-(k2+1))+1 by omega];rfl
       rw[hs]at hag
       refine aQ (fun m=>(m.ord 0 rfl).2.1) fun hA_x=> ?_
       refine aB<|aa<|ae<|aM<|ah<|au rfl<|au rfl<|au rfl<|hy (fun _=>a6 rfl Tryz.underlying27)<|au rfl<|hy (fun _=>ct rfl rfl (bE (by omega) (by omega)))<|hy (fun _=>aS rfl rfl Tryz.underlying27 dJ hA_x (show((o2.length-dd:Nat):Int)=_ by omega) (by omega))<|hy (fun m=>ak rfl iV ((m.ord 0 rfl).cell (bO (by omega))))<| ?_
       refine hx (b5 Tryz.underlying27 fh rfl rfl rfl (by simp[Value.cells,B8]) (by decide) (by decide) (fun g102=> ?_))
       have hA_b102:0<1→(some (⟨g102,0,none⟩:Addr))≠none:=fun _ h=>by cases h
       refine aH (fun w m=>m.bw 0 rfl (show _=aI 5 1 (.slice (some ⟨g102,0,none⟩) 1 1) 1 (aT [o2.getD (o2.length-dd) 0])from rfl)) ?_
       refine hx (bC 1 rfl rfl rfl Tryz.underlying27 Tryz.underlying27 (by exact .inl rfl) fh rfl (fun m=>Src.b9 (m.ord 0 rfl)) bl (by unfold maxLen;omega) (by omega) (fun u=> ?_))
       refine aC (fun m=>(m.own 0 rfl).slice) ?_
       rintro⟨A_x,c_x,rfl,hc_x⟩
       refine aC (fun m=>(m.ord 0 rfl).2.1) fun hA_x=> ?_
       have hlm:o2.length+1=(o2++[o2.getD (o2.length-dd) 0]).length:=by rw[List.length_append];rfl
       rw[hlm]at hc_x hA_x ⊢
       refine aH (fun w m=>m.bw 0 rfl (show _=aI 5 1 (.slice A_x (o2++[o2.getD (o2.length-dd) 0]).length c_x) (o2++[o2.getD (o2.length-dd) 0]).length (aT (o2++[o2.getD (o2.length-dd) 0]))from congrArg (aI _ _ _ _) (by rw[bR]))) ?_
       refine aG rfl<|ag<|az [5,91,10,86,78,9,58,23,8,14,6,7,4,0,1] rfl<|aY rfl rfl<|aW<|aa<|ah<|au rfl<|hy (fun _=>aO rfl rfl (bE (by omega) (by omega)))<|aG rfl<|ag<|az [10,5,91,86,78,9,58,23,8,14,6,7,4,0,1] rfl<| ?_
       refine kx (k2+1) (o2++[o2.getD (o2.length-dd) 0]) A_x c_x ⟨rfl,rfl,rfl,rfl,rfl,rfl,rfl,rfl,rfl,rfl,rfl,rfl,rfl,rfl,trivial⟩ [0,1] rfl [0] rfl (⟨by omega,by rw[←hlm];omega,hag⟩) (by omega)
      ·obtain rfl:k2=c8-124:=by omega
       rw[Nat.sub_self]at hag
       have hag:o2=again dd (c8-124) o:=hag
       rw[←hag]at hU
       refine bH<|al<|al<|aD<|aa<|ah<|au rfl<|hy (fun _=>yV (aO rfl rfl (bE (by omega) (by omega))) ((show Value.int .i64 _= .int .i64 ((i+3:Nat):Int) by congr 1)))<|aG rfl<|ag<|az [7,91,5,10,86,78,9,58,23,8,14,6,4,0,1] rfl<|aW<|aa<|ah<|au rfl<|hy (fun _=>aO rfl rfl (bE (by omega) (by omega)))<|aG rfl<|ag<|az [6,7,91,5,10,86,78,9,58,23,8,14,4,0,1] rfl<| ?_
       refine nJ (i+3) o2 (nn+1) A4 c4 ⟨rfl,rfl,rfl,rfl,rfl,rfl,trivial⟩ [0,0] rfl [0] rfl (⟨by omega,by omega,by omega,hU⟩) (by omega)
 ·obtain rfl:i=n:=by omega
  rw[List.drop_of_length_le (by omega),sl]at hU
  rw[←hU]
  refine bH<|al<|al<|aD<|aa<|ae<|ah<|au rfl<|au rfl<|hy (fun _=>b6 nZ rfl rfl (by kernel_rfl) (.cons (o:=0) (sz:=1) (by kernel_rfl) rfl rfl (Nat.le_of_ble_eq_true rfl) (.cons (o:=1) (sz:=1) (by kernel_rfl) rfl rfl (Nat.le_of_ble_eq_true rfl) .nil)))<| ?_
  refine cF (a7 1 rfl rfl rfl jk rfl jU rfl ?_)
  refine ag<|az [14,5,6,7,4,0,1] rfl<|aY rfl rfl<|aa<|aR<| ?_
  exact eZ trivial rfl rfl qN jk rfl (fun m=>(m.aN 0 rfl).aw) [1] rfl [] rfl ⟨_,_,rfl,rfl,rfl⟩
end Go.Proofs.YtmibdabdlgmafaaGreatDoor
end
