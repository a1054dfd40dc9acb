/- Part. -/
import Derived.Test.YtmibdabdlgmafaaGreatDoorPLF3
import Derived.ScopeJumps
import Derived.Shelf.Sort.Plain
import Derived.Test.YtmibdabdlgmafaaGreatDoorProg
import Derived.Sort.OwnSorted
set_option linter.all false
section
namespace Go.Eng
open Go.RowKit
theorem qV{P:Program}{Q:Exit→Act→World→Prop}{ι:Type}{c rest:Code}(l:Nat)(J:ι→Act→World→Prop)(μ:ι→Nat)(hf:findLabel c l=some rest){a:Act}{w:World}
  (first:c.wp P (Exit.jump l (fun a w=>∃j,J j a w) Q) a w)
  (pass:∀i a w,J i a w→rest.wp P (Exit.jump l (fun a' w' =>∃j,J j a' w' ∧μ j<μ i) Q) a w):(Code.scope c).wp P Q a w:=by
 intro b k cs
 have hg:gotoIn l (.inScope c::k)=some (.code rest:: .inScope c::k):=by simp[gotoIn,hf]
 have key:∀n i a w,μ i=n→J i a w→∃e a' w',Q e a' w' ∧Arrives P (lone (b.at a (.code rest:: .inScope c::k)) cs w) b k cs e a' w' :=by
  intro n
  induction n using Nat.strongRecOn with
  |_ n ih=>
   intro i a w hn hJ
   obtain⟨e,a₁,w₁,hq,harr⟩:=pass i a w hJ b (.inScope c::k) cs
   cases e with
   |normal=>exact⟨.normal,a₁,w₁,hq,Steps.trans harr (.one step_inScope)⟩
   |exit id=>exact⟨.exit id,a₁,w₁,hq,fun k' hk=>harr k' (by simp[exitTo,hk])⟩
   |goto l' =>
    obtain⟨rfl,j,hJ',hlt⟩:=hq
    obtain⟨e₂,a₂,w₂,hq₂,harr₂⟩:=ih _ (by omega) j a₁ w₁ rfl hJ'
    exact⟨e₂,a₂,w₂,hq₂,.of_steps (harr _ hg) harr₂⟩
   |ret=>exact⟨_,a₁,w₁,hq,harr⟩
   |panic ch=>exact⟨_,a₁,w₁,hq,harr⟩
   |outgrown=>exact⟨_,a₁,w₁,hq,harr⟩
 obtain⟨e,a₁,w₁,hq,harr⟩:=first b (.inScope c::k) cs
 cases e with
 |normal=>exact⟨.normal,a₁,w₁,hq,.head step_scope (Steps.trans harr (.one step_inScope))⟩
 |exit id=>exact⟨.exit id,a₁,w₁,hq,fun k' hk=>.head step_scope (harr k' (by simp[exitTo,hk]))⟩
 |goto l' =>
  obtain⟨rfl,j,hJ'⟩:=hq
  obtain⟨e₂,a₂,w₂,hq₂,harr₂⟩:=key _ j a₁ w₁ rfl hJ'
  exact⟨e₂,a₂,w₂,hq₂,.of_steps (.head step_scope (harr _ hg)) harr₂⟩
 |ret=>exact⟨_,a₁,w₁,hq,.of_steps (.one step_scope) harr⟩
 |panic ch=>exact⟨_,a₁,w₁,hq,.of_steps (.one step_scope) harr⟩
 |outgrown=>exact⟨_,a₁,w₁,hq,.of_steps (.one step_scope) harr⟩
section
variable{P:Program}{Q:Exit→Act→World→Prop}{N:Nat}{D:List Deferred}{ρ:Env}{b:b8}{X S:List bc}{c:Code}
theorem Dn{ι:Type}{l:Nat}{rest:Code}(μ:ι→Nat)(R:ι→Env)(X1 S1:ι→List bc)(I:ι→Prop)(ρk:Env)(Xr Sr:List bc)(hf:findLabel c l=some rest)
  (first:HC P (Exit.jump l (fun a' w' =>∃j,Ag N D (R j++ρk) a' ∧Mem b (X1 j++Xr) (S1 j++Sr) w' ∧I j) Q) N D c ρ b X S)
  (pass:∀i,I i→HC P (Exit.jump l (fun a' w' =>∃j,Ag N D (R j++ρk) a' ∧Mem b (X1 j++Xr) (S1 j++Sr) w' ∧I j∧μ j<μ i) Q) N D rest (R i++ρk) b (X1 i++Xr) (S1 i++Sr)):HC P Q N D (.scope c) ρ b X S:=fun w m a ha=>
 qV l (fun j a' w' =>Ag N D (R j++ρk) a' ∧Mem b (X1 j++Xr) (S1 j++Sr) w' ∧I j) μ hf (first w m a ha)
  (fun i a' w' h=>Code.wp_mono (fun e a' w' q=>by
   cases e <;> first|exact q|(obtain⟨h0,j,h1,h2,h3,h4⟩:=q;exact⟨h0,j,⟨h1,h2,h3⟩,h4⟩)) (pass i h.2.2 w' h.2.1 a' h.1))
theorem yh{l:Nat}(h:HQ Q N D (.goto l) ρ b X S):HC P Q N D (.goto l) ρ b X S:=fun w m a ha=>wp_goto (h w m a ha)
theorem uC{K:Act→World→Prop}{l:Nat}(h:HQ Q N D (.goto l) ρ b X S):HQ (Exit.then K Q) N D (.goto l) ρ b X S:=h
theorem wT{l:Nat}{J:Act→World→Prop}(h:HQ Q N D .ret ρ b X S):HQ (Exit.jump l J Q) N D .ret ρ b X S:=h
theorem C6{l:Nat}{J:Act→World→Prop}{r:Code}(h:HQ (Exit.jump l J Q) N D (.goto l) ρ b X S)(k:∀a w,J a w→r.wp P (Exit.jump l J Q) a w):HC P (Exit.jump l J Q) N D (.seq (.label l) r) ρ b X S:=fun w m a ha=>wp_seq (wp_label (k a w (h w m a ha).2))
theorem BE{α:Type}{l:Nat}{rest:Code}(μ:α→Nat)(R:α→Env)(X1 S1:α→List bc)(I:α→Prop)(ρk:Env)(Xr Sr:List bc)(hf:findLabel c l=some rest)
  (first:HC P (Exit.jump l (fun a' w' =>∃x,Ag N D (R x++ρk) a' ∧Mem b (X1 x++Xr) (S1 x++Sr) w' ∧I x) Q) N D c ρ b X S)
  (pass:∀a,I a→HC P (Exit.jump l (fun a' w' =>∃x,Ag N D (R x++ρk) a' ∧Mem b (X1 x++Xr) (S1 x++Sr) w' ∧I x∧μ x<μ a) Q) N D rest (R a++ρk) b (X1 a++Xr) (S1 a++Sr)):HC P Q N D (.scope c) ρ b X S:=
 Dn (ι:=α) (fun i=>μ i) (fun i=>R i) (fun i=>X1 i) (fun i=>S1 i) (fun i=>I i) ρk Xr Sr hf
  (fun w m a ha=>Code.wp_mono (fun e a' w' q=>by
   cases e <;> first|exact q|(obtain⟨h0,x,h⟩:=q;exact⟨h0,x,h⟩)) (first w m a ha))
  (fun i hi w m a ha=>Code.wp_mono (fun e a' w' q=>by
   cases e <;> first|exact q|(obtain⟨h0,x,h⟩:=q;exact⟨h0,x,h⟩)) (pass i hi w m a ha))
theorem zw{α:Type}{l:Nat}{r:Code}(μ:α→Nat)(R:α→Env)(X1 S1:α→List bc)(I:α→Prop)(ρk:Env)(hk:dN ρk ρ)(is:List Nat){Xt Xr:List bc}(hX:bD is X=some (Xt,Xr))(hf:findLabel c l=some (.seq .skip r))
  (pass:∀a,I a→HC P (Exit.jump l (fun a' w' =>∃x,Ag N D (R x++ρk) a' ∧Mem b (X1 x++Xr) (S1 x++S) w' ∧I x∧μ x<μ a) Q) N D r (R a++ρk) b (X1 a++Xr) (S1 a++S))
  (first:(∀a w,(∃x,Ag N D (R x++ρk) a∧Mem b (X1 x++Xr) (S1 x++S) w∧I x)→r.wp P (Exit.jump l (fun a' w' =>∃x,Ag N D (R x++ρk) a' ∧Mem b (X1 x++Xr) (S1 x++S) w' ∧I x) Q) a w)→
   HC P (Exit.jump l (fun a' w' =>∃x,Ag N D (R x++ρk) a' ∧Mem b (X1 x++Xr) (S1 x++S) w' ∧I x) Q) N D c ρ b X S):HC P Q N D (.scope c) ρ b X S:=
 BE (l:=l) (rest:=.seq .skip r) μ R X1 S1 I ρk Xr S hf
  (first fun a w h=>by
   obtain⟨x,h1,h2,h3⟩:=h
   exact Code.wp_mono (fun e a' w' q=>by
    cases e <;> first|exact q|(obtain⟨h0,x_,g1,g2,g3,g4⟩:=q;exact⟨h0,x_,g1,g2,g3⟩)) (pass x h3 w h2 a h1))
  (fun a h=>fun w m a9 ha=>wp_seq (wp_skip (pass a h w m a9 ha)))
theorem zC{α:Type}{l M:Nat}{μ:α→Nat}{R:α→Env}{X1 S1:α→List bc}{Xr Sr:List bc}{ρ0:Env}{I:α→Prop}(x:α)(hs:dN (R x++ρ0) ρ)(is:List Nat){Xz:List bc}(hX:bD is X=some (X1 x++Xr,Xz))(js:List Nat)(hS:cS js S=some (S1 x++Sr))(hI:I x)(hlt:μ x<M):
  HQ (Exit.jump l (fun a' w' =>∃x,Ag N D (R x++ρ0) a' ∧Mem b (X1 x++Xr) (S1 x++Sr) w' ∧I x∧μ x<M) Q) N D (.goto l) ρ b X S:=
 fun w m a ha=>⟨rfl,x,ha.sub hs.sub,((m.perm (ar _ _ _ _ hX)).iI).ir (bY _ _ _ hS),hI,hlt⟩
theorem DN{α:Type}{l:Nat}{R:α→Env}{X1 S1:α→List bc}{Xr Sr:List bc}{ρ0:Env}{I:α→Prop}(x:α)(hs:dN (R x++ρ0) ρ)(is:List Nat){Xz:List bc}(hX:bD is X=some (X1 x++Xr,Xz))(js:List Nat)(hS:cS js S=some (S1 x++Sr))(hI:I x):
  HQ (Exit.jump l (fun a' w' =>∃x,Ag N D (R x++ρ0) a' ∧Mem b (X1 x++Xr) (S1 x++Sr) w' ∧I x) Q) N D (.goto l) ρ b X S:=
 fun w m a ha=>⟨rfl,x,ha.sub hs.sub,((m.perm (ar _ _ _ _ hX)).iI).ir (bY _ _ _ hS),hI⟩
end
end Go.Eng
end
section
set_option maxRecDepth 20000
set_option maxHeartbeats 2000000
namespace Go.Proofs.YtmibdabdlgmafaaGreatDoor
open Go.Eng Go.Hx
theorem EM{g0 g1:Nat}{A1 A2:Option Addr}{c1 c2:Nat}{own out:List UInt8}(hlen:out.length+2*own.length≤4000000000):b6 Tryz.prog 230 [.pointer (some ⟨g0,0,none⟩),.pointer (some ⟨g1,0,none⟩)] [aE g0 27 [.slice A1 own.length c1],aF 5 1 (.slice A1 own.length c1) own.length (aP own),aE g1 27 [.slice A2 out.length c2],aF 5 1 (.slice A2 out.length c2) out.length (aP out)] [] (fun v_ X_ S_=>∃A3 A4 c3 c4,v_=(.tuple #[])∧X_=[aE g0 27 [.slice A3 0 c3],aF 5 1 (.slice A3 0 c3) 0 [],aE g1 27 [.slice A4 (out++eD own).length c4],aF 5 1 (.slice A4 (out++eD own).length c4) (out++eD own).length (aP (out++eD own))]∧S_=[]):=by
 obtain⟨o0,ho0⟩:∃o0,o0=out++eD own:=⟨_,rfl⟩
 rw[←ho0]
 refine aI (N:=22) Tryz.func230 rfl rfl (by simp) fun b=> ?_
 refine aK<| ?_
 refine uf (fun own out A1 c1 A2 c2=>own.length) (fun own out A1 c1 A2 c2=>[]) (fun own out A1 c1 A2 c2=>[aE g0 27 [.slice A1 own.length c1],aF 5 1 (.slice A1 own.length c1) own.length (aP own),aE g1 27 [.slice A2 out.length c2],aF 5 1 (.slice A2 out.length c2) out.length (aP out)]) (fun own out A1 c1 A2 c2=>[]) (fun own out A1 c1 A2 c2=>out.length+2*own.length≤4000000000∧out++eD own=o0) own out A1 c1 A2 c2 [(0,_),(1,_)] ⟨rfl,rfl,trivial⟩ [0,0,0,0] rfl [] rfl (⟨hlen,ho0.symm⟩) trivial (fun own out A1 c1 A2 c2 ⟨hlen,hE⟩=> ?_)
 refine ah<|ah<|aj<|hy (fun m=>aq rfl cZ (ax (m.aQ 0 rfl) rfl))<|hy (fun _=>aT rfl Tryz.underlying27)<|hy (fun _=>cy rfl rfl)<|ai<|al (ρ' :=[(5,_),(0,_),(1,_)]) ⟨rfl,rfl,rfl,trivial⟩<|ae<| ?_
 refine cj rfl (fun h0=> ?_) (fun h0=> ?_)
 ·have hne:own≠ []:=fun e=>by rw[e]at h0;exact absurd h0 (by decide)
  rw[my hne]at hE
  obtain⟨k,hk⟩:∃k,k=min own.length 128:=⟨_,rfl⟩
  have hk1:1≤k∧k≤128∧k≤own.length:=by omega
  rw[←hk]at hE
  have htk:own.take 128=own.take k:=by
   rcases Nat.lt_or_ge own.length 128 with h|h
   ·rw[List.take_of_length_le (by omega),List.take_of_length_le (by omega)]
   ·rw[show k=128 by omega]
  have hdk:own.drop 128=own.drop k:=by
   rcases Nat.lt_or_ge own.length 128 with h|h
   ·rw[List.drop_of_length_le (by omega),List.drop_of_length_le (by omega)]
   ·rw[show k=128 by omega]
  rw[htk,hdk]at hE
  refine aU (fun m=>(Own.rd (m.own 1 rfl)).2.1) fun hc1=> ?_
  refine aB<|ae<|aK<|ah<|aj<|hy (fun m=>aq rfl cZ (ax (m.aQ 0 rfl) rfl))<|hy (fun _=>aT rfl Tryz.underlying27)<|hy (fun _=>yV (zp rfl rfl) ((show Value.int .i64 _= .int .i64 (k:Nat) by congr 1;omega)))<|hy (fun _=>ab rfl)<|ai<|al (ρ' :=[(2,_),(5,_),(0,_),(1,_)]) ⟨rfl,rfl,rfl,rfl,trivial⟩<|ae<|ah<|pg [0,0,0] [] rfl rfl [4,5,9,10] [(0,some 1),(1,some 3),(2,some 0),(3,some 0),(6,some 2),(7,some 2),(8,some 2),(4,none),(5,none),(9,none),(10,none)] (by kernel_rfl) (by kernel_rfl) rfl 3<|b5 (fun m=>aq rfl cZ (ax (m.aQ 2 rfl) rfl))<|an (aa rfl)<|an (yV (ca rfl rfl (bx (by omega) (by omega))) ((show Value.int .i64 ((k:Int)-1)= .int .i64 ((k-1:Nat):Int) by congr 1;omega)))<|an (yV (bS rfl Tryz.underlying3 Tryz.underlying5 (gi (k-1))) ((show Value.int .u8 _=B8 (UInt8.ofNat (k-1))from rfl)))<|b5 (fun m=>aq rfl cZ (ax (m.aQ 0 rfl) rfl))<|an (aa rfl)<|an (oy rfl rfl Tryz.underlying27 dB rfl (by omega))<| ?_
  refine di (bT Tryz.underlying27 eA rfl rfl rfl (by simp[Value.cells,B8]) (by decide) (by decide) (fun g13=>⟨(fun _=>wk [1,1,1] [] rfl rfl), ?_⟩))
  have hA_b13:0<1→(some (⟨g13,0,none⟩:Addr))≠none:=fun _ h=>by cases h
  refine di (bw 4 rfl rfl rfl Tryz.underlying27 Tryz.underlying27 (by exact .inl rfl) eA rfl (fun m=>Src.bW (m.ord 0 rfl)) (bg (l:=[UInt8.ofNat (k-1)])) (by unfold maxLen;omega) (by omega) (fun u=>⟨(fun _=>wk [2,2,2] [] rfl rfl), ?_⟩))
  refine b4 (fun m=>(m.own 0 rfl).slice) ?_
  rintro⟨A_y,c_y,rfl,hc_y⟩
  refine b4 (fun m=>(m.ord 0 rfl).2.1) fun hA_y=> ?_
  refine di (bw 0 rfl rfl rfl Tryz.underlying27 Tryz.underlying27 (by exact .inl rfl) eA rfl (fun m=>Src.bW (Rd.B5 (m.ord 3 rfl) hk1.2.2)) bg (by unfold maxLen;omega) (by omega) (fun u2=>⟨(fun _=>wk [2,2,2] [] rfl rfl), ?_⟩))
  refine b4 (fun m=>(m.own 0 rfl).slice) ?_
  rintro⟨A_y2,c_y2,rfl,hc_y⟩
  refine b4 (fun m=>(m.ord 0 rfl).2.1) fun hA_y=> ?_
  refine fS (c5 4 rfl rfl rfl jk rfl (by first|exact Nat.le_of_ble_eq_true rfl|simp) ⟨(fun h=>absurd h (by decide)), ?_⟩)
  refine bo<|al (ρ' :=[(2,_),(5,_),(0,_),(1,_)]) ⟨rfl,rfl,rfl,rfl,trivial⟩<|ak (X' :=[_,_,_,_,_]) (S' :=[]) (fun _ m=>m)<|ae<|aj<|hy (fun m=>aq rfl cZ (ax (m.aQ 3 rfl) rfl))<|hy (fun _=>aa rfl)<|hy (fun _=>dV rfl rfl Tryz.underlying27 dB rfl (by omega))<| ?_
  refine cx (c5 3 rfl rfl rfl jk rfl (by first|exact Nat.le_of_ble_eq_true rfl|simp) ?_)
  refine ai<|al (ρ' :=[(2,_),(5,_),(0,_),(1,_)]) ⟨rfl,rfl,rfl,rfl,trivial⟩<|ak (X' :=[_,_,_,_,_]) (S' :=[]) (fun _ m=>m)<|aR<| ?_
  refine ak (X' :=aF 5 1 (.slice (if c1=k then A1 else A1.map (·.add (k*1))) (own.length-k) (c1-k)) (own.length-k) ((aP own).drop (k*1))::_) (fun w m=>(m.perm (ar [4] _ [_] _ rfl)).yc (View.rH hk1.2.2 hc1)) ?_
  have hdl:own.length-k=(own.drop k).length:=by rw[List.length_drop]
  have hol:out.length+1+k=(out++(UInt8.ofNat (k-1)::own.take k)).length:=by simp;omega
  rw[hdl,hol]
  refine ak (fun w m=>m.bs 0 rfl (show _=aF 5 1 (.slice (if c1=k then A1 else A1.map (·.add (k*1))) (own.drop k).length (c1-k)) (own.drop k).length (aP (own.drop k))from congrArg (aF _ _ _ _) (by rw[Nat.mul_one,pn]))) ?_
  refine ak (fun w m=>m.bs 3 rfl (show _=aF 5 1 (.slice A_y2 (out++(UInt8.ofNat (k-1)::own.take k)).length c_y2) (out++(UInt8.ofNat (k-1)::own.take k)).length (aP (out++(UInt8.ofNat (k-1)::own.take k)))from congrArg (aF _ _ _ _) (show aP out++aP [UInt8.ofNat (k-1)]++aP (own.take k)=_ by rw[←bz,←bz,List.append_assoc];rfl))) ?_
  refine jg (own.drop k) (out++(UInt8.ofNat (k-1)::own.take k)) _ _ _ _ ⟨rfl,rfl,trivial⟩ [2,1,1,0] rfl [] rfl (⟨by rw[←hdl,←hol];omega,by rw[←hE];simp⟩) (by rw[←hdl];omega)
 ·have hne:own=[]:=List.eq_nil_of_length_eq_zero (by omega)
  rw[hne,pC,List.append_nil]at hE
  subst hne
  subst hE
  refine bK<|ao<|ao<|aC<| ?_
  exact fa trivial rfl [0,0,0,0] rfl [] rfl ⟨_,_,_,_,rfl,rfl,rfl⟩
structure z8 where
 g:Nat
 gm:Nat
 g4:Nat
 g5:Nat
 i:Nat
 p:Nat
 c1:Nat
 c2:Nat
 A1:Option Addr
 A2:Option Addr
 own:List UInt8
 out:List UInt8
 es:tU
theorem FF{A:Option Addr}{n c:Nat}{l:List UInt8}(hc:n≤c)(hn:n≤500000000)(hl:l.length=n):b6 Tryz.prog 178 [.slice A n c] [] [cn 1 A n (aP l)] (fun v_ X_ S_=>∃v,v_=v∧X_=[aF 5 1 v (en l).length (aP (en l))]∧S_=[]):=by
 refine aI (N:=56) Tryz.func178 rfl rfl (by simp) fun b=> ?_
 refine aU (fun m=>eb (m.rd 0 rfl)) ?_
 rintro⟨hl_r,hA_r⟩
 refine ah<|aj<|hy (fun _=>ab rfl)<|ai<|ae<| ?_
 refine zw (l:=0) (fun(t:z8)=>n-t.i) (fun(t:z8)=>[(7,.int .i64 (t.i:Nat)),(3,.pointer (some ⟨t.g,0,none⟩)),(4,.pointer (some ⟨t.g4,0,none⟩)),(5,.pointer (some ⟨t.g5,0,none⟩)),(6,.func (.func 230) #[] #[.pointer (some ⟨t.g5,0,none⟩),.pointer (some ⟨t.g4,0,none⟩)])]) (fun(t:z8)=>[mK t.g t.gm A n c t.p t.es,aE t.g5 27 [.slice t.A1 t.own.length t.c1],aF 5 1 (.slice t.A1 t.own.length t.c1) t.own.length (aP t.own),aE t.g4 27 [.slice t.A2 t.out.length t.c2],aF 5 1 (.slice t.A2 t.out.length t.c2) t.out.length (aP t.out)]) (fun(t:z8)=>[]) (fun(t:z8)=>t.i≤n∧t.p≤t.i∧xh l t.p t.es∧t.out.length+2*t.own.length≤2*t.i∧fZ l t.i t.own t.out=en l) [(0,_)] ⟨rfl,trivial⟩ [] rfl rfl (fun t ⟨hin,hpi,hF,hlen,hE⟩=> ?_) (fun hfall_=> ?_)
 ·obtain⟨g,gm,g4,g5,i,p,c1,c2,A1,A2,own,out,es⟩:=t
  dsimp only at hin hpi hF hlen hE ⊢
  refine ah<|ah<|aj<|hy (fun _=>aa rfl)<|hy (fun _=>aa rfl)<|hy (fun _=>aT rfl Tryz.underlying27)<|hy (fun _=>cm rfl rfl)<|ai<|al (ρ' :=[(16,_),(7,_),(3,_),(4,_),(5,_),(6,_),(0,_)]) ⟨rfl,rfl,rfl,rfl,rfl,rfl,rfl,trivial⟩<|ae<| ?_
  refine CI rfl (fun hfin=> ?_) (fun hfin=> ?_)
  ·have hi:i=n:=by have:=of_decide_eq_true hfin;omega
   rw[mH (by omega)]at hE
   refine ah<|aj<|hy (fun _=>aa rfl)<| ?_
   refine hx (ek rfl rfl Tryz.call230 (EM (by omega)) [1,1,1,1] rfl [] rfl ?_)
   rintro _ _ _ ⟨A3,A4,c3,c4,rfl,rfl,rfl⟩
   rw[hE]
   refine ai<|al (ρ' :=[(16,_),(7,_),(3,_),(4,_),(5,_),(6,_),(0,_)]) ⟨rfl,rfl,rfl,rfl,rfl,rfl,rfl,trivial⟩<|ak (X' :=[_,_,_,_,_]) (S' :=[_]) (fun _ m=>m)<|ae<|ah<|aj<|hy (fun m=>aq rfl cZ (ax (m.aQ 2 rfl) rfl))<|hy (fun _=>ab rfl)<|ai<|al (ρ' :=[(2,_),(16,_),(7,_),(3,_),(4,_),(5,_),(6,_),(0,_)]) ⟨rfl,rfl,rfl,rfl,rfl,rfl,rfl,rfl,trivial⟩<|ae<|aS<|ay<|wT<| ?_
   exact a6 trivial rfl rfl [3] rfl [] rfl ⟨_,rfl,rfl,rfl⟩
  ·have hi:i<n:=by have:=of_decide_eq_false hfin;omega
   refine aB<|ae<|ah<|aj<|hy (fun _=>aa rfl)<|hy (fun _=>aa rfl)<| ?_
   refine hx (au rfl Tryz.call231 (DD (by omega) (by omega) hl (by omega) (by omega) hF) [0] rfl [0] rfl ?_)
   rintro _ _ _ ⟨p1,es1,rfl,rfl,rfl,hp⟩
   obtain⟨hp1,hF1⟩:=hp
   refine hy (fun _=>aa rfl)<|hy (fun _=>aH rfl rfl)<|hy (fun _=>aH rfl rfl)<|hy (fun _=>ab rfl)<|hy (fun _=>ab rfl)<|ai<|al (ρ' :=[(9,_),(8,_),(16,_),(7,_),(3,_),(4,_),(5,_),(6,_),(0,_)]) ⟨rfl,rfl,rfl,rfl,rfl,rfl,rfl,rfl,rfl,trivial⟩<|ak (X' :=[_,_,_,_,_]) (S' :=[_]) (fun _ m=>m)<|ae<|ah<|ah<|aj<|hy (fun _=>aa rfl)<|hy (fun _=>cm rfl rfl)<|ai<|al (ρ' :=[(27,_),(9,_),(8,_),(16,_),(7,_),(3,_),(4,_),(5,_),(6,_),(0,_)]) ⟨rfl,rfl,rfl,rfl,rfl,rfl,rfl,rfl,rfl,rfl,trivial⟩<|ae<| ?_
   refine cj rfl (fun h0=> ?_) (fun h0=> ?_)
   ·rw[mj (by omega) (by omega)]at hE
    refine ah<|pg [0,0,1,1] [0] rfl rfl [5,6,7] [(0,some 1),(1,some 0),(2,some 0),(3,some 0),(4,some 0),(5,none),(6,none),(7,none)] (by kernel_rfl) (by kernel_rfl) rfl 2<|b5 (fun m=>aq rfl cZ (ax (m.aQ 1 rfl) rfl))<|an (aa rfl)<|an (aa rfl)<|an (aN rfl rfl Tryz.underlying27 dB hA_r rfl (by omega))<|b5 (fun m=>aq rfl iv ((m.rd 0 rfl).cell (bB (by omega))))<| ?_
    refine di (bT Tryz.underlying27 eA rfl rfl rfl (by simp[Value.cells,B8]) (by decide) (by decide) (fun g33=>⟨(fun _=>wk [1,1,2,2] [0] rfl rfl), ?_⟩))
    have hA_b33:0<1→(some (⟨g33,0,none⟩:Addr))≠none:=fun _ h=>by cases h
    refine dO (fun w m=>m.bs 0 rfl (show _=aF 5 1 (.slice (some ⟨g33,0,none⟩) 1 1) 1 (aP [l.getD i 0])from rfl)) ?_
    refine di (bw 3 rfl rfl rfl Tryz.underlying27 Tryz.underlying27 (by exact .inl rfl) eA rfl (fun m=>Src.bW (m.ord 0 rfl)) bg (by unfold maxLen;omega) (by omega) (fun u=>⟨(fun _=>wk [2,2,2,2] [0] rfl rfl), ?_⟩))
    refine b4 (fun m=>(m.own 0 rfl).slice) ?_
    rintro⟨A_x,c_x,rfl,hc_x⟩
    refine b4 (fun m=>(m.ord 0 rfl).2.1) fun hA_x=> ?_
    refine fS (c5 3 rfl rfl rfl jk rfl (by first|exact Nat.le_of_ble_eq_true rfl|simp) ⟨(fun h=>absurd h (by decide)), ?_⟩)
    refine bo<|al (ρ' :=[(27,_),(9,_),(8,_),(16,_),(7,_),(3,_),(4,_),(5,_),(6,_),(0,_)]) ⟨rfl,rfl,rfl,rfl,rfl,rfl,rfl,rfl,rfl,rfl,trivial⟩<|ak (X' :=[_,_,_,_,_,_]) (S' :=[_]) (fun _ m=>m)<|ae<|ah<|aj<|hy (fun _=>aa rfl)<|hy (fun _=>aL rfl rfl (bx (by omega) (by omega)))<|hy (fun _=>ab rfl)<|ai<|al (ρ' :=[(7,_),(27,_),(9,_),(8,_),(16,_),(3,_),(4,_),(5,_),(6,_),(0,_)]) ⟨rfl,rfl,rfl,rfl,rfl,rfl,rfl,rfl,rfl,rfl,trivial⟩<|ae<|yh<|uC<| ?_
    have hol:own.length+1=(own++[l.getD i 0]).length:=by simp
    rw[hol]
    refine ak (fun w m=>m.bs 1 rfl (show _=aF 5 1 (.slice A_x (own++[l.getD i 0]).length c_x) (own++[l.getD i 0]).length (aP (own++[l.getD i 0]))from congrArg (aF _ _ _ _) (bz _ _).symm)) ?_
    exact zC (⟨g,gm,g4,g5,i+1,p1,c_x,c2,A_x,A2,own++[l.getD i 0],out,es1⟩) ⟨rfl,rfl,rfl,rfl,rfl,rfl,trivial⟩ [3,1,0,1,1] rfl [0] rfl (⟨hi,Nat.le_succ_of_le hp1,hF1,by show out.length+2*(own++[l.getD i 0]).length≤2*(i+1);rw[←hol];omega,hE⟩) (by show n-(i+1)<n-i;omega)
   ·have hm:=mr (b:=l) (i:=i) (by omega)
    rw[jX (by omega) (by omega)]at hE
    obtain⟨m1,m2,m3,m4,m5,m6⟩:=hm.resolve_left (fun e=>h0 (by rw[e];rfl))
    refine aB<|ae<|ah<|aj<|hy (fun _=>aa rfl)<| ?_
    refine hx (ek rfl rfl Tryz.call230 (EM (by omega)) [1,1,1,1] rfl [] rfl ?_)
    rintro _ _ _ ⟨A3,A4,c3,c4,rfl,rfl,rfl⟩
    refine ai<|al (ρ' :=[(27,_),(9,_),(8,_),(16,_),(7,_),(3,_),(4,_),(5,_),(6,_),(0,_)]) ⟨rfl,rfl,rfl,rfl,rfl,rfl,rfl,rfl,rfl,rfl,trivial⟩<|ak (X' :=[_,_,_,_,_]) (S' :=[_]) (fun _ m=>m)<|ae<|ah<|aj<|hy (fun m=>aq rfl cZ (ax (m.aQ 2 rfl) rfl))<|hy (fun _=>aa rfl)<|hy (fun _=>aL rfl rfl (bx (by omega) (by omega)))<|hy (fun _=>yV (ca rfl rfl (bx (by omega) (by omega))) ((show Value.int .i64 (128+((aZ l i).1:Int)-4)= .int .i64 ((124+(aZ l i).1:Nat):Int) by congr 1;omega)))<|hy (fun _=>yV (bS rfl Tryz.underlying3 Tryz.underlying5 (gi _)) ((show Value.int .u8 _=B8 (UInt8.ofNat (124+(aZ l i).1))from rfl)))<|hy (fun _=>aa rfl)<|hy (fun _=>yV (ca rfl rfl (bx (by omega) (by omega))) ((show Value.int .i64 (((aZ l i).2:Int)-1)= .int .i64 (((aZ l i).2-1:Nat):Int) by congr 1;omega)))<|hy (fun _=>yV (bS rfl Tryz.underlying3 Tryz.underlying5 (gi _)) ((show Value.int .u8 _=B8 (UInt8.ofNat ((aZ l i).2-1))from rfl)))<|hy (fun _=>aa rfl)<|hy (fun _=>yV (ca rfl rfl (bx (by omega) (by omega))) ((show Value.int .i64 (((aZ l i).2:Int)-1)= .int .i64 (((aZ l i).2-1:Nat):Int) by congr 1;omega)))<|hy (fun _=>yV (lQ (p:=256) rfl rfl (by decide) (by decide) (by decide)) ((show Value.int .i64 ((((aZ l i).2-1:Nat):Int)/256)= .int .i64 ((((aZ l i).2-1)/256:Nat):Int) by congr 1)))<|hy (fun _=>yV (bS rfl Tryz.underlying3 Tryz.underlying5 (gi _)) ((show Value.int .u8 _=B8 (UInt8.ofNat (((aZ l i).2-1)/256))from rfl)))<| ?_
    refine hx (bT Tryz.underlying27 eA rfl rfl rfl (by simp[Value.cells,B8]) (by decide) (by decide) (fun g51=> ?_))
    have hA_b51:0<3→(some (⟨g51,0,none⟩:Addr))≠none:=fun _ h=>by cases h
    refine aG (fun w m=>m.bs 0 rfl (show _=aF 5 1 (.slice (some ⟨g51,0,none⟩) 3 3) 3 (aP (gL (aZ l i)))from rfl)) ?_
    have hll:=eQ own
    have hlo:(out++eD own).length=out.length+(eD own).length:=by simp
    refine hx (bw 4 rfl rfl rfl Tryz.underlying27 Tryz.underlying27 (by exact .inl rfl) eA rfl (fun m=>Src.bW (m.ord 0 rfl)) bg (by unfold maxLen;omega) (by omega) (fun u=> ?_))
    refine aA (fun m=>(m.own 0 rfl).slice) ?_
    rintro⟨A_y,c_y,rfl,hc_y⟩
    refine aA (fun m=>(m.ord 0 rfl).2.1) fun hA_y=> ?_
    refine cx (c5 4 rfl rfl rfl jk rfl (by first|exact Nat.le_of_ble_eq_true rfl|simp) ?_)
    refine ai<|al (ρ' :=[(27,_),(9,_),(8,_),(16,_),(7,_),(3,_),(4,_),(5,_),(6,_),(0,_)]) ⟨rfl,rfl,rfl,rfl,rfl,rfl,rfl,rfl,rfl,rfl,trivial⟩<|ak (X' :=[_,_,_,_,_,_]) (S' :=[_]) (fun _ m=>m)<|ae<|ah<|aj<|hy (fun _=>aa rfl)<|hy (fun _=>aa rfl)<|hy (fun _=>yV (aL rfl rfl (bx (by omega) (by omega))) ((show Value.int .i64 ((i:Int)+((aZ l i).1:Int))= .int .i64 ((i+(aZ l i).1:Nat):Int) by congr 1)))<|hy (fun _=>ab rfl)<|ai<|al (ρ' :=[(7,_),(27,_),(9,_),(8,_),(16,_),(3,_),(4,_),(5,_),(6,_),(0,_)]) ⟨rfl,rfl,rfl,rfl,rfl,rfl,rfl,rfl,rfl,rfl,trivial⟩<|ae<|yh<| ?_
    have hol:(out++eD own).length+3=(out++eD own++gL (aZ l i)).length:=by simp[gL];omega
    rw[hol]
    refine ak (fun w m=>m.bs 1 rfl (show _=aF 5 1 (.slice A_y (out++eD own++gL (aZ l i)).length c_y) (out++eD own++gL (aZ l i)).length (aP (out++eD own++gL (aZ l i)))from congrArg (aF _ _ _ _) (bz _ _).symm)) ?_
    exact zC (⟨g,gm,g4,g5,i+(aZ l i).1,p1,c3,c_y,A3,A_y,[],out++eD own++gL (aZ l i),es1⟩) ⟨rfl,rfl,rfl,rfl,rfl,rfl,trivial⟩ [5,3,3,1,0] rfl [0] rfl (⟨by show i+(aZ l i).1≤n;omega,by show p1≤i+(aZ l i).1;omega,hF1,by show(out++eD own++gL (aZ l i)).length+2*0≤2*(i+(aZ l i).1);rw[←hol];omega,hE⟩) (by show n-(i+(aZ l i).1)<n-i;omega)
 ·refine ah<|aj<|hy (fun _=>aa rfl)<| ?_
  refine hx (au rfl Tryz.call229 (EG) [] rfl [] rfl ?_)
  rintro _ _ _ ⟨g,gm,rfl,rfl,rfl⟩
  refine hy (fun _=>ab rfl)<|ai<|al (ρ' :=[(3,_),(2,_),(0,_)]) ⟨rfl,rfl,rfl,trivial⟩<|ak (X' :=[_]) (S' :=[_]) (fun _ m=>m)<|ae<|ah<|aj<| ?_
  refine hx (bh jW (fun g4=> ?_))
  refine hx (bh jW (fun g5=> ?_))
  refine ai<|ak (X' :=[_,_,_]) (S' :=[_]) (fun _ m=>m)<|ae<|ah<|aj<|hy (fun _=>ff rfl rfl)<|hy (fun _=>ab rfl)<|ai<|al (ρ' :=[(6,_),(5,_),(4,_),(3,_),(2,_),(0,_)]) ⟨rfl,rfl,rfl,rfl,rfl,rfl,trivial⟩<|ae<|ah<|aj<|hy (fun _=>ab rfl)<|ai<|ae<| ?_
  refine bd (fun w m=>m.bs 1 rfl (show _=aE g4 27 [.slice none 0 0]from rfl)) ?_
  refine bd (fun w m=>m.bs 1 rfl (show _=aE g5 27 [.slice none 0 0]from rfl)) ?_
  refine bd (fun w m=>m.cI (r' :=aF 5 1 (.slice none 0 0) 0 []) (.refl _ _) (Own.nil _ _ _ _) (fun k hk=>hk.elim)) ?_
  refine bd (fun w m=>m.cI (r' :=aF 5 1 (.slice none 0 0) 0 []) (.refl _ _) (Own.nil _ _ _ _) (fun k hk=>hk.elim)) ?_
  exact C6 (DN (R:=fun(t:z8)=>[(7,.int .i64 (t.i:Nat)),(3,.pointer (some ⟨t.g,0,none⟩)),(4,.pointer (some ⟨t.g4,0,none⟩)),(5,.pointer (some ⟨t.g5,0,none⟩)),(6,.func (.func 230) #[] #[.pointer (some ⟨t.g5,0,none⟩),.pointer (some ⟨t.g4,0,none⟩)])]) (X1:=fun(t:z8)=>[mK t.g t.gm A n c t.p t.es,aE t.g5 27 [.slice t.A1 t.own.length t.c1],aF 5 1 (.slice t.A1 t.own.length t.c1) t.own.length (aP t.own),aE t.g4 27 [.slice t.A2 t.out.length t.c2],aF 5 1 (.slice t.A2 t.out.length t.c2) t.out.length (aP t.out)]) (S1:=fun(t:z8)=>[]) (I:=fun(t:z8)=>t.i≤n∧t.p≤t.i∧xh l t.p t.es∧t.out.length+2*t.own.length≤2*t.i∧fZ l t.i t.own t.out=en l) (⟨g,gm,g4,g5,0,0,0,0,none,none,[],[],[]⟩) ⟨rfl,rfl,rfl,rfl,rfl,rfl,trivial⟩ [4,2,1,1,0] rfl [0] rfl (⟨Nat.zero_le _,Nat.le_refl _,BX _,Nat.le_refl _,rfl⟩)) hfall_
end Go.Proofs.YtmibdabdlgmafaaGreatDoor
end
section
set_option maxRecDepth 20000
set_option maxHeartbeats 2000000
namespace Go.Proofs.YtmibdabdlgmafaaGreatDoor
open Go.Eng Go.Hx
theorem oc{A:Option Addr}{n c:Nat}{l:List UInt8}(hn:n≤70368744177664):b6 Tryz.prog 180 [.slice A n c] [] [cn 1 A n (aP l)] (fun v_ X_ S_=>v_=(.int .u32 (cX l:Nat))∧X_=[]∧S_=[]):=by
 exact iR fun m=>Calls.mono (yZ A n c l _ (m.rd 0 rfl) (by omega)) (fun e w' ⟨h,hf⟩=>⟨_,h,⟨rfl,rfl,rfl⟩,hf⟩)
theorem iO{k:Nat}(hk:k<4294967296):b6 Tryz.prog 179 [.int .u32 (k:Nat)] [] [] (fun v_ X_ S_=>∃v,v_=v∧X_=[aF 5 1 v 4 (aP (iW k))]∧S_=[]):=by
 refine aI (N:=15) Tryz.func179 rfl rfl (by simp) fun b=> ?_
 refine ah<|aj<|hy (fun _=>ab rfl)<|ai<|ae<|ah<|aj<|hy (fun _=>aa rfl)<|hy (fun _=>yV (bS rfl Tryz.underlying166 Tryz.underlying5 (gi _)) ((show Value.int .u8 _=B8 (UInt8.ofNat k)from rfl)))<|hy (fun _=>aa rfl)<|hy (fun _=>yV (lQ (p:=256) rfl rfl (by decide) (by decide) (by decide)) ((show Value.int .u32 ((k:Int)/256)= .int .u32 ((k/256:Nat):Int) by congr 1)))<|hy (fun _=>yV (bS rfl Tryz.underlying166 Tryz.underlying5 (gi _)) ((show Value.int .u8 _=B8 (UInt8.ofNat (k/256))from rfl)))<|hy (fun _=>aa rfl)<|hy (fun _=>yV (lQ (p:=65536) rfl rfl (by decide) (by decide) (by decide)) ((show Value.int .u32 ((k:Int)/65536)= .int .u32 ((k/65536:Nat):Int) by congr 1)))<|hy (fun _=>yV (bS rfl Tryz.underlying166 Tryz.underlying5 (gi _)) ((show Value.int .u8 _=B8 (UInt8.ofNat (k/65536))from rfl)))<|hy (fun _=>aa rfl)<|hy (fun _=>yV (lQ (p:=16777216) rfl rfl (by decide) (by decide) (by decide)) ((show Value.int .u32 ((k:Int)/16777216)= .int .u32 ((k/16777216:Nat):Int) by congr 1)))<|hy (fun _=>yV (bS rfl Tryz.underlying166 Tryz.underlying5 (gi _)) ((show Value.int .u8 _=B8 (UInt8.ofNat (k/16777216))from rfl)))<| ?_
 refine hx (bT Tryz.underlying27 eA rfl rfl rfl (by simp[Value.cells,B8]) (by decide) (by decide) (fun g14=> ?_))
 have hA_b14:0<4→(some (⟨g14,0,none⟩:Addr))≠none:=fun _ h=>by cases h
 refine hy (fun _=>ab rfl)<|ai<|al (ρ' :=[(2,_),(0,_)]) ⟨rfl,rfl,trivial⟩<|ak (X' :=[_]) (S' :=[]) (fun _ m=>m)<|ae<|aS<| ?_
 refine ak (fun w m=>m.bs 0 rfl (show _=aF 5 1 (.slice (some ⟨g14,0,none⟩) 4 4) 4 (aP (iW k))from rfl)) ?_
 exact a6 trivial rfl rfl [0] rfl [] rfl ⟨_,rfl,rfl,rfl⟩
theorem FA{A:Option Addr}{n c:Nat}{l:List UInt8}(hc:n≤c)(hn:n≤100000000)(hl:l.length=n):b6 Tryz.prog 106 [.slice A n c] [] [cn 1 A n (aP l)] (fun v_ X_ S_=>∃v,v_=v∧X_=[aF 5 1 v (b7 l).length (aP (b7 l))]∧S_=[]):=by
 have hpl:=lA l
 have hlt:n<4294967296:=by omega
 have hcl:=iP l
 refine aI (N:=31) Tryz.func106 rfl rfl (by simp) fun b=> ?_
 refine aU (fun m=>eb (m.rd 0 rfl)) ?_
 rintro⟨hl_r,hA_r⟩
 refine ah<|aj<|hy (fun _=>ab rfl)<|ai<|ae<|ah<|aj<|hy (fun _=>aa rfl)<|hy (fun _=>ab rfl)<|hy (fun _=>ab rfl)<|ai<|al (ρ' :=[(4,_),(3,_),(2,_),(0,_)]) ⟨rfl,rfl,rfl,rfl,trivial⟩<|ae<|ah<|ah<|aj<|hy (fun _=>aa rfl)<| ?_
 refine hx (au rfl Tryz.call178 (FF (by omega) (by omega) (by omega)) [] rfl [0] rfl ?_)
 rintro _ _ _ ⟨v,rfl,rfl,rfl⟩
 refine aA (fun m=>(m.own 0 rfl).slice) ?_
 rintro⟨A_y,c_y,rfl,hc_y⟩
 refine aA (fun m=>(m.ord 0 rfl).2.1) fun hA_y=> ?_
 refine hy (fun _=>ab rfl)<|ai<|al (ρ' :=[(5,_),(4,_),(3,_),(2,_),(0,_)]) ⟨rfl,rfl,rfl,rfl,rfl,trivial⟩<|ak (X' :=[_]) (S' :=[_]) (fun _ m=>m)<|ae<|ah<|aj<|hy (fun _=>aa rfl)<|hy (fun _=>aT rfl Tryz.underlying27)<|hy (fun _=>aa rfl)<|hy (fun _=>aT rfl Tryz.underlying27)<|hy (fun _=>bC rfl rfl)<|ai<|al (ρ' :=[(14,_),(5,_),(4,_),(3,_),(2,_),(0,_)]) ⟨rfl,rfl,rfl,rfl,rfl,rfl,trivial⟩<|ae<| ?_
 refine cj rfl (fun hp=> ?_) (fun hp=> ?_)
 ·have hq:b7 l=[76,1]++iW l.length++en l++iW (cX l):=by
   have:xB l=true:=by unfold xB;exact decide_eq_true (by omega)
   unfold b7 nv
   rw[this];rfl
  refine aj<|hy (fun _=>aa rfl)<|hy (fun _=>ab rfl)<|hy (fun _=>ab rfl)<|ai<|al (ρ' :=[(4,_),(3,_),(14,_),(5,_),(2,_),(0,_)]) ⟨rfl,rfl,rfl,rfl,rfl,rfl,trivial⟩<|ae<|ah<|aj<|hy (fun _=>aa rfl)<| ?_
  refine hx (bT Tryz.underlying27 eA rfl rfl rfl (by simp[Value.cells,B8]) (by decide) (by decide) (fun g17=> ?_))
  have hA_b17:0<2→(some (⟨g17,0,none⟩:Addr))≠none:=fun _ h=>by cases h
  refine hy (fun _=>aa rfl)<|hy (fun _=>aT rfl Tryz.underlying27)<|hy (fun _=>bS rfl Tryz.underlying3 Tryz.underlying166 (vU (by omega) (by omega)))<| ?_
  refine hx (au rfl Tryz.call179 (iO (by omega)) [] rfl [] rfl ?_)
  rintro _ _ _ ⟨v2,rfl,rfl,rfl⟩
  refine aA (fun m=>(m.own 0 rfl).slice) ?_
  rintro⟨A_x,c_x,rfl,hc_x⟩
  refine aA (fun m=>(m.ord 0 rfl).2.1) fun hA_x=> ?_
  refine aG (fun w m=>m.bs 1 rfl (show _=aF 5 1 (.slice (some ⟨g17,0,none⟩) 2 2) 2 (aP [76,1])from rfl)) ?_
  refine hx (bw 0 rfl rfl rfl Tryz.underlying27 Tryz.underlying27 (by exact .inl rfl) eA rfl (fun m=>Src.bW (m.ord 1 rfl)) bg (by unfold maxLen;omega) (by omega) (fun u=> ?_))
  refine aA (fun m=>(m.own 0 rfl).slice) ?_
  rintro⟨A_b17,c_b17,rfl,hc_b17⟩
  refine aA (fun m=>(m.ord 0 rfl).2.1) fun hA_b17=> ?_
  refine hy (fun _=>ab rfl)<|ai<|al (ρ' :=[(6,_),(4,_),(3,_),(14,_),(5,_),(2,_),(0,_)]) ⟨rfl,rfl,rfl,rfl,rfl,rfl,rfl,trivial⟩<|ak (X' :=[_,_,_]) (S' :=[_]) (fun _ m=>m)<|ae<|ah<|aj<|hy (fun _=>aa rfl)<|hy (fun _=>aa rfl)<| ?_
  refine hx (bw 0 rfl rfl rfl Tryz.underlying27 Tryz.underlying27 (by exact .inl rfl) eA rfl (fun m=>Src.bW (m.ord 2 rfl)) bg (by unfold maxLen;omega) (by omega) (fun u2=> ?_))
  refine aA (fun m=>(m.own 0 rfl).slice) ?_
  rintro⟨A_b172,c_b172,rfl,hc_b17⟩
  refine aA (fun m=>(m.ord 0 rfl).2.1) fun hA_b17=> ?_
  refine hy (fun _=>ab rfl)<|ai<|al (ρ' :=[(6,_),(4,_),(3,_),(14,_),(5,_),(2,_),(0,_)]) ⟨rfl,rfl,rfl,rfl,rfl,rfl,rfl,trivial⟩<|ak (X' :=[_,_,_]) (S' :=[_]) (fun _ m=>m)<|ae<|ah<|aj<|hy (fun _=>aa rfl)<|hy (fun _=>aa rfl)<| ?_
  refine hx (au rfl Tryz.call180 (oc (by omega)) [] rfl [0] rfl ?_)
  rintro _ _ _ ⟨rfl,rfl,rfl⟩
  refine hx (au rfl Tryz.call179 (iO (by omega)) [] rfl [] rfl ?_)
  rintro _ _ _ ⟨v3,rfl,rfl,rfl⟩
  refine aA (fun m=>(m.own 0 rfl).slice) ?_
  rintro⟨A_x2,c_x2,rfl,hc_x2⟩
  refine aA (fun m=>(m.ord 0 rfl).2.1) fun hA_x2=> ?_
  refine hx (bw 1 rfl rfl rfl Tryz.underlying27 Tryz.underlying27 (by exact .inl rfl) eA rfl (fun m=>Src.bW (m.ord 0 rfl)) bg (by unfold maxLen;omega) (by omega) (fun u3=> ?_))
  refine aA (fun m=>(m.own 0 rfl).slice) ?_
  rintro⟨A_b173,c_b173,rfl,hc_b17⟩
  refine aA (fun m=>(m.ord 0 rfl).2.1) fun hA_b17=> ?_
  refine hy (fun _=>ab rfl)<|ai<|al (ρ' :=[(2,_),(6,_),(4,_),(3,_),(14,_),(5,_),(0,_)]) ⟨rfl,rfl,rfl,rfl,rfl,rfl,rfl,trivial⟩<|ak (X' :=[_,_,_,_]) (S' :=[_]) (fun _ m=>m)<|ae<|aS<| ?_
  have hol:2+4+(en l).length+4=(b7 l).length:=by rw[hq];simp[gT,hl];try omega
  rw[hol]
  have hsl:aP [76,1]++aP (iW n)++aP (en l)++aP (iW (cX l))=aP (b7 l):=by rw[hq,hl,bz,bz,bz]
  rw[hsl]
  exact a6 trivial rfl rfl [0] rfl [] rfl ⟨_,rfl,rfl,rfl⟩
 ·have hq:b7 l=[76,0]++iW l.length++l++iW (cX l):=by
   have:xB l=false:=by unfold xB;exact decide_eq_false (by omega)
   unfold b7 nv
   rw[this];rfl
  refine aB<|ae<|ah<|aj<|hy (fun _=>aa rfl)<| ?_
  refine hx (bT Tryz.underlying27 eA rfl rfl rfl (by simp[Value.cells,B8]) (by decide) (by decide) (fun g17=> ?_))
  have hA_b17:0<2→(some (⟨g17,0,none⟩:Addr))≠none:=fun _ h=>by cases h
  refine hy (fun _=>aa rfl)<|hy (fun _=>aT rfl Tryz.underlying27)<|hy (fun _=>bS rfl Tryz.underlying3 Tryz.underlying166 (vU (by omega) (by omega)))<| ?_
  refine hx (au rfl Tryz.call179 (iO (by omega)) [] rfl [] rfl ?_)
  rintro _ _ _ ⟨v2,rfl,rfl,rfl⟩
  refine aA (fun m=>(m.own 0 rfl).slice) ?_
  rintro⟨A_x,c_x,rfl,hc_x⟩
  refine aA (fun m=>(m.ord 0 rfl).2.1) fun hA_x=> ?_
  refine aG (fun w m=>m.bs 1 rfl (show _=aF 5 1 (.slice (some ⟨g17,0,none⟩) 2 2) 2 (aP [76,0])from rfl)) ?_
  refine hx (bw 0 rfl rfl rfl Tryz.underlying27 Tryz.underlying27 (by exact .inl rfl) eA rfl (fun m=>Src.bW (m.ord 1 rfl)) bg (by unfold maxLen;omega) (by omega) (fun u=> ?_))
  refine aA (fun m=>(m.own 0 rfl).slice) ?_
  rintro⟨A_b17,c_b17,rfl,hc_b17⟩
  refine aA (fun m=>(m.ord 0 rfl).2.1) fun hA_b17=> ?_
  refine hy (fun _=>ab rfl)<|ai<|al (ρ' :=[(6,_),(14,_),(5,_),(4,_),(3,_),(2,_),(0,_)]) ⟨rfl,rfl,rfl,rfl,rfl,rfl,rfl,trivial⟩<|ak (X' :=[_,_,_]) (S' :=[_]) (fun _ m=>m)<|ae<|ah<|aj<|hy (fun _=>aa rfl)<|hy (fun _=>aa rfl)<| ?_
  refine hx (bw 0 rfl rfl rfl Tryz.underlying27 Tryz.underlying27 (by exact .inl rfl) eA rfl (fun m=>Src.bW (m.rd 0 rfl)) bg (by unfold maxLen;omega) (by omega) (fun u2=> ?_))
  refine aA (fun m=>(m.own 0 rfl).slice) ?_
  rintro⟨A_b172,c_b172,rfl,hc_b17⟩
  refine aA (fun m=>(m.ord 0 rfl).2.1) fun hA_b17=> ?_
  refine hy (fun _=>ab rfl)<|ai<|al (ρ' :=[(6,_),(14,_),(5,_),(4,_),(3,_),(2,_),(0,_)]) ⟨rfl,rfl,rfl,rfl,rfl,rfl,rfl,trivial⟩<|ak (X' :=[_,_,_]) (S' :=[_]) (fun _ m=>m)<|ae<|ah<|aj<|hy (fun _=>aa rfl)<|hy (fun _=>aa rfl)<| ?_
  refine hx (au rfl Tryz.call180 (oc (by omega)) [] rfl [0] rfl ?_)
  rintro _ _ _ ⟨rfl,rfl,rfl⟩
  refine hx (au rfl Tryz.call179 (iO (by omega)) [] rfl [] rfl ?_)
  rintro _ _ _ ⟨v3,rfl,rfl,rfl⟩
  refine aA (fun m=>(m.own 0 rfl).slice) ?_
  rintro⟨A_x2,c_x2,rfl,hc_x2⟩
  refine aA (fun m=>(m.ord 0 rfl).2.1) fun hA_x2=> ?_
  refine hx (bw 1 rfl rfl rfl Tryz.underlying27 Tryz.underlying27 (by exact .inl rfl) eA rfl (fun m=>Src.bW (m.ord 0 rfl)) bg (by unfold maxLen;omega) (by omega) (fun u3=> ?_))
  refine aA (fun m=>(m.own 0 rfl).slice) ?_
  rintro⟨A_b173,c_b173,rfl,hc_b17⟩
  refine aA (fun m=>(m.ord 0 rfl).2.1) fun hA_b17=> ?_
  refine hy (fun _=>ab rfl)<|ai<|al (ρ' :=[(2,_),(6,_),(14,_),(5,_),(4,_),(3,_),(0,_)]) ⟨rfl,rfl,rfl,rfl,rfl,rfl,rfl,trivial⟩<|ak (X' :=[_,_,_,_]) (S' :=[_]) (fun _ m=>m)<|ae<|aS<| ?_
  have hol:2+4+n+4=(b7 l).length:=by rw[hq];simp[gT,hl];try omega
  rw[hol]
  have hsl:aP [76,0]++aP (iW n)++aP l++aP (iW (cX l))=aP (b7 l):=by rw[hq,hl,bz,bz,bz]
  rw[hsl]
  exact a6 trivial rfl rfl [0] rfl [] rfl ⟨_,rfl,rfl,rfl⟩
theorem j8{f:List UInt8}(h:f.length<10∨f.getD 0 0≠76∨1<(f.getD 1 0).toNat):gD f=none:=by unfold gD;rw[if_pos h]
theorem wK{f:List UInt8}(h:¬(f.length<10∨f.getD 0 0≠76∨1<(f.getD 1 0).toNat)):gD f=some (nS (f.drop 2)):=by unfold gD;rw[if_neg h]
theorem rI{A:Option Addr}{n c:Nat}{f:List UInt8}(hc:n≤c)(hn:n≤1000000000)(hl:f.length=n):b6 Tryz.prog 211 [.slice A n c] [] [cn 1 A n (aP f)] (fun v_ X_ S_=>v_=(.tuple #[.int .i64 (((gD f).getD 0:Nat):Int),.int .i64 (if(gD f).isSome then 0 else 2)])∧X_=[]∧S_=[]):=by
 have b0:=(f.getD 0 0).toNat_lt
 have b1:=(f.getD 1 0).toNat_lt
 refine aI (N:=34) Tryz.func211 rfl rfl (by simp) fun b=> ?_
 refine aU (fun m=>eb (m.rd 0 rfl)) ?_
 rintro⟨hl_r,hA_r⟩
 refine ah<|aj<|hy (fun _=>ab rfl)<|hy (fun _=>ab rfl)<|ai<|ae<|ah<|ah<|aj<|hy (fun _=>aa rfl)<|hy (fun _=>aT rfl Tryz.underlying27)<|hy (fun _=>bC rfl rfl)<|hy (fun _=>aa rfl)<| ?_
 refine fe 9 rfl (fun h1=> ?_) (fun h1=> ?_)
 ·refine a7 rfl rfl rfl (by decide)<|a7 rfl rfl rfl (by decide)<|a7 rfl rfl rfl (by decide)<|a7 rfl rfl rfl (by decide)<|hy (fun _=>bM rfl rfl)<|hy (fun _=>aa rfl)<| ?_
  rw[j8 (.inl (by omega))]
  refine a7 rfl rfl rfl (by decide)<|a7 rfl rfl rfl (by decide)<|a7 rfl rfl rfl (by decide)<|a7 rfl rfl rfl (by decide)<|hy (fun _=>bM rfl rfl)<|ai<|al (ρ' :=[(20,_),(3,_),(2,_),(0,_)]) ⟨rfl,rfl,rfl,rfl,trivial⟩<|ae<| ?_
  refine gS rfl (rfl) ?_
  refine ah<|aj<|hy (fun _=>ab rfl)<|hy (fun _=>ab rfl)<|ai<|ae<|aS<|ay<| ?_
  exact c9 trivial rfl rfl rfl [] rfl [] rfl ⟨rfl,rfl,rfl⟩
 ·refine cg (o:=_) rfl rfl rfl (fun _=>aa rfl)<|cg (o:=_) rfl rfl rfl (fun _=>aN rfl rfl Tryz.underlying27 dB hA_r (show((0:Nat):Int)=0 from rfl) (by omega))<|cg (o:=_) rfl rfl rfl (fun m=>aq rfl iv ((m.rd 0 rfl).cell (bB (by omega))))<|cg (o:=_) rfl rfl rfl (fun _=>dF rfl rfl)<|hy (fun _=>bn rfl rfl)<|hy (fun _=>aa rfl)<| ?_
  refine fe 15 rfl (fun h2=> ?_) (fun h2=> ?_)
  ·rw[j8 (.inr (.inl (fun e=>h2 (by rw[e];rfl))))]
   refine a7 rfl rfl rfl (by decide)<|a7 rfl rfl rfl (by decide)<|a7 rfl rfl rfl (by decide)<|a7 rfl rfl rfl (by decide)<|hy (fun _=>bM rfl rfl)<|ai<|al (ρ' :=[(20,_),(3,_),(2,_),(0,_)]) ⟨rfl,rfl,rfl,rfl,trivial⟩<|ae<| ?_
   refine gS rfl (rfl) ?_
   refine ah<|aj<|hy (fun _=>ab rfl)<|hy (fun _=>ab rfl)<|ai<|ae<|aS<|ay<| ?_
   exact c9 trivial rfl rfl rfl [] rfl [] rfl ⟨rfl,rfl,rfl⟩
  ·refine cg (o:=_) rfl rfl rfl (fun _=>aa rfl)<|cg (o:=_) rfl rfl rfl (fun _=>aN rfl rfl Tryz.underlying27 dB hA_r (show((1:Nat):Int)=1 from rfl) (by omega))<|cg (o:=_) rfl rfl rfl (fun m=>aq rfl iv ((m.rd 0 rfl).cell (bB (by omega))))<|cg (o:=_) rfl rfl rfl (fun _=>cy rfl rfl)<|hy (fun _=>bn rfl rfl)<|ai<|al (ρ' :=[(20,_),(3,_),(2,_),(0,_)]) ⟨rfl,rfl,rfl,rfl,trivial⟩<|ae<| ?_
   refine cj rfl (fun h3=> ?_) (fun h3=> ?_)
   ·rw[j8 (.inr (.inr (by omega)))]
    refine ah<|aj<|hy (fun _=>ab rfl)<|hy (fun _=>ab rfl)<|ai<|ae<|aS<|ay<| ?_
    exact c9 trivial rfl rfl rfl [] rfl [] rfl ⟨rfl,rfl,rfl⟩
   ·have h2' :f.getD 0 0=76:=UInt8.toNat_inj.1 (by have:=Decidable.not_not.1 h2;show _=76;omega)
    rw[wK (by rintro(q|q|q);omega;exact q h2';omega)]
    refine aB<|ae<|ah<|aj<|hy (fun _=>ab rfl)<|ai<|ae<|ah<|ah<|aj<|hy (fun _=>ab rfl)<|ai<|ae<|aK<| ?_
    refine dH (fun j=>4-j) (fun j=>[(4,.int .i64 ((acc ((f.drop 2).take 4) j:Nat):Int)),(5,.int .i64 (5-(j:Int)))]) (fun j=>[]) (fun j=>[]) (fun j=>j≤4) 0 [(20,_),(3,_),(2,_),(0,_)] ⟨rfl,rfl,rfl,rfl,trivial⟩ [] rfl [] rfl (Nat.zero_le _) ⟨rfl,rfl,trivial⟩ (fun j hI=> ?_)
    refine ah<|ah<|aj<|hy (fun _=>aa rfl)<|hy (fun _=>cy rfl rfl)<|ai<|al (ρ' :=[(22,_),(4,_),(5,_),(20,_),(3,_),(2,_),(0,_)]) ⟨rfl,rfl,rfl,rfl,rfl,rfl,rfl,trivial⟩<|ae<| ?_
    refine cj rfl (fun hj=> ?_) (fun hj=> ?_)
    ·have hl4:((f.drop 2).take 4).length=4:=by rw[List.length_take,List.length_drop];omega
     have hac:=Dz ((f.drop 2).take 4) (show j≤4 by omega)
     have hby:(((f.drop 2).take 4).getD (3-j) 0).toNat<256:=UInt8.toNat_lt _
     have hget:f.getD (5-j) 0=((f.drop 2).take 4).getD (3-j) 0:=by
      simp only[List.getD,List.getElem?_take,List.getElem?_drop]
      rw[if_pos (by omega),show 2+(3-j)=5-j by omega]
     refine aB<|ae<|ah<|aK<|aj<|hy (fun _=>aa rfl)<|hy (fun _=>vd (p:=256) rfl rfl (by decide) (by decide) (by decide) (bx (by omega) (by omega)))<|hy (fun _=>aa rfl)<|hy (fun _=>aa rfl)<|hy (fun _=>aN rfl rfl Tryz.underlying27 dB hA_r (show((5-j:Nat):Int)=_ by omega) (by omega))<|hy (fun m=>yV (aq rfl iv ((m.rd 0 rfl).cell (bB (by omega)))) ((show B8 (f.getD (5-j) 0)=B8 (((f.drop 2).take 4).getD (3-j) 0) by rw[hget])))<|hy (fun _=>bS rfl Tryz.underlying5 Tryz.underlying3 (zX _))<|hy (fun _=>fU (by simp) rfl rfl (AW _ _ hac hby))<|hy (fun _=>ab rfl)<|ai<|al (ρ' :=[(4,_),(22,_),(5,_),(20,_),(3,_),(2,_),(0,_)]) ⟨rfl,rfl,rfl,rfl,rfl,rfl,rfl,trivial⟩<|aR<|ae<|aj<|hy (fun _=>aa rfl)<|hy (fun _=>yV (ca rfl rfl (bx (by omega) (by omega))) ((show Value.int .i64 ((5-(j:Int))-1)= .int .i64 (5-((j+1:Nat):Int)) by congr 1;omega)))<|hy (fun _=>ab rfl)<|ai<|al (ρ' :=[(5,_),(4,_),(22,_),(20,_),(3,_),(2,_),(0,_)]) ⟨rfl,rfl,rfl,rfl,rfl,rfl,rfl,trivial⟩<| ?_
     refine cJ (j+1) ⟨rfl,rfl,rfl,rfl,rfl,rfl,trivial⟩ [] rfl [0] rfl (by omega) (by omega)
    ·obtain rfl:j=4:=by omega
     have e4:acc ((f.drop 2).take 4) 4=nS (f.drop 2):=by
      rw[GL]
      have hx:∀q:Nat,q<4→((f.drop 2).take 4).getD q 0=(f.drop 2).getD q 0:=fun q hq=>by simp only[List.getD,List.getElem?_take,if_pos hq]
      unfold nS
      rw[hx 0 (by decide),hx 1 (by decide),hx 2 (by decide),hx 3 (by decide)]
     rw[e4]
     refine bK<|ao<|ao<|aC<|ae<|ah<|aj<|hy (fun _=>aa rfl)<|hy (fun _=>ab rfl)<|hy (fun _=>ab rfl)<|ai<|al (ρ' :=[(3,_),(2,_),(22,_),(4,_),(5,_),(20,_),(0,_)]) ⟨rfl,rfl,rfl,rfl,rfl,rfl,rfl,trivial⟩<|ae<|aS<| ?_
     exact c9 trivial rfl rfl rfl [] rfl [] rfl ⟨rfl,rfl,rfl⟩
theorem Bk{A:Option Addr}{n c:Nat}{f:List UInt8}(hc:n≤c)(hn:n≤1000000000)(hl:f.length=n):b6 Tryz.prog 213 [.slice A n c] [] [cn 1 A n (aP f)] (fun v_ X_ S_=>v_=(.bool (decide ((gD f).isSome∧f.getD 1 0=1)))∧X_=[]∧S_=[]):=by
 refine aI (N:=18) Tryz.func213 rfl rfl (by simp) fun b=> ?_
 refine aU (fun m=>eb (m.rd 0 rfl)) ?_
 rintro⟨hl_r,hA_r⟩
 refine ah<|aj<|hy (fun _=>ab rfl)<|ai<|ae<|ah<|aj<|hy (fun _=>aa rfl)<| ?_
 refine hx (au rfl Tryz.call211 (rI (by omega) (by omega) (by omega)) [] rfl [0] rfl ?_)
 rintro _ _ _ ⟨rfl,rfl,rfl⟩
 refine hy (fun _=>aa rfl)<|hy (fun _=>aH rfl rfl)<|hy (fun _=>aH rfl rfl)<|hy (fun _=>ab rfl)<|hy (fun _=>ab rfl)<|ai<|al (ρ' :=[(4,_),(2,_),(0,_)]) ⟨rfl,rfl,rfl,trivial⟩<|ak (X' :=[]) (S' :=[_]) (fun _ m=>m)<|ae<|ah<|aj<|hy (fun _=>aa rfl)<|hy (fun _=>cm rfl rfl)<|hy (fun _=>aa rfl)<| ?_
 refine fe 12 rfl (fun hs=> ?_) (fun hs=> ?_)
 ·have hs1:(gD f).isSome=true:=by
   cases h:(gD f).isSome with
   |true=>rfl
   |false=>rw[h]at hs;exact absurd hs (by decide)
  have hn10:¬n<10:=fun h=>by rw[j8 (.inl (by omega))]at hs1;cases hs1
  have hd:decide ((gD f).isSome∧f.getD 1 0=1)=decide (((f.getD 1 0).toNat:Int)=1):=decide_eq_decide.2 ⟨fun h=>by rw[h.2];rfl,fun h=>⟨hs1,UInt8.toNat_inj.1 (by show _=1;omega)⟩⟩
  rw[hd]
  refine cg (o:=_) rfl rfl rfl (fun _=>aa rfl)<|cg (o:=_) rfl rfl rfl (fun _=>aN rfl rfl Tryz.underlying27 dB hA_r (show((1:Nat):Int)=1 from rfl) (by omega))<|cg (o:=_) rfl rfl rfl (fun m=>aq rfl iv ((m.rd 0 rfl).cell (bB (by omega))))<|cg (o:=_) rfl rfl rfl (fun _=>cm rfl rfl)<|hy (fun _=>bM rfl rfl)<|hy (fun _=>ab rfl)<|ai<|al (ρ' :=[(2,_),(4,_),(0,_)]) ⟨rfl,rfl,rfl,trivial⟩<|ae<|aS<| ?_
  exact a6 trivial rfl rfl [] rfl [] rfl ⟨rfl,rfl,rfl⟩
 ·have hd:decide ((gD f).isSome∧f.getD 1 0=1)=false:=decide_eq_false fun h=>hs (by rw[h.1];rfl)
  rw[hd]
  refine a7 rfl rfl rfl (by decide)<|a7 rfl rfl rfl (by decide)<|a7 rfl rfl rfl (by decide)<|a7 rfl rfl rfl (by decide)<|hy (fun _=>bn rfl rfl)<|hy (fun _=>ab rfl)<|ai<|al (ρ' :=[(2,_),(4,_),(0,_)]) ⟨rfl,rfl,rfl,trivial⟩<|ae<|aS<| ?_
  exact a6 trivial rfl rfl [] rfl [] rfl ⟨rfl,rfl,rfl⟩
end Go.Proofs.YtmibdabdlgmafaaGreatDoor
end
section
set_option maxRecDepth 20000
set_option maxHeartbeats 2000000
namespace Go.Proofs.YtmibdabdlgmafaaGreatDoor
open Go.Eng Go.Hx
theorem FC{v:Value}(h:v.oneCell' =true:=by rfl):∀u∈ [v],u.oneCell' =true:=fun u hu=>by rw[List.mem_singleton.1 hu];exact h
theorem nH{q:Bool}{e:Int}:DL Tryz.prog 212 [.bool q,.int .i64 e] [] [] (fun v_ X_ S_=>v_=(.tuple #[])∧X_=[]∧S_=[]∧(q=true)) (fun v_ X_ S_=>v_=(.iface 288 (.agg #[.int .i64 e]))∧X_=[]∧S_=[]∧(q=false)):=by
 refine BW (N:=9) Tryz.func212 rfl rfl (by simp) fun b=> ?_
 refine ah<|aj<|hy (fun _=>aa rfl)<|hy (fun _=>(nR rfl))<|ai<|al (ρ' :=[(5,_),(0,_),(1,_)]) ⟨rfl,rfl,rfl,trivial⟩<|ae<| ?_
 refine CI rfl (fun hq=> ?_) (fun hq=> ?_)
 ·refine aj<|hy (fun _=>aa rfl)<|hy (fun _=>bQ uZ rfl rfl (by kernel_rfl) (.cons (o:=0) (sz:=1) (by kernel_rfl) rfl rfl (Nat.le_of_ble_eq_true rfl) .nil))<|hy (fun _=>pU rfl Tryz.underlying288 (fun _ h=>by cases h))<| ?_
  refine cx (xk rfl ?_)
  exact FY [] rfl [] rfl ⟨rfl,rfl,rfl,(by simpa using hq)⟩
 ·refine aB<| ?_
  refine Ga ?_
  exact fa trivial rfl [] rfl [] rfl ⟨rfl,rfl,rfl,(by simpa using hq)⟩
theorem fq{g4 g5:Nat}{v:Value}{e0 e:Int}:Bw Tryz.prog 210 [.pointer (some ⟨g4,0,none⟩),.pointer (some ⟨g5,0,none⟩)] (.panicking (E5 (.iface 288 (.agg #[.int .i64 e])))) [aE g4 27 [v],aE g5 47 [.int .i64 e0]] [] (fun u_ X_ S_=>u_= .returning∧X_=[aE g4 27 [.slice none 0 0],aE g5 47 [.int .i64 e]]∧S_=[]):=by
 refine vV (N:=12) Tryz.func210 rfl rfl (by simp) fun b c_0 cs_ hu_=> ?_
 show tK _ _ _ _ _ [0,1,2,3,4,5,6,7] _ _ _ _ _
 refine BV rfl hu_ ?_
 refine kM rfl (fun _=>qu rfl (yU Tryz.underlying288))<|kM rfl (fun _=>aa rfl)<|kM rfl (fun _=>aH rfl rfl)<|kM rfl (fun _=>aH rfl rfl)<| ?_
 refine Cw rfl (bh uZ (fun g2=> ?_))
 refine yC rfl (a8 0 rfl rfl rfl Cs rfl FC rfl ?_)
 refine CD (fun w m=>m.bs 0 rfl (show _=aE g2 288 [.int .i64 e]from rfl)) ?_
 refine kM rfl (fun _=>ab rfl)<|tF<|bd (X' :=[_,_,_]) (S' :=[]) (fun _ m=>m)<|ah<|aj<|hy (fun _=>aa rfl)<|ai<|al (ρ' :=[(9,_),(3,_),(2,_),(0,_),(1,_)]) ⟨rfl,rfl,rfl,rfl,rfl,trivial⟩<|ae<| ?_
 refine gS rfl (rfl) ?_
 refine pg [0] [] rfl rfl [2,3] [(0,some 1),(1,some 1),(2,none),(3,none)] (by kernel_rfl) (by kernel_rfl) rfl 99<|an (aD rfl AS (by decide))<|b5 (fun m=>aq rfl kC (ax (m.aQ 0 rfl) (i:=0) rfl))<| ?_
 refine fS (c5 1 rfl rfl rfl jk rfl (by first|exact Nat.le_of_ble_eq_true rfl|simp) ⟨(fun _=>wk [1] [] rfl rfl), ?_⟩)
 refine fS (c5 2 rfl rfl rfl wg rfl (by first|exact Nat.le_of_ble_eq_true rfl|simp) ⟨(fun _=>wk [2] [] rfl rfl), ?_⟩)
 refine bo<|al (ρ' :=[(9,_),(3,_),(2,_),(0,_),(1,_)]) ⟨rfl,rfl,rfl,rfl,rfl,trivial⟩<|ak (X' :=[_,_,_]) (S' :=[]) (fun _ m=>m)<| ?_
 exact fa trivial rfl [1,0] rfl [] rfl ⟨rfl,rfl,rfl,rfl⟩
theorem r6{g4 g5:Nat}{v:Value}{e:Int}:Bw Tryz.prog 210 [.pointer (some ⟨g4,0,none⟩),.pointer (some ⟨g5,0,none⟩)] .returning [aE g4 27 [v],aE g5 47 [.int .i64 e]] [] (fun u_ X_ S_=>u_= .returning∧X_=[aE g4 27 [v],aE g5 47 [.int .i64 e]]∧S_=[]):=by
 refine vV (N:=12) Tryz.func210 rfl rfl (by simp) fun b c_0 cs_ hu_=> ?_
 show tK _ _ _ _ _ [0,1,2,3,4,5,6,7] _ _ _ _ _
 refine zu rfl hu_ ?_
 refine kM rfl (fun _=>qu rfl (xU Tryz.underlying288 uZ))<|kM rfl (fun _=>aa rfl)<|kM rfl (fun _=>aH rfl rfl)<|kM rfl (fun _=>aH rfl rfl)<| ?_
 refine Cw rfl (bh uZ (fun g2=> ?_))
 refine yC rfl (a8 0 rfl rfl rfl Cs rfl FC rfl ?_)
 refine kM rfl (fun _=>ab rfl)<|tF<|bd (X' :=[_,_,_]) (S' :=[]) (fun _ m=>m)<|ah<|aj<|hy (fun _=>aa rfl)<|ai<|al (ρ' :=[(9,_),(3,_),(2,_),(0,_),(1,_)]) ⟨rfl,rfl,rfl,rfl,rfl,trivial⟩<|ae<| ?_
 refine dj rfl (rfl) ?_
 refine aB<| ?_
 exact fa trivial rfl [1,1] rfl [] rfl ⟨rfl,rfl,rfl,rfl⟩
end Go.Proofs.YtmibdabdlgmafaaGreatDoor
end
section
set_option maxRecDepth 20000
set_option maxHeartbeats 2000000
namespace Go.Proofs.YtmibdabdlgmafaaGreatDoor
open Go.Eng Go.Hx
theorem DE{A:Option Addr}{n c:Nat}{l:List UInt8}(h0:0<n)(hn:n≤140737488351232):b6 Tryz.prog 257 [.slice A n c] [] [cn 1 A n (aP l)] (fun v_ X_ S_=>v_=(.tuple #[.int .i64 ((cz l).1:Nat),.int .i64 ((cz l).2.1:Nat),.int .i64 ((cz l).2.2.1:Nat),.bool (cz l).2.2.2])∧X_=[]∧S_=[]):=by
 have b0:=(l.getD 0 0).toNat_lt
 have b1:=(l.getD 1 0).toNat_lt
 have b2:=(l.getD 2 0).toNat_lt
 refine aI (N:=39) Tryz.func257 rfl rfl (by simp) fun b=> ?_
 refine aU (fun m=>eb (m.rd 0 rfl)) ?_
 rintro⟨hl_r,hA_r⟩
 refine ah<|aj<|hy (fun _=>ab rfl)<|hy (fun _=>ab rfl)<|hy (fun _=>ab rfl)<|hy (fun _=>ab rfl)<|ai<|ae<|ah<|aj<|hy (fun _=>aa rfl)<|hy (fun _=>aN rfl rfl Tryz.underlying27 dB hA_r (show((0:Nat):Int)=0 from rfl) (by omega))<|hy (fun m=>aq rfl iv ((m.rd 0 rfl).cell (bB (by omega))))<|hy (fun _=>bS rfl Tryz.underlying5 Tryz.underlying3 (bx (by omega) (by omega)))<|hy (fun _=>ab rfl)<|ai<|al (ρ' :=[(6,_),(5,_),(4,_),(3,_),(2,_),(0,_)]) ⟨rfl,rfl,rfl,rfl,rfl,rfl,trivial⟩<|ae<|ah<|ah<|aj<|hy (fun _=>aa rfl)<|hy (fun _=>bC rfl rfl)<|ai<|al (ρ' :=[(12,_),(6,_),(5,_),(4,_),(3,_),(2,_),(0,_)]) ⟨rfl,rfl,rfl,rfl,rfl,rfl,rfl,trivial⟩<|ae<| ?_
 refine cj rfl (fun h1=> ?_) (fun h1=> ?_)
 ·have e:cz l=((l.getD 0 0).toNat+2,(l.getD 0 0).toNat+1,0,decide ((l.getD 0 0).toNat+2≤l.length)):=by rw[cz,if_pos (by omega)]
  rw[e]
  refine ah<|aj<|hy (fun _=>aa rfl)<|hy (fun _=>aL rfl rfl (bx (by omega) (by omega)))<|hy (fun _=>aa rfl)<|hy (fun _=>aL rfl rfl (bx (by omega) (by omega)))<|hy (fun _=>aa rfl)<|hy (fun _=>aT rfl Tryz.underlying27)<|hy (fun _=>aa rfl)<|hy (fun _=>aL rfl rfl (bx (by omega) (by omega)))<|hy (fun _=>yV (ec rfl rfl) ((congrArg Value.bool (decide_eq_decide.2 (by omega)):Value.bool (decide ((n:Int)≥((l.getD 0 0).toNat:Int)+2))= .bool (decide ((l.getD 0 0).toNat+2≤l.length)))))<|hy (fun _=>ab rfl)<|hy (fun _=>ab rfl)<|hy (fun _=>ab rfl)<|hy (fun _=>ab rfl)<|ai<|al (ρ' :=[(5,_),(4,_),(3,_),(2,_),(12,_),(6,_),(0,_)]) ⟨rfl,rfl,rfl,rfl,rfl,rfl,rfl,trivial⟩<|ae<|aS<|ay<| ?_
  exact zc trivial rfl rfl rfl rfl rfl [] rfl [] rfl ⟨rfl,rfl,rfl⟩
 ·refine aB<|ae<|ah<|ah<|aj<|hy (fun _=>aa rfl)<|hy (fun _=>aT rfl Tryz.underlying27)<|hy (fun _=>bC rfl rfl)<|ai<|al (ρ' :=[(24,_),(12,_),(6,_),(5,_),(4,_),(3,_),(2,_),(0,_)]) ⟨rfl,rfl,rfl,rfl,rfl,rfl,rfl,rfl,trivial⟩<|ae<| ?_
  refine cj rfl (fun h3=> ?_) (fun h3=> ?_)
  ·have e:cz l=(0,0,0,false):=by rw[cz,if_neg (by omega),if_pos (by omega)]
   rw[e]
   refine ah<|aj<|hy (fun _=>ab rfl)<|hy (fun _=>ab rfl)<|hy (fun _=>ab rfl)<|hy (fun _=>ab rfl)<|ai<|ae<|aS<|ay<| ?_
   exact zc trivial rfl rfl rfl rfl rfl [] rfl [] rfl ⟨rfl,rfl,rfl⟩
  ·have e:cz l=(3,(l.getD 0 0).toNat-124,1+(l.getD 1 0).toNat+256*(l.getD 2 0).toNat,true):=by rw[cz,if_neg (by omega),if_neg (by omega)]
   rw[e]
   refine aB<|ae<|ah<|cu [] [(0,some 0),(1,some 0),(2,some 0),(3,some 0),(4,some 0),(5,some 0),(6,some 0),(7,some 0),(8,some 0),(9,some 0),(10,some 0),(11,some 0),(12,some 0),(13,some 0),(14,some 0),(15,some 0),(16,some 0),(17,some 0)] (by kernel_rfl) (by kernel_rfl) rfl 99<|an (aa rfl)<|an (ca rfl rfl (bx (by omega) (by omega)))<|an (yV (aL rfl rfl (bx (by omega) (by omega))) ((show Value.int .i64 (((l.getD 0 0).toNat:Int)-128+4)= .int .i64 (((l.getD 0 0).toNat-124:Nat):Int) by congr 1;omega)))<|an (aa rfl)<|an (aN rfl rfl Tryz.underlying27 dB hA_r (show((1:Nat):Int)=1 from rfl) (by omega))<|b5 (fun m=>aq rfl iv ((m.rd 0 rfl).cell (bB (by omega))))<|an (bS rfl Tryz.underlying5 Tryz.underlying3 (bx (by omega) (by omega)))<|an (aL rfl rfl (bx (by omega) (by omega)))<|an (aa rfl)<|an (aN rfl rfl Tryz.underlying27 dB hA_r (show((2:Nat):Int)=2 from rfl) (by omega))<|b5 (fun m=>aq rfl iv ((m.rd 0 rfl).cell (bB (by omega))))<|an (bS rfl Tryz.underlying5 Tryz.underlying3 (bx (by omega) (by omega)))<|an (vd (p:=256) rfl rfl (by decide) (by decide) (by decide) (bx (by omega) (by omega)))<|an (yV (aL rfl rfl (bx (by omega) (by omega))) ((show Value.int .i64 (1+((l.getD 1 0).toNat:Int)+((l.getD 2 0).toNat:Int)*256)= .int .i64 ((1+(l.getD 1 0).toNat+256*(l.getD 2 0).toNat:Nat):Int) by congr 1;omega)))<|an (ab rfl)<|an (ab rfl)<|an (ab rfl)<|an (ab rfl)<|bo<|al (ρ' :=[(5,_),(4,_),(3,_),(2,_),(24,_),(12,_),(6,_),(0,_)]) ⟨rfl,rfl,rfl,rfl,rfl,rfl,rfl,rfl,trivial⟩<|ae<|aS<| ?_
   exact zc trivial rfl rfl rfl rfl rfl [] rfl [] rfl ⟨rfl,rfl,rfl⟩
theorem Az{A:Option Addr}{c:Nat}{l:List UInt8}{z:Int}(hc:l.length≤c)(hn:l.length≤10000000)(hz:z≤10000000):b6 Tryz.prog 214 [.slice A l.length c,.int .i64 z] [] [cn 1 A l.length (aP l)] (fun v_ X_ S_=>∃v,v_=(.tuple #[v,.int .i64 (kj z l []).2])∧X_=[aF 5 1 v (kj z l []).1.length (aP (kj z l []).1)]∧S_=[]):=by
 refine aI (N:=66) Tryz.func214 rfl rfl (by simp) fun b=> ?_
 refine aU (fun m=>eb (m.rd 0 rfl)) ?_
 rintro⟨hl_r,hA_r⟩
 refine ah<|aj<|hy (fun _=>ab rfl)<|hy (fun _=>ab rfl)<|ai<|ae<|ah<|aj<|hy (fun _=>ab rfl)<|ai<|ae<|ah<|aK<| ?_
 refine bd (fun w m=>m.cI (r' :=aF 5 1 (.slice none 0 0) 0 []) (.refl _ _) (Own.nil _ _ _ _) (fun k hk=>hk.elim)) ?_
 refine uf (fun p o A2 c2 A3 c3=>p.length) (fun p o A2 c2 A3 c3=>[(0,.slice A2 p.length c2),(6,.slice A3 o.length c3)]) (fun p o A2 c2 A3 c3=>[aF 5 1 (.slice A3 o.length c3) o.length (aP o)]) (fun p o A2 c2 A3 c3=>[cn 1 A2 p.length (aP p)]) (fun p o A2 c2 A3 c3=>p.length≤c2∧p.length≤10000000∧o.length≤10000000∧kj z p o=kj z l []) l [] A c none 0 [(1,_)] ⟨rfl,trivial⟩ [0] rfl [0] rfl (⟨hc,hn,by decide,rfl⟩) ⟨rfl,rfl,trivial⟩ (fun p o A2 c2 A3 c3 ⟨hpc,hpn,hon,hU⟩=> ?_)
 refine ah<|ah<|aj<|hy (fun _=>aa rfl)<|hy (fun _=>aT rfl Tryz.underlying27)<|hy (fun _=>cy rfl rfl)<|ai<|al (ρ' :=[(14,_),(0,_),(6,_),(1,_)]) ⟨rfl,rfl,rfl,rfl,trivial⟩<|ae<| ?_
 refine cj rfl (fun hlt=> ?_) (fun hlt=> ?_)
 ·have hp0:p≠ []:=fun e=>by rw[e]at hlt;exact absurd hlt (by decide)
  obtain⟨ht1,ht2⟩:=CE p
  refine aB<|ae<|aK<|ah<|aj<|hy (fun _=>aa rfl)<| ?_
  refine hx (au rfl Tryz.call257 (DE (by omega) (by omega)) [] rfl [0] rfl ?_)
  rintro _ _ _ ⟨rfl,rfl,rfl⟩
  refine hy (fun _=>aa rfl)<|hy (fun _=>aH rfl rfl)<|hy (fun _=>aH rfl rfl)<|hy (fun _=>aH rfl rfl)<|hy (fun _=>aH rfl rfl)<|hy (fun _=>ab rfl)<|hy (fun _=>ab rfl)<|hy (fun _=>ab rfl)<|hy (fun _=>ab rfl)<|ai<|al (ρ' :=[(10,_),(9,_),(8,_),(7,_),(14,_),(0,_),(6,_),(1,_)]) ⟨rfl,rfl,rfl,rfl,rfl,rfl,rfl,rfl,trivial⟩<|ak (X' :=[_]) (S' :=[_,_]) (fun _ m=>m)<|ae<|ah<|ah<|aj<|hy (fun _=>aa rfl)<|hy (fun _=>(nR rfl))<|hy (fun _=>aa rfl)<| ?_
  refine BS 24 rfl (fun hw=> ?_) (fun hw=> ?_)
  ·rw[j7 hp0 (fun h=>by rw[h.1]at hw;cases hw)]at hU
   rw[←hU]
   refine a7 rfl rfl rfl (by decide)<|a7 rfl rfl rfl (by decide)<|a7 rfl rfl rfl (by decide)<|a7 rfl rfl rfl (by decide)<|hy (fun _=>bM rfl rfl)<|ai<|al (ρ' :=[(29,_),(10,_),(9,_),(8,_),(7,_),(14,_),(0,_),(6,_),(1,_)]) ⟨rfl,rfl,rfl,rfl,rfl,rfl,rfl,rfl,rfl,trivial⟩<|ae<| ?_
   refine gS rfl (rfl) ?_
   refine ah<|aj<|hy (fun _=>ab rfl)<|hy (fun _=>ab rfl)<|ai<|ae<|aS<|ay<|bf<|ay<|bf<|ay<| ?_
   refine ak (fun w m=>m.cI (r' :=aF 5 1 (.slice none 0 0) 0 []) (.refl _ _) (Own.nil _ _ _ _) (fun k hk=>hk.elim)) ?_
   exact c9 trivial rfl rfl rfl [0] rfl [] rfl ⟨_,rfl,rfl,rfl⟩
  ·have hw1:(cz p).2.2.2=true:=by simpa using hw
   refine cg (o:=_) rfl rfl rfl (fun _=>aa rfl)<|cg (o:=_) rfl rfl rfl (fun _=>aa rfl)<|cg (o:=_) rfl rfl rfl (fun _=>aT rfl Tryz.underlying27)<|cg (o:=_) rfl rfl rfl (fun _=>cy rfl rfl)<|hy (fun _=>bn rfl rfl)<|ai<|al (ρ' :=[(29,_),(10,_),(9,_),(8,_),(7,_),(14,_),(0,_),(6,_),(1,_)]) ⟨rfl,rfl,rfl,rfl,rfl,rfl,rfl,rfl,rfl,trivial⟩<|ae<| ?_
   refine cj rfl (fun hd=> ?_) (fun hd=> ?_)
   ·rw[j7 hp0 (fun h=>by omega)]at hU
    rw[←hU]
    refine ah<|aj<|hy (fun _=>ab rfl)<|hy (fun _=>ab rfl)<|ai<|ae<|aS<|ay<|bf<|ay<|bf<|ay<| ?_
    refine ak (fun w m=>m.cI (r' :=aF 5 1 (.slice none 0 0) 0 []) (.refl _ _) (Own.nil _ _ _ _) (fun k hk=>hk.elim)) ?_
    exact c9 trivial rfl rfl rfl [0] rfl [] rfl ⟨_,rfl,rfl,rfl⟩
   ·have hd1:(cz p).2.2.1≤o.length:=by omega
    refine aB<|ae<|ah<|ah<|aj<|hy (fun _=>aa rfl)<|hy (fun _=>aT rfl Tryz.underlying27)<|hy (fun _=>aa rfl)<|hy (fun _=>aL rfl rfl (bx (by omega) (by omega)))<|hy (fun _=>aa rfl)<|hy (fun _=>cy rfl rfl)<|ai<|al (ρ' :=[(35,_),(29,_),(10,_),(9,_),(8,_),(7,_),(14,_),(0,_),(6,_),(1,_)]) ⟨rfl,rfl,rfl,rfl,rfl,rfl,rfl,rfl,rfl,rfl,trivial⟩<|ae<| ?_
    refine cj rfl (fun hm=> ?_) (fun hm=> ?_)
    ·rw[oa hp0 hw1 hd1 (by omega)]at hU
     rw[←hU]
     refine ah<|aj<|hy (fun _=>ab rfl)<|hy (fun _=>ab rfl)<|ai<|ae<|aS<|ay<|bf<|ay<|bf<|ay<| ?_
     refine ak (fun w m=>m.cI (r' :=aF 5 1 (.slice none 0 0) 0 []) (.refl _ _) (Own.nil _ _ _ _) (fun k hk=>hk.elim)) ?_
     exact c9 trivial rfl rfl rfl [0] rfl [] rfl ⟨_,rfl,rfl,rfl⟩
    ·rw[rm hp0 hw1 hd1 (by omega)]at hU
     obtain⟨hs2,hs3⟩:=ky hw1
     have hml:=nz (o:=o) hw1
     have hmn:(made p o).length≤10000000:=by omega
     have hdl:p.length-(cz p).1=(p.drop (cz p).1).length:=by rw[List.length_drop]
     generalize hsz:(cz p).1=sz at hs2 hs3 hU hdl ⊢
     refine aB<|ae<|ah<|ah<|aj<|hy (fun _=>aa rfl)<|hy (fun _=>cm rfl rfl)<|ai<|al (ρ' :=[(37,_),(35,_),(29,_),(10,_),(9,_),(8,_),(7,_),(14,_),(0,_),(6,_),(1,_)]) ⟨rfl,rfl,rfl,rfl,rfl,rfl,rfl,rfl,rfl,rfl,rfl,trivial⟩<|ae<| ?_
     refine cj rfl (fun hz0=> ?_) (fun hz0=> ?_)
     ·have hd0:(cz p).2.2.1=0:=by omega
      have hma:made p o=o++(p.drop 1).take (sz-1):=by rw[made,if_pos hd0,hsz]
      refine bd (fun w m=>m.fp 0 rfl (View.sub (n:=p.length) (c:=c2) (k:=1) (m:=sz-1) (by omega) (by omega))) ?_
      refine aU (fun m=>eb (m.rd 0 rfl)) ?_
      rintro⟨hl_q,hA_q⟩
      refine aj<|hy (fun _=>aa rfl)<|hy (fun _=>aa rfl)<|hy (fun _=>aa rfl)<|hy (fun _=>ef rfl rfl rfl Tryz.underlying27 dB (show((1:Nat):Int)=1 from rfl) (rfl:((sz:Nat):Int)=_) (by omega) (by omega))<| ?_
      refine hx (bw 0 rfl rfl rfl Tryz.underlying27 Tryz.underlying27 (by exact .inl rfl) eA rfl (fun m=>Src.bW (m.rd 0 rfl)) bg (by unfold maxLen;omega) (by omega) (fun u=> ?_))
      refine aA (fun m=>(m.own 0 rfl).slice) ?_
      rintro⟨A_x,c_x,rfl,hc_x⟩
      refine aA (fun m=>(m.ord 0 rfl).2.1) fun hA_x=> ?_
      have hlm:o.length+(sz-1)=(made p o).length:=by rw[hma,List.length_append,List.length_take,List.length_drop];omega
      rw[hlm]at hc_x hA_x ⊢
      refine aG (fun w m=>m.bs 0 rfl (show _=aF 5 1 (.slice A_x (made p o).length c_x) (made p o).length (aP (made p o))from congrArg (aF _ _ _ _) (by rw[hma,bz]))) ?_
      refine hy (fun _=>ab rfl)<|ai<|al (ρ' :=[(6,_),(37,_),(35,_),(29,_),(10,_),(9,_),(8,_),(7,_),(14,_),(0,_),(1,_)]) ⟨rfl,rfl,rfl,rfl,rfl,rfl,rfl,rfl,rfl,rfl,rfl,trivial⟩<|ak (X' :=[_]) (S' :=[_,_,_]) (fun _ m=>m)<|ae<|ah<|ah<|aj<|hy (fun _=>ab rfl)<|ai<|ae<|aK<| ?_
      refine dH (fun k2=>1) (fun k2=>[(11,.int .i64 (k2:Nat)),(6,.slice A_x (made p o).length c_x)]) (fun k2=>[aF 5 1 (.slice A_x (made p o).length c_x) (made p o).length (aP (made p o))]) (fun k2=>[]) (fun k2=>True) 0 [(37,_),(35,_),(29,_),(10,_),(9,_),(8,_),(7,_),(14,_),(0,_),(1,_)] ⟨rfl,rfl,rfl,rfl,rfl,rfl,rfl,rfl,rfl,rfl,trivial⟩ [0] rfl [] rfl (trivial) ⟨rfl,rfl,trivial⟩ (fun k2 _=> ?_)
      refine ah<|ah<|aj<|hy (fun _=>aa rfl)<|hy (fun _=>yF (cy rfl rfl) ((decide_eq_false (by omega))))<|hy (fun _=>aa rfl)<|a7 rfl rfl rfl (by decide)<|a7 rfl rfl rfl (by decide)<|a7 rfl rfl rfl (by decide)<|hy (fun _=>bn rfl rfl)<|ai<|al (ρ' :=[(49,_),(11,_),(6,_),(37,_),(35,_),(29,_),(10,_),(9,_),(8,_),(7,_),(14,_),(0,_),(1,_)]) ⟨rfl,rfl,rfl,rfl,rfl,rfl,rfl,rfl,rfl,rfl,rfl,rfl,rfl,trivial⟩<|ae<| ?_
      refine dj rfl (rfl) ?_
      refine bd (fun w m=>m.fp 1 rfl (View.drop (n:=p.length) (c:=c2) (k:=sz) (by omega) (by omega))) ?_
      refine aU (fun m=>eb (m.rd 0 rfl)) ?_
      rintro⟨hl_p2,hA_p2⟩
      refine bK<|ao<|ao<|aC<|ae<|aj<|hy (fun _=>aa rfl)<|hy (fun _=>aa rfl)<|hy (fun _=>dV rfl rfl Tryz.underlying27 dB rfl (by omega))<|hy (fun _=>ab rfl)<|ai<|al (ρ' :=[(0,_),(49,_),(11,_),(6,_),(37,_),(35,_),(29,_),(10,_),(9,_),(8,_),(7,_),(14,_),(1,_)]) ⟨rfl,rfl,rfl,rfl,rfl,rfl,rfl,rfl,rfl,rfl,rfl,rfl,rfl,trivial⟩<|aR<| ?_
      rw[hdl]
      refine jg (p.drop sz) (made p o) _ (c2-sz) A_x c_x ⟨rfl,rfl,rfl,trivial⟩ [0] rfl [0,3] rfl (⟨by rw[←hdl];omega,by rw[←hdl];omega,hmn,hU⟩) (by rw[←hdl];omega)
     ·have hd0:0<(cz p).2.2.1:=by omega
      have hma:made p o=again (cz p).2.2.1 (cz p).2.1 o:=by rw[made,if_neg (by omega)]
      generalize hdd:(cz p).2.2.1=dd at*
      generalize hnn:(cz p).2.1=nn at*
      refine aB<|ae<|ah<|ah<|aj<|hy (fun _=>ab rfl)<|ai<|ae<|aK<| ?_
      refine ow (fun k2 o2 A4 c4=>nn-k2) (fun k2 o2 A4 c4=>[(11,.int .i64 (k2:Nat)),(6,.slice A4 o2.length c4)]) (fun k2 o2 A4 c4=>[aF 5 1 (.slice A4 o2.length c4) o2.length (aP o2)]) (fun k2 o2 A4 c4=>[]) (fun k2 o2 A4 c4=>k2≤nn∧o2.length=o.length+k2∧again dd (nn-k2) o2=made p o) 0 o A3 c3 [(37,_),(35,_),(29,_),(10,_),(9,_),(8,_),(7,_),(14,_),(0,_),(1,_)] ⟨rfl,rfl,rfl,rfl,rfl,rfl,rfl,rfl,rfl,rfl,trivial⟩ [0] rfl [] rfl (⟨Nat.zero_le _,rfl,hma.symm⟩) ⟨rfl,rfl,trivial⟩ (fun k2 o2 A4 c4 ⟨hk2,ho2,hag⟩=> ?_)
      refine ah<|ah<|aj<|hy (fun _=>aa rfl)<|hy (fun _=>yT (cy rfl rfl) ((decide_eq_true (by omega))))<|hy (fun _=>aa rfl)<|cg (o:=_) rfl rfl rfl (fun _=>aa rfl)<|cg (o:=_) rfl rfl rfl (fun _=>aa rfl)<|cg (o:=_) rfl rfl rfl (fun _=>bC rfl rfl)<|hy (fun _=>bM rfl rfl)<|ai<|al (ρ' :=[(49,_),(11,_),(6,_),(37,_),(35,_),(29,_),(10,_),(9,_),(8,_),(7,_),(14,_),(0,_),(1,_)]) ⟨rfl,rfl,rfl,rfl,rfl,rfl,rfl,rfl,rfl,rfl,rfl,rfl,rfl,trivial⟩<|ae<| ?_
      refine cj rfl (fun hkn=> ?_) (fun hkn=> ?_)
      ·have hag2:again dd (nn-(k2+1)) (o2++[o2.getD (o2.length-dd) 0])=made p o:=by
        rw[←hag,show nn-k2=(nn-(k2+1))+1 by omega]
        rfl
       refine aU (fun m=>(m.ord 0 rfl).2.1) fun hA4=> ?_
       refine aB<|ae<|ah<|aK<|aj<|hy (fun _=>aa rfl)<|hy (fun _=>aa rfl)<|hy (fun _=>aa rfl)<|hy (fun _=>aT rfl Tryz.underlying27)<|hy (fun _=>aa rfl)<|hy (fun _=>ca rfl rfl (bx (by omega) (by omega)))<|hy (fun _=>aN rfl rfl Tryz.underlying27 dB hA4 (show((o2.length-dd:Nat):Int)=_ by omega) (by omega))<|hy (fun m=>aq rfl iv ((m.ord 0 rfl).cell (bB (by omega))))<| ?_
       refine hx (bT Tryz.underlying27 eA rfl rfl rfl (by simp[Value.cells,B8]) (by decide) (by decide) (fun g60=> ?_))
       have hA_b60:0<1→(some (⟨g60,0,none⟩:Addr))≠none:=fun _ h=>by cases h
       refine aG (fun w m=>m.bs 0 rfl (show _=aF 5 1 (.slice (some ⟨g60,0,none⟩) 1 1) 1 (aP [o2.getD (o2.length-dd) 0])from rfl)) ?_
       refine hx (bw 1 rfl rfl rfl Tryz.underlying27 Tryz.underlying27 (by exact .inl rfl) eA rfl (fun m=>Src.bW (m.ord 0 rfl)) bg (by unfold maxLen;omega) (by omega) (fun u=> ?_))
       refine aA (fun m=>(m.own 0 rfl).slice) ?_
       rintro⟨A_x,c_x,rfl,hc_x⟩
       refine aA (fun m=>(m.ord 0 rfl).2.1) fun hA_x=> ?_
       refine aG (fun w m=>m.bs 0 rfl (show _=aF 5 1 (.slice A_x (o2.length+1) c_x) (o2.length+1) (aP (o2++[o2.getD (o2.length-dd) 0]))from congrArg (aF _ _ _ _) (bz _ _).symm)) ?_
       have hl1:o2.length+1=(o2++[o2.getD (o2.length-dd) 0]).length:=by simp
       rw[hl1]at hc_x hA_x ⊢
       refine hy (fun _=>ab rfl)<|ai<|al (ρ' :=[(6,_),(49,_),(11,_),(37,_),(35,_),(29,_),(10,_),(9,_),(8,_),(7,_),(14,_),(0,_),(1,_)]) ⟨rfl,rfl,rfl,rfl,rfl,rfl,rfl,rfl,rfl,rfl,rfl,rfl,rfl,trivial⟩<|ak (X' :=[_,_]) (S' :=[_,_]) (fun _ m=>m)<|aR<|ae<|aj<|hy (fun _=>aa rfl)<|hy (fun _=>aL rfl rfl (bx (by omega) (by omega)))<|hy (fun _=>ab rfl)<|ai<|al (ρ' :=[(11,_),(6,_),(49,_),(37,_),(35,_),(29,_),(10,_),(9,_),(8,_),(7,_),(14,_),(0,_),(1,_)]) ⟨rfl,rfl,rfl,rfl,rfl,rfl,rfl,rfl,rfl,rfl,rfl,rfl,rfl,trivial⟩<| ?_
       refine k6 (k2+1) (o2++[o2.getD (o2.length-dd) 0]) A_x c_x ⟨rfl,rfl,rfl,rfl,rfl,rfl,rfl,rfl,rfl,rfl,rfl,rfl,trivial⟩ [0] rfl [0,1] rfl (⟨by omega,by rw[←hl1];omega,hag2⟩) (by omega)
      ·obtain rfl:k2=nn:=by omega
       have hag2:o2=made p o:=by rw[←hag,Nat.sub_self];rfl
       rw[hag2]
       refine bd (fun w m=>m.fp 0 rfl (View.drop (n:=p.length) (c:=c2) (k:=sz) (by omega) (by omega))) ?_
       refine aU (fun m=>eb (m.rd 0 rfl)) ?_
       rintro⟨hl_p2,hA_p2⟩
       refine bK<|ao<|ao<|aC<|ae<|aj<|hy (fun _=>aa rfl)<|hy (fun _=>aa rfl)<|hy (fun _=>dV rfl rfl Tryz.underlying27 dB rfl (by omega))<|hy (fun _=>ab rfl)<|ai<|al (ρ' :=[(0,_),(49,_),(11,_),(6,_),(37,_),(35,_),(29,_),(10,_),(9,_),(8,_),(7,_),(14,_),(1,_)]) ⟨rfl,rfl,rfl,rfl,rfl,rfl,rfl,rfl,rfl,rfl,rfl,rfl,rfl,trivial⟩<|aR<| ?_
       rw[hdl]
       refine jg (p.drop sz) (made p o) _ (c2-sz) A4 c4 ⟨rfl,rfl,rfl,trivial⟩ [0] rfl [0,2] rfl (⟨by rw[←hdl];omega,by rw[←hdl];omega,hmn,hU⟩) (by rw[←hdl];omega)
 ·have hp0:p=[]:=List.eq_nil_of_length_eq_zero (by omega)
  rw[hp0,rC]at hU
  rw[←hU]
  refine bK<|ao<|ao<|aC<|ae<|ah<|aj<|hy (fun _=>aa rfl)<|hy (fun _=>ab rfl)<|hy (fun _=>ab rfl)<|ai<|al (ρ' :=[(5,_),(4,_),(14,_),(0,_),(6,_),(1,_)]) ⟨rfl,rfl,rfl,rfl,rfl,rfl,trivial⟩<|ae<|aS<| ?_
  exact c9 trivial rfl rfl rfl [0] rfl [] rfl ⟨_,rfl,rfl,rfl⟩
end Go.Proofs.YtmibdabdlgmafaaGreatDoor
end
section
set_option maxRecDepth 20000
set_option maxHeartbeats 4000000
namespace Go.Proofs.YtmibdabdlgmafaaGreatDoor
open Go.Eng Go.Hx
theorem oV{f:List UInt8}{most:Int}(h:gD f=none):cP f most=([],2):=by unfold cP;rw[h]
theorem pM{f:List UInt8}{most:Int}{k:Nat}(h:gD f=some k)(hm:most<(k:Int)):cP f most=([],3):=by unfold cP;rw[h];simp only;rw[if_pos hm]
theorem r5{f:List UInt8}{most:Int}{k:Nat}(h:gD f=some k)(hm:¬most<(k:Int)):cP f most=fK f k:=by unfold cP;rw[h];simp only;rw[if_neg hm]
theorem tG{f:List UInt8}{k:Nat}(h:gD f=some k):10≤f.length∧k<4294967296:=by
 unfold gD at h
 split at h
 ·cases h
 ·rename_i hq
  cases h
  exact⟨by have:¬f.length<10:=fun e=>hq (.inl e);omega,AB _⟩
theorem Fa{A:Option Addr}{c:Nat}{f:List UInt8}{most:Int}(hc:f.length≤c)(hn:f.length≤10000000)(hm:most≤1000000):b6 Tryz.prog 155 [.slice A f.length c,.int .i64 most] [] [cn 1 A f.length (aP f)] (fun v_ X_ S_=>∃v,v_=(.tuple #[v,.int .i64 (cP f most).2])∧X_=[aF 5 1 v (cP f most).1.length (aP (cP f most).1)]∧S_=[]):=by
 refine v8 (N:=54) Tryz.func155 rfl rfl (by simp) fun b=> ?_
 refine aU (fun m=>eb (m.rd 0 rfl)) ?_
 rintro⟨hl_r,hA_r⟩
 refine ah<|aj<| ?_
 refine hx (bh jW (fun g4=> ?_))
 refine aG (fun w m=>m.bs 0 rfl (show _=aE g4 27 [.slice none 0 0]from rfl)) ?_
 refine hx (bh GB (fun g5=> ?_))
 refine aG (fun w m=>m.bs 0 rfl (show _=aE g5 47 [.int .i64 0]from rfl)) ?_
 rcases hL:gD f with _|k
 ·refine ai<|ak (X' :=[_,_]) (S' :=[_]) (fun _ m=>m)<|ae<|ah<|aj<|hy (fun _=>ff rfl rfl)<|vZ rfl rfl<|ai<|al (ρ' :=[(5,_),(4,_),(0,_),(1,_)]) ⟨rfl,rfl,rfl,rfl,trivial⟩<|ae<|ah<|aj<|hy (fun _=>aa rfl)<| ?_
  refine hx (au rfl Tryz.call211 (rI (by omega) (by omega) rfl) [] rfl [0] rfl ?_)
  rintro _ _ _ ⟨rfl,rfl,rfl⟩
  refine hy (fun _=>aa rfl)<|hy (fun _=>aH rfl rfl)<|hy (fun _=>aH rfl rfl)<|hy (fun _=>ab rfl)<| ?_
  refine cx (c5 0 rfl rfl rfl wg rfl (by first|exact Nat.le_of_ble_eq_true rfl|simp) ?_)
  refine ai<|al (ρ' :=[(6,_),(5,_),(4,_),(0,_),(1,_)]) ⟨rfl,rfl,rfl,rfl,rfl,trivial⟩<|ak (X' :=[_,_]) (S' :=[_]) (fun _ m=>m)<|ae<|ah<|aj<|hy (fun m=>aq rfl kC (ax (m.aQ 0 rfl) rfl))<|hy (fun _=>cm rfl rfl)<|hy (fun m=>aq rfl kC (ax (m.aQ 0 rfl) rfl))<| ?_
  refine hx (fT rfl Tryz.call212 (nH) [] rfl [] rfl ?_ ?_)
  ·rintro _ _ _ ⟨rfl,rfl,rfl,q1⟩
   refine dP<|ij<| ?_
   rw[hL]
   rw[(oV hL)]
   refine lY (by simp) Tryz.call210 (fq) [1,0] rfl [] rfl ?_
   rintro _ _ _ ⟨rfl,rfl,rfl⟩
   refine pe (fun w m=>m.cI (r' :=aF 5 1 (.slice none 0 0) 0 []) (.refl _ _) (Own.nil _ _ _ _) (fun k hk=>hk.elim)) ?_
   exact gn rfl rfl rfl cZ kC (fun m=>ax (m.aQ 1 rfl) (i:=0) rfl) (fun m=>ax (m.aQ 2 rfl) (i:=0) rfl) [0] rfl [] rfl ⟨_,rfl,rfl,rfl⟩
  ·rintro _ _ _ ⟨rfl,rfl,rfl,q1⟩
   exact absurd q1 (by rw[hL];simp)
 ·refine ai<|ak (X' :=[_,_]) (S' :=[_]) (fun _ m=>m)<|ae<|ah<|aj<|hy (fun _=>ff rfl rfl)<|vZ rfl rfl<|ai<|al (ρ' :=[(5,_),(4,_),(0,_),(1,_)]) ⟨rfl,rfl,rfl,rfl,trivial⟩<|ae<|ah<|aj<|hy (fun _=>aa rfl)<| ?_
  refine hx (au rfl Tryz.call211 (rI (by omega) (by omega) (by omega)) [] rfl [0] rfl ?_)
  rintro _ _ _ ⟨rfl,rfl,rfl⟩
  refine hy (fun _=>aa rfl)<|hy (fun _=>aH rfl rfl)<|hy (fun _=>aH rfl rfl)<|hy (fun _=>ab rfl)<| ?_
  refine cx (c5 0 rfl rfl rfl wg rfl (by first|exact Nat.le_of_ble_eq_true rfl|simp) ?_)
  refine ai<|al (ρ' :=[(6,_),(5,_),(4,_),(0,_),(1,_)]) ⟨rfl,rfl,rfl,rfl,rfl,trivial⟩<|ak (X' :=[_,_]) (S' :=[_]) (fun _ m=>m)<|ae<|ah<|aj<|hy (fun m=>aq rfl kC (ax (m.aQ 0 rfl) rfl))<|hy (fun _=>cm rfl rfl)<|hy (fun m=>aq rfl kC (ax (m.aQ 0 rfl) rfl))<| ?_
  refine hx (fT rfl Tryz.call212 (nH) [] rfl [] rfl ?_ ?_)
  ·rintro _ _ _ ⟨rfl,rfl,rfl,q1⟩
   refine dP<|ij<| ?_
   exact absurd q1 (by rw[hL];simp)
  ·rintro _ _ _ ⟨rfl,rfl,rfl,q1⟩
   rw[hL,Option.getD_some]
   refine ai<|al (ρ' :=[(6,_),(5,_),(4,_),(0,_),(1,_)]) ⟨rfl,rfl,rfl,rfl,rfl,trivial⟩<|ak (X' :=[_,_]) (S' :=[_]) (fun _ m=>m)<|ae<|ah<|aj<|hy (fun _=>aa rfl)<|hy (fun _=>aa rfl)<|hy (fun _=>py rfl rfl)<| ?_
   refine hx (fT rfl Tryz.call212 (nH) [] rfl [] rfl ?_ ?_)
   ·rintro _ _ _ ⟨rfl,rfl,rfl,q2⟩
    refine dP<|ij<| ?_
    rw[(pM hL (Int.not_le.1 (of_decide_eq_false q2)))]
    refine lY (by simp) Tryz.call210 (fq) [1,0] rfl [] rfl ?_
    rintro _ _ _ ⟨rfl,rfl,rfl⟩
    refine pe (fun w m=>m.cI (r' :=aF 5 1 (.slice none 0 0) 0 []) (.refl _ _) (Own.nil _ _ _ _) (fun k hk=>hk.elim)) ?_
    exact gn rfl rfl rfl cZ kC (fun m=>ax (m.aQ 1 rfl) (i:=0) rfl) (fun m=>ax (m.aQ 2 rfl) (i:=0) rfl) [0] rfl [] rfl ⟨_,rfl,rfl,rfl⟩
   ·rintro _ _ _ ⟨rfl,rfl,rfl,q2⟩
    obtain⟨h10,hk32⟩:=tG hL
    have hkm:(k:Int)≤most:=of_decide_eq_true q2
    have hopen:=r5 hL (Int.not_lt.2 hkm)
    refine aG (fun w m=>m.fp 0 rfl (View.sub (n:=f.length) (c:=c) (k:=6) (m:=f.length-10) (by omega) (by omega))) ?_
    refine aA (fun m=>eb (m.rd 0 rfl)) ?_
    rintro⟨hl_p,hA_p⟩
    refine ai<|al (ρ' :=[(6,_),(5,_),(4,_),(0,_),(1,_)]) ⟨rfl,rfl,rfl,rfl,rfl,trivial⟩<|ak (X' :=[_,_]) (S' :=[_,_]) (fun _ m=>m)<|ae<|ah<|aj<|hy (fun _=>aa rfl)<|hy (fun _=>aa rfl)<|hy (fun _=>aT rfl Tryz.underlying27)<|hy (fun _=>yV (ca rfl rfl (bx (by omega) (by omega))) ((show Value.int .i64 ((f.length:Int)-4)= .int .i64 ((f.length-4:Nat):Int) by congr 1;omega)))<|hy (fun _=>yV (ef rfl rfl rfl Tryz.underlying27 dB (show((6:Nat):Int)=6 from rfl) rfl (by omega) (by omega)) ((show Value.slice (if c=6 then A else A.map (·.add (6*1))) (f.length-4-6) (c-6)= .slice (if c=6 then A else A.map (·.add (6*1))) (f.length-10) (c-6) by congr 1)))<| ?_
    refine hx (au rfl Tryz.call117 (mo (by omega)) [] rfl [0] rfl ?_)
    rintro _ _ _ ⟨v,rfl,rfl,rfl⟩
    refine aA (fun m=>(m.own 0 rfl).slice) ?_
    rintro⟨A_x,c_x,rfl,hc_x⟩
    refine aA (fun m=>(m.ord 0 rfl).2.1) fun hA_x=> ?_
    have hbl:f.length-10=(de f).length:=by unfold de;rw[List.length_take,List.length_drop];omega
    have hb2:(f.drop 6).take (de f).length=de f:=by rw[←hbl];rfl
    rw[hbl,hb2]
    rw[hbl]at hc_x
    refine cx (c5 2 rfl rfl rfl jk rfl (by first|exact Nat.le_of_ble_eq_true rfl|simp) ?_)
    refine ai<|al (ρ' :=[(6,_),(5,_),(4,_),(0,_),(1,_)]) ⟨rfl,rfl,rfl,rfl,rfl,trivial⟩<|ak (X' :=[_,_,_]) (S' :=[_,_]) (fun _ m=>m)<|ae<|ah<|ah<|aj<|hy (fun _=>aa rfl)<| ?_
    refine hx (au rfl Tryz.call213 (Bk (by omega) (by omega) rfl) [] rfl [1] rfl ?_)
    rintro _ _ _ ⟨rfl,rfl,rfl⟩
    refine ai<|al (ρ' :=[(28,_),(6,_),(5,_),(4,_),(0,_),(1,_)]) ⟨rfl,rfl,rfl,rfl,rfl,rfl,trivial⟩<|ak (X' :=[_,_,_]) (S' :=[_,_]) (fun _ m=>m)<|ae<| ?_
    refine cj rfl (fun hpk=> ?_) (fun hpk=> ?_)
    ·have hu:wo f k=kj (k:Int) (de f) []:=by
      unfold wo
      exact if_pos hpk.2
     have hkz:(k:Int)≤10000000:=by omega
     have hul:=pA (most:=(k:Int)) (de f) [] (by simp)
     have hbn:(de f).length≤10000000:=by omega
     refine ah<|aj<|hy (fun m=>aq rfl cZ (ax (m.aQ 0 rfl) rfl))<|hy (fun _=>aa rfl)<| ?_
     refine hx (cK rfl Tryz.call214 (Az hc_x hbn hkz) [] rfl (.x 1 rfl .own .nil) ?_)
     rintro _ _ _ ⟨v2,rfl,rfl,rfl⟩
     refine⟨rfl, ?_⟩
     refine aA (fun m=>(m.own 0 rfl).slice) ?_
     rintro⟨A_x2,c_x2,rfl,hc_x2⟩
     refine aA (fun m=>(m.ord 0 rfl).2.1) fun hA_x2=> ?_
     refine hy (fun _=>aa rfl)<|hy (fun _=>aH rfl rfl)<|hy (fun _=>aH rfl rfl)<| ?_
     refine cx (c5 1 rfl rfl rfl jk rfl (by first|exact Nat.le_of_ble_eq_true rfl|simp) ?_)
     refine cx (c5 3 rfl rfl rfl wg rfl (by first|exact Nat.le_of_ble_eq_true rfl|simp) ?_)
     refine ai<|al (ρ' :=[(28,_),(6,_),(5,_),(4,_),(0,_),(1,_)]) ⟨rfl,rfl,rfl,rfl,rfl,rfl,trivial⟩<|ak (X' :=[_,_,_,_]) (S' :=[_,_]) (fun _ m=>m)<|ae<|aj<|hy (fun m=>aq rfl kC (ax (m.aQ 0 rfl) rfl))<|hy (fun _=>cm rfl rfl)<| ?_
     refine hx (fT rfl Tryz.call212 (nH) [] rfl [] rfl ?_ ?_)
     ·rintro _ _ _ ⟨rfl,rfl,rfl,q3⟩
      refine dP<|ij<| ?_
      have hno:cP f most=([],2):=by
       rw[hopen]
       unfold fK
       rw[hu]
       exact if_pos (of_decide_eq_false q3)
      rw[hno]
      refine lY (by simp) Tryz.call210 (fq) [1,0] rfl [] rfl ?_
      rintro _ _ _ ⟨rfl,rfl,rfl⟩
      refine pe (fun w m=>m.cI (r' :=aF 5 1 (.slice none 0 0) 0 []) (.refl _ _) (Own.nil _ _ _ _) (fun k hk=>hk.elim)) ?_
      exact gn rfl rfl rfl cZ kC (fun m=>ax (m.aQ 1 rfl) (i:=0) rfl) (fun m=>ax (m.aQ 2 rfl) (i:=0) rfl) [0] rfl [] rfl ⟨_,rfl,rfl,rfl⟩
     ·rintro _ _ _ ⟨rfl,rfl,rfl,q3⟩
      have hE0:(kj (k:Int) (de f) []).2=0:=of_decide_eq_true q3
      obtain⟨u,hu2⟩:∃u,kj (k:Int) (de f) []=(u,0):=⟨_,Prod.ext rfl hE0⟩
      rw[hu2]at hu hul
      rw[hu2]
      dsimp only
      have hun:u.length≤1000000:=by
       rcases hul.1 with h|h
       ·have h:(u.length:Int)≤k:=h
        omega
       ·have h:u=[]:=h
        rw[h];exact Nat.zero_le _
      refine ai<|al (ρ' :=[(28,_),(6,_),(5,_),(4,_),(0,_),(1,_)]) ⟨rfl,rfl,rfl,rfl,rfl,rfl,trivial⟩<|ak (X' :=[_,_,_,_]) (S' :=[_,_]) (fun _ m=>m)<|ae<|ah<|aj<|hy (fun m=>aq rfl cZ (ax (m.aQ 1 rfl) rfl))<|hy (fun _=>aT rfl Tryz.underlying27)<|hy (fun _=>aa rfl)<|hy (fun _=>cm rfl rfl)<| ?_
      refine hx (fT rfl Tryz.call212 (nH) [] rfl [] rfl ?_ ?_)
      ·rintro _ _ _ ⟨rfl,rfl,rfl,q4⟩
       refine dP<|ij<| ?_
       have hno:cP f most=([],2):=by
        rw[hopen]
        unfold fK
        rw[hu]
        exact(if_neg (by simp)).trans (if_pos (by have:=of_decide_eq_false q4;simp only;omega))
       rw[hno]
       refine lY (by simp) Tryz.call210 (fq) [1,0] rfl [] rfl ?_
       rintro _ _ _ ⟨rfl,rfl,rfl⟩
       refine pe (fun w m=>m.cI (r' :=aF 5 1 (.slice none 0 0) 0 []) (.refl _ _) (Own.nil _ _ _ _) (fun k hk=>hk.elim)) ?_
       exact gn rfl rfl rfl cZ kC (fun m=>ax (m.aQ 1 rfl) (i:=0) rfl) (fun m=>ax (m.aQ 2 rfl) (i:=0) rfl) [0] rfl [] rfl ⟨_,rfl,rfl,rfl⟩
      ·rintro _ _ _ ⟨rfl,rfl,rfl,q4⟩
       have hlen:(u).length=k:=by have:=of_decide_eq_true q4;omega
       have hgo:cP f most=if iW (cX u)≠f.drop (f.length-4)then([],7)else(u,0):=by
        rw[hopen]
        unfold fK
        rw[hu]
        exact(if_neg (by simp)).trans (if_neg (by simp only;omega))
       refine aG (fun w m=>m.fp 1 rfl (View.drop (n:=f.length) (c:=c) (k:=f.length-4) (by omega) (by omega))) ?_
       refine aA (fun m=>eb (m.rd 0 rfl)) ?_
       rintro⟨hl_t,hA_t⟩
       have hcl:=iP u
       refine ai<|al (ρ' :=[(28,_),(6,_),(5,_),(4,_),(0,_),(1,_)]) ⟨rfl,rfl,rfl,rfl,rfl,rfl,trivial⟩<|ak (X' :=[_,_,_,_]) (S' :=[_,_,_]) (fun _ m=>m)<|ae<|ah<|zE [43,44,45,46,47,48,49,50,51,52] [0,0,0,0] [0,1,2] rfl rfl [1,2,8,9] [(0,some 0),(3,some 2),(4,some 4),(5,some 2),(6,some 2),(7,some 2),(1,none),(2,none),(8,none),(9,none)] (by kernel_rfl) (by kernel_rfl) (by kernel_rfl) rfl 99<|b5 (fun m=>aq rfl cZ (ax (m.aQ 1 rfl) rfl))<|an (aa rfl)<|an (aa rfl)<|an (aT rfl Tryz.underlying27)<|an (yV (ca rfl rfl (bx (by omega) (by omega))) ((show Value.int .i64 ((f.length:Int)-4)= .int .i64 ((f.length-4:Nat):Int) by congr 1;omega)))<|an (dV rfl rfl Tryz.underlying27 dB rfl (by omega))<| ?_
       refine di (cK rfl Tryz.call180 (oc (by omega)) [] rfl (.x 2 rfl .own .nil) ?_)
       rintro _ _ _ ⟨rfl,rfl,rfl⟩
       refine⟨rfl, ?_⟩
       refine⟨(fun _=>wk [0,0,0,0] [0,1,2] rfl rfl), ?_⟩
       refine di (au rfl Tryz.call179 (iO (by omega)) [] rfl [] rfl ?_)
       rintro _ _ _ ⟨v3,rfl,rfl,rfl⟩
       refine⟨(fun _=>wk [1,1,1,1] [0,1,2] rfl rfl), ?_⟩
       refine b4 (fun m=>(m.own 0 rfl).slice) ?_
       rintro⟨A_x3,c_x3,rfl,hc_x3⟩
       refine b4 (fun m=>(m.ord 0 rfl).2.1) fun hA_x3=> ?_
       refine di (cK rfl Tryz.call215 (nI) [] rfl (.x 0 rfl .own (.s 0 rfl .nil)) ?_)
       rintro _ _ _ ⟨rfl,rfl,rfl⟩
       refine⟨rfl, ?_⟩
       refine⟨(fun _=>wk [1,1,1,1] [0,1,2] rfl rfl), ?_⟩
       refine di (fT rfl Tryz.call212 (nH) [] rfl [] rfl ?_ ?_)
       ·rintro _ _ _ ⟨rfl,rfl,rfl,q5⟩
        refine Ct<|dP<|ij<| ?_
        rw[(hgo.trans (if_pos (of_decide_eq_false q5)))]
        refine lY (by simp) Tryz.call210 (fq) [2,1] rfl [] rfl ?_
        rintro _ _ _ ⟨rfl,rfl,rfl⟩
        refine pe (fun w m=>m.cI (r' :=aF 5 1 (.slice none 0 0) 0 []) (.refl _ _) (Own.nil _ _ _ _) (fun k hk=>hk.elim)) ?_
        exact gn rfl rfl rfl cZ kC (fun m=>ax (m.aQ 1 rfl) (i:=0) rfl) (fun m=>ax (m.aQ 2 rfl) (i:=0) rfl) [0] rfl [] rfl ⟨_,rfl,rfl,rfl⟩
       ·rintro _ _ _ ⟨rfl,rfl,rfl,q5⟩
        refine⟨(fun _=>wk [1,1,1,1] [0,1,2] rfl rfl), ?_⟩
        rw[hgo.trans (if_neg (fun h=>h (of_decide_eq_true q5)))]
        refine zQ<|al (ρ' :=[(28,_),(6,_),(5,_),(4,_),(0,_),(1,_)]) ⟨rfl,rfl,rfl,rfl,rfl,rfl,trivial⟩<|ak (X' :=[_,_,_,_,_]) (S' :=[_,_,_]) (fun _ m=>m)<|ae<|ah<|aj<|hy (fun m=>aq rfl cZ (ax (m.aQ 2 rfl) rfl))<| ?_
        refine cx (c5 2 rfl rfl rfl jk rfl (by first|exact Nat.le_of_ble_eq_true rfl|simp) ?_)
        refine cx (c5 2 rfl rfl rfl wg rfl (by first|exact Nat.le_of_ble_eq_true rfl|simp) ?_)
        refine ai<|al (ρ' :=[(28,_),(6,_),(5,_),(4,_),(0,_),(1,_)]) ⟨rfl,rfl,rfl,rfl,rfl,rfl,trivial⟩<|ak (X' :=[_,_,_,_,_]) (S' :=[_,_,_]) (fun _ m=>m)<|ae<|aS<| ?_
        refine uY trivial ?_
        refine lY (by simp) Tryz.call210 (r6) [1,0] rfl [] rfl ?_
        rintro _ _ _ ⟨rfl,rfl,rfl⟩
        exact gn rfl rfl rfl cZ kC (fun m=>ax (m.aQ 0 rfl) (i:=0) rfl) (fun m=>ax (m.aQ 1 rfl) (i:=0) rfl) [3] rfl [] rfl ⟨_,rfl,rfl,rfl⟩
    ·have hu:wo f k=(de f,0):=by
      unfold wo
      exact if_neg fun e=>hpk ⟨by rw[hL];rfl,e⟩
     refine aB<|ae<|ah<|aj<|hy (fun m=>aq rfl cZ (ax (m.aQ 0 rfl) rfl))<|hy (fun _=>aT rfl Tryz.underlying27)<|hy (fun _=>aa rfl)<|hy (fun _=>cm rfl rfl)<| ?_
     refine hx (fT rfl Tryz.call212 (nH) [] rfl [] rfl ?_ ?_)
     ·rintro _ _ _ ⟨rfl,rfl,rfl,q4⟩
      refine dP<|ij<| ?_
      have hno:cP f most=([],2):=by
       rw[hopen]
       unfold fK
       rw[hu]
       exact(if_neg (by simp)).trans (if_pos (by have:=of_decide_eq_false q4;simp only;omega))
      rw[hno]
      refine lY (by simp) Tryz.call210 (fq) [0,1] rfl [] rfl ?_
      rintro _ _ _ ⟨rfl,rfl,rfl⟩
      refine pe (fun w m=>m.cI (r' :=aF 5 1 (.slice none 0 0) 0 []) (.refl _ _) (Own.nil _ _ _ _) (fun k hk=>hk.elim)) ?_
      exact gn rfl rfl rfl cZ kC (fun m=>ax (m.aQ 1 rfl) (i:=0) rfl) (fun m=>ax (m.aQ 2 rfl) (i:=0) rfl) [0] rfl [] rfl ⟨_,rfl,rfl,rfl⟩
     ·rintro _ _ _ ⟨rfl,rfl,rfl,q4⟩
      have hlen:((de f)).length=k:=by have:=of_decide_eq_true q4;omega
      have hgo:cP f most=if iW (cX (de f))≠f.drop (f.length-4)then([],7)else((de f),0):=by
       rw[hopen]
       unfold fK
       rw[hu]
       exact(if_neg (by simp)).trans (if_neg (by simp only;omega))
      refine aG (fun w m=>m.fp 1 rfl (View.drop (n:=f.length) (c:=c) (k:=f.length-4) (by omega) (by omega))) ?_
      refine aA (fun m=>eb (m.rd 0 rfl)) ?_
      rintro⟨hl_t,hA_t⟩
      have hcl:=iP (de f)
      refine ai<|al (ρ' :=[(28,_),(6,_),(5,_),(4,_),(0,_),(1,_)]) ⟨rfl,rfl,rfl,rfl,rfl,rfl,trivial⟩<|ak (X' :=[_,_,_]) (S' :=[_,_,_]) (fun _ m=>m)<|ae<|ah<|zE [43,44,45,46,47,48,49,50,51,52] [0,0,0] [0,1,2] rfl rfl [1,2,8,9] [(0,some 0),(3,some 2),(4,some 4),(5,some 2),(6,some 2),(7,some 2),(1,none),(2,none),(8,none),(9,none)] (by kernel_rfl) (by kernel_rfl) (by kernel_rfl) rfl 99<|b5 (fun m=>aq rfl cZ (ax (m.aQ 0 rfl) rfl))<|an (aa rfl)<|an (aa rfl)<|an (aT rfl Tryz.underlying27)<|an (yV (ca rfl rfl (bx (by omega) (by omega))) ((show Value.int .i64 ((f.length:Int)-4)= .int .i64 ((f.length-4:Nat):Int) by congr 1;omega)))<|an (dV rfl rfl Tryz.underlying27 dB rfl (by omega))<| ?_
      refine di (cK rfl Tryz.call180 (oc (by omega)) [] rfl (.x 1 rfl .own .nil) ?_)
      rintro _ _ _ ⟨rfl,rfl,rfl⟩
      refine⟨rfl, ?_⟩
      refine⟨(fun _=>wk [0,0,0] [0,1,2] rfl rfl), ?_⟩
      refine di (au rfl Tryz.call179 (iO (by omega)) [] rfl [] rfl ?_)
      rintro _ _ _ ⟨v2,rfl,rfl,rfl⟩
      refine⟨(fun _=>wk [1,1,1] [0,1,2] rfl rfl), ?_⟩
      refine b4 (fun m=>(m.own 0 rfl).slice) ?_
      rintro⟨A_x2,c_x2,rfl,hc_x2⟩
      refine b4 (fun m=>(m.ord 0 rfl).2.1) fun hA_x2=> ?_
      refine di (cK rfl Tryz.call215 (nI) [] rfl (.x 0 rfl .own (.s 0 rfl .nil)) ?_)
      rintro _ _ _ ⟨rfl,rfl,rfl⟩
      refine⟨rfl, ?_⟩
      refine⟨(fun _=>wk [1,1,1] [0,1,2] rfl rfl), ?_⟩
      refine di (fT rfl Tryz.call212 (nH) [] rfl [] rfl ?_ ?_)
      ·rintro _ _ _ ⟨rfl,rfl,rfl,q5⟩
       refine Ct<|dP<|ij<| ?_
       rw[(hgo.trans (if_pos (of_decide_eq_false q5)))]
       refine lY (by simp) Tryz.call210 (fq) [1,2] rfl [] rfl ?_
       rintro _ _ _ ⟨rfl,rfl,rfl⟩
       refine pe (fun w m=>m.cI (r' :=aF 5 1 (.slice none 0 0) 0 []) (.refl _ _) (Own.nil _ _ _ _) (fun k hk=>hk.elim)) ?_
       exact gn rfl rfl rfl cZ kC (fun m=>ax (m.aQ 1 rfl) (i:=0) rfl) (fun m=>ax (m.aQ 2 rfl) (i:=0) rfl) [0] rfl [] rfl ⟨_,rfl,rfl,rfl⟩
      ·rintro _ _ _ ⟨rfl,rfl,rfl,q5⟩
       refine⟨(fun _=>wk [1,1,1] [0,1,2] rfl rfl), ?_⟩
       rw[hgo.trans (if_neg (fun h=>h (of_decide_eq_true q5)))]
       refine zQ<|al (ρ' :=[(28,_),(6,_),(5,_),(4,_),(0,_),(1,_)]) ⟨rfl,rfl,rfl,rfl,rfl,rfl,trivial⟩<|ak (X' :=[_,_,_,_]) (S' :=[_,_,_]) (fun _ m=>m)<|ae<|ah<|aj<|hy (fun m=>aq rfl cZ (ax (m.aQ 1 rfl) rfl))<| ?_
       refine cx (c5 1 rfl rfl rfl jk rfl (by first|exact Nat.le_of_ble_eq_true rfl|simp) ?_)
       refine cx (c5 3 rfl rfl rfl wg rfl (by first|exact Nat.le_of_ble_eq_true rfl|simp) ?_)
       refine ai<|al (ρ' :=[(28,_),(6,_),(5,_),(4,_),(0,_),(1,_)]) ⟨rfl,rfl,rfl,rfl,rfl,rfl,trivial⟩<|ak (X' :=[_,_,_,_]) (S' :=[_,_,_]) (fun _ m=>m)<|ae<|aS<| ?_
       refine uY trivial ?_
       refine lY (by simp) Tryz.call210 (r6) [1,0] rfl [] rfl ?_
       rintro _ _ _ ⟨rfl,rfl,rfl⟩
       exact gn rfl rfl rfl cZ kC (fun m=>ax (m.aQ 0 rfl) (i:=0) rfl) (fun m=>ax (m.aQ 1 rfl) (i:=0) rfl) [3] rfl [] rfl ⟨_,rfl,rfl,rfl⟩
end Go.Proofs.YtmibdabdlgmafaaGreatDoor
end
section
set_option maxRecDepth 20000
namespace Go.Proofs.YtmibdabdlgmafaaGreatDoor
open Go.Eng Go.Hx
structure tb where
 h:List UInt32
 n:Nat
 A:Option Addr
 c:Nat
 rest:List UInt8
def lE(h:List UInt32)(n:Nat)(A:Option Addr)(m c:Nat):List Value:=dA h++[.int .i64 (n:Int),.slice A m c]
abbrev lW(g:Nat)(s:tb):bc:=ep [aE g 308 (lE s.h s.n s.A s.rest.length s.c),aF 5 1 (.slice s.A s.rest.length s.c) s.rest.length (aP s.rest)]
structure tb.ok(s:tb)(all:List UInt8):Prop where
 len:s.h.length=8
 n:s.n=all.length
 G5:∃d,d++s.rest=all∧d.length % 64=0∧s.h=eT lq d
theorem jr{h:List UInt32}{n:Nat}{A:Option Addr}{m c:Nat}(hh:h.length=8):(lE h n A m c).length=10:=by simp[lE,dA,hh]
theorem vb{h:List UInt32}{n:Nat}{A:Option Addr}{m c:Nat}(hh:h.length=8):(lE h n A m c)[8]? =some (.int .i64 (n:Int)):=by
 rw[lE,List.getElem?_append_right (by rw[aO];omega),aO,hh];rfl
theorem tw{h:List UInt32}{n:Nat}{A:Option Addr}{m c:Nat}(hh:h.length=8):(lE h n A m c)[9]? =some (.slice A m c):=by
 rw[lE,List.getElem?_append_right (by rw[aO];omega),aO,hh];rfl
theorem xq{h:List UInt32}{n:Nat}{A:Option Addr}{m c:Nat}{j:Nat}{u:Value}(hu:(dA h)[j]? =some u):(lE h n A m c)[j]? =some u:=by
 rw[lE,List.getElem?_append_left ((List.getElem?_eq_some_iff.1 hu).1)];exact hu
theorem yu{h:List UInt32}{n n' :Nat}{A:Option Addr}{m c:Nat}(hh:h.length=8):(lE h n A m c).set 8 (.int .i64 (n' :Int))=lE h n' A m c:=by
 rw[lE,List.set_append_right _ _ (by rw[aO];omega),aO,hh];rfl
theorem sD{h:List UInt32}{n:Nat}{A A' :Option Addr}{m c m' c' :Nat}(hh:h.length=8):(lE h n A m c).set 9 (.slice A' m' c')=lE h n A' m' c' :=by
 rw[lE,List.set_append_right _ _ (by rw[aO];omega),aO,hh];rfl
theorem Bt{h h' :List UInt32}{n:Nat}{A:Option Addr}{m c:Nat}(hh:h.length=8)(hh' :h'.length=8):bL (lE h n A m c) 0 (dA h')=lE h' n A m c:=by
 rw[bL,List.take_zero,List.nil_append,Nat.zero_add,aO,hh',lE,List.drop_append_of_le_length (by rw[aO];omega),List.drop_of_length_le (by rw[aO];omega)];rfl
theorem Eu:b6 Tryz.prog 172 [] [] [] (fun v_ X_ S_=>∃g,v_=(.pointer (some ⟨g,0,none⟩))∧X_=[lW g ⟨lq,0,none,0,[]⟩]∧S_=[]):=by
 refine aI (N:=4) Tryz.func172 rfl rfl (by simp) fun b=> ?_
 refine ah<|aj<|hy (fun _=>ab rfl)<|ai<|ae<|ah<|aj<|hy (fun _=>yV (sP (n:=8) u5 (by kernel_rfl) rfl (by kernel_rfl) rfl (by kernel_rfl) (by kernel_rfl) (pL (l:=[1779033703,3144134277,1013904242,2773480762,1359893119,2600822924,528734635,1541459225]))) ((rfl:_=Value.agg (dA lq).toArray)))<|hy (fun _=>yV (bQ Cm rfl rfl (by kernel_rfl) (.cons (o:=0) (sz:=8) (by kernel_rfl) rfl rfl (Nat.le_of_ble_eq_true rfl) .nil)) ((rfl:_=Value.agg (lE lq 0 none 0 0).toArray)))<| ?_
 refine hx (bu rfl (fun g3=> ?_))
 refine hy (fun _=>ab rfl)<|ai<|al (ρ' :=[(0,_)]) ⟨rfl,trivial⟩<|ak (X' :=[_]) (S' :=[]) (fun _ m=>m)<|ae<|aS<| ?_
 refine ak (fun w m=>m.bs 0 rfl (show _=aE g3 308 (lE lq 0 none 0 0)from congrArg (aE _ _) (aW _))) ?_
 refine ak (fun w m=>m.cI (r' :=aF 5 1 (.slice none 0 0) 0 []) (.refl _ _) (Own.nil _ _ _ _) (fun k hk=>hk.elim)) ?_
 refine ak (X' :=lW g3 ⟨lq,0,none,0,[]⟩::_) (fun w m=>(m.perm (ar [1,0] _ [_,_] _ rfl)).pack) ?_
 exact a6 trivial rfl rfl [0] rfl [] rfl ⟨_,rfl,rfl,rfl⟩
theorem DH:tb.ok ⟨lq,0,none,0,[]⟩ []:=⟨rfl,rfl,[],rfl,rfl,rfl⟩
theorem uU{g:Nat}{s:tb}{B:Option Addr}{mb mc:Nat}{l:List UInt8}(hh:s.h.length=8)(hn:s.n+mb≤1000000000000000)(hr:s.rest.length+mb≤140737488355328):b6 Tryz.prog 173 [.pointer (some ⟨g,0,none⟩),.slice B mb mc] [lW g s] [cn 1 B mb (aP l),dG] (fun v_ X_ S_=>∃s1,v_=(.tuple #[])∧X_=[lW g s1]∧S_=[]∧(s1.rest.length<64∧∀all,s.ok all→s1.ok (all++l))):=by
 refine aI (N:=49) Tryz.func173 rfl rfl (by simp) fun b=> ?_
 refine aU (fun m=>eb (m.rd 0 rfl)) ?_
 rintro⟨hl_r,hA_r⟩
 have hlm:l.length=mb:=hl_r
 have hl0:=jr (n:=s.n) (A:=s.A) (m:=s.rest.length) (c:=s.c) hh
 refine bd (fun w m=>(m.perm (ar [0] _ [_] _ rfl)).unpack) ?_
 refine ah<|aj<|hy (fun _=>aa rfl)<|hy (fun _=>aM rfl)<|hy (fun _=>aD rfl lu (by decide))<|hy (fun m=>aq rfl dq ((m.aQ 0 rfl).aw 8 _ (vb hh)))<|hy (fun _=>aa rfl)<|hy (fun _=>aT rfl Tryz.underlying27)<|hy (fun _=>aL rfl rfl (bx (by omega) (by omega)))<|hy (fun _=>aM rfl)<|hy (fun _=>aD rfl lu (by decide))<| ?_
 refine cx (bU 0 rfl rfl rfl ta rfl (by rw[hl0];decide) ?_)
 refine ai<|al (ρ' :=[(0,_),(1,_)]) ⟨rfl,rfl,trivial⟩<|ak (X' :=[_,_]) (S' :=[_,_]) (fun _ m=>m)<|ae<|ah<|aj<| ?_
 refine aG (fun w m=>m.bs 0 rfl (show _=aE g 308 (lE s.h (s.n+mb) s.A s.rest.length s.c)from by rw[Nat.zero_add,←Int.natCast_add,yu hh])) ?_
 refine hy (fun _=>aa rfl)<|hy (fun _=>aa rfl)<|hy (fun _=>aM rfl)<|hy (fun _=>aD rfl ja (by decide))<|hy (fun m=>aq rfl cZ ((m.aQ 0 rfl).aw 9 _ (tw hh)))<|hy (fun _=>aa rfl)<| ?_
 refine hx (bw 1 rfl rfl rfl Tryz.underlying27 Tryz.underlying27 (by exact .inl rfl) eA rfl (fun m=>Src.bW (m.rd 0 rfl)) bg (by unfold maxLen;omega) (by omega) (fun u=> ?_))
 refine aA (fun m=>(m.own 0 rfl).slice) ?_
 rintro⟨A_d1,c_d1,rfl,hc_d1⟩
 refine aA (fun m=>(m.ord 0 rfl).2.1) fun hA_d1=> ?_
 refine aG (fun w m=>m.bs 0 rfl (show _=aF 5 1 (.slice A_d1 (s.rest++l).length c_d1) (s.rest++l).length (aP (s.rest++l))from by rw[List.length_append,hlm];simp[aP])) ?_
 have hls:=jr (n:=s.n+mb) (A:=s.A) (m:=s.rest.length) (c:=s.c) hh
 refine hy (fun _=>aM rfl)<|hy (fun _=>aD rfl ja (by decide))<| ?_
 refine cx (bU 1 rfl rfl rfl jk rfl (by rw[hls];decide) ?_)
 refine ai<|al (ρ' :=[(0,_),(1,_)]) ⟨rfl,rfl,trivial⟩<|ak (X' :=[_,_]) (S' :=[_,_]) (fun _ m=>m)<|ae<|aK<| ?_
 refine bd (fun w m=>m.bs 0 rfl (show _=aE g 308 (lE s.h (s.n+mb) A_d1 (s.rest++l).length c_d1)from by rw[Nat.zero_add,sD hh,List.length_append,hlm])) ?_
 have hlen:(s.rest++l).length=s.rest.length+mb:=by rw[List.length_append,hlm]
 refine qX (fun h A1 c1 q dn=>q.length) (fun h A1 c1 q dn=>[]) (fun h A1 c1 q dn=>[aE g 308 (lE h (s.n+mb) A1 q.length c1),aF 5 1 (.slice A1 q.length c1) q.length (aP q)]) (fun h A1 c1 q dn=>[]) (fun h A1 c1 q dn=>h.length=8∧q.length≤c1∧dn++q=s.rest++l∧dn.length % 64=0∧∀D,D.length % 64=0→s.h=eT lq D→h=eT lq (D++dn)) s.h A_d1 c_d1 (s.rest++l) [] [(0,_),(1,_)] ⟨rfl,rfl,trivial⟩ [0,0] rfl [] rfl (⟨hh,(by omega),rfl,rfl,fun D _ e=>by rw[List.append_nil];exact e⟩) trivial (fun h A1 c1 q dn ⟨h8,hqc,hdq,hd64,hD⟩=> ?_)
 have hls:=jr (n:=s.n+mb) (A:=A1) (m:=q.length) (c:=c1) h8
 refine ah<|ah<|aj<|hy (fun _=>aa rfl)<|hy (fun _=>aM rfl)<|hy (fun _=>aD rfl ja (by decide))<|hy (fun m=>aq rfl cZ ((m.aQ 0 rfl).aw 9 _ (tw h8)))<|hy (fun _=>aT rfl Tryz.underlying27)<|hy (fun _=>ec rfl rfl)<|ai<|al (ρ' :=[(27,_),(0,_),(1,_)]) ⟨rfl,rfl,rfl,trivial⟩<|ae<| ?_
 refine cj rfl (fun hge=> ?_) (fun hge=> ?_)
 ·have hq64:64≤q.length:=by omega
  refine aB<|ae<|aK<|ah<|cu [10,13] [(0,some 1),(1,some 0),(2,some 0),(3,some 0),(4,some 0),(5,some 1),(6,some 0),(7,some 0),(8,some 0),(9,some 0),(10,none),(11,some 1),(12,some 1),(13,none)] (by kernel_rfl) (by kernel_rfl) rfl 1<|an (aa rfl)<|an (aa rfl)<|an (aM rfl)<|an (aD rfl ou (by decide))<|b5 (fun m=>yV (aX rfl pQ kQ (by rw[aO,h8]) (fun j u hu=>(m.aQ 0 rfl).aw j u (xq hu))) ((rfl:_=Value.agg (dA h).toArray)))<|an (aa rfl)<|an (aM rfl)<|an (aD rfl ja (by decide))<|b5 (fun m=>aq rfl cZ ((m.aQ 0 rfl).aw 9 _ (tw h8)))<|an (oy rfl rfl Tryz.underlying27 dB (show((64:Nat):Int)=64 from rfl) (by omega))<| ?_
  refine di (cK rfl Tryz.call227 (Gq (by omega) h8 (l:=(q.take 64))) [] rfl (.x 1 rfl (View.own.trans (View.take hq64)) (.s 1 rfl .nil)) ?_)
  rintro _ _ _ ⟨rfl,rfl,rfl⟩
  refine⟨rfl, ?_⟩
  refine⟨(fun _=>wk [0,0] [0,1] rfl rfl), ?_⟩
  refine an (aM rfl)<|an (aD rfl ou (by decide))<| ?_
  have hb8:=iA h8 (q.take 64)
  refine fS (vC 0 rfl rfl rfl kQ (by rw[aO,hb8]) fI (by rw[hls];decide) ⟨(fun h=>absurd h (by decide)), ?_⟩)
  refine dO (fun w m=>m.bs 0 rfl (show _=aE g 308 (lE (dT h (q.take 64)) (s.n+mb) A1 q.length c1)from by rw[Nat.zero_add,Bt h8 hb8])) ?_
  have hls2:=jr (n:=s.n+mb) (A:=A1) (m:=q.length) (c:=c1) hb8
  refine dO (X' :=aF 5 1 (.slice (if c1=64 then A1 else A1.map (·.add (64*1))) (q.length-64) (c1-64)) (q.length-64) ((aP q).drop (64*1))::_) (fun w m=>(m.perm (ar [1] _ [_] _ rfl)).yc (View.rH hq64 hqc)) ?_
  refine bo<|al (ρ' :=[(27,_),(0,_),(1,_)]) ⟨rfl,rfl,rfl,trivial⟩<|ak (X' :=[_,_]) (S' :=[_,_]) (fun _ m=>m)<|ae<|aj<|hy (fun _=>aa rfl)<|hy (fun _=>aa rfl)<|hy (fun _=>aM rfl)<|hy (fun _=>aD rfl ja (by decide))<|hy (fun m=>aq rfl cZ ((m.aQ 1 rfl).aw 9 _ (tw hb8)))<|hy (fun _=>dV rfl rfl Tryz.underlying27 dB (show((64:Nat):Int)=64 from rfl) (by omega))<|hy (fun _=>aM rfl)<|hy (fun _=>aD rfl ja (by decide))<| ?_
  refine cx (bU 1 rfl rfl rfl jk rfl (by rw[hls2];decide) ?_)
  refine ai<|al (ρ' :=[(27,_),(0,_),(1,_)]) ⟨rfl,rfl,rfl,trivial⟩<|ak (X' :=[_,_]) (S' :=[_,_]) (fun _ m=>m)<|aR<| ?_
  have hqd:(q.drop 64).length=q.length-64:=List.length_drop
  have e9:(aP q).drop (64*1)=aP (q.drop 64):=by simp[aP,List.map_drop]
  generalize hA2:(if c1=64 then A1 else A1.map (·.add (64*1)))=A2
  refine ak (fun w m=>m.bs 0 rfl (show _=aE g 308 (lE (dT h (q.take 64)) (s.n+mb) A2 (q.drop 64).length (c1-64))from by rw[Nat.zero_add,sD hb8,hqd])) ?_
  refine ak (fun w m=>m.bs 1 rfl (show _=aF 5 1 (.slice A2 (q.drop 64).length (c1-64)) (q.drop 64).length (aP (q.drop 64))from by rw[hqd,e9])) ?_
  refine mN (dT h (q.take 64)) A2 (c1-64) (q.drop 64) (dn++q.take 64) ⟨rfl,rfl,trivial⟩ [1,0] rfl [0,1] rfl (⟨hb8,by omega,by rw[List.append_assoc,List.take_append_drop];exact hdq,by rw[List.length_append,List.length_take];omega,fun D h1 h2=>by rw[←List.append_assoc,o9 (by rw[List.length_append];omega) (by rw[List.length_take];omega),←hD D h1 h2]⟩) (by omega)
 ·refine bK<|ao<|ao<|aC<| ?_
  have hok:∀all,s.ok all→tb.ok ⟨h,s.n+mb,A1,c1,q⟩ (all++l):=fun all ok=>by
   obtain⟨D,e1,e2,e3⟩:=ok.G5
   refine⟨h8, ?_,D++dn, ?_, ?_,hD D e2 e3⟩
   ·show s.n+mb=_
    rw[List.length_append,ok.n,hlm]
   ·show(D++dn)++q=_
    rw[List.append_assoc,hdq,←List.append_assoc,e1]
   ·rw[List.length_append];omega
  refine ak (X' :=lW g ⟨h,s.n+mb,A1,c1,q⟩::_) (fun w m=>(m.perm (ar [0,0] _ [_,_] _ rfl)).pack) ?_
  exact fa trivial rfl [0] rfl [] rfl ⟨_,rfl,rfl,rfl,⟨(by show q.length<64;omega),hok⟩⟩
theorem BT{h:List UInt32}{n:Nat}{A:Option Addr}{m c:Nat}(hh:h.length=8){z:List Value}(hz:z.length=10):bL (bL (bL z 0 (dA h)) 8 [.int .i64 (n:Int)]) 9 [.slice A m c]=lE h n A m c:=by
 have hw:(dA h).length=8:=by rw[aO,hh]
 have e1:bL z 0 (dA h)=dA h++z.drop 8:=by simp[bL,hw]
 match hq:z.drop 8,(show(z.drop 8).length=2 by rw[List.length_drop,hz])with
 | [x,y],_=>
  rw[e1,hq]
  have e2:bL (dA h++[x,y]) 8 [.int .i64 (n:Int)]=dA h++[.int .i64 (n:Int),y]:=by
   rw[bL,List.take_append_of_le_length (by omega),List.take_of_length_le (by omega),List.drop_append,List.drop_of_length_le (by omega)]
   simp[hw]
  rw[e2,bL,List.take_append,List.take_of_length_le (by omega),List.drop_of_length_le (by simp[hw])]
  simp[hw,lE]
theorem Ei{P:Program}{pl:Nat→Option (Nat×Nat)}{h:List UInt32}(hh:h.length=8){zs:List Value}(hz:zs.length=10)(p0:pl 0=some (0,8))(p1:pl 1=some (8,1))(p2:pl 2=some (9,1)){n:Nat}{A:Option Addr}{m c:Nat}:
  tI P pl zs [(0,.agg (dA h).toArray),(1,.int .i64 (n:Int)),(2,.slice A m c)] (lE h n A m c):=by
 have hw:(dA h).length=8:=by rw[aO,hh]
 have l1:(bL zs 0 (dA h)).length=10:=by rw[fE (by omega),hz]
 have l2:(bL (bL zs 0 (dA h)) 8 [Value.int .i64 (n:Int)]).length=10:=by rw[fE (by rw[l1];show 8+1≤10;decide),l1]
 refine .cons (vs:=dA h) p0 rfl hw (by omega) (.cons (vs:=[.int .i64 (n:Int)]) p1 rfl rfl (by omega) (.cons (vs:=[.slice A m c]) p2 rfl rfl (by omega) ?_))
 have e:=BT (n:=n) (A:=A) (m:=m) (c:=c) hh hz
 show tI P pl (bL (bL (bL zs 0 (dA h)) 8 [.int .i64 (n:Int)]) 9 [.slice A m c]) [] _
 rw[e]
 exact .nil
theorem BF{g:Nat}{s:tb}(hh:s.h.length=8)(hr:s.rest.length≤140737488351232):b6 Tryz.prog 228 [.pointer (some ⟨g,0,none⟩)] [lW g s] [] (fun v_ X_ S_=>∃g2 s2,v_=(.pointer (some ⟨g2,0,none⟩))∧X_=[lW g s,lW g2 s2]∧S_=[]∧(s2.h=s.h∧s2.n=s.n∧s2.rest=s.rest)):=by
 refine aI (N:=18) Tryz.func228 rfl rfl (by simp) fun b=> ?_
 refine bd (fun w m=>(m.perm (ar [0] _ [_] _ rfl)).unpack) ?_
 have hl0:=jr (n:=s.n) (A:=s.A) (m:=s.rest.length) (c:=s.c) hh
 refine ah<|aj<|hy (fun _=>ab rfl)<|ai<|ae<|ah<|cu [12,14] [(0,some 2),(1,some 1),(2,some 1),(3,some 1),(4,some 2),(5,some 1),(6,some 1),(7,some 1),(8,some 2),(9,some 2),(10,some 0),(11,some 0),(12,none),(13,some 1),(14,none),(15,some 2)] (by kernel_rfl) (by kernel_rfl) rfl 99<|an (aa rfl)<|an (aM rfl)<|an (aD rfl ou (by decide))<|b5 (fun m=>yV (aX rfl pQ kQ (by rw[aO,hh]) (fun j u hu=>(m.aQ 0 rfl).aw j u (xq hu))) ((rfl:_=Value.agg (dA s.h).toArray)))<|an (aa rfl)<|an (aM rfl)<|an (aD rfl lu (by decide))<|b5 (fun m=>aq rfl dq ((m.aQ 0 rfl).aw 8 _ (vb hh)))<|an (aa rfl)<|an (aM rfl)<|an (aD rfl ja (by decide))<|b5 (fun m=>aq rfl cZ ((m.aQ 0 rfl).aw 9 _ (tw hh)))<| ?_
 refine di (cK rfl Tryz.call117 (mo (by omega)) [] rfl (.x 1 rfl .own .nil) ?_)
 rintro _ _ _ ⟨v,rfl,rfl,rfl⟩
 refine⟨rfl, ?_⟩
 refine⟨(fun _=>wk [1,1] [] rfl rfl), ?_⟩
 refine b4 (fun m=>(m.own 0 rfl).slice) ?_
 rintro⟨A_x,c_x,rfl,hc_x⟩
 refine b4 (fun m=>(m.ord 0 rfl).2.1) fun hA_x=> ?_
 refine an (bQ Cm rfl rfl (by kernel_rfl) (Ei hh rfl (by kernel_rfl) (by kernel_rfl) (by kernel_rfl)))<| ?_
 refine di (bu rfl (fun g17=>⟨(fun _=>wk [2,2] [] rfl rfl), ?_⟩))
 refine an (ab rfl)<|bo<|al (ρ' :=[(2,_),(0,_)]) ⟨rfl,rfl,trivial⟩<|ak (X' :=[_,_,_,_]) (S' :=[]) (fun _ m=>m)<|ae<|aS<| ?_
 refine ak (fun w m=>m.bs 0 rfl (show _=aE g17 308 (lE s.h s.n A_x s.rest.length c_x)from congrArg (aE _ _) (aW _))) ?_
 refine ak (X' :=lW g s::_) (fun w m=>(m.perm (ar [2,2] _ [_,_] _ rfl)).pack) ?_
 refine ak (X' :=lW g17 ⟨s.h,s.n,A_x,c_x,s.rest⟩::_) (fun w m=>(m.perm (ar [1,1] _ [_,_] _ rfl)).pack) ?_
 exact a6 trivial rfl rfl [1,0] rfl [] rfl ⟨_,_,rfl,rfl,rfl,⟨rfl,rfl,rfl⟩⟩
end Go.Proofs.YtmibdabdlgmafaaGreatDoor
end
section
set_option maxRecDepth 20000
namespace Go.Proofs.YtmibdabdlgmafaaGreatDoor
open Go.Eng Go.Hx
theorem xR(n:Nat)(h:n<18446744073709551616):IntKind.u64.wrap (n:Int)=(n:Int):=by
 simp[IntKind.wrap,IntKind.signed,IntKind.bits];omega
theorem yl{n i:Nat}(hi:i<8):(rX n).take (i+1)=(rX n).take i++[UInt8.ofNat (n/256 ^ (7-i))]:=by
 rw[rX,←List.map_take,←List.map_take,List.take_range,List.take_range,show min (i+1) 8=i+1 by omega,show min i 8=i by omega,List.range_succ,List.map_append];rfl
theorem Hp{i:Nat}(hi:i<8):2 ^ (56-8*i)=256 ^ (7-i):=by
 rw[show(256:Nat)=2 ^ 8 from rfl,←Nat.pow_mul];congr 1;omega
theorem v7(h:List UInt32)(j:Nat)(hj:j<h.length):eg (h.take (j+1))=eg (h.take j)++zZ (h.getD j 0):=by
 rw[List.take_succ_eq_append_getElem hj,eg,eg,List.flatMap_append]
 simp[List.getD,List.getElem?_eq_getElem hj]
theorem pz(h:List UInt32):∀j,j≤h.length→(eg (h.take j)).length=4*j
 |0,_=>rfl
 |j+1,hj=>by rw[v7 h j (by omega),List.length_append,pz h j (by omega)];show 4*j+4=_;omega
theorem Gw{p r:List UInt8}{k:Nat}{a b c d x y z u:UInt8}(hp:p.length=k):
  ((((aP (p++x::y::z::u::r)).set k (B8 a)).set (k+1) (B8 b)).set (k+2) (B8 c)).set (k+3) (B8 d)=aP (p++a::b::c::d::r):=by
 subst hp
 simp[aP,List.set_append]
theorem E8{g:Nat}{s:tb}{all:List UInt8}(ok:s.ok all)(hr:s.rest.length<64)(ha:all.length≤140737488351232):b6 Tryz.prog 174 [.pointer (some ⟨g,0,none⟩)] [lW g s] [dG] (fun v_ X_ S_=>v_=(.agg (aP (bp all)).toArray)∧X_=[lW g s]∧S_=[]):=by
 have hh:=ok.len
 have hsn:=ok.n
 have hl0:=jr (n:=s.n) (A:=s.A) (m:=s.rest.length) (c:=s.c) hh
 have hz64:gP s.n<64:=Nat.mod_lt _ (by decide)
 have hzp:(s.n+(1+gP s.n)) % 64=56:=by unfold gP;omega
 have hzm:∀j,j<gP s.n→(s.n+(1+j)) % 64≠56:=fun j hj=>by unfold gP at hj;omega
 refine aI (N:=83) Tryz.func174 rfl rfl (by simp) fun b=> ?_
 refine ah<|aj<| ?_
 refine hx (bh fY (fun g2=> ?_))
 refine ai<|ak (X' :=[_,_]) (S' :=[_]) (fun _ m=>m)<|ae<|ah<|aj<|hy (fun _=>aa rfl)<| ?_
 refine hx (au rfl Tryz.call228 (BF (by omega) (by omega)) [1] rfl [] rfl ?_)
 rintro _ _ _ ⟨g22,s2,rfl,rfl,rfl,hp⟩
 refine hy (fun _=>ab rfl)<|ai<|al (ρ' :=[(3,_),(2,_),(0,_)]) ⟨rfl,rfl,rfl,trivial⟩<|ak (X' :=[_,_,_]) (S' :=[_]) (fun _ m=>m)<|ae<|ah<|aj<| ?_
 refine hx (bT Tryz.underlying27 eA rfl rfl rfl (by simp[Value.cells,B8]) (by decide) (by decide) (fun g12=> ?_))
 have hA_b12:0<1→(some (⟨g12,0,none⟩:Addr))≠none:=fun _ h=>by cases h
 refine hy (fun _=>ab rfl)<|ai<|al (ρ' :=[(4,_),(3,_),(2,_),(0,_)]) ⟨rfl,rfl,rfl,rfl,trivial⟩<|ak (X' :=[_,_,_,_]) (S' :=[_]) (fun _ m=>m)<|ae<|ah<|aK<| ?_
 obtain⟨c1,c2,c3⟩:=hp
 refine bd (fun w m=>m.bs 0 rfl (show _=aF 5 1 (.slice (some ⟨g12,0,none⟩) 1 1) (1+0) (aP (128::List.replicate 0 0))from rfl)) ?_
 refine fD (fun j A1 cc=>gP s.n-j) (fun j A1 cc=>[(4,.slice A1 (1+j) cc)]) (fun j A1 cc=>[aF 5 1 (.slice A1 (1+j) cc) (1+j) (aP (128::List.replicate j 0)),lW g s]) (fun j A1 cc=>[]) (fun j A1 cc=>j≤gP s.n) 0 (some ⟨g12,0,none⟩) 1 [(3,_),(2,_),(0,_)] ⟨rfl,rfl,rfl,trivial⟩ [0,0] rfl [] rfl (Nat.zero_le _) ⟨rfl,trivial⟩ (fun j A1 cc hjz=> ?_)
 refine bd (fun w m=>(m.perm (ar [1] _ [_] _ rfl)).unpack) ?_
 refine ah<|ah<|aj<|hy (fun _=>aa rfl)<|hy (fun _=>aM rfl)<|hy (fun _=>aD rfl lu (by decide))<|hy (fun m=>aq rfl dq ((m.aQ 0 rfl).aw 8 _ (vb hh)))<|hy (fun _=>aa rfl)<|hy (fun _=>aT rfl Tryz.underlying27)<|hy (fun _=>aL rfl rfl (bx (by omega) (by omega)))<|hy (fun _=>gh rfl rfl (by omega) (by omega))<|hy (fun _=>dF rfl rfl)<|ai<|al (ρ' :=[(21,_),(4,_),(3,_),(2,_),(0,_)]) ⟨rfl,rfl,rfl,rfl,rfl,trivial⟩<|ae<| ?_
 refine bd (X' :=lW g s::_) (fun w m=>(m.perm (ar [0,0] _ [_,_] _ rfl)).pack) ?_
 refine cj rfl (fun hne=> ?_) (fun hne=> ?_)
 ·have hj:j<gP s.n:=by
   rcases Nat.lt_or_eq_of_le hjz with h|h
   ·exact h
   ·rw[←h]at hzp;omega
  refine aB<|ae<|aK<|aj<|hy (fun _=>aa rfl)<| ?_
  refine hx (bT Tryz.underlying27 eA rfl rfl rfl (by simp[Value.cells,B8]) (by decide) (by decide) (fun g23=> ?_))
  have hA_b23:0<1→(some (⟨g23,0,none⟩:Addr))≠none:=fun _ h=>by cases h
  refine aG (fun w m=>m.bs 0 rfl (show _=aF 5 1 (.slice (some ⟨g23,0,none⟩) 1 1) 1 (aP [0])from rfl)) ?_
  refine hx (bw 2 rfl rfl rfl Tryz.underlying27 Tryz.underlying27 (by exact .inl rfl) eA rfl (fun m=>Src.bW (m.ord 0 rfl)) bg (by unfold maxLen;omega) (by omega) (fun u=> ?_))
  refine aA (fun m=>(m.own 0 rfl).slice) ?_
  rintro⟨A_b12,c_b12,rfl,hc_b12⟩
  refine aA (fun m=>(m.ord 0 rfl).2.1) fun hA_b12=> ?_
  refine hy (fun _=>ab rfl)<|ai<|al (ρ' :=[(4,_),(21,_),(3,_),(2,_),(0,_)]) ⟨rfl,rfl,rfl,rfl,rfl,trivial⟩<|ak (X' :=[_,_,_,_,_]) (S' :=[_]) (fun _ m=>m)<|aR<| ?_
  refine ak (fun w m=>m.bs 0 rfl (show _=aF 5 1 (.slice A_b12 (1+(j+1)) c_b12) (1+(j+1)) (aP (128::List.replicate (j+1) 0))from by rw[Nat.add_assoc,List.replicate_succ',aP,aP,aP,←List.map_append];rfl)) ?_
  refine fz (j+1) A_b12 c_b12 ⟨rfl,rfl,rfl,rfl,trivial⟩ [0,1,1,1] rfl [0] rfl (by omega) (by omega)
 ·have hj:j=gP s.n:=by
   refine Decidable.byContradiction fun hn=> ?_
   have:=hzm j (by omega)
   omega
  subst hj
  have hsl:IntKind.u64.wrap ((s.n:Int)*8)=((8*s.n:Nat):Int):=by
   rw[show(s.n:Int)*8=((8*s.n:Nat):Int) by omega]
   exact xR _ (by omega)
  refine bK<|ao<|ao<|aC<|ae<|ah<|aj<|hy (fun _=>aa rfl)<|hy (fun _=>aM rfl)<|hy (fun _=>aD rfl lu (by decide))<|hy (fun m=>aq rfl dq ((show eS _ _ _ _ from m.Gc 0 rfl 0 rfl).aw 8 _ (vb hh)))<|hy (fun _=>bS rfl Tryz.underlying3 Tryz.underlying310 (xR s.n (by omega)))<|hy (fun _=>vd (p:=8) rfl rfl (by decide) (by decide) (by decide) hsl)<|hy (fun _=>ab rfl)<|ai<|al (ρ' :=[(5,_),(21,_),(4,_),(3,_),(2,_),(0,_)]) ⟨rfl,rfl,rfl,rfl,rfl,rfl,trivial⟩<|ae<|ah<|ah<|aj<|hy (fun _=>aa rfl)<|ai<|ae<|aK<| ?_
  generalize hz:gP s.n=z at hz64
  refine bd (fun w m=>m.bs 1 rfl (show _=aF 5 1 (.slice A1 (1+z+0) cc) (1+z+0) (aP (128::List.replicate z 0++(rX (8*s.n)).take 0))from by rw[List.take_zero,List.append_nil];rfl)) ?_
  refine fD (fun i A2 ce=>8-i) (fun i A2 ce=>[(4,.slice A2 (1+z+i) ce),(31,.int .i64 (i:Nat))]) (fun i A2 ce=>[aF 5 1 (.slice A2 (1+z+i) ce) (1+z+i) (aP (128::List.replicate z 0++(rX (8*s.n)).take i))]) (fun i A2 ce=>[]) (fun i A2 ce=>i≤8) 0 A1 cc [(5,_),(21,_),(3,_),(2,_),(0,_)] ⟨rfl,rfl,rfl,rfl,rfl,trivial⟩ [0] rfl [] rfl (Nat.zero_le _) ⟨rfl,rfl,trivial⟩ (fun i A2 ce hi8=> ?_)
  refine ah<|aj<|hy (fun _=>bC rfl rfl)<|ai<|ae<|ah<| ?_
  refine cj rfl (fun hi=> ?_) (fun hi=> ?_)
  ·have hcv:IntKind.u8.wrap (((8*s.n:Nat):Int)/((2 ^ (56-8*i):Nat):Int))=((UInt8.ofNat (8*s.n/256 ^ (7-i))).toNat:Int):=by
    rw[←Int.natCast_ediv,Hp (by omega)]
    exact gi _
   have hsb:(56:Int)-8*(i:Int)=((56-8*i:Nat):Int):=by omega
   refine aB<|ae<|ah<|aK<|ah<|aj<|hy (fun _=>aa rfl)<|hy (fun _=>ab rfl)<|ai<|al (ρ' :=[(6,_),(32,_),(4,_),(31,_),(5,_),(21,_),(3,_),(2,_),(0,_)]) ⟨rfl,rfl,rfl,rfl,rfl,rfl,rfl,rfl,rfl,trivial⟩<|ae<|aj<|hy (fun _=>aa rfl)<|hy (fun _=>aa rfl)<|hy (fun _=>aa rfl)<|hy (fun _=>fg rfl rfl (bx (by omega) (by omega)))<|hy (fun _=>ca rfl rfl (bx (by omega) (by omega)))<| ?_
   rw[hsb]
   refine hy (fun _=>lQ rfl rfl (by omega) (by simp[IntKind.bits];omega) (show(2:Int) ^ (((56-8*i:Nat):Int)).toNat=((2 ^ (56-8*i):Nat):Int) by rw[Int.toNat_natCast];simp))<|hy (fun _=>bS rfl Tryz.underlying310 Tryz.underlying5 hcv)<| ?_
   refine hx (bT Tryz.underlying27 eA rfl rfl rfl (by simp[Value.cells,B8]) (by decide) (by decide) (fun g41=> ?_))
   have hA_b41:0<1→(some (⟨g41,0,none⟩:Addr))≠none:=fun _ h=>by cases h
   refine aG (fun w m=>m.bs 0 rfl (show _=aF 5 1 (.slice (some ⟨g41,0,none⟩) 1 1) 1 (aP [UInt8.ofNat (8*s.n/256 ^ (7-i))])from rfl)) ?_
   refine hx (bw 1 rfl rfl rfl Tryz.underlying27 Tryz.underlying27 (by exact .inl rfl) eA rfl (fun m=>Src.bW (m.ord 0 rfl)) bg (by unfold maxLen;omega) (by omega) (fun u=> ?_))
   refine aA (fun m=>(m.own 0 rfl).slice) ?_
   rintro⟨A_b12,c_b12,rfl,hc_b12⟩
   refine aA (fun m=>(m.ord 0 rfl).2.1) fun hA_b12=> ?_
   refine hy (fun _=>ab rfl)<|ai<|al (ρ' :=[(4,_),(6,_),(32,_),(31,_),(5,_),(21,_),(3,_),(2,_),(0,_)]) ⟨rfl,rfl,rfl,rfl,rfl,rfl,rfl,rfl,rfl,trivial⟩<|ak (X' :=[_,_,_,_,_]) (S' :=[_]) (fun _ m=>m)<|aR<|ae<|aj<|hy (fun _=>aL rfl rfl (bx (by omega) (by omega)))<|hy (fun _=>aa rfl)<|ai<|al (ρ' :=[(31,_),(4,_),(6,_),(32,_),(5,_),(21,_),(3,_),(2,_),(0,_)]) ⟨rfl,rfl,rfl,rfl,rfl,rfl,rfl,rfl,rfl,trivial⟩<| ?_
   refine ak (fun w m=>m.bs 0 rfl (show _=aF 5 1 (.slice A_b12 (1+z+(i+1)) c_b12) (1+z+(i+1)) (aP (128::List.replicate z 0++(rX (8*s.n)).take (i+1)))from by rw[yl (by omega),←List.append_assoc];simp[aP,Nat.add_assoc])) ?_
   refine fz (i+1) A_b12 c_b12 ⟨rfl,rfl,rfl,rfl,rfl,rfl,rfl,trivial⟩ [0,1,1,1] rfl [0] rfl (by omega) (by omega)
  ·obtain rfl:i=8:=by omega
   have hpad:all++(128::List.replicate z 0++(rX (8*s.n)).take 8)=iB all:=by
    rw[List.take_of_length_le (by simp[rX]),iB,←hsn,hz,List.append_assoc]
   refine bK<|ao<|ao<|aC<|ae<|ah<|aj<|hy (fun _=>aa rfl)<|hy (fun _=>aa rfl)<| ?_
   refine hx (cK rfl Tryz.call173 (uU (by rw[c1];exact hh) (by rw[c2];omega) (by rw[c3];omega) (s:=s2) (l:=(128::List.replicate z 0++(rX (8*s.n)).take 8))) [2] rfl (.x 0 rfl .own (.s 0 rfl .nil)) ?_)
   rintro _ _ _ ⟨s1,rfl,rfl,rfl,hw⟩
   refine⟨rfl, ?_⟩
   obtain⟨hw1,hw2⟩:=hw
   have ok2:s2.ok all:=⟨by rw[c1];exact hh,by rw[c2];exact hsn,by rw[c1,c3];exact ok.G5⟩
   have ok3:=hw2 all ok2
   rw[hpad]at ok3
   have hh3:=ok3.len
   have hfin:s1.h=eT lq (iB all):=by
    obtain⟨D,e1,e2,e3⟩:=ok3.G5
    have hl:=congrArg List.length e1
    rw[List.length_append]at hl
    have hp:=nc all
    have:s1.rest=[]:=List.eq_nil_of_length_eq_zero (by omega)
    rw[this,List.append_nil]at e1
    rw[e3,e1]
   have hsha:eg s1.h=bp all:=by rw[hfin];rfl
   have hd32:=pz s1.h
   have hl3:=jr (n:=s1.n) (A:=s1.A) (m:=s1.rest.length) (c:=s1.c) hh3
   refine aG (fun w m=>(m.perm (ar [0] _ [_] _ rfl)).unpack) ?_
   refine ai<|al (ρ' :=[(32,_),(4,_),(31,_),(5,_),(21,_),(3,_),(2,_),(0,_)]) ⟨rfl,rfl,rfl,rfl,rfl,rfl,rfl,rfl,trivial⟩<|ak (X' :=[_,_,_,_,_]) (S' :=[_]) (fun _ m=>m)<|ae<|ah<|aj<| ?_
   refine hx (bh fY (fun g7=> ?_))
   refine aG (fun w m=>m.bs 0 rfl (show _=aE g7 53 (aP (eg (s1.h.take 0)++List.replicate (32-4*0) 0))from rfl)) ?_
   refine ai<|ak (X' :=[_,_,_,_,_,_]) (S' :=[_]) (fun _ m=>m)<|ae<|ah<|ah<|aj<|hy (fun _=>aa rfl)<|hy (fun _=>aM rfl)<|hy (fun _=>aD rfl ou (by decide))<|hy (fun m=>yV (aX rfl pQ kQ (by rw[aO,hh3]) (fun j u hu=>(m.aQ 1 rfl).aw j u (xq hu))) ((rfl:_=Value.agg (dA s1.h).toArray)))<|hy (fun _=>aa rfl)<|ai<|al (ρ' :=[(51,_),(50,_),(7,_),(32,_),(4,_),(31,_),(5,_),(21,_),(3,_),(2,_),(0,_)]) ⟨rfl,rfl,rfl,rfl,rfl,rfl,rfl,rfl,rfl,rfl,rfl,trivial⟩<|ae<|aK<| ?_
   refine dH (fun k=>8-k) (fun k=>[(51,.int .i64 (k:Nat))]) (fun k=>[aE g7 53 (aP (eg (s1.h.take k)++List.replicate (32-4*k) 0))]) (fun k=>[]) (fun k=>k≤8) 0 [(50,_),(7,_),(32,_),(4,_),(31,_),(5,_),(21,_),(3,_),(2,_),(0,_)] ⟨rfl,rfl,rfl,rfl,rfl,rfl,rfl,rfl,rfl,rfl,trivial⟩ [0] rfl [] rfl (Nat.zero_le _) ⟨rfl,trivial⟩ (fun k hk8=> ?_)
   refine ah<|aj<|hy (fun _=>bC rfl rfl)<|ai<|ae<|ah<| ?_
   refine cj rfl (fun hk=> ?_) (fun hk=> ?_)
   ·have hdk:=hd32 k (by omega)
    have hr4:List.replicate (32-4*k) (0:UInt8)=0::0::0::0::List.replicate (32-4*(k+1)) 0:=by
     rw[show 32-4*k=(32-4*(k+1))+4 by omega];rfl
    refine aB<|ae<|ah<|aK<|ah<|aj<|hy (fun _=>aa rfl)<|hy (fun _=>yV (Dv rfl rfl Tryz.underlying306 br bG rfl (by omega) (bj (by omega))) ((rfl:_=Wd (s1.h.getD k 0))))<|hy (fun _=>ab rfl)<|hy (fun _=>ab rfl)<|ai<|al (ρ' :=[(9,_),(8,_),(52,_),(51,_),(50,_),(7,_),(32,_),(4,_),(31,_),(5,_),(21,_),(3,_),(2,_),(0,_)]) ⟨rfl,rfl,rfl,rfl,rfl,rfl,rfl,rfl,rfl,rfl,rfl,rfl,rfl,rfl,trivial⟩<|ae<|aj<|hy (fun _=>aa rfl)<|hy (fun _=>fg rfl rfl (bx (by omega) (by omega)))<|hy (fun _=>aa rfl)<|hy (fun _=>fg rfl rfl (bx (by omega) (by omega)))<|hy (fun _=>aL rfl rfl (bx (by omega) (by omega)))<|hy (fun _=>aa rfl)<|hy (fun _=>fg rfl rfl (bx (by omega) (by omega)))<|hy (fun _=>aL rfl rfl (bx (by omega) (by omega)))<|hy (fun _=>aa rfl)<|hy (fun _=>fg rfl rfl (bx (by omega) (by omega)))<|hy (fun _=>aL rfl rfl (bx (by omega) (by omega)))<|hy (fun _=>aa rfl)<|hy (fun _=>ka (k:=24) (b:=16777216) (by decide) rfl rfl rfl)<|hy (fun _=>x4 rfl Tryz.underlying166 Tryz.underlying5)<|hy (fun _=>aa rfl)<|hy (fun _=>ka (k:=16) (b:=65536) (by decide) rfl rfl rfl)<|hy (fun _=>x4 rfl Tryz.underlying166 Tryz.underlying5)<|hy (fun _=>aa rfl)<|hy (fun _=>ka (k:=8) (b:=256) (by decide) rfl rfl rfl)<|hy (fun _=>x4 rfl Tryz.underlying166 Tryz.underlying5)<|hy (fun _=>aa rfl)<|hy (fun _=>x4 rfl Tryz.underlying166 Tryz.underlying5)<|hy (fun _=>bR rfl rfl Tryz.underlying53 dB (show((4*k:Nat):Int)=_ by omega) (by omega))<| ?_
    refine cx (bU 0 rfl rfl rfl dB rfl (by simp[aP];omega) ?_)
    refine hy (fun _=>bR rfl rfl Tryz.underlying53 dB (show((4*k+1:Nat):Int)=_ by omega) (by omega))<| ?_
    refine cx (bU 0 rfl rfl rfl dB rfl (by simp[aP];omega) ?_)
    refine hy (fun _=>bR rfl rfl Tryz.underlying53 dB (show((4*k+2:Nat):Int)=_ by omega) (by omega))<| ?_
    refine cx (bU 0 rfl rfl rfl dB rfl (by simp[aP];omega) ?_)
    refine hy (fun _=>bR rfl rfl Tryz.underlying53 dB (show((4*k+3:Nat):Int)=_ by omega) (by omega))<| ?_
    refine cx (bU 0 rfl rfl rfl dB rfl (by simp[aP];omega) ?_)
    refine ai<|al (ρ' :=[(9,_),(8,_),(52,_),(51,_),(50,_),(7,_),(32,_),(4,_),(31,_),(5,_),(21,_),(3,_),(2,_),(0,_)]) ⟨rfl,rfl,rfl,rfl,rfl,rfl,rfl,rfl,rfl,rfl,rfl,rfl,rfl,rfl,trivial⟩<|ak (X' :=[_,_,_,_,_,_]) (S' :=[_]) (fun _ m=>m)<|aR<|ae<|aj<|hy (fun _=>aL rfl rfl (bx (by omega) (by omega)))<|hy (fun _=>aa rfl)<|ai<|al (ρ' :=[(51,_),(9,_),(8,_),(52,_),(50,_),(7,_),(32,_),(4,_),(31,_),(5,_),(21,_),(3,_),(2,_),(0,_)]) ⟨rfl,rfl,rfl,rfl,rfl,rfl,rfl,rfl,rfl,rfl,rfl,rfl,rfl,rfl,trivial⟩<| ?_
    refine ak (fun w m=>m.bs 0 rfl (show _=aE g7 53 (aP (eg (s1.h.take (k+1))++List.replicate (32-4*(k+1)) 0))from by rw[hr4,Nat.zero_add,Nat.zero_add,Nat.zero_add,Nat.zero_add,Gw hdk,v7 _ _ (by omega)];simp[zZ])) ?_
    refine cJ (k+1) ⟨rfl,rfl,rfl,rfl,rfl,rfl,rfl,rfl,rfl,rfl,rfl,trivial⟩ [0,0,0,0,0,0] rfl [0] rfl (by omega) (by omega)
   ·obtain rfl:k=8:=by omega
    refine bd (fun w m=>m.bs 0 rfl (show _=aE g7 53 (aP (bp all))from by rw[List.take_of_length_le (by omega),hsha];simp)) ?_
    refine bK<|ao<|ao<|aC<|ae<|ah<|aj<|hy (fun m=>yV (aX rfl cr bZ (by rw[az,bk]) ((m.aQ 0 rfl).aw)) ((rfl:_=Value.agg (aP (bp all)).toArray)))<| ?_
    refine cx (a8 5 rfl rfl rfl bZ (by rw[az,bk]) bg rfl ?_)
    refine ai<|al (ρ' :=[(52,_),(51,_),(50,_),(7,_),(32,_),(4,_),(31,_),(5,_),(21,_),(3,_),(2,_),(0,_)]) ⟨rfl,rfl,rfl,rfl,rfl,rfl,rfl,rfl,rfl,rfl,rfl,rfl,trivial⟩<|ak (X' :=[_,_,_,_,_,_]) (S' :=[_]) (fun _ m=>m)<|ae<|aS<| ?_
    exact eJ trivial rfl rfl cr bZ (by rw[az,bk]) (fun m=>(m.aQ 0 rfl).aw) [5] rfl [] rfl ⟨rfl,rfl,rfl⟩
theorem ri{A:Option Addr}{n c:Nat}{l:List UInt8}(hn:n≤140737488351232):b6 Tryz.prog 102 [.slice A n c] [] [cn 1 A n (aP l),dG] (fun v_ X_ S_=>v_=(.agg (aP (bp l)).toArray)∧X_=[]∧S_=[]):=by
 refine aI (N:=10) Tryz.func102 rfl rfl (by simp) fun b=> ?_
 refine aU (fun m=>eb (m.rd 0 rfl)) ?_
 rintro⟨hl_r,hA_r⟩
 have hln:l.length=n:=hl_r
 refine ah<|aj<| ?_
 refine hx (bh fY (fun g2=> ?_))
 refine ai<|ak (X' :=[_]) (S' :=[_,_]) (fun _ m=>m)<|ae<|ah<|aj<| ?_
 refine hx (au rfl Tryz.call172 (Eu) [] rfl [] rfl ?_)
 rintro _ _ _ ⟨g,rfl,rfl,rfl⟩
 refine hy (fun _=>ab rfl)<|ai<|al (ρ' :=[(3,_),(2,_),(0,_)]) ⟨rfl,rfl,rfl,trivial⟩<|ak (X' :=[_,_]) (S' :=[_,_]) (fun _ m=>m)<|ae<|ah<|aj<|hy (fun _=>aa rfl)<|hy (fun _=>aa rfl)<| ?_
 refine hx (au rfl Tryz.call173 (uU rfl (by show 0+n≤_;omega) (by show 0+n≤_;omega) (s:=⟨lq,0,none,0,[]⟩)) [0] rfl [0,1] rfl ?_)
 rintro _ _ _ ⟨s1,rfl,rfl,rfl,hw⟩
 refine ai<|al (ρ' :=[(3,_),(2,_),(0,_)]) ⟨rfl,rfl,rfl,trivial⟩<|ak (X' :=[_,_]) (S' :=[_,_]) (fun _ m=>m)<|ae<|ah<|aj<| ?_
 obtain⟨hw1,hw2⟩:=hw
 have ok1:=hw2 [] DH
 rw[List.nil_append]at ok1
 refine hy (fun _=>aa rfl)<| ?_
 refine hx (au rfl Tryz.call174 (E8 ok1 hw1 (by omega) (all:=l)) [0] rfl [1] rfl ?_)
 rintro _ _ _ ⟨rfl,rfl,rfl⟩
 refine cx (a8 1 rfl rfl rfl bZ (by rw[az,bk]) bg rfl ?_)
 refine ai<|al (ρ' :=[(3,_),(2,_),(0,_)]) ⟨rfl,rfl,rfl,trivial⟩<|ak (X' :=[_,_]) (S' :=[_,_]) (fun _ m=>m)<|ae<|aS<| ?_
 exact eJ trivial rfl rfl cr bZ (by rw[az,bk]) (fun m=>(m.aQ 0 rfl).aw) [] rfl [] rfl ⟨rfl,rfl,rfl⟩
end Go.Proofs.YtmibdabdlgmafaaGreatDoor
end
section
set_option maxRecDepth 20000
set_option maxHeartbeats 4000000
namespace Go.Proofs.YtmibdabdlgmafaaGreatDoor
open Go.Eng Go.Hx
theorem F9{g:Nat}{st:cU}{d:RD}{kk:Nat}{nm:List UInt8}(hD:DS st d kk)(hm:nm.length=32):b6 Tryz.prog 73 [.pointer (some ⟨g,0,none⟩),.agg (aP nm).toArray] [bP g st] [dG] (fun v_ X_ S_=>∃v,v_=(.tuple #[v,.int .i64 (d.fV nm)])∧X_=[bP g st,aF 5 1 v (d.tW nm).length (aP (d.tW nm))]∧S_=[]):=by
 have hlen:=hD.x3 (bI nm)
 have hol:=qx (f:=d.cB (bI nm)) (most:=4096) (by decide)
 refine aI (N:=33) Tryz.func73 rfl rfl (by simp) fun b=> ?_
 refine ah<|aj<| ?_
 refine hx (bu rfl (fun g3=> ?_))
 refine aG (fun w m=>m.bs 0 rfl (show _=aE g3 53 (aP nm)from congrArg (aE _ _) (aW _))) ?_
 refine hy (fun _=>ab rfl)<|hy (fun _=>ab rfl)<|ai<|ak (X' :=[_,_]) (S' :=[_]) (fun _ m=>m)<|ae<|ah<|aj<|hy (fun _=>aa rfl)<|hy (fun m=>aX rfl cr bZ (by rw[az];exact hm) ((m.aQ 0 rfl).aw))<| ?_
 refine hx (au rfl Tryz.call94 (x1 hm) [] rfl [] rfl ?_)
 rintro _ _ _ ⟨rfl,rfl,rfl⟩
 refine hx (au rfl Tryz.call90 (Dy hD) [1] rfl [] rfl ?_)
 rintro _ _ _ ⟨v,rfl,rfl,rfl⟩
 refine aA (fun m=>(m.own 1 rfl).slice) ?_
 rintro⟨A_x,c_x,rfl,hc_x⟩
 refine aA (fun m=>(m.ord 1 rfl).2.1) fun hA_x=> ?_
 refine hy (fun _=>aa rfl)<|hy (fun _=>aH rfl rfl)<|hy (fun _=>aH rfl rfl)<|hy (fun _=>ab rfl)<|hy (fun _=>ab rfl)<|ai<|al (ρ' :=[(7,_),(6,_),(5,_),(4,_),(3,_),(0,_),(1,_)]) ⟨rfl,rfl,rfl,rfl,rfl,rfl,rfl,trivial⟩<|ak (X' :=[_,_,_]) (S' :=[_]) (fun _ m=>m)<|ae<|ah<|ah<|aj<|hy (fun _=>aa rfl)<|hy (fun _=>dF rfl rfl)<|ai<|al (ρ' :=[(17,_),(7,_),(6,_),(5,_),(4,_),(3,_),(0,_),(1,_)]) ⟨rfl,rfl,rfl,rfl,rfl,rfl,rfl,rfl,trivial⟩<|ae<| ?_
 refine cj rfl (fun h1=> ?_) (fun h1=> ?_)
 ·rw[iT h1,kd (by rw[iT h1];exact h1)]
  refine ah<|aj<|hy (fun _=>aa rfl)<|hy (fun _=>ab rfl)<|hy (fun _=>ab rfl)<|ai<|al (ρ' :=[(5,_),(4,_),(17,_),(7,_),(6,_),(3,_),(0,_),(1,_)]) ⟨rfl,rfl,rfl,rfl,rfl,rfl,rfl,rfl,trivial⟩<|ae<|aS<|ay<| ?_
  refine ak (fun w m=>m.cI (r' :=aF 5 1 (.slice none 0 0) 0 []) (.refl _ _) (Own.nil _ _ _ _) (fun k hk=>hk.elim)) ?_
  exact c9 trivial rfl rfl rfl [1,0] rfl [] rfl ⟨_,rfl,rfl,rfl⟩
 ·have h1:=Decidable.not_not.1 h1
  refine aB<|ae<|ah<|aj<|hy (fun _=>aa rfl)<| ?_
  refine hx (cK rfl Tryz.call155 (Fa hc_x (by omega) (show(4096:Int)≤1000000 by decide)) [] rfl (.x 1 rfl .own .nil) ?_)
  rintro _ _ _ ⟨v2,rfl,rfl,rfl⟩
  refine⟨rfl, ?_⟩
  refine aA (fun m=>(m.own 0 rfl).slice) ?_
  rintro⟨A_x2,c_x2,rfl,hc_x2⟩
  refine aA (fun m=>(m.ord 0 rfl).2.1) fun hA_x2=> ?_
  refine hy (fun _=>aa rfl)<|hy (fun _=>aH rfl rfl)<|hy (fun _=>aH rfl rfl)<|hy (fun _=>ab rfl)<|hy (fun _=>ab rfl)<|ai<|al (ρ' :=[(7,_),(8,_),(17,_),(6,_),(5,_),(4,_),(3,_),(0,_),(1,_)]) ⟨rfl,rfl,rfl,rfl,rfl,rfl,rfl,rfl,rfl,trivial⟩<|ak (X' :=[_,_,_,_]) (S' :=[_]) (fun _ m=>m)<|ae<|ah<|ah<|cu [4] [(0,some 0),(1,some 0),(2,some 0),(3,some 0),(5,some 1),(4,none),(6,some 1),(7,some 1)] (by kernel_rfl) (by kernel_rfl) rfl 99<|an (aa rfl)<|an (dF rfl rfl)<|an (aa rfl)<| ?_
  refine kq 26 rfl (fun h2=> ?_) (fun h2=> ?_)
  ·have hE:=l9 (d:=d) (nm:=nm) h1 (.inl h2)
   rw[hE,kd (by rw[hE];decide)]
   refine aV rfl rfl rfl (by decide)<|aV rfl rfl rfl (by decide)<|BD rfl rfl rfl (by decide) (fun _=>wk [0,0,0,0] [0] rfl rfl)<|aV rfl rfl rfl (by decide)<|an (bM rfl rfl)<|bo<|al (ρ' :=[(31,_),(7,_),(8,_),(17,_),(6,_),(5,_),(4,_),(3,_),(0,_),(1,_)]) ⟨rfl,rfl,rfl,rfl,rfl,rfl,rfl,rfl,rfl,rfl,trivial⟩<|ae<| ?_
   refine gS rfl (rfl) ?_
   refine ah<|aj<|hy (fun _=>ab rfl)<|hy (fun _=>ab rfl)<|ai<|ae<|aS<|ay<| ?_
   refine ak (fun w m=>m.cI (r' :=aF 5 1 (.slice none 0 0) 0 []) (.refl _ _) (Own.nil _ _ _ _) (fun k hk=>hk.elim)) ?_
   exact c9 trivial rfl rfl rfl [2,0] rfl [] rfl ⟨_,rfl,rfl,rfl⟩
  ·have h2:=Decidable.not_not.1 h2
   refine bN (o:=_) rfl rfl rfl (aa rfl)<|kE (o:=_) rfl rfl rfl (fun m=>aX rfl cr bZ (by rw[az];exact hm) ((m.aQ 3 rfl).aw))<| ?_
   refine GQ (o:=_) rfl rfl rfl (cK rfl Tryz.call102 (ri (by omega)) [] rfl (.x 0 rfl .own (.s 0 rfl .nil)) ?_)
   rintro _ _ _ ⟨rfl,rfl,rfl⟩
   refine⟨rfl, ?_⟩
   refine⟨(fun _=>wk [0,0,0,0] [0] rfl rfl), ?_⟩
   refine bN (o:=_) rfl rfl rfl (rS rfl rfl (bk _) hm)<|an (bn rfl rfl)<|bo<|al (ρ' :=[(31,_),(7,_),(8,_),(17,_),(6,_),(5,_),(4,_),(3,_),(0,_),(1,_)]) ⟨rfl,rfl,rfl,rfl,rfl,rfl,rfl,rfl,rfl,rfl,trivial⟩<|ak (X' :=[_,_,_,_]) (S' :=[_]) (fun _ m=>m)<|ae<| ?_
   refine cj rfl (fun h3=> ?_) (fun h3=> ?_)
   ·have hE:=l9 (d:=d) (nm:=nm) h1 (.inr h3)
    rw[hE,kd (by rw[hE];decide)]
    refine ah<|aj<|hy (fun _=>ab rfl)<|hy (fun _=>ab rfl)<|ai<|ae<|aS<|ay<| ?_
    refine ak (fun w m=>m.cI (r' :=aF 5 1 (.slice none 0 0) 0 []) (.refl _ _) (Own.nil _ _ _ _) (fun k hk=>hk.elim)) ?_
    exact c9 trivial rfl rfl rfl [2,0] rfl [] rfl ⟨_,rfl,rfl,rfl⟩
   ·have hE:=vE (d:=d) (nm:=nm) h1 (fun q=>q.elim (fun q=>q h2) h3)
    rw[hE,vX hE]
    refine aB<|ae<|ah<|aj<|hy (fun _=>aa rfl)<|hy (fun _=>ab rfl)<|hy (fun _=>ab rfl)<|ai<|al (ρ' :=[(5,_),(4,_),(31,_),(7,_),(8,_),(17,_),(6,_),(3,_),(0,_),(1,_)]) ⟨rfl,rfl,rfl,rfl,rfl,rfl,rfl,rfl,rfl,rfl,trivial⟩<|ae<|aS<| ?_
    exact c9 trivial rfl rfl rfl [1,0] rfl [] rfl ⟨_,rfl,rfl,rfl⟩
theorem GG{g:Nat}{st:cU}{d:RD}{kk:Nat}{nm:List UInt8}(hD:DS st d kk)(hm:nm.length=32):b6 Tryz.prog 145 [.pointer (some ⟨g,0,none⟩),.agg (aP nm).toArray] [bP g st] [dG] (fun v_ X_ S_=>v_=(.bool (decide (d.fV nm=0)))∧X_=[bP g st]∧S_=[]):=by
 refine aI (N:=15) Tryz.func145 rfl rfl (by simp) fun b=> ?_
 refine ah<|aj<| ?_
 refine hx (bu rfl (fun g3=> ?_))
 refine aG (fun w m=>m.bs 0 rfl (show _=aE g3 53 (aP nm)from congrArg (aE _ _) (aW _))) ?_
 refine hy (fun _=>ab rfl)<|ai<|ak (X' :=[_,_]) (S' :=[_]) (fun _ m=>m)<|ae<|ah<|aj<|hy (fun _=>aa rfl)<|hy (fun m=>aX rfl cr bZ (by rw[az];exact hm) ((m.aQ 0 rfl).aw))<| ?_
 refine hx (au rfl Tryz.call73 (F9 hD hm) [1] rfl [0] rfl ?_)
 rintro _ _ _ ⟨v,rfl,rfl,rfl⟩
 refine aA (fun m=>(m.own 1 rfl).slice) ?_
 rintro⟨A_x,c_x,rfl,hc_x⟩
 refine aA (fun m=>(m.ord 1 rfl).2.1) fun hA_x=> ?_
 refine hy (fun _=>aa rfl)<|hy (fun _=>aH rfl rfl)<|hy (fun _=>aH rfl rfl)<|hy (fun _=>ab rfl)<|hy (fun _=>ab rfl)<|ai<|al (ρ' :=[(6,_),(4,_),(3,_),(0,_),(1,_)]) ⟨rfl,rfl,rfl,rfl,rfl,trivial⟩<|ak (X' :=[_,_,_]) (S' :=[_]) (fun _ m=>m)<|ae<|ah<|aj<|hy (fun _=>aa rfl)<|hy (fun _=>cm rfl rfl)<|hy (fun _=>ab rfl)<|ai<|al (ρ' :=[(4,_),(6,_),(3,_),(0,_),(1,_)]) ⟨rfl,rfl,rfl,rfl,rfl,trivial⟩<|ae<|aS<| ?_
 exact a6 trivial rfl rfl [0] rfl [] rfl ⟨rfl,rfl,rfl⟩
end Go.Proofs.YtmibdabdlgmafaaGreatDoor
end
section
set_option maxRecDepth 20000
set_option maxHeartbeats 4000000
namespace Go.Proofs.YtmibdabdlgmafaaGreatDoor
open Go.Eng Go.Hx
theorem Fx:cM Tryz.prog 179=some false:=by kernel_rfl
theorem E4:eV Tryz.prog 179=some 1:=by kernel_rfl
theorem FX:TI Tryz.prog 179 .nilFunc 1 8:=by unfold TI;kernel_rfl
def sJ(g:Nat)(L:List bc)(v:Value)(F:RD→RD×Int):Prop:=∃(f:Nat) (first cap:List Value),v= .func (.func f) first.toArray cap.toArray∧(∀args w,(callFunc f args).run Tryz.prog w= .ok (.enter f args) w)∧
 ∀(st:cU) (d:RD) (kk:Nat),DS st d kk→kk≤99000→b6 Tryz.prog f (first++[]++cap) [bP g st] [fw L] (fun v_ X_ S_=>∃st1,v_= .int .i64 (F d).2∧X_=[bP g st1]∧S_=[]∧DS st1 (F d).1 (kk+1))
theorem Gp{g:Nat}{st:cU}{d:RD}{kk:Nat}{A:Option Addr}{n c:Nat}{fs:List Value}{Fs:List (RD→RD×Int)}{L:List bc}(hD:DS st d kk)(hkk:kk+n≤99000)(hn:n≤100000)(hF:Fs.length=n)(hfs:∀(i:Nat) (F:RD→RD×Int),Fs[i]? =some F→∃v,fs[i]? =some v∧sJ g L v F):b6 Tryz.prog 109 [.slice A n c] [bP g st] [cn 1 A n fs,fw L] (fun v_ X_ S_=>∃st1,v_=(.int .i64 (gv Fs d).2)∧X_=[bP g st1]∧S_=[]∧(DS st1 (gv Fs d).1 (kk+n))):=by
 obtain⟨d0,hd0⟩:∃d0,d0=gv Fs d:=⟨_,rfl⟩
 rw[←hd0]
 refine aI (N:=18) Tryz.func109 rfl rfl (by simp) fun b=> ?_
 refine aU (fun m=>gu (m.rd 0 rfl)) ?_
 rintro⟨hl_f,hA_f⟩
 refine ah<|aj<|hy (fun _=>ab rfl)<|ai<|ae<|ah<|ah<|aj<|hy (fun _=>aa rfl)<|hy (fun _=>aT rfl Tryz.underlying239)<|hy (fun _=>aa rfl)<|ai<|ae<|aK<| ?_
 refine fD (fun k st d=>n-k) (fun k st d=>[(8,.int .i64 (k:Nat))]) (fun k st d=>[bP g st]) (fun k st d=>[]) (fun k st d=>k≤n∧DS st d (kk+k)∧gv (Fs.drop k) d=d0) 0 st d [(7,_),(6,_),(0,_)] ⟨rfl,rfl,rfl,trivial⟩ [0] rfl [] rfl (⟨Nat.zero_le _,hD,hd0.symm⟩) ⟨rfl,trivial⟩ (fun k st d ⟨hk,hD,hR⟩=> ?_)
 refine ah<|aj<|hy (fun _=>bC rfl rfl)<|ai<|ae<|ah<| ?_
 refine cj rfl (fun hlt=> ?_) (fun hlt=> ?_)
 ·obtain⟨F,hFk⟩:∃F,Fs[k]? =some F:=⟨_,List.getElem?_eq_getElem (by omega)⟩
  obtain⟨v,hv,f,first,cap,rfl,hcall,hcon⟩:=hfs k F hFk
  have hdr:Fs.drop k=F::Fs.drop (k+1):=by
   have hlt2:k<Fs.length:=by omega
   rw[List.drop_eq_getElem_cons hlt2]
   congr 1
   exact Option.some.inj ((List.getElem?_eq_getElem hlt2).symm.trans hFk)
  rw[hdr]at hR
  refine aB<|ae<|ah<|aK<|ah<|aj<|hy (fun _=>aN rfl rfl Tryz.underlying239 E4 hA_f rfl (by omega))<|hy (fun m=>aq rfl Fx ((m.rd 0 rfl).cell hv))<|hy (fun _=>ab rfl)<|ai<|al (ρ' :=[(4,_),(9,_),(8,_),(7,_),(6,_),(0,_)]) ⟨rfl,rfl,rfl,rfl,rfl,rfl,trivial⟩<|ae<|ah<|aj<|hy (fun _=>aa rfl)<| ?_
  refine hx (ek rfl rfl hcall (hcon st d (kk+k) hD (by omega)) [0] rfl [1] rfl ?_)
  rintro _ _ _ ⟨st1,rfl,rfl,rfl,hD1⟩
  refine hy (fun _=>ab rfl)<|ai<|al (ρ' :=[(5,_),(4,_),(9,_),(8,_),(7,_),(6,_),(0,_)]) ⟨rfl,rfl,rfl,rfl,rfl,rfl,rfl,trivial⟩<|ak (X' :=[_]) (S' :=[_,_]) (fun _ m=>m)<|ae<|ah<|aj<|hy (fun _=>aa rfl)<|hy (fun _=>dF rfl rfl)<|ai<|al (ρ' :=[(15,_),(5,_),(4,_),(9,_),(8,_),(7,_),(6,_),(0,_)]) ⟨rfl,rfl,rfl,rfl,rfl,rfl,rfl,rfl,trivial⟩<|ae<| ?_
  refine cj rfl (fun he=> ?_) (fun he=> ?_)
  ·have e0:gv (F::Fs.drop (k+1)) d=F d:=if_pos he
   rw[e0]at hR
   rw[←hR]
   refine ah<|aj<|hy (fun _=>aa rfl)<|hy (fun _=>ab rfl)<|ai<|al (ρ' :=[(2,_),(15,_),(5,_),(4,_),(9,_),(8,_),(7,_),(6,_),(0,_)]) ⟨rfl,rfl,rfl,rfl,rfl,rfl,rfl,rfl,rfl,trivial⟩<|ae<|aS<|bf<|ay<|ay<|bf<|ay<| ?_
   exact a6 trivial rfl rfl [0] rfl [] rfl ⟨st1,rfl,rfl,rfl,(hD1.le (by omega))⟩
  ·have e0:gv (F::Fs.drop (k+1)) d=gv (Fs.drop (k+1)) (F d).1:=if_neg he
   rw[e0]at hR
   refine aB<|aR<|ae<|aj<|hy (fun _=>aL rfl rfl (bx (by omega) (by omega)))<|hy (fun _=>aa rfl)<|ai<|al (ρ' :=[(8,_),(15,_),(5,_),(4,_),(9,_),(7,_),(6,_),(0,_)]) ⟨rfl,rfl,rfl,rfl,rfl,rfl,rfl,rfl,trivial⟩<| ?_
   refine fz (k+1) st1 (F d).1 ⟨rfl,rfl,rfl,rfl,trivial⟩ [0] rfl [0,1] rfl (⟨by omega,hD1,hR⟩) (by omega)
 ·obtain rfl:k=n:=by omega
  rw[List.drop_of_length_le (by omega)]at hR
  have hR:(d,0)=d0:=hR
  rw[←hR]
  refine bK<|ao<|ao<|aC<|ae<|ah<|aj<|hy (fun _=>ab rfl)<|ai<|ae<|aS<| ?_
  exact a6 trivial rfl rfl [0] rfl [] rfl ⟨st,rfl,rfl,rfl,hD⟩
end Go.Proofs.YtmibdabdlgmafaaGreatDoor
end
section
set_option maxRecDepth 20000
set_option maxHeartbeats 4000000
namespace Go.Proofs.YtmibdabdlgmafaaGreatDoor
open Go.Eng Go.Hx
theorem FB{g g2 g9 g3:Nat}{st:cU}{d:RD}{kk:Nat}{p:List UInt8}{A:Option Addr}{n c:Nat}{bb:List UInt8}(hD:DS st d kk)(hkk:kk≤99000)(hc:n≤c)(hl:bb.length=n)(hn:n≤4096):b6 Tryz.prog 105 [.pointer (some ⟨g2,0,none⟩),.pointer (some ⟨g9,0,none⟩),.pointer (some ⟨g3,0,none⟩)] [bP g st] [aE g2 35 [.pointer (some ⟨g,0,none⟩)],aE g9 9 [SV p],aE g3 27 [.slice A n c],cn 1 A n (aP bb)] (fun v_ X_ S_=>∃st1,v_=(.int .i64 (d.bJ p (b7 bb)))∧X_=[bP g st1]∧S_=[]∧(DS st1 (d.write p (b7 bb)) (kk+1))):=by
 have hsl:=oS bb
 refine aI (N:=9) Tryz.func105 rfl rfl (by simp) fun b=> ?_
 refine aU (fun m=>eb (m.rd 3 rfl)) ?_
 rintro⟨hl_r,hA_r⟩
 refine ah<|aj<|hy (fun _=>ab rfl)<|ai<|ae<|ah<|cu [3,4] [(0,some 1),(1,some 1),(2,some 0),(3,none),(4,none),(5,some 2)] (by kernel_rfl) (by kernel_rfl) rfl 1<|b5 (fun m=>aq rfl rR (ax (m.re 0 rfl) (i:=0) rfl))<|b5 (fun m=>aq rfl lF (ax (m.re 1 rfl) (i:=0) rfl))<|b5 (fun m=>aq rfl cZ (ax (m.re 2 rfl) (i:=0) rfl))<| ?_
 refine di (au rfl Tryz.call106 (FA (by omega) (by omega) hl) [] rfl [3] rfl ?_)
 rintro _ _ _ ⟨v,rfl,rfl,rfl⟩
 refine⟨(fun _=>wk [1] [0,1,2,3] rfl rfl), ?_⟩
 refine b4 (fun m=>(m.own 0 rfl).slice) ?_
 rintro⟨A_x,c_x,rfl,hc_x⟩
 refine b4 (fun m=>(m.ord 0 rfl).2.1) fun hA_x=> ?_
 refine di (cK rfl Tryz.call33 (AR hD (by omega) rfl (by omega)) [1] rfl (.x 0 rfl .own .nil) ?_)
 rintro _ _ _ ⟨st1,rfl,rfl,rfl,hp⟩
 refine⟨rfl, ?_⟩
 refine⟨(fun h=>absurd h (by decide)), ?_⟩
 refine an (ab rfl)<|bo<|al (ρ' :=[(3,_),(0,_),(1,_),(2,_)]) ⟨rfl,rfl,rfl,rfl,trivial⟩<|ak (X' :=[_,_]) (S' :=[_,_,_,_]) (fun _ m=>m)<|ae<|aS<| ?_
 exact a6 trivial rfl rfl [0] rfl [] rfl ⟨st1,rfl,rfl,rfl,hp⟩
theorem Fe{g g2 g9 g6:Nat}{st:cU}{d:RD}{kk:Nat}{p nm:List UInt8}(hD:DS st d kk)(hkk:kk≤99000)(hm:nm.length=32):b6 Tryz.prog 107 [.pointer (some ⟨g2,0,none⟩),.pointer (some ⟨g9,0,none⟩),.pointer (some ⟨g6,0,none⟩)] [bP g st] [aE g2 35 [.pointer (some ⟨g,0,none⟩)],aE g9 9 [SV p],aE g6 53 (aP nm)] (fun v_ X_ S_=>∃st1,v_=(.int .i64 (d.bV p (bI nm)))∧X_=[bP g st1]∧S_=[]∧(DS st1 (d.rename p (bI nm)) (kk+1))):=by
 refine aI (N:=9) Tryz.func107 rfl rfl (by simp) fun b=> ?_
 refine ah<|aj<|hy (fun _=>ab rfl)<|ai<|ae<|ah<|cu [3,4] [(0,some 1),(1,some 1),(2,some 0),(3,none),(4,none),(5,some 2)] (by kernel_rfl) (by kernel_rfl) rfl 1<|b5 (fun m=>aq rfl rR (ax (m.re 0 rfl) (i:=0) rfl))<|b5 (fun m=>aq rfl lF (ax (m.re 1 rfl) (i:=0) rfl))<|b5 (fun m=>aX rfl cr bZ (by rw[az];exact hm) ((m.re 2 rfl).aw))<| ?_
 refine di (au rfl Tryz.call94 (x1 hm) [] rfl [] rfl ?_)
 rintro _ _ _ ⟨rfl,rfl,rfl⟩
 refine⟨(fun _=>wk [0] [0,1,2] rfl rfl), ?_⟩
 refine di (au rfl Tryz.call108 (zJ hD (by omega) (a:=p) (c:=bI nm)) [0] rfl [] rfl ?_)
 rintro _ _ _ ⟨st1,rfl,rfl,rfl,hp⟩
 refine⟨(fun h=>absurd h (by decide)), ?_⟩
 refine an (ab rfl)<|bo<|al (ρ' :=[(3,_),(0,_),(1,_),(2,_)]) ⟨rfl,rfl,rfl,rfl,trivial⟩<|ak (X' :=[_]) (S' :=[_,_,_]) (fun _ m=>m)<|ae<|aS<| ?_
 exact a6 trivial rfl rfl [0] rfl [] rfl ⟨st1,rfl,rfl,rfl,hp⟩
abbrev iJ(g g2 g9 g3 g6:Nat)(A:Option Addr)(n c:Nat)(bb nm p:List UInt8):List bc:=[aE g2 35 [.pointer (some ⟨g,0,none⟩)],aE g9 9 [SV p],aE g3 27 [.slice A n c],aE g6 53 (aP nm),cn 1 A n (aP bb)]
theorem tZ{g g2 g9 g3 g6:Nat}{A:Option Addr}{n c:Nat}{bb nm p:List UInt8}(hc:n≤c)(hl:bb.length=n)(hn:n≤4096):
  sJ g (iJ g g2 g9 g3 g6 A n c bb nm p) (.func (.func 105) #[] #[.pointer (some ⟨g2,0,none⟩),.pointer (some ⟨g9,0,none⟩),.pointer (some ⟨g3,0,none⟩)]) (rF p (b7 bb)):=
 ⟨105,[],[.pointer (some ⟨g2,0,none⟩),.pointer (some ⟨g9,0,none⟩),.pointer (some ⟨g3,0,none⟩)],rfl,Tryz.call105,fun st d kk hD hk=>b6.tX (FB hD hk hc hl hn) (by
  intro s hs
  simp only[List.mem_cons,List.not_mem_nil,or_false]at hs
  rcases hs with rfl|rfl|rfl|rfl
  ·exact⟨_,List.mem_singleton.2 rfl,View.pG 0 rfl⟩
  ·exact⟨_,List.mem_singleton.2 rfl,View.pG 1 rfl⟩
  ·exact⟨_,List.mem_singleton.2 rfl,View.pG 2 rfl⟩
  ·exact⟨_,List.mem_singleton.2 rfl,View.pG 4 rfl⟩) (fun v X S h=>by
  obtain⟨st1,h1,h2,h3,h4⟩:=h
  exact⟨[],⟨st1,h1,h2,rfl,h4⟩,qZ.nil⟩)⟩
theorem wS{g g2 g9 g3 g6:Nat}{A:Option Addr}{n c:Nat}{bb nm p:List UInt8}(hm:nm.length=32):
  sJ g (iJ g g2 g9 g3 g6 A n c bb nm p) (.func (.func 107) #[] #[.pointer (some ⟨g2,0,none⟩),.pointer (some ⟨g9,0,none⟩),.pointer (some ⟨g6,0,none⟩)]) (rj p (bI nm)):=
 ⟨107,[],[.pointer (some ⟨g2,0,none⟩),.pointer (some ⟨g9,0,none⟩),.pointer (some ⟨g6,0,none⟩)],rfl,Tryz.call107,fun st d kk hD hk=>b6.tX (Fe hD hk hm) (by
  intro s hs
  simp only[List.mem_cons,List.not_mem_nil,or_false]at hs
  rcases hs with rfl|rfl|rfl
  ·exact⟨_,List.mem_singleton.2 rfl,View.pG 0 rfl⟩
  ·exact⟨_,List.mem_singleton.2 rfl,View.pG 1 rfl⟩
  ·exact⟨_,List.mem_singleton.2 rfl,View.pG 3 rfl⟩) (fun v X S h=>by
  obtain⟨st1,h1,h2,h3,h4⟩:=h
  exact⟨[],⟨st1,h1,h2,rfl,h4⟩,qZ.nil⟩)⟩
theorem pS{g:Nat}{L:List bc}:sJ g L (.func (.func 110) #[.pointer (some ⟨g,0,none⟩)] #[]) kY:=
 ⟨110,[.pointer (some ⟨g,0,none⟩)],[],rfl,Tryz.call110,fun st d kk hD hk=>b6.tX (CQ hD) (fun s hs=>by cases hs) (fun v X S h=>by
  obtain⟨st1,h1,h2,h3,h4⟩:=h
  exact⟨[],⟨st1,h1,h2,rfl,h4.le (by omega)⟩,qZ.nil⟩)⟩
theorem eF:dI.length=32:=List.length_replicate
theorem wG:(aP dI).length=32:=by rw[az,eF]
theorem vS{d:RD}{b:List UInt8}(h:4096<b.length):d.put b=(d,dI,3):=by unfold RD.put;rw[if_pos h]
theorem ze{d:RD}{b:List UInt8}(h:¬4096<b.length)(h6:d.fV (bp b)=6):d.put b=(d,dI,6):=by unfold RD.put;rw[if_neg h,if_pos h6]
theorem wF{d:RD}{b:List UInt8}(h:¬4096<b.length)(h6:d.fV (bp b)=0):d.put b=(d,bp b,0):=by unfold RD.put;rw[if_neg h,if_neg (by rw[h6];decide),if_pos h6]
theorem BL{d:RD}{b:List UInt8}(h:¬4096<b.length)(h6:¬d.fV (bp b)=6)(h0:¬d.fV (bp b)=0):d.put b=((d.iF b).1,if(d.iF b).2=0 then bp b else dI,(d.iF b).2):=by unfold RD.put;rw[if_neg h,if_neg h6,if_neg h0]
abbrev zj(g g2 g9 g3 g6:Nat):List Value:=[.func (.func 105) #[] #[.pointer (some ⟨g2,0,none⟩),.pointer (some ⟨g9,0,none⟩),.pointer (some ⟨g3,0,none⟩)],.func (.func 110) #[.pointer (some ⟨g,0,none⟩)] #[],.func (.func 107) #[] #[.pointer (some ⟨g2,0,none⟩),.pointer (some ⟨g9,0,none⟩),.pointer (some ⟨g6,0,none⟩)],.func (.func 110) #[.pointer (some ⟨g,0,none⟩)] #[]]
abbrev xu(p b nm:List UInt8):List (RD→RD×Int):=[rF p (b7 b),kY,rj p (bI nm),kY]
theorem xe{g g2 g9 g3 g6:Nat}{A:Option Addr}{n c:Nat}{bb nm p:List UInt8}(hc:n≤c)(hl:bb.length=n)(hn:n≤4096)(hm:nm.length=32):
  ∀(i:Nat) (F:RD→RD×Int),(xu p bb nm)[i]? =some F→∃v,(zj g g2 g9 g3 g6)[i]? =some v∧sJ g (iJ g g2 g9 g3 g6 A n c bb nm p) v F:=by
 intro i F h
 match i with
 |0=>cases h;exact⟨_,rfl,tZ hc hl hn⟩
 |1=>cases h;exact⟨_,rfl,pS⟩
 |2=>cases h;exact⟨_,rfl,wS hm⟩
 |3=>cases h;exact⟨_,rfl,pS⟩
 |i+4=>cases h
theorem Fo{g:Nat}{st:cU}{d:RD}{kk:Nat}{A:Option Addr}{n c:Nat}{bb:List UInt8}(hD:DS st d kk)(hkk:kk≤90000)(hc:n≤c)(hl:bb.length=n)(hn:n≤100000):b6 Tryz.prog 28 [.pointer (some ⟨g,0,none⟩),.slice A n c] [bP g st] [cn 1 A n (aP bb),dG] (fun v_ X_ S_=>∃st1,v_=(.tuple #[.agg (aP (d.put bb).2.1).toArray,.int .i64 (d.put bb).2.2])∧X_=[bP g st1]∧S_=[]∧(DS st1 (d.put bb).1 (kk+4))):=by
 have h32:(aP (bp bb)).length=32:=by rw[az,bk]
 have hhl:(ct (bp bb)).length=64:=by rw[dR,bk]
 refine aI (N:=53) Tryz.func28 rfl rfl (by simp) fun b=> ?_
 refine aU (fun m=>eb (m.rd 0 rfl)) ?_
 rintro⟨hl_r,hA_r⟩
 refine ah<|aj<| ?_
 refine hx (bu rfl (fun g2=> ?_))
 refine aG (fun w m=>m.bs 0 rfl (show _=aE g2 35 [.pointer (some ⟨g,0,none⟩)]from rfl)) ?_
 refine hx (bu rfl (fun g3=> ?_))
 refine aG (fun w m=>m.bs 0 rfl (show _=aE g3 27 [.slice A n c]from rfl)) ?_
 refine hx (bh fY (fun g4=> ?_))
 refine hy (fun _=>ab rfl)<|ai<|ak (X' :=[_,_,_,_]) (S' :=[_,_]) (fun _ m=>m)<|ae<|ah<|ah<|aj<|hy (fun m=>aq rfl cZ (ax (m.aQ 1 rfl) rfl))<|hy (fun _=>aT rfl Tryz.underlying27)<|hy (fun _=>cy rfl rfl)<|ai<|al (ρ' :=[(15,_),(5,_),(4,_),(3,_),(2,_),(0,_),(1,_)]) ⟨rfl,rfl,rfl,rfl,rfl,rfl,rfl,trivial⟩<|ae<| ?_
 refine cj rfl (fun h1=> ?_) (fun h1=> ?_)
 ·have hb:4096<bb.length:=by omega
  rw[vS hb]
  refine ah<|aj<|hy (fun _=>yV (dK fY rfl (by kernel_rfl)) ((rfl:_=Value.agg (aP dI).toArray)))<| ?_
  refine cx (a8 0 rfl rfl rfl bZ wG bg rfl ?_)
  refine hy (fun _=>ab rfl)<|ai<|al (ρ' :=[(5,_),(15,_),(4,_),(3,_),(2,_),(0,_),(1,_)]) ⟨rfl,rfl,rfl,rfl,rfl,rfl,rfl,trivial⟩<|ak (X' :=[_,_,_,_]) (S' :=[_,_]) (fun _ m=>m)<|ae<|aS<|ay<| ?_
  exact dY trivial rfl rfl rfl cr bZ wG (fun m=>(m.aQ 0 rfl).aw) [3] rfl [] rfl ⟨st,rfl,rfl,rfl,(hD.le (by omega))⟩
 ·have hb:¬4096<bb.length:=by omega
  refine aB<|ae<|ah<|aj<|hy (fun m=>aq rfl cZ (ax (m.aQ 1 rfl) rfl))<| ?_
  refine hx (au rfl Tryz.call102 (ri (by omega)) [] rfl [0,1] rfl ?_)
  rintro _ _ _ ⟨rfl,rfl,rfl⟩
  refine hx (bh fY (fun g6=> ?_))
  refine cx (a8 0 rfl rfl rfl bZ h32 bg rfl ?_)
  refine ai<|al (ρ' :=[(6,_),(15,_),(5,_),(4,_),(3,_),(2,_),(0,_),(1,_)]) ⟨rfl,rfl,rfl,rfl,rfl,rfl,rfl,rfl,trivial⟩<|ak (X' :=[_,_,_,_,_]) (S' :=[_,_]) (fun _ m=>m)<|ae<|ah<|aj<|hy (fun m=>aq rfl rR (ax (m.aQ 3 rfl) rfl))<|hy (fun m=>aX rfl cr bZ h32 ((m.aQ 0 rfl).aw))<| ?_
  refine hx (au rfl Tryz.call73 (F9 hD (bk _)) [4] rfl [1] rfl ?_)
  rintro _ _ _ ⟨v,rfl,rfl,rfl⟩
  refine aA (fun m=>(m.own 1 rfl).slice) ?_
  rintro⟨A_x,c_x,rfl,hc_x⟩
  refine aA (fun m=>(m.ord 1 rfl).2.1) fun hA_x=> ?_
  refine hy (fun _=>aa rfl)<|hy (fun _=>aH rfl rfl)<|hy (fun _=>aH rfl rfl)<|hy (fun _=>ab rfl)<|hy (fun _=>ab rfl)<|ai<|al (ρ' :=[(8,_),(6,_),(15,_),(5,_),(4,_),(3,_),(2,_),(0,_),(1,_)]) ⟨rfl,rfl,rfl,rfl,rfl,rfl,rfl,rfl,rfl,trivial⟩<|ak (X' :=[_,_,_,_,_,_]) (S' :=[_,_]) (fun _ m=>m)<|ae<|ah<|ah<|aj<|hy (fun _=>aa rfl)<|hy (fun _=>pU rfl Tryz.underlying47 (fun _ h=>by cases h))<|hy (fun _=>pU rfl Tryz.underlying47 (fun _ h=>by cases h))<| ?_
  refine hx (au rfl Tryz.call103 (CJ) [] rfl [] rfl ?_)
  rintro _ _ _ ⟨rfl,rfl,rfl⟩
  refine ai<|al (ρ' :=[(28,_),(8,_),(6,_),(15,_),(5,_),(4,_),(3,_),(2,_),(0,_),(1,_)]) ⟨rfl,rfl,rfl,rfl,rfl,rfl,rfl,rfl,rfl,rfl,trivial⟩<|ak (X' :=[_,_,_,_,_,_]) (S' :=[_,_]) (fun _ m=>m)<|ae<| ?_
  refine cj rfl (fun h6=> ?_) (fun h6=> ?_)
  ·rw[ze hb h6]
   have h6' :d.fV (bp bb)=6:=h6
   rw[h6']
   refine ah<|aj<|hy (fun _=>yV (dK fY rfl (by kernel_rfl)) ((rfl:_=Value.agg (aP dI).toArray)))<|hy (fun _=>aa rfl)<| ?_
   refine cx (a8 3 rfl rfl rfl bZ wG bg rfl ?_)
   refine hy (fun _=>ab rfl)<|ai<|al (ρ' :=[(5,_),(28,_),(8,_),(6,_),(15,_),(4,_),(3,_),(2,_),(0,_),(1,_)]) ⟨rfl,rfl,rfl,rfl,rfl,rfl,rfl,rfl,rfl,rfl,trivial⟩<|ak (X' :=[_,_,_,_,_,_]) (S' :=[_,_]) (fun _ m=>m)<|ae<|aS<|ay<| ?_
   exact dY trivial rfl rfl rfl cr bZ wG (fun m=>(m.aQ 0 rfl).aw) [1] rfl [] rfl ⟨st,rfl,rfl,rfl,(hD.le (by omega))⟩
  ·refine aB<|ae<|ah<|ah<|aj<|hy (fun _=>aa rfl)<|hy (fun _=>cm rfl rfl)<|ai<|al (ρ' :=[(32,_),(28,_),(8,_),(6,_),(15,_),(5,_),(4,_),(3,_),(2,_),(0,_),(1,_)]) ⟨rfl,rfl,rfl,rfl,rfl,rfl,rfl,rfl,rfl,rfl,rfl,trivial⟩<|ae<| ?_
   refine cj rfl (fun h0=> ?_) (fun h0=> ?_)
   ·rw[wF hb h0]
    have h0' :d.fV (bp bb)=0:=h0
    rw[h0']
    refine ah<|aj<|hy (fun m=>aX rfl cr bZ h32 ((m.aQ 2 rfl).aw))<|hy (fun _=>aa rfl)<| ?_
    refine cx (a8 3 rfl rfl rfl bZ h32 bg rfl ?_)
    refine hy (fun _=>ab rfl)<|ai<|al (ρ' :=[(5,_),(32,_),(28,_),(8,_),(6,_),(15,_),(4,_),(3,_),(2,_),(0,_),(1,_)]) ⟨rfl,rfl,rfl,rfl,rfl,rfl,rfl,rfl,rfl,rfl,rfl,trivial⟩<|ak (X' :=[_,_,_,_,_,_]) (S' :=[_,_]) (fun _ m=>m)<|ae<|aS<|ay<| ?_
    exact dY trivial rfl rfl rfl cr bZ h32 (fun m=>(m.aQ 0 rfl).aw) [1] rfl [] rfl ⟨st,rfl,rfl,rfl,(hD.le (by omega))⟩
   ·rw[BL hb h6 h0]
    refine aB<|ae<|ah<|aj<|hy (fun m=>aX rfl cr bZ h32 ((m.aQ 2 rfl).aw))<| ?_
    refine hx (au rfl Tryz.call104 (xC (bk _)) [] rfl [] rfl ?_)
    rintro _ _ _ ⟨rfl,rfl,rfl⟩
    refine hy (fun _=>yV (iu rfl rfl (hC (a:=[116,47]) (b:=ct (bp bb)) (by simp[hhl]))) ((show Value.string (strOf [116,47]++strOf (ct (bp bb)))=SV (bO (bp bb))from congrArg Value.string (cV _ _))))<| ?_
    refine hx (bh Hn (fun g9=> ?_))
    refine cx (c5 0 rfl rfl rfl Hr rfl (by first|exact Nat.le_of_ble_eq_true rfl|simp) ?_)
    refine ai<|al (ρ' :=[(9,_),(32,_),(28,_),(8,_),(6,_),(15,_),(5,_),(4,_),(3,_),(2,_),(0,_),(1,_)]) ⟨rfl,rfl,rfl,rfl,rfl,rfl,rfl,rfl,rfl,rfl,rfl,rfl,trivial⟩<|ak (X' :=[_,_,_,_,_,_,_]) (S' :=[_,_]) (fun _ m=>m)<|ae<|ah<|aj<|hy (fun _=>ff rfl rfl)<|hy (fun _=>ab rfl)<|ai<|al (ρ' :=[(10,_),(9,_),(32,_),(28,_),(8,_),(6,_),(15,_),(5,_),(4,_),(3,_),(2,_),(0,_),(1,_)]) ⟨rfl,rfl,rfl,rfl,rfl,rfl,rfl,rfl,rfl,rfl,rfl,rfl,rfl,trivial⟩<|ae<|ah<|aj<|hy (fun _=>ff rfl rfl)<|hy (fun _=>ab rfl)<|ai<|al (ρ' :=[(11,_),(10,_),(9,_),(32,_),(28,_),(8,_),(6,_),(15,_),(5,_),(4,_),(3,_),(2,_),(0,_),(1,_)]) ⟨rfl,rfl,rfl,rfl,rfl,rfl,rfl,rfl,rfl,rfl,rfl,rfl,rfl,rfl,trivial⟩<|ae<|ah<|ah<|aj<|hy (fun _=>aa rfl)<|hy (fun m=>aq rfl rR (ax (m.aQ 6 rfl) rfl))<|hy (fun _=>ff rfl rfl)<|hy (fun _=>aa rfl)<|hy (fun m=>aq rfl rR (ax (m.aQ 6 rfl) rfl))<|hy (fun _=>ff rfl rfl)<| ?_
    refine hx (bT Tryz.underlying239 FX rfl rfl rfl (by simp[Value.cells,B8]) (by decide) (by decide) (fun g46=> ?_))
    have hA_b46:0<4→(some (⟨g46,0,none⟩:Addr))≠none:=fun _ h=>by cases h
    refine aG (fun w m=>m.bs 1 rfl (show _=aE g9 9 [SV (bO (bp bb))]from rfl)) ?_
    refine aG (fun w m=>m.bs 4 rfl (show _=aE g6 53 (aP (bp bb))from rfl)) ?_
    refine aG (fun w m=>m.bs 2 rfl (show _=aF 179 1 (.slice (some ⟨g46,0,none⟩) 4 4) 4 (zj g g2 g9 g3 g6)from rfl)) ?_
    refine aG (fun w m=>(m.perm (ar [7] _ [_] _ rfl)).freeze) ?_
    refine aG (fun w m=>(m.perm (ar [2] _ [_] _ rfl)).freeze) ?_
    refine aG (fun w m=>(m.perm (ar [5] _ [_] _ rfl)).freeze) ?_
    refine aG (fun w m=>(m.perm (ar [1] _ [_] _ rfl)).freeze) ?_
    refine aG (S' :=fw (iJ g g2 g9 g3 g6 A n c bb (bp bb) (bO (bp bb)))::_) (fun w m=>m.o6 [3,2,1,0,4] rfl) ?_
    refine hx (cK rfl Tryz.call109 (Gp hD (by omega) (show 4≤100000 by decide) rfl (xe hc hl (by omega) (bk _)) (kk:=kk) (Fs:=(xu (bO (bp bb)) bb (bp bb))) (fs:=(zj g g2 g9 g3 g6)) (L:=(iJ g g2 g9 g3 g6 A n c bb (bp bb) (bO (bp bb))))) [1] rfl (.x 0 rfl .own (.s 0 rfl .nil)) ?_)
    rintro _ _ _ ⟨st1,rfl,rfl,rfl,hD1⟩
    refine⟨rfl, ?_⟩
    refine hy (fun _=>ab rfl)<|ai<|al (ρ' :=[(12,_),(11,_),(10,_),(9,_),(32,_),(28,_),(8,_),(6,_),(15,_),(5,_),(4,_),(3,_),(2,_),(0,_),(1,_)]) ⟨rfl,rfl,rfl,rfl,rfl,rfl,rfl,rfl,rfl,rfl,rfl,rfl,rfl,rfl,rfl,trivial⟩<|ak (X' :=[_,_,_,_]) (S' :=[_,_,_,_,_,_,_]) (fun _ m=>m)<|ae<|ah<|aj<|hy (fun _=>aa rfl)<|hy (fun _=>dF rfl rfl)<|ai<|al (ρ' :=[(49,_),(12,_),(11,_),(10,_),(9,_),(32,_),(28,_),(8,_),(6,_),(15,_),(5,_),(4,_),(3,_),(2,_),(0,_),(1,_)]) ⟨rfl,rfl,rfl,rfl,rfl,rfl,rfl,rfl,rfl,rfl,rfl,rfl,rfl,rfl,rfl,rfl,trivial⟩<|ae<| ?_
    refine cj rfl (fun h2=> ?_) (fun h2=> ?_)
    ·have hn2:¬(d.iF bb).2=0:=h2
     rw[if_neg hn2]
     refine ah<|aj<|hy (fun _=>yV (dK fY rfl (by kernel_rfl)) ((rfl:_=Value.agg (aP dI).toArray)))<|hy (fun _=>aa rfl)<| ?_
     refine cx (a8 3 rfl rfl rfl bZ wG bg rfl ?_)
     refine hy (fun _=>ab rfl)<|ai<|al (ρ' :=[(5,_),(49,_),(12,_),(11,_),(10,_),(9,_),(32,_),(28,_),(8,_),(6,_),(15,_),(4,_),(3,_),(2,_),(0,_),(1,_)]) ⟨rfl,rfl,rfl,rfl,rfl,rfl,rfl,rfl,rfl,rfl,rfl,rfl,rfl,rfl,rfl,rfl,trivial⟩<|ak (X' :=[_,_,_,_]) (S' :=[_,_,_,_,_,_,_]) (fun _ m=>m)<|ae<|aS<|ay<| ?_
     exact dY trivial rfl rfl rfl cr bZ wG (fun m=>(m.aQ 0 rfl).aw) [1] rfl [] rfl ⟨st1,rfl,rfl,rfl,hD1⟩
    ·have h2:=Decidable.not_not.1 h2
     have h2' :(gv (xu (bO (bp bb)) bb (bp bb)) d).2=0:=h2
     have h2'' :(d.iF bb).2=0:=h2'
     rw[if_pos h2'',h2'']
     refine aB<|ae<|ah<|aj<|hy (fun m=>aX rfl cr bZ h32 ((m.re 1 rfl).aw))<| ?_
     refine cx (a8 3 rfl rfl rfl bZ h32 bg rfl ?_)
     refine hy (fun _=>ab rfl)<|ai<|al (ρ' :=[(5,_),(49,_),(12,_),(11,_),(10,_),(9,_),(32,_),(28,_),(8,_),(6,_),(15,_),(4,_),(3,_),(2,_),(0,_),(1,_)]) ⟨rfl,rfl,rfl,rfl,rfl,rfl,rfl,rfl,rfl,rfl,rfl,rfl,rfl,rfl,rfl,rfl,trivial⟩<|ak (X' :=[_,_,_,_]) (S' :=[_,_,_,_,_,_,_]) (fun _ m=>m)<|ae<|aS<| ?_
     exact dY trivial rfl rfl rfl cr bZ h32 (fun m=>(m.aQ 0 rfl).aw) [1] rfl [] rfl ⟨st1,rfl,rfl,rfl,hD1⟩
end Go.Proofs.YtmibdabdlgmafaaGreatDoor
end
section
namespace Go.Hx
open Go.Eng
end Go.Hx
end
section
namespace Go.Proofs.YtmibdabdlgmafaaGreatDoor
open Go.Eng Go.Hx
end Go.Proofs.YtmibdabdlgmafaaGreatDoor
end
section
namespace Go.Proofs.YtmibdabdlgmafaaGreatDoor
open Go.Eng Go.Hx
theorem nP(q:FP→Bool)(l:List FP):c6 (l.filter q)≤c6 l:=by
 induction l with
 |nil=>exact Nat.le_refl _
 |cons x r ih=>
  rw[List.filter_cons]
  have e:c6 (x::r)=x.2.length+c6 r:=by simp[c6]
  split
  ·have e2:c6 (x::r.filter q)=x.2.length+c6 (r.filter q):=by simp[c6]
   omega
  ·omega
theorem nU{q:FP→Bool}{l:List FP}{x:FP}(hx:x∈l)(hq:q x=false):c6 (l.filter q)+x.2.length≤c6 l:=by
 induction l with
 |nil=>cases hx
 |cons y r ih=>
  rw[List.filter_cons]
  have e:c6 (y::r)=y.2.length+c6 r:=by simp[c6]
  rcases List.mem_cons.1 hx with rfl|hm
  ·rw[hq]
   have:=nP q r
   simp only[Bool.false_eq_true,if_false]
   omega
  ·have h1:=ih hm
   split
   ·have e2:c6 (y::r.filter q)=y.2.length+c6 (r.filter q):=by simp[c6]
    omega
   ·omega
theorem s6(l:List FP)(f:FP):c6 (gX l f)≤c6 l+f.2.length:=by
 induction l with
 |nil=>simp[gX,c6]
 |cons x r ih=>
  have e:c6 (x::r)=x.2.length+c6 r:=by simp[c6]
  rw[gX]
  split
  ·have e2:c6 (x::gX r f)=x.2.length+c6 (gX r f):=by simp[c6]
   omega
  ·have e2:c6 (f::(x::r).filter fun y=>decide (y.1≠f.1))=f.2.length+c6 ((x::r).filter fun y=>decide (y.1≠f.1)):=by simp[c6]
   have:=nP (fun y=>decide (y.1≠f.1)) (x::r)
   omega
structure At(d:RD)(F:List UInt8→Option (List UInt8))(T:Nat)(room:Int):Prop where
 pw:d.pw=-1
 room:d.room=room
 look:∀p,lk d.seen p=F p
 ll:c6 d.seen≤T
def zV(F:List UInt8→Option (List UInt8))(p:List UInt8)(v:Option (List UInt8)):List UInt8→Option (List UInt8):=fun q=>if q=p then v else F q
theorem At.c7{d:RD}{F:List UInt8→Option (List UInt8)}{T:Nat}{room:Int}(h:At d F T room)(p:List UInt8):d.c7 p=if F p=none then 4 else 0:=by
 have h1:=h.look p
 rw[←jm]at h1
 rw[RD.c7,if_neg (by rw[h.pw];decide)]
 cases hq:d.seen[cA d.seen p]? with
 |none=>rw[hq]at h1;rw[if_pos rfl,if_pos (by rw[←h1];rfl)]
 |some x=>rw[hq]at h1;rw[if_neg (by simp),if_neg (by rw[←h1];simp)]
theorem At.bJ{d:RD}{F:List UInt8→Option (List UInt8)}{T:Nat}{room:Int}(h:At d F T room){p l:List UInt8}(hp:fj p)(hr:(T:Int)+(l.length:Nat)≤room):d.bJ p l=0:=by
 have h1:=h.ll
 have h2:=h.room
 rw[RD.bJ,if_neg (fun h=>h hp),if_neg (by rw[h.pw];decide),if_neg (by omega)]
theorem At.write{d:RD}{F:List UInt8→Option (List UInt8)}{T:Nat}{room:Int}(h:At d F T room){p l:List UInt8}(hp:fj p)(hr:(T:Int)+(l.length:Nat)≤room):At (d.write p l) (zV F p (some l)) (T+l.length) room:=by
 have hs:(d.write p l).seen=gX d.seen (p,l):=by
  rw[RD.write,if_pos (h.bJ hp hr)]
  show ej d.seen 0 p [] l=_
  rw[ej,if_pos rfl,mG]
 refine⟨?_, ?_,fun q=> ?_, ?_⟩
 ·rw[RD.write,if_pos (h.bJ hp hr)]
  show ei d.pw=-1
  rw[h.pw];rfl
 ·rw[RD.write,if_pos (h.bJ hp hr)];exact h.room
 ·rw[hs,rz]
  unfold zV
  split
  ·rfl
  ·exact h.look q
 ·rw[hs]
  have:=s6 d.seen (p,l)
  have:=h.ll
  have e:(p,l).2.length=l.length:=rfl
  omega
theorem At.da{d:RD}{F:List UInt8→Option (List UInt8)}{T:Nat}{room:Int}(h:At d F T room):d.da=0:=by rw[RD.da,if_neg (by rw[h.pw];decide)]
theorem At.sync{d:RD}{F:List UInt8→Option (List UInt8)}{T:Nat}{room:Int}(h:At d F T room):At d.sync F T room:=by
 have e:d.sync={d with cY:=d.seen,waits:=[],pw:=ei d.pw}:=by rw[RD.sync,if_neg (by rw[h.pw];decide)]
 rw[e]
 exact⟨by show ei d.pw=-1;rw[h.pw];rfl,h.room,h.look,h.ll⟩
theorem At.bV{d:RD}{F:List UInt8→Option (List UInt8)}{T:Nat}{room:Int}(h:At d F T room){a c x:List UInt8}(hc:fj c)(hx:F a=some x):d.bV a c=0:=by
 rw[RD.bV,if_neg (fun h=>h hc),h.c7,if_neg (by rw[hx];simp)]
theorem At.rename{d:RD}{F:List UInt8→Option (List UInt8)}{T:Nat}{room:Int}(h:At d F T room){a c x:List UInt8}(hc:fj c)(hx:F a=some x):At (d.rename a c) (zV (zV F a none) c (some x)) T room:=by
 have h1:=h.look a
 rw[←jm,hx]at h1
 obtain⟨y,hy,hyx⟩:∃y,d.seen[cA d.seen a]? =some y∧y.2=x:=by
  cases hq:d.seen[cA d.seen a]? with
  |none=>rw[hq]at h1;cases h1
  |some y=>rw[hq]at h1;exact⟨y,rfl,by simpa using h1⟩
 have hya:y.1=a:=by
  obtain⟨hi,he⟩:=List.getElem?_eq_some_iff.1 hy
  have:=List.findIdx_getElem (p:=fun x:FP=>decide (x.1=a)) (xs:=d.seen) (w:=hi)
  rw[←he]
  exact of_decide_eq_true this
 have hs:(d.rename a c).seen=gX (dD d.seen a) (c,x):=by
  rw[RD.rename,if_pos (h.bV hc hx)]
  show ej d.seen 1 a c []=_
  rw[ej,if_neg (by decide),hy]
  show(if(1:Int)=2 then _ else _)=_
  rw[if_neg (by decide),mG,hyx]
 refine⟨?_, ?_,fun q=> ?_, ?_⟩
 ·rw[RD.rename,if_pos (h.bV hc hx)]
  show ei d.pw=-1
  rw[h.pw];rfl
 ·rw[RD.rename,if_pos (h.bV hc hx)];exact h.room
 ·rw[hs,rz]
  unfold zV dD
  split
  ·rfl
  ·rw[j9]
   split
   ·rfl
   ·exact h.look q
 ·rw[hs]
  have h2:=s6 (dD d.seen a) (c,x)
  have h3:c6 (dD d.seen a)+y.2.length≤c6 d.seen:=nU (List.mem_of_getElem? hy) (by simp[hya])
  have:=h.ll
  have e:(c,x).2.length=x.length:=rfl
  rw[hyx]at h3
  omega
end Go.Proofs.YtmibdabdlgmafaaGreatDoor
end
section
namespace Go.Proofs.YtmibdabdlgmafaaGreatDoor
open Go.Eng Go.Hx
theorem sY:∀i:Nat,i<16→pF.getD i 0≠0:=by decide
theorem oN(l:List UInt8):¬(0:UInt8)∈ct l:=by
 intro h
 unfold ct at h
 obtain⟨x,hx,hc⟩:=List.mem_flatMap.1 h
 have hb:=x.toNat_lt
 simp only[ub,List.mem_cons,List.not_mem_nil,or_false]at hc
 rcases hc with hc|hc
 ·exact sY _ (by omega) hc.symm
 ·exact sY _ (by omega) hc.symm
theorem xX{nm:List UInt8}(h:nm.length=32):fj (bI nm):=by
 refine⟨by simp[bI],by rw[kH h];decide,fun hz=> ?_⟩
 unfold bI at hz
 simp only[List.mem_append,List.mem_cons,List.not_mem_nil,or_false]at hz
 rcases hz with((hz|hz)|hz)|hz
 ·rcases hz with hz|hz <;> exact absurd hz (by decide)
 ·exact oN nm (List.mem_of_mem_take hz)
 ·exact absurd hz (by decide)
 ·exact oN nm hz
theorem xS{nm:List UInt8}(h:nm.length=32):fj (bO nm):=by
 refine⟨by simp[bO],by rw[kL h];decide,fun hz=> ?_⟩
 unfold bO at hz
 simp only[List.mem_append,List.mem_cons,List.not_mem_nil,or_false]at hz
 rcases hz with hz|hz
 ·rcases hz with hz|hz <;> exact absurd hz (by decide)
 ·exact oN nm hz
theorem nL(a b:List UInt8):bI a≠bO b:=by
 intro h
 unfold bI bO at h
 simp only[List.cons_append,List.nil_append,List.cons.injEq]at h
 exact absurd h.1 (by decide)
theorem uE{d:RD}(h:d.pw=-1):d.sync.cY=d.sync.seen∧d.sync.waits=[]:=by
 have e:d.sync={d with cY:=d.seen,waits:=[],pw:=ei d.pw}:=by rw[RD.sync,if_neg (by rw[h];decide)]
 rw[e]
 exact⟨rfl,rfl⟩
structure SD(d:RD)(F:List UInt8→Option (List UInt8))(T:Nat)(room:Int):Prop where
 at_:At d F T room
 same:d.cY=d.seen
 waits:d.waits=[]
theorem SD.new(room:Int):SD (RD.new room) (fun _=>none) 0 room:=⟨⟨rfl,rfl,fun p=>rfl,Nat.le_refl _⟩,rfl,rfl⟩
theorem qI{d:RD}{F:List UInt8→Option (List UInt8)}{T:Nat}{room:Int}(h:At d F T room){nm:List UInt8}(hF:F (bI nm)=none):d.fV nm=4:=by
 have e:d.c7 (bI nm)=4:=by rw[h.c7,if_pos hF]
 rw[iT (by rw[e];decide),e]
def DJ(F:List UInt8→Option (List UInt8))(b:List UInt8):List UInt8→Option (List UInt8):=zV (zV (zV F (bO (bp b)) (some (b7 b))) (bO (bp b)) none) (bI (bp b)) (some (b7 b))
theorem SD.iF{d:RD}{F:List UInt8→Option (List UInt8)}{T:Nat}{room:Int}(h:SD d F T room){b:List UInt8}(hr:(T:Int)+(b7 b).length≤room):
  ∃d',d.iF b=(d',0)∧SD d' (DJ F b) (T+(b7 b).length) room:=by
 have hn:=xS (nm:=bp b) (bk b)
 have hp:=xX (nm:=bp b) (bk b)
 have h1:=h.at_.write (p:=bO (bp b)) (l:=b7 b) hn (by omega)
 have h2:=h1.sync
 have hx:zV F (bO (bp b)) (some (b7 b)) (bO (bp b))=some (b7 b):=if_pos rfl
 have h3:=h2.rename hp hx
 obtain⟨c1,c2⟩:=uE h3.pw
 refine⟨_, ?_,⟨h3.sync,c1,c2⟩⟩
 unfold RD.iF
 rw[gv,if_neg (by show¬d.bJ _ _≠0;rw[h.at_.bJ hn (by omega)];decide)]
 rw[gv,if_neg (by show¬(d.write _ _).da≠0;rw[h1.da];decide)]
 rw[gv,if_neg (by show¬(d.write _ _).sync.bV _ _≠0;rw[h2.bV hp hx];decide)]
 rw[gv,if_neg (by show¬((d.write _ _).sync.rename _ _).da≠0;rw[h3.da];decide)]
 rfl
theorem SD.put{d:RD}{F:List UInt8→Option (List UInt8)}{T:Nat}{room:Int}(h:SD d F T room){b:List UInt8}(hb:b.length≤4096)(hF:F (bI (bp b))=none)(hr:(T:Int)+(b7 b).length≤room):
  ∃d',d.put b=(d',bp b,0)∧SD d' (DJ F b) (T+(b7 b).length) room:=by
 have e4:=qI h.at_ hF
 obtain⟨d',e,hd⟩:=h.iF hr
 refine⟨d', ?_,hd⟩
 unfold RD.put
 rw[if_neg (by omega),if_neg (by rw[e4];decide),if_neg (by rw[e4];decide),e]
 rfl
end Go.Proofs.YtmibdabdlgmafaaGreatDoor
end
section
namespace Go.Eng
open Go.RowKit
section
variable{P:Program}{fn:Func}{R:Value→List bc→List bc→Prop}{N:Nat}{ρ:Env}{b:b8}{X X' Xz S S' :List bc}{e:Exit}
theorem eL{t t2 t' sz sz2:Nat}{ty ty2:TypeId}{p p2:Addr}{cs cs2:List Value}{v' :Value}(he:Leaves e)(hr:fn.results= #[.cell t ty,.cell t2 ty2,.tmp t'])(hv:get ρ t=some (.pointer (some p)))(hv2:get ρ t2=some (.pointer (some p2)))(hv' :get ρ t' =some v')(ha:cM P ty=some true)(hs:eV P ty=some sz)(hl:cs.length=sz)
  (hc:∀{w},Mem b X S w→∀j u,cs[j]? =some u→w.cell? (p.add j)=some u) (ha2:cM P ty2=some true) (hs2:eV P ty2=some sz2) (hl2:cs2.length=sz2)
  (hc2:∀{w},Mem b X S w→∀j u,cs2[j]? =some u→w.cell? (p2.add j)=some u) (is:List Nat) (hX:bD is X=some (X',Xz)) (js:List Nat) (hS:cS js S=some S') (hR:R (.tuple #[.agg cs.toArray,.agg cs2.toArray,v']) X' S'):HQ (bodyPost P fn (RB b R)) N [] e ρ b X S:=
 fun w m=>gI he (fun a hA=>by have h1:=hA.getD hv;have h2:=hA.getD hv2;have h3:=hA.getD hv';simp at h1 h2 h3;simp[results,hr,h1,h2,h3,asAddr,ke ha hs hl (hc m),ke ha2 hs2 hl2 (hc2 m)]) ⟨_,_,_,rfl,hR,m.out is hX js hS⟩
end
end Go.Eng
end
section
set_option maxRecDepth 20000
set_option maxHeartbeats 2000000
namespace Go.Proofs.YtmibdabdlgmafaaGreatDoor
open Go.Eng Go.Hx
def mv(s:Nat×Nat):List Value:=[.int .i64 (s.1:Nat),.int .i64 (s.2:Nat)]
theorem mP{s:Nat×Nat}:∀u∈mv s,u.oneCell' =true:=by
 intro u hu
 simp only[mv,List.mem_cons,List.not_mem_nil,or_false]at hu
 rcases hu with rfl|rfl <;> rfl
theorem Bo{A:Option Addr}{n c i:Nat}{l:List UInt8}(hn:n≤1000000000)(hl:l.length=n)(hi:i<n):b6 Tryz.prog 218 [.slice A n c,.int .i64 (i:Nat)] [] [cn 1 A n (aP l)] (fun v_ X_ S_=>v_=(.agg (mv (aZ l i)).toArray)∧X_=[]∧S_=[]):=by
 refine aI (N:=67) Tryz.func218 rfl rfl (by simp) fun b=> ?_
 refine aU (fun m=>eb (m.rd 0 rfl)) ?_
 rintro⟨hl_r,hA_r⟩
 refine ah<|aj<| ?_
 refine hx (bh qy (fun g4=> ?_))
 refine ai<|ak (X' :=[_]) (S' :=[_]) (fun _ m=>m)<|ae<|ah<|aj<| ?_
 refine hx (bh qy (fun g5=> ?_))
 refine ai<|ak (X' :=[_,_]) (S' :=[_]) (fun _ m=>m)<|ae<|ah<|ah<|aj<|hy (fun _=>aa rfl)<|hy (fun _=>bC rfl rfl)<|hy (fun _=>aa rfl)<| ?_
 refine fe 10 rfl (fun h0=> ?_) (fun h0=> ?_)
 ·exact absurd h0 (by omega)
 ·refine cg (o:=_) rfl rfl rfl (fun _=>aa rfl)<|cg (o:=_) rfl rfl rfl (fun _=>aa rfl)<|cg (o:=_) rfl rfl rfl (fun _=>aT rfl Tryz.underlying27)<|cg (o:=_) rfl rfl rfl (fun _=>ec rfl rfl)<|hy (fun _=>bn rfl rfl)<|ai<|al (ρ' :=[(15,_),(5,_),(4,_),(0,_),(1,_)]) ⟨rfl,rfl,rfl,rfl,rfl,trivial⟩<|ae<| ?_
  refine dj rfl ((decide_eq_false (by omega))) ?_
  refine bd (fun w m=>m.bs 0 rfl (show _=aE g5 298 (mv (b9 l i 0))from rfl)) ?_
  refine bd (fun w m=>m.bs 1 rfl (show _=aE g4 298 (mv (0,0))from rfl)) ?_
  refine aB<|ae<|ah<|ah<|aj<|hy (fun _=>ab rfl)<|ai<|ae<|aK<| ?_
  refine dH (fun q=>2000-q) (fun q=>[(6,.int .i64 ((q+1:Nat):Int))]) (fun q=>[aE g5 298 (mv (b9 l i q))]) (fun q=>[]) (fun q=>q≤min i 1024) 0 [(15,_),(5,_),(4,_),(0,_),(1,_)] ⟨rfl,rfl,rfl,rfl,rfl,trivial⟩ [1] rfl [] rfl (Nat.zero_le _) ⟨rfl,trivial⟩ (fun q hI=> ?_)
  refine ah<|ah<|aj<|hy (fun _=>aa rfl)<|hy (fun _=>aa rfl)<|hy (fun _=>py rfl rfl)<|hy (fun _=>aa rfl)<| ?_
  refine fe 20 rfl (fun h1=> ?_) (fun h1=> ?_)
  ·refine cg (o:=_) rfl rfl rfl (fun _=>aa rfl)<|cg (o:=_) rfl rfl rfl (fun _=>py rfl rfl)<|hy (fun _=>bM rfl rfl)<|ai<|al (ρ' :=[(23,_),(6,_),(15,_),(5,_),(4,_),(0,_),(1,_)]) ⟨rfl,rfl,rfl,rfl,rfl,rfl,rfl,trivial⟩<|ae<| ?_
   refine cj rfl (fun h2=> ?_) (fun h2=> ?_)
   ·refine aB<|ae<|ah<|aK<|ah<|aj<|hy (fun _=>ab rfl)<|ai<|ae<|ah<|aK<| ?_
    refine dH (fun j=>131-j) (fun j=>[(7,.int .i64 (j:Nat))]) (fun j=>[]) (fun j=>[]) (fun j=>j≤131∧i+j≤n∧kD l i (i-(q+1)) (131-j) j=kU l i (i-(q+1))) 0 [(23,_),(6,_),(15,_),(5,_),(4,_),(0,_),(1,_)] ⟨rfl,rfl,rfl,rfl,rfl,rfl,rfl,trivial⟩ [] rfl [] rfl (⟨by decide,by omega,rfl⟩) ⟨rfl,trivial⟩ (fun j ⟨hj,hij,hL⟩=> ?_)
    refine ah<|ah<|cu [] [(0,some 0),(1,some 0),(2,some 0),(3,some 0),(4,some 0),(5,some 0),(6,some 0),(7,some 0),(8,some 0),(9,some 0),(10,some 0),(11,some 0),(12,some 0),(13,some 0),(14,some 0),(15,some 0),(16,some 0),(17,some 0),(18,some 0),(19,some 0),(20,some 0),(21,some 0),(22,some 0),(23,some 0),(24,some 0),(25,some 0),(26,some 0)] (by kernel_rfl) (by kernel_rfl) rfl 99<|an (aa rfl)<|an (aa rfl)<|an (aL rfl rfl (bx (by omega) (by omega)))<|an (aa rfl)<|an (aT rfl Tryz.underlying27)<|an (bC rfl rfl)<|an (aa rfl)<| ?_
    refine kq 32 rfl (fun g1=> ?_) (fun g1=> ?_)
    ·refine bN (o:=_) rfl rfl rfl (aa rfl)<|bN (o:=_) rfl rfl rfl (bC rfl rfl)<|an (bM rfl rfl)<|an (aa rfl)<| ?_
     refine kq 36 rfl (fun g2=> ?_) (fun g2=> ?_)
     ·refine bN (o:=_) rfl rfl rfl (aa rfl)<|bN (o:=_) rfl rfl rfl (aa rfl)<|bN (o:=_) rfl rfl rfl (aa rfl)<|bN (o:=_) rfl rfl rfl (aL rfl rfl (bx (by omega) (by omega)))<|bN (o:=_) rfl rfl rfl (aN rfl rfl Tryz.underlying27 dB hA_r (show((i+j:Nat):Int)=_ by omega) (by omega))<|kE (o:=_) rfl rfl rfl (fun m=>aq rfl iv ((m.rd 0 rfl).cell (bB (by omega))))<|bN (o:=_) rfl rfl rfl (aa rfl)<|bN (o:=_) rfl rfl rfl (aa rfl)<|bN (o:=_) rfl rfl rfl (aa rfl)<|bN (o:=_) rfl rfl rfl (aL rfl rfl (bx (by omega) (by omega)))<|bN (o:=_) rfl rfl rfl (aa rfl)<|bN (o:=_) rfl rfl rfl (yV (ca rfl rfl (bx (by omega) (by omega))) ((show Value.int .i64 ((i:Int)+(j:Int)-((q+1:Nat):Int))= .int .i64 ((i-(q+1)+j:Nat):Int) by congr 1;omega)))<|bN (o:=_) rfl rfl rfl (aN rfl rfl Tryz.underlying27 dB hA_r rfl (by omega))<|kE (o:=_) rfl rfl rfl (fun m=>aq rfl iv ((m.rd 0 rfl).cell (bB (by omega))))<|bN (o:=_) rfl rfl rfl (cm rfl rfl)<|an (bM rfl rfl)<|bo<|al (ρ' :=[(52,_),(7,_),(23,_),(6,_),(15,_),(5,_),(4,_),(0,_),(1,_)]) ⟨rfl,rfl,rfl,rfl,rfl,rfl,rfl,rfl,rfl,trivial⟩<|ae<| ?_
      refine cj rfl (fun g3=> ?_) (fun g3=> ?_)
      ·have e3:l.getD (i+j) 0=l.getD (i-(q+1)+j) 0:=UInt8.toNat_inj.1 (by omega)
       rw[gy (by omega) ⟨by omega,e3⟩]at hL
       refine aB<|ae<|aK<|aj<|hy (fun _=>aa rfl)<|hy (fun _=>aL rfl rfl (bx (by omega) (by omega)))<|hy (fun _=>ab rfl)<|ai<|al (ρ' :=[(7,_),(52,_),(23,_),(6,_),(15,_),(5,_),(4,_),(0,_),(1,_)]) ⟨rfl,rfl,rfl,rfl,rfl,rfl,rfl,rfl,rfl,trivial⟩<|aR<| ?_
       refine cJ (j+1) ⟨rfl,rfl,rfl,rfl,rfl,rfl,rfl,rfl,trivial⟩ [0,0] rfl [0] rfl (⟨by omega,by omega,by rw[←hL];rfl⟩) (by omega)
      ·refine bK<|ao<|ao<|aC<|ae<|ah<|aj<|hy (fun _=>aa rfl)<|hy (fun _=>cy rfl rfl)<|hy (fun _=>aa rfl)<| ?_
       have hL2:j=kU l i (i-(q+1)):=(by rw[←hL,ki (fun e=>g3 (by rw[e.2]))])
       subst hL2
       refine fe 57 rfl (fun h3=> ?_) (fun h3=> ?_)
       ·refine cg (o:=_) rfl rfl rfl (fun _=>aa rfl)<|cg (o:=_) rfl rfl rfl (fun _=>aD rfl kB (by decide))<|cg (o:=_) rfl rfl rfl (fun m=>aq rfl dq (ax (m.aQ 0 rfl) rfl))<|cg (o:=_) rfl rfl rfl (fun _=>cy rfl rfl)<|hy (fun _=>bM rfl rfl)<|ai<|al (ρ' :=[(62,_),(52,_),(7,_),(23,_),(6,_),(15,_),(5,_),(4,_),(0,_),(1,_)]) ⟨rfl,rfl,rfl,rfl,rfl,rfl,rfl,rfl,rfl,rfl,trivial⟩<|ae<| ?_
        refine cj rfl (fun h4=> ?_) (fun h4=> ?_)
        ·refine aj<|hy (fun _=>aa rfl)<|hy (fun _=>aa rfl)<|hy (fun _=>bQ qy rfl rfl (by kernel_rfl) (.cons (o:=0) (sz:=1) (by kernel_rfl) rfl rfl (Nat.le_of_ble_eq_true rfl) (.cons (o:=1) (sz:=1) (by kernel_rfl) rfl rfl (Nat.le_of_ble_eq_true rfl) .nil)))<| ?_
         refine cx (a8 0 rfl rfl rfl kN rfl (mP (s:=(kU l i (i-(q+1)),q+1))) rfl ?_)
         have hst:mv (kU l i (i-(q+1)),q+1)=mv (b9 l i (q+1)):=by
          rw[db]
          unfold fL
          rw[if_pos ⟨by omega,by omega⟩]
         refine aG (fun w m=>m.bs 0 rfl (show _=aE g5 298 (mv (b9 l i (q+1)))from congrArg (aE g5 _) hst)) ?_
         refine ai<|al (ρ' :=[(62,_),(52,_),(7,_),(23,_),(6,_),(15,_),(5,_),(4,_),(0,_),(1,_)]) ⟨rfl,rfl,rfl,rfl,rfl,rfl,rfl,rfl,rfl,rfl,trivial⟩<|ak (X' :=[_,_]) (S' :=[_]) (fun _ m=>m)<|aR<|ae<|aj<|hy (fun _=>aa rfl)<|hy (fun _=>aL rfl rfl (bx (by omega) (by omega)))<|hy (fun _=>ab rfl)<|ai<|al (ρ' :=[(6,_),(62,_),(52,_),(7,_),(23,_),(15,_),(5,_),(4,_),(0,_),(1,_)]) ⟨rfl,rfl,rfl,rfl,rfl,rfl,rfl,rfl,rfl,rfl,trivial⟩<| ?_
         refine cJ (q+1) ⟨rfl,rfl,rfl,rfl,rfl,rfl,trivial⟩ [0,0] rfl [0] rfl ((by omega)) (by omega)
        ·have hst:mv (b9 l i q)=mv (b9 l i (q+1)):=by
          rw[db]
          unfold fL
          rw[if_neg (fun h=>by omega)]
         refine aB<|aR<|ae<|aj<|hy (fun _=>aa rfl)<|hy (fun _=>aL rfl rfl (bx (by omega) (by omega)))<|hy (fun _=>ab rfl)<|ai<|al (ρ' :=[(6,_),(62,_),(52,_),(7,_),(23,_),(15,_),(5,_),(4,_),(0,_),(1,_)]) ⟨rfl,rfl,rfl,rfl,rfl,rfl,rfl,rfl,rfl,rfl,trivial⟩<| ?_
         refine ak (fun w m=>m.bs 0 rfl (show _=aE g5 298 (mv (b9 l i (q+1)))from congrArg (aE g5 _) hst)) ?_
         refine cJ (q+1) ⟨rfl,rfl,rfl,rfl,rfl,rfl,trivial⟩ [0,0] rfl [0] rfl ((by omega)) (by omega)
       ·have hst:mv (b9 l i q)=mv (b9 l i (q+1)):=by
         rw[db]
         unfold fL
         rw[if_neg (fun h=>by omega)]
        refine a7 rfl rfl rfl (by decide)<|a7 rfl rfl rfl (by decide)<|a7 rfl rfl rfl (by decide)<|a7 rfl rfl rfl (by decide)<|hy (fun _=>bn rfl rfl)<|ai<|al (ρ' :=[(62,_),(52,_),(7,_),(23,_),(6,_),(15,_),(5,_),(4,_),(0,_),(1,_)]) ⟨rfl,rfl,rfl,rfl,rfl,rfl,rfl,rfl,rfl,rfl,trivial⟩<|ae<| ?_
        refine dj rfl (rfl) ?_
        refine aB<|aR<|ae<|aj<|hy (fun _=>aa rfl)<|hy (fun _=>aL rfl rfl (bx (by omega) (by omega)))<|hy (fun _=>ab rfl)<|ai<|al (ρ' :=[(6,_),(62,_),(52,_),(7,_),(23,_),(15,_),(5,_),(4,_),(0,_),(1,_)]) ⟨rfl,rfl,rfl,rfl,rfl,rfl,rfl,rfl,rfl,rfl,trivial⟩<| ?_
        refine ak (fun w m=>m.bs 0 rfl (show _=aE g5 298 (mv (b9 l i (q+1)))from congrArg (aE g5 _) hst)) ?_
        refine cJ (q+1) ⟨rfl,rfl,rfl,rfl,rfl,rfl,trivial⟩ [0,0] rfl [0] rfl ((by omega)) (by omega)
     ·refine aV rfl rfl rfl (by decide)<|aV rfl rfl rfl (by decide)<|aV rfl rfl rfl (by decide)<|aV rfl rfl rfl (by decide)<|aV rfl rfl rfl (by decide)<|aV rfl rfl rfl (by decide)<|aV rfl rfl rfl (by decide)<|aV rfl rfl rfl (by decide)<|aV rfl rfl rfl (by decide)<|aV rfl rfl rfl (by decide)<|aV rfl rfl rfl (by decide)<|aV rfl rfl rfl (by decide)<|aV rfl rfl rfl (by decide)<|aV rfl rfl rfl (by decide)<|aV rfl rfl rfl (by decide)<|an (bn rfl rfl)<|bo<|al (ρ' :=[(52,_),(7,_),(23,_),(6,_),(15,_),(5,_),(4,_),(0,_),(1,_)]) ⟨rfl,rfl,rfl,rfl,rfl,rfl,rfl,rfl,rfl,trivial⟩<|ae<| ?_
      refine dj rfl (rfl) ?_
      refine bK<|ao<|ao<|aC<|ae<|ah<|aj<|hy (fun _=>aa rfl)<|hy (fun _=>cy rfl rfl)<|hy (fun _=>aa rfl)<| ?_
      have hL2:j=kU l i (i-(q+1)):=(by rw[←hL,show 131-j=0 by omega];rfl)
      subst hL2
      refine fe 57 rfl (fun h3=> ?_) (fun h3=> ?_)
      ·refine cg (o:=_) rfl rfl rfl (fun _=>aa rfl)<|cg (o:=_) rfl rfl rfl (fun _=>aD rfl kB (by decide))<|cg (o:=_) rfl rfl rfl (fun m=>aq rfl dq (ax (m.aQ 0 rfl) rfl))<|cg (o:=_) rfl rfl rfl (fun _=>cy rfl rfl)<|hy (fun _=>bM rfl rfl)<|ai<|al (ρ' :=[(62,_),(52,_),(7,_),(23,_),(6,_),(15,_),(5,_),(4,_),(0,_),(1,_)]) ⟨rfl,rfl,rfl,rfl,rfl,rfl,rfl,rfl,rfl,rfl,trivial⟩<|ae<| ?_
       refine cj rfl (fun h4=> ?_) (fun h4=> ?_)
       ·refine aj<|hy (fun _=>aa rfl)<|hy (fun _=>aa rfl)<|hy (fun _=>bQ qy rfl rfl (by kernel_rfl) (.cons (o:=0) (sz:=1) (by kernel_rfl) rfl rfl (Nat.le_of_ble_eq_true rfl) (.cons (o:=1) (sz:=1) (by kernel_rfl) rfl rfl (Nat.le_of_ble_eq_true rfl) .nil)))<| ?_
        refine cx (a8 0 rfl rfl rfl kN rfl (mP (s:=(kU l i (i-(q+1)),q+1))) rfl ?_)
        have hst:mv (kU l i (i-(q+1)),q+1)=mv (b9 l i (q+1)):=by
         rw[db]
         unfold fL
         rw[if_pos ⟨by omega,by omega⟩]
        refine aG (fun w m=>m.bs 0 rfl (show _=aE g5 298 (mv (b9 l i (q+1)))from congrArg (aE g5 _) hst)) ?_
        refine ai<|al (ρ' :=[(62,_),(52,_),(7,_),(23,_),(6,_),(15,_),(5,_),(4,_),(0,_),(1,_)]) ⟨rfl,rfl,rfl,rfl,rfl,rfl,rfl,rfl,rfl,rfl,trivial⟩<|ak (X' :=[_,_]) (S' :=[_]) (fun _ m=>m)<|aR<|ae<|aj<|hy (fun _=>aa rfl)<|hy (fun _=>aL rfl rfl (bx (by omega) (by omega)))<|hy (fun _=>ab rfl)<|ai<|al (ρ' :=[(6,_),(62,_),(52,_),(7,_),(23,_),(15,_),(5,_),(4,_),(0,_),(1,_)]) ⟨rfl,rfl,rfl,rfl,rfl,rfl,rfl,rfl,rfl,rfl,trivial⟩<| ?_
        refine cJ (q+1) ⟨rfl,rfl,rfl,rfl,rfl,rfl,trivial⟩ [0,0] rfl [0] rfl ((by omega)) (by omega)
       ·have hst:mv (b9 l i q)=mv (b9 l i (q+1)):=by
         rw[db]
         unfold fL
         rw[if_neg (fun h=>by omega)]
        refine aB<|aR<|ae<|aj<|hy (fun _=>aa rfl)<|hy (fun _=>aL rfl rfl (bx (by omega) (by omega)))<|hy (fun _=>ab rfl)<|ai<|al (ρ' :=[(6,_),(62,_),(52,_),(7,_),(23,_),(15,_),(5,_),(4,_),(0,_),(1,_)]) ⟨rfl,rfl,rfl,rfl,rfl,rfl,rfl,rfl,rfl,rfl,trivial⟩<| ?_
        refine ak (fun w m=>m.bs 0 rfl (show _=aE g5 298 (mv (b9 l i (q+1)))from congrArg (aE g5 _) hst)) ?_
        refine cJ (q+1) ⟨rfl,rfl,rfl,rfl,rfl,rfl,trivial⟩ [0,0] rfl [0] rfl ((by omega)) (by omega)
      ·have hst:mv (b9 l i q)=mv (b9 l i (q+1)):=by
        rw[db]
        unfold fL
        rw[if_neg (fun h=>by omega)]
       refine a7 rfl rfl rfl (by decide)<|a7 rfl rfl rfl (by decide)<|a7 rfl rfl rfl (by decide)<|a7 rfl rfl rfl (by decide)<|hy (fun _=>bn rfl rfl)<|ai<|al (ρ' :=[(62,_),(52,_),(7,_),(23,_),(6,_),(15,_),(5,_),(4,_),(0,_),(1,_)]) ⟨rfl,rfl,rfl,rfl,rfl,rfl,rfl,rfl,rfl,rfl,trivial⟩<|ae<| ?_
       refine dj rfl (rfl) ?_
       refine aB<|aR<|ae<|aj<|hy (fun _=>aa rfl)<|hy (fun _=>aL rfl rfl (bx (by omega) (by omega)))<|hy (fun _=>ab rfl)<|ai<|al (ρ' :=[(6,_),(62,_),(52,_),(7,_),(23,_),(15,_),(5,_),(4,_),(0,_),(1,_)]) ⟨rfl,rfl,rfl,rfl,rfl,rfl,rfl,rfl,rfl,rfl,trivial⟩<| ?_
       refine ak (fun w m=>m.bs 0 rfl (show _=aE g5 298 (mv (b9 l i (q+1)))from congrArg (aE g5 _) hst)) ?_
       refine cJ (q+1) ⟨rfl,rfl,rfl,rfl,rfl,rfl,trivial⟩ [0,0] rfl [0] rfl ((by omega)) (by omega)
    ·refine aV rfl rfl rfl (by decide)<|aV rfl rfl rfl (by decide)<|an (bn rfl rfl)<|an (aa rfl)<| ?_
     refine aV rfl rfl rfl (by decide)<|aV rfl rfl rfl (by decide)<|aV rfl rfl rfl (by decide)<|aV rfl rfl rfl (by decide)<|aV rfl rfl rfl (by decide)<|aV rfl rfl rfl (by decide)<|aV rfl rfl rfl (by decide)<|aV rfl rfl rfl (by decide)<|aV rfl rfl rfl (by decide)<|aV rfl rfl rfl (by decide)<|aV rfl rfl rfl (by decide)<|aV rfl rfl rfl (by decide)<|aV rfl rfl rfl (by decide)<|aV rfl rfl rfl (by decide)<|aV rfl rfl rfl (by decide)<|an (bn rfl rfl)<|bo<|al (ρ' :=[(52,_),(7,_),(23,_),(6,_),(15,_),(5,_),(4,_),(0,_),(1,_)]) ⟨rfl,rfl,rfl,rfl,rfl,rfl,rfl,rfl,rfl,trivial⟩<|ae<| ?_
     refine dj rfl (rfl) ?_
     refine bK<|ao<|ao<|aC<|ae<|ah<|aj<|hy (fun _=>aa rfl)<|hy (fun _=>cy rfl rfl)<|hy (fun _=>aa rfl)<| ?_
     have hL2:j=kU l i (i-(q+1)):=(by rw[←hL,ki (fun e=>g1 (by omega))])
     subst hL2
     refine fe 57 rfl (fun h3=> ?_) (fun h3=> ?_)
     ·refine cg (o:=_) rfl rfl rfl (fun _=>aa rfl)<|cg (o:=_) rfl rfl rfl (fun _=>aD rfl kB (by decide))<|cg (o:=_) rfl rfl rfl (fun m=>aq rfl dq (ax (m.aQ 0 rfl) rfl))<|cg (o:=_) rfl rfl rfl (fun _=>cy rfl rfl)<|hy (fun _=>bM rfl rfl)<|ai<|al (ρ' :=[(62,_),(52,_),(7,_),(23,_),(6,_),(15,_),(5,_),(4,_),(0,_),(1,_)]) ⟨rfl,rfl,rfl,rfl,rfl,rfl,rfl,rfl,rfl,rfl,trivial⟩<|ae<| ?_
      refine cj rfl (fun h4=> ?_) (fun h4=> ?_)
      ·refine aj<|hy (fun _=>aa rfl)<|hy (fun _=>aa rfl)<|hy (fun _=>bQ qy rfl rfl (by kernel_rfl) (.cons (o:=0) (sz:=1) (by kernel_rfl) rfl rfl (Nat.le_of_ble_eq_true rfl) (.cons (o:=1) (sz:=1) (by kernel_rfl) rfl rfl (Nat.le_of_ble_eq_true rfl) .nil)))<| ?_
       refine cx (a8 0 rfl rfl rfl kN rfl (mP (s:=(kU l i (i-(q+1)),q+1))) rfl ?_)
       have hst:mv (kU l i (i-(q+1)),q+1)=mv (b9 l i (q+1)):=by
        rw[db]
        unfold fL
        rw[if_pos ⟨by omega,by omega⟩]
       refine aG (fun w m=>m.bs 0 rfl (show _=aE g5 298 (mv (b9 l i (q+1)))from congrArg (aE g5 _) hst)) ?_
       refine ai<|al (ρ' :=[(62,_),(52,_),(7,_),(23,_),(6,_),(15,_),(5,_),(4,_),(0,_),(1,_)]) ⟨rfl,rfl,rfl,rfl,rfl,rfl,rfl,rfl,rfl,rfl,trivial⟩<|ak (X' :=[_,_]) (S' :=[_]) (fun _ m=>m)<|aR<|ae<|aj<|hy (fun _=>aa rfl)<|hy (fun _=>aL rfl rfl (bx (by omega) (by omega)))<|hy (fun _=>ab rfl)<|ai<|al (ρ' :=[(6,_),(62,_),(52,_),(7,_),(23,_),(15,_),(5,_),(4,_),(0,_),(1,_)]) ⟨rfl,rfl,rfl,rfl,rfl,rfl,rfl,rfl,rfl,rfl,trivial⟩<| ?_
       refine cJ (q+1) ⟨rfl,rfl,rfl,rfl,rfl,rfl,trivial⟩ [0,0] rfl [0] rfl ((by omega)) (by omega)
      ·have hst:mv (b9 l i q)=mv (b9 l i (q+1)):=by
        rw[db]
        unfold fL
        rw[if_neg (fun h=>by omega)]
       refine aB<|aR<|ae<|aj<|hy (fun _=>aa rfl)<|hy (fun _=>aL rfl rfl (bx (by omega) (by omega)))<|hy (fun _=>ab rfl)<|ai<|al (ρ' :=[(6,_),(62,_),(52,_),(7,_),(23,_),(15,_),(5,_),(4,_),(0,_),(1,_)]) ⟨rfl,rfl,rfl,rfl,rfl,rfl,rfl,rfl,rfl,rfl,trivial⟩<| ?_
       refine ak (fun w m=>m.bs 0 rfl (show _=aE g5 298 (mv (b9 l i (q+1)))from congrArg (aE g5 _) hst)) ?_
       refine cJ (q+1) ⟨rfl,rfl,rfl,rfl,rfl,rfl,trivial⟩ [0,0] rfl [0] rfl ((by omega)) (by omega)
     ·have hst:mv (b9 l i q)=mv (b9 l i (q+1)):=by
       rw[db]
       unfold fL
       rw[if_neg (fun h=>by omega)]
      refine a7 rfl rfl rfl (by decide)<|a7 rfl rfl rfl (by decide)<|a7 rfl rfl rfl (by decide)<|a7 rfl rfl rfl (by decide)<|hy (fun _=>bn rfl rfl)<|ai<|al (ρ' :=[(62,_),(52,_),(7,_),(23,_),(6,_),(15,_),(5,_),(4,_),(0,_),(1,_)]) ⟨rfl,rfl,rfl,rfl,rfl,rfl,rfl,rfl,rfl,rfl,trivial⟩<|ae<| ?_
      refine dj rfl (rfl) ?_
      refine aB<|aR<|ae<|aj<|hy (fun _=>aa rfl)<|hy (fun _=>aL rfl rfl (bx (by omega) (by omega)))<|hy (fun _=>ab rfl)<|ai<|al (ρ' :=[(6,_),(62,_),(52,_),(7,_),(23,_),(15,_),(5,_),(4,_),(0,_),(1,_)]) ⟨rfl,rfl,rfl,rfl,rfl,rfl,rfl,rfl,rfl,rfl,trivial⟩<| ?_
      refine ak (fun w m=>m.bs 0 rfl (show _=aE g5 298 (mv (b9 l i (q+1)))from congrArg (aE g5 _) hst)) ?_
      refine cJ (q+1) ⟨rfl,rfl,rfl,rfl,rfl,rfl,trivial⟩ [0,0] rfl [0] rfl ((by omega)) (by omega)
   ·have hq:q=min i 1024:=by omega
    subst hq
    refine bK<|ao<|ao<|aC<|ae<|ah<|aj<|hy (fun m=>aX rfl vy kN rfl ((m.aQ 0 rfl).aw))<| ?_
    refine cx (a8 1 rfl rfl rfl kN rfl mP rfl ?_)
    refine ai<|al (ρ' :=[(23,_),(6,_),(15,_),(5,_),(4,_),(0,_),(1,_)]) ⟨rfl,rfl,rfl,rfl,rfl,rfl,rfl,trivial⟩<|ak (X' :=[_,_]) (S' :=[_]) (fun _ m=>m)<|ae<|aS<| ?_
    exact eJ trivial rfl rfl vy kN rfl (fun m=>(m.aQ 0 rfl).aw) [] rfl [] rfl ⟨rfl,rfl,rfl⟩
  ·refine a7 rfl rfl rfl (by decide)<|a7 rfl rfl rfl (by decide)<|hy (fun _=>bn rfl rfl)<|ai<|al (ρ' :=[(23,_),(6,_),(15,_),(5,_),(4,_),(0,_),(1,_)]) ⟨rfl,rfl,rfl,rfl,rfl,rfl,rfl,trivial⟩<|ae<| ?_
   refine dj rfl (rfl) ?_
   have hq:q=min i 1024:=by omega
   subst hq
   refine bK<|ao<|ao<|aC<|ae<|ah<|aj<|hy (fun m=>aX rfl vy kN rfl ((m.aQ 0 rfl).aw))<| ?_
   refine cx (a8 1 rfl rfl rfl kN rfl mP rfl ?_)
   refine ai<|al (ρ' :=[(23,_),(6,_),(15,_),(5,_),(4,_),(0,_),(1,_)]) ⟨rfl,rfl,rfl,rfl,rfl,rfl,rfl,trivial⟩<|ak (X' :=[_,_]) (S' :=[_]) (fun _ m=>m)<|ae<|aS<| ?_
   exact eJ trivial rfl rfl vy kN rfl (fun m=>(m.aQ 0 rfl).aw) [] rfl [] rfl ⟨rfl,rfl,rfl⟩
theorem B6{A:Option Addr}{n c:Nat}{l:List UInt8}(hc:n≤c)(hn:n≤500000000)(hl:l.length=n):b6 Tryz.prog 219 [.slice A n c] [] [cn 1 A n (aP l)] (fun v_ X_ S_=>∃v,v_=v∧X_=[aF 5 1 v (eD l).length (aP (eD l))]∧S_=[]):=by
 refine aI (N:=31) Tryz.func219 rfl rfl (by simp) fun b=> ?_
 refine aU (fun m=>eb (m.rd 0 rfl)) ?_
 rintro⟨hl_r,hA_r⟩
 refine ah<|aj<|hy (fun _=>ab rfl)<|ai<|ae<|ah<|aj<|hy (fun _=>ab rfl)<|ai<|ae<|ah<|ah<|aj<|hy (fun _=>ab rfl)<|ai<|ae<|aK<| ?_
 refine bd (fun w m=>m.cI (r' :=aF 5 1 (.slice none 0 0) 0 []) (.refl _ _) (Own.nil _ _ _ _) (fun k hk=>hk.elim)) ?_
 refine ow (fun i o A3 c3=>n-i) (fun i o A3 c3=>[(3,.slice A3 o.length c3),(4,.int .i64 (i:Nat))]) (fun i o A3 c3=>[aF 5 1 (.slice A3 o.length c3) o.length (aP o)]) (fun i o A3 c3=>[]) (fun i o A3 c3=>i≤n+128∧o.length≤2*i∧o++eD (l.drop i)=eD l) 0 [] none 0 [(2,_),(0,_)] ⟨rfl,rfl,trivial⟩ [0] rfl [] rfl (⟨by omega,by decide,rfl⟩) ⟨rfl,rfl,trivial⟩ (fun i o A3 c3 ⟨hin,hon,hE⟩=> ?_)
 refine ah<|ah<|aj<|hy (fun _=>aa rfl)<|hy (fun _=>aa rfl)<|hy (fun _=>aT rfl Tryz.underlying27)<|hy (fun _=>bC rfl rfl)<|ai<|al (ρ' :=[(9,_),(3,_),(4,_),(2,_),(0,_)]) ⟨rfl,rfl,rfl,rfl,rfl,trivial⟩<|ae<| ?_
 refine cj rfl (fun hi=> ?_) (fun hi=> ?_)
 ·obtain⟨k,hk⟩:∃k,k=min (n-i) 128:=⟨_,rfl⟩
  have hki:1≤k∧k≤128∧i+k≤n:=by omega
  have hdl:(l.drop i).length=n-i:=by rw[List.length_drop,hl]
  have hne:l.drop i≠ []:=fun e=>by rw[e]at hdl;simp at hdl;omega
  have htk:(l.drop i).take 128=(l.drop i).take k:=by
   rcases Nat.lt_or_ge (n-i) 128 with h|h
   ·rw[List.take_of_length_le (by omega),List.take_of_length_le (by omega)]
   ·rw[show k=128 by omega]
  rw[my hne,hdl,←hk,htk,List.drop_drop]at hE
  refine bd (fun w m=>m.fp 0 rfl (View.sub (n:=n) (c:=c) (k:=i) (m:=k) (by omega) (by omega))) ?_
  refine aU (fun m=>eb (m.rd 0 rfl)) ?_
  rintro⟨hl_p,hA_p⟩
  refine aB<|ae<|ah<|aK<|ah<|aj<|hy (fun _=>aa rfl)<|hy (fun _=>aa rfl)<|hy (fun _=>aa rfl)<|hy (fun _=>aL rfl rfl (bx (by omega) (by omega)))<|hy (fun _=>aa rfl)<|hy (fun _=>aT rfl Tryz.underlying27)<|hy (fun _=>yV (zp rfl rfl) ((show Value.int .i64 _= .int .i64 ((i+k:Nat):Int) by congr 1;omega)))<|hy (fun _=>yV (ef rfl rfl rfl Tryz.underlying27 dB rfl rfl (by omega) (by omega)) ((show Value.slice (if c=i then A else A.map (·.add (i*1))) (i+k-i) (c-i)= .slice (if c=i then A else A.map (·.add (i*1))) k (c-i) by congr 1;omega)))<|hy (fun _=>ab rfl)<|ai<|al (ρ' :=[(5,_),(9,_),(3,_),(4,_),(2,_),(0,_)]) ⟨rfl,rfl,rfl,rfl,rfl,rfl,trivial⟩<|ae<|ah<|aj<|hy (fun _=>aa rfl)<|hy (fun _=>aa rfl)<|hy (fun _=>aT rfl Tryz.underlying27)<|hy (fun _=>yV (ca rfl rfl (bx (by omega) (by omega))) ((show Value.int .i64 ((k:Int)-1)= .int .i64 ((k-1:Nat):Int) by congr 1;omega)))<|hy (fun _=>yV (bS rfl Tryz.underlying3 Tryz.underlying5 (gi _)) ((show Value.int .u8 _=B8 (UInt8.ofNat (k-1))from rfl)))<| ?_
  refine hx (bT Tryz.underlying27 eA rfl rfl rfl (by simp[Value.cells,B8]) (by decide) (by decide) (fun g25=> ?_))
  have hA_b25:0<1→(some (⟨g25,0,none⟩:Addr))≠none:=fun _ h=>by cases h
  refine aG (fun w m=>m.bs 0 rfl (show _=aF 5 1 (.slice (some ⟨g25,0,none⟩) 1 1) 1 (aP [UInt8.ofNat (k-1)])from rfl)) ?_
  refine hx (bw 1 rfl rfl rfl Tryz.underlying27 Tryz.underlying27 (by exact .inl rfl) eA rfl (fun m=>Src.bW (m.ord 0 rfl)) bg (by unfold maxLen;omega) (by omega) (fun u=> ?_))
  refine aA (fun m=>(m.own 0 rfl).slice) ?_
  rintro⟨A_x,c_x,rfl,hc_x⟩
  refine aA (fun m=>(m.ord 0 rfl).2.1) fun hA_x=> ?_
  refine hy (fun _=>ab rfl)<|ai<|al (ρ' :=[(3,_),(5,_),(9,_),(4,_),(2,_),(0,_)]) ⟨rfl,rfl,rfl,rfl,rfl,rfl,trivial⟩<|ak (X' :=[_,_]) (S' :=[_,_]) (fun _ m=>m)<|ae<|aj<|hy (fun _=>aa rfl)<|hy (fun _=>aa rfl)<| ?_
  refine hx (bw 0 rfl rfl rfl Tryz.underlying27 Tryz.underlying27 (by exact .inl rfl) eA rfl (fun m=>Src.bW (m.rd 0 rfl)) bg (by unfold maxLen;omega) (by omega) (fun u2=> ?_))
  refine aA (fun m=>(m.own 0 rfl).slice) ?_
  rintro⟨A_x2,c_x2,rfl,hc_x⟩
  refine aA (fun m=>(m.ord 0 rfl).2.1) fun hA_x=> ?_
  refine hy (fun _=>ab rfl)<|ai<|al (ρ' :=[(3,_),(5,_),(9,_),(4,_),(2,_),(0,_)]) ⟨rfl,rfl,rfl,rfl,rfl,rfl,trivial⟩<|ak (X' :=[_,_]) (S' :=[_,_]) (fun _ m=>m)<|aR<|ae<|aj<|hy (fun _=>aa rfl)<|hy (fun _=>aL rfl rfl (bx (by omega) (by omega)))<|hy (fun _=>ab rfl)<|ai<|al (ρ' :=[(4,_),(3,_),(5,_),(9,_),(2,_),(0,_)]) ⟨rfl,rfl,rfl,rfl,rfl,rfl,trivial⟩<| ?_
  have hol:o.length+1+k=(o++(UInt8.ofNat (k-1)::(l.drop i).take k)).length:=by simp;omega
  rw[hol]
  refine ak (fun w m=>m.bs 0 rfl (show _=aF 5 1 (.slice A_x2 (o++(UInt8.ofNat (k-1)::(l.drop i).take k)).length c_x2) (o++(UInt8.ofNat (k-1)::(l.drop i).take k)).length (aP (o++(UInt8.ofNat (k-1)::(l.drop i).take k)))from congrArg (aF _ _ _ _) (show aP o++aP [UInt8.ofNat (k-1)]++aP ((l.drop i).take k)=_ by rw[←bz,←bz,List.append_assoc];rfl))) ?_
  refine k6 (i+128) (o++(UInt8.ofNat (k-1)::(l.drop i).take k)) _ _ ⟨rfl,rfl,rfl,rfl,trivial⟩ [0] rfl [1] rfl (⟨by omega,by rw[←hol];omega,by rw[←hE];simp⟩) (by omega)
 ·rw[List.drop_of_length_le (by omega),pC,List.append_nil]at hE
  subst hE
  refine bK<|ao<|ao<|aC<|ae<|ah<|aj<|hy (fun _=>aa rfl)<|hy (fun _=>ab rfl)<|ai<|al (ρ' :=[(2,_),(9,_),(3,_),(4,_),(0,_)]) ⟨rfl,rfl,rfl,rfl,rfl,trivial⟩<|ae<|aS<| ?_
  exact a6 trivial rfl rfl [0] rfl [] rfl ⟨_,rfl,rfl,rfl⟩
theorem C0{A:Option Addr}{n c:Nat}{l:List UInt8}(hc:n≤c)(hn:n≤500000000)(hl:l.length=n):b6 Tryz.prog 159 [.slice A n c] [] [cn 1 A n (aP l)] (fun v_ X_ S_=>∃v,v_=v∧X_=[aF 5 1 v (en l).length (aP (en l))]∧S_=[]):=by
 refine aI (N:=54) Tryz.func159 rfl rfl (by simp) fun b=> ?_
 refine aU (fun m=>eb (m.rd 0 rfl)) ?_
 rintro⟨hl_r,hA_r⟩
 refine ah<|aj<|hy (fun _=>ab rfl)<|ai<|ae<|ah<|aj<|hy (fun _=>ab rfl)<|ai<|ae<|ah<|aj<|hy (fun _=>ab rfl)<|ai<|ae<|ah<|aj<|hy (fun _=>ab rfl)<|ai<|ae<|ah<|aK<| ?_
 refine bd (fun w m=>m.cI (r' :=aF 5 1 (.slice none 0 0) 0 []) (.refl _ _) (Own.nil _ _ _ _) (fun k hk=>hk.elim)) ?_
 refine qX (fun i f o A3 c3=>n-i) (fun i f o A3 c3=>[(3,.slice A3 o.length c3),(4,.int .i64 (f:Nat)),(5,.int .i64 (i:Nat))]) (fun i f o A3 c3=>[aF 5 1 (.slice A3 o.length c3) o.length (aP o)]) (fun i f o A3 c3=>[]) (fun i f o A3 c3=>i≤n∧f≤i∧o.length+2*(i-f)≤2*i∧fZ l i ((l.drop f).take (i-f)) o=en l) 0 0 [] none 0 [(2,_),(0,_)] ⟨rfl,rfl,trivial⟩ [0] rfl [] rfl (⟨by omega,by decide,by decide,rfl⟩) ⟨rfl,rfl,rfl,trivial⟩ (fun i f o A3 c3 ⟨hin,hfi,hon,hE⟩=> ?_)
 have hown:((l.drop f).take (i-f)).length=i-f:=by rw[List.length_take,List.length_drop];omega
 refine ah<|ah<|aj<|hy (fun _=>aa rfl)<|hy (fun _=>aa rfl)<|hy (fun _=>aT rfl Tryz.underlying27)<|hy (fun _=>bC rfl rfl)<|ai<|al (ρ' :=[(10,_),(3,_),(4,_),(5,_),(2,_),(0,_)]) ⟨rfl,rfl,rfl,rfl,rfl,rfl,trivial⟩<|ae<| ?_
 refine cj rfl (fun hi=> ?_) (fun hi=> ?_)
 ·refine aB<|ae<|aK<|ah<|aj<|hy (fun _=>aa rfl)<|hy (fun _=>aa rfl)<| ?_
  refine hx (au rfl Tryz.call218 (Bo (by omega) hl (by omega)) [] rfl [0] rfl ?_)
  rintro _ _ _ ⟨rfl,rfl,rfl⟩
  refine hx (bh qy (fun g6=> ?_))
  refine cx (a8 0 rfl rfl rfl kN rfl mP rfl ?_)
  refine ai<|al (ρ' :=[(6,_),(10,_),(3,_),(4,_),(5,_),(2,_),(0,_)]) ⟨rfl,rfl,rfl,rfl,rfl,rfl,rfl,trivial⟩<|ak (X' :=[_,_]) (S' :=[_]) (fun _ m=>m)<|ae<|ah<|ah<|aj<|hy (fun _=>aD rfl kB (by decide))<|hy (fun m=>aq rfl dq (ax (m.aQ 0 rfl) rfl))<|hy (fun _=>cm rfl rfl)<|ai<|al (ρ' :=[(16,_),(6,_),(10,_),(3,_),(4,_),(5,_),(2,_),(0,_)]) ⟨rfl,rfl,rfl,rfl,rfl,rfl,rfl,rfl,trivial⟩<|ae<| ?_
  refine cj rfl (fun h0=> ?_) (fun h0=> ?_)
  ·rw[mj (by omega) (by omega)]at hE
   have hsn:(l.drop f).take (i-f)++[l.getD i 0]=(l.drop f).take (i+1-f):=by
    rw[show i+1-f=(i-f)+1 by omega,ey (by rw[List.length_drop];omega)]
    congr 2
    simp only[List.getD,List.getElem?_drop]
    rw[show f+(i-f)=i by omega]
   rw[hsn]at hE
   refine ah<|aj<|hy (fun _=>aa rfl)<|hy (fun _=>aL rfl rfl (bx (by omega) (by omega)))<|hy (fun _=>ab rfl)<|ai<|al (ρ' :=[(5,_),(16,_),(6,_),(10,_),(3,_),(4,_),(2,_),(0,_)]) ⟨rfl,rfl,rfl,rfl,rfl,rfl,rfl,rfl,trivial⟩<|ae<|bK<|ao<|aC<| ?_
   refine mN (i+1) f o A3 c3 ⟨rfl,rfl,rfl,rfl,rfl,trivial⟩ [1] rfl [0] rfl (⟨by omega,by omega,by omega,hE⟩) (by omega)
  ·have hm:=mr (b:=l) (i:=i) (by omega)
   rw[jX (by omega) (by omega)]at hE
   obtain⟨m1,m2,m3,m4,m5,m6⟩:=hm.resolve_left (fun e=>h0 (by rw[e];rfl))
   have hll:=eQ ((l.drop f).take (i-f))
   refine bd (fun w m=>m.fp 0 rfl (View.sub (n:=n) (c:=c) (k:=f) (m:=i-f) (by omega) (by omega))) ?_
   refine aU (fun m=>eb (m.rd 0 rfl)) ?_
   rintro⟨hl_p,hA_p⟩
   refine aB<|ae<|ah<|aj<|hy (fun _=>aa rfl)<|hy (fun _=>aa rfl)<|hy (fun _=>aa rfl)<|hy (fun _=>aa rfl)<|hy (fun _=>ef rfl rfl rfl Tryz.underlying27 dB rfl rfl (by omega) (by omega))<| ?_
   refine hx (au rfl Tryz.call219 (B6 (by omega) (by omega) hown) [] rfl [0] rfl ?_)
   rintro _ _ _ ⟨v,rfl,rfl,rfl⟩
   refine aA (fun m=>(m.own 0 rfl).slice) ?_
   rintro⟨A_x2,c_x2,rfl,hc_x2⟩
   refine aA (fun m=>(m.ord 0 rfl).2.1) fun hA_x2=> ?_
   refine hx (bw 2 rfl rfl rfl Tryz.underlying27 Tryz.underlying27 (by exact .inl rfl) eA rfl (fun m=>Src.bW (m.ord 0 rfl)) bg (by unfold maxLen;omega) (by omega) (fun u=> ?_))
   refine aA (fun m=>(m.own 0 rfl).slice) ?_
   rintro⟨A_x,c_x,rfl,hc_x⟩
   refine aA (fun m=>(m.ord 0 rfl).2.1) fun hA_x=> ?_
   generalize hLL:eD ((l.drop f).take (i-f))=L at hE hll ⊢
   refine hy (fun _=>ab rfl)<|ai<|al (ρ' :=[(3,_),(16,_),(6,_),(10,_),(4,_),(5,_),(2,_),(0,_)]) ⟨rfl,rfl,rfl,rfl,rfl,rfl,rfl,rfl,trivial⟩<|ak (X' :=[_,_,_]) (S' :=[_,_]) (fun _ m=>m)<|ae<|ah<|aj<|hy (fun _=>aa rfl)<|hy (fun _=>aD rfl kB (by decide))<|hy (fun m=>aq rfl dq (ax (m.aQ 2 rfl) rfl))<|hy (fun _=>yV (aL rfl rfl (bx (by omega) (by omega))) ((show Value.int .i64 (124+((aZ l i).1:Int))= .int .i64 ((124+(aZ l i).1:Nat):Int) by congr 1)))<|hy (fun _=>yV (bS rfl Tryz.underlying3 Tryz.underlying5 (gi _)) ((show Value.int .u8 _=B8 (UInt8.ofNat (124+(aZ l i).1))from rfl)))<|hy (fun _=>aD rfl uT (by decide))<|hy (fun m=>aq rfl dq (ax (m.aQ 2 rfl) rfl))<|hy (fun _=>yV (ca rfl rfl (bx (by omega) (by omega))) ((show Value.int .i64 (((aZ l i).2:Int)-1)= .int .i64 (((aZ l i).2-1:Nat):Int) by congr 1;omega)))<|hy (fun _=>yV (gh rfl rfl (by omega) (by omega)) ((show Value.int .i64 ((((aZ l i).2-1:Nat):Int) % 256)= .int .i64 ((((aZ l i).2-1) % 256:Nat):Int) by congr 1)))<|hy (fun _=>yV (bS rfl Tryz.underlying3 Tryz.underlying5 (gi _)) ((show Value.int .u8 _=B8 (UInt8.ofNat (((aZ l i).2-1) % 256))from rfl)))<|hy (fun _=>aD rfl uT (by decide))<|hy (fun m=>aq rfl dq (ax (m.aQ 2 rfl) rfl))<|hy (fun _=>yV (ca rfl rfl (bx (by omega) (by omega))) ((show Value.int .i64 (((aZ l i).2:Int)-1)= .int .i64 (((aZ l i).2-1:Nat):Int) by congr 1;omega)))<|hy (fun _=>yV (jR rfl rfl (by omega) (by omega) (bx (by omega) (by omega))) ((show Value.int .i64 ((((aZ l i).2-1:Nat):Int)/256)= .int .i64 ((((aZ l i).2-1)/256:Nat):Int) by congr 1)))<|hy (fun _=>yV (bS rfl Tryz.underlying3 Tryz.underlying5 (gi _)) ((show Value.int .u8 _=B8 (UInt8.ofNat (((aZ l i).2-1)/256))from rfl)))<| ?_
   refine hx (bT Tryz.underlying27 eA rfl rfl rfl (by simp[Value.cells,B8]) (by decide) (by decide) (fun g41=> ?_))
   have hA_b41:0<3→(some (⟨g41,0,none⟩:Addr))≠none:=fun _ h=>by cases h
   have htm:[UInt8.ofNat (124+(aZ l i).1),UInt8.ofNat (((aZ l i).2-1) % 256),UInt8.ofNat (((aZ l i).2-1)/256)]=gL (aZ l i):=by
    unfold gL
    congr 2
    exact UInt8.toNat_inj.1 (by rw[UInt8.toNat_ofNat',UInt8.toNat_ofNat'];omega)
   refine aG (fun w m=>m.bs 0 rfl (show _=aF 5 1 (.slice (some ⟨g41,0,none⟩) 3 3) 3 (aP (gL (aZ l i)))from congrArg (aF _ _ _ _) (show aP [UInt8.ofNat (124+(aZ l i).1),UInt8.ofNat (((aZ l i).2-1) % 256),UInt8.ofNat (((aZ l i).2-1)/256)]=_ by rw[htm]))) ?_
   refine hx (bw 1 rfl rfl rfl Tryz.underlying27 Tryz.underlying27 (by exact .inl rfl) eA rfl (fun m=>Src.bW (m.ord 0 rfl)) bg (by unfold maxLen;omega) (by omega) (fun u2=> ?_))
   refine aA (fun m=>(m.own 0 rfl).slice) ?_
   rintro⟨A_x3,c_x3,rfl,hc_x⟩
   refine aA (fun m=>(m.ord 0 rfl).2.1) fun hA_x=> ?_
   refine hy (fun _=>ab rfl)<|ai<|al (ρ' :=[(3,_),(16,_),(6,_),(10,_),(4,_),(5,_),(2,_),(0,_)]) ⟨rfl,rfl,rfl,rfl,rfl,rfl,rfl,rfl,trivial⟩<|ak (X' :=[_,_,_,_]) (S' :=[_,_]) (fun _ m=>m)<|ae<|ah<|aj<|hy (fun _=>aa rfl)<|hy (fun _=>aD rfl kB (by decide))<|hy (fun m=>aq rfl dq (ax (m.aQ 3 rfl) rfl))<|hy (fun _=>yV (aL rfl rfl (bx (by omega) (by omega))) ((show Value.int .i64 ((i:Int)+((aZ l i).1:Int))= .int .i64 ((i+(aZ l i).1:Nat):Int) by congr 1)))<|hy (fun _=>ab rfl)<|ai<|al (ρ' :=[(5,_),(3,_),(16,_),(6,_),(10,_),(4,_),(2,_),(0,_)]) ⟨rfl,rfl,rfl,rfl,rfl,rfl,rfl,rfl,trivial⟩<|ae<|aj<|hy (fun _=>aa rfl)<|hy (fun _=>ab rfl)<|ai<|al (ρ' :=[(4,_),(5,_),(3,_),(16,_),(6,_),(10,_),(2,_),(0,_)]) ⟨rfl,rfl,rfl,rfl,rfl,rfl,rfl,rfl,trivial⟩<|aR<| ?_
   have hol:o.length+L.length+3=(o++L++gL (aZ l i)).length:=by simp[gL];omega
   rw[hol]
   refine ak (fun w m=>m.bs 0 rfl (show _=aF 5 1 (.slice A_x3 (o++L++gL (aZ l i)).length c_x3) (o++L++gL (aZ l i)).length (aP (o++L++gL (aZ l i)))from congrArg (aF _ _ _ _) (show aP o++aP L++aP (gL (aZ l i))=aP (o++L++gL (aZ l i)) by rw[bz,bz]))) ?_
   have hE2:fZ l (i+(aZ l i).1) ((l.drop (i+(aZ l i).1)).take (i+(aZ l i).1-(i+(aZ l i).1))) (o++L++gL (aZ l i))=en l:=by rw[Nat.sub_self,List.take_zero];exact hE
   refine mN (i+(aZ l i).1) (i+(aZ l i).1) (o++L++gL (aZ l i)) _ _ ⟨rfl,rfl,rfl,rfl,rfl,trivial⟩ [0] rfl [1] rfl (⟨by omega,Nat.le_refl _,by rw[←hol];omega,hE2⟩) (by omega)
 ·obtain rfl:i=n:=by omega
  rw[mH (by omega),List.take_of_length_le (by rw[List.length_drop];omega)]at hE
  have hdl:(l.drop f).length=i-f:=by rw[List.length_drop];omega
  have hll:=eQ (l.drop f)
  refine bd (fun w m=>m.fp 0 rfl (View.drop (n:=i) (c:=c) (k:=f) (by omega) (by omega))) ?_
  refine aU (fun m=>eb (m.rd 0 rfl)) ?_
  rintro⟨hl_p,hA_p⟩
  refine bK<|ao<|ao<|aC<|ae<|ah<|aj<|hy (fun _=>aa rfl)<|hy (fun _=>aa rfl)<|hy (fun _=>aa rfl)<|hy (fun _=>dV rfl rfl Tryz.underlying27 dB rfl (by omega))<| ?_
  refine hx (au rfl Tryz.call219 (B6 (by omega) (by omega) hdl) [] rfl [0] rfl ?_)
  rintro _ _ _ ⟨v,rfl,rfl,rfl⟩
  refine aA (fun m=>(m.own 0 rfl).slice) ?_
  rintro⟨A_x2,c_x2,rfl,hc_x2⟩
  refine aA (fun m=>(m.ord 0 rfl).2.1) fun hA_x2=> ?_
  refine hx (bw 1 rfl rfl rfl Tryz.underlying27 Tryz.underlying27 (by exact .inl rfl) eA rfl (fun m=>Src.bW (m.ord 0 rfl)) bg (by unfold maxLen;omega) (by omega) (fun u=> ?_))
  refine aA (fun m=>(m.own 0 rfl).slice) ?_
  rintro⟨A_x,c_x,rfl,hc_x⟩
  refine aA (fun m=>(m.ord 0 rfl).2.1) fun hA_x=> ?_
  have hol:o.length+(eD (l.drop f)).length=(en l).length:=by rw[←hE];simp
  rw[hol]
  refine aG (fun w m=>m.bs 0 rfl (show _=aF 5 1 (.slice A_x (en l).length c_x) (en l).length (aP (en l))from congrArg (aF _ _ _ _) (show aP o++aP (eD (l.drop f))=aP (en l) by rw[←hE,bz]))) ?_
  refine hy (fun _=>ab rfl)<|ai<|al (ρ' :=[(2,_),(10,_),(3,_),(4,_),(5,_),(0,_)]) ⟨rfl,rfl,rfl,rfl,rfl,rfl,trivial⟩<|ak (X' :=[_,_]) (S' :=[_,_]) (fun _ m=>m)<|ae<|aS<| ?_
  exact a6 trivial rfl rfl [0] rfl [] rfl ⟨_,rfl,rfl,rfl⟩
end Go.Proofs.YtmibdabdlgmafaaGreatDoor
end
section
set_option maxRecDepth 20000
set_option maxHeartbeats 2000000
namespace Go.Proofs.YtmibdabdlgmafaaGreatDoor
open Go.Eng Go.Hx
theorem ve{A:Option Addr}{n c:Nat}{l:List UInt8}(hc:n≤c)(hn:n≤1000000000)(hl:l.length=n):b6 Tryz.prog 161 [.slice A n c] [] [cn 1 A n (aP l)] (fun v_ X_ S_=>∃v,v_=v∧X_=[aF 5 1 v 4 (aP (iW (cX l)))]∧S_=[]):=by
 have e4:n+4-n=4:=by omega
 have ed:(aP (yf l)).drop (n*1)=aP (iW (cX l)):=by rw[Nat.mul_one,←pn,yf,List.drop_append_of_le_length (by omega),List.drop_of_length_le (by omega)];rfl
 refine aI (N:=8) Tryz.func161 rfl rfl (by simp) fun b=> ?_
 refine aU (fun m=>eb (m.rd 0 rfl)) ?_
 rintro⟨hl_r,hA_r⟩
 refine ah<|aj<|hy (fun _=>ab rfl)<|ai<|ae<|ah<|aj<|hy (fun _=>aa rfl)<| ?_
 refine hx (au rfl Tryz.call189 (zB (by omega)) [] rfl [0] rfl ?_)
 rintro _ _ _ ⟨v,rfl,rfl,rfl⟩
 refine aA (fun m=>(m.own 0 rfl).slice) ?_
 rintro⟨A_x,c_x,rfl,hc_x⟩
 refine aA (fun m=>(m.ord 0 rfl).2.1) fun hA_x=> ?_
 refine hy (fun _=>aa rfl)<|hy (fun _=>aT rfl Tryz.underlying27)<|hy (fun _=>yV (dV rfl rfl Tryz.underlying27 dB rfl (by omega)) ((show Value.slice (if c_x=n then A_x else A_x.map (·.add (n*1))) (n+4-n) (c_x-n)= .slice (if c_x=n then A_x else A_x.map (·.add (n*1))) 4 (c_x-n) by congr 1)))<|hy (fun _=>ab rfl)<|ai<|al (ρ' :=[(2,_),(0,_)]) ⟨rfl,rfl,trivial⟩<|ak (X' :=[_]) (S' :=[_]) (fun _ m=>m)<|ae<|aS<| ?_
 refine ak (X' :=aF 5 1 (.slice (if c_x=n then A_x else A_x.map (·.add (n*1))) (n+4-n) (c_x-n)) (n+4-n) ((aP (yf l)).drop (n*1))::_) (fun w m=>(m.perm (ar [0] _ [_] _ rfl)).yc (View.rH (by omega) hc_x)) ?_
 rw[e4,ed]
 exact a6 trivial rfl rfl [0] rfl [] rfl ⟨_,rfl,rfl,rfl⟩
theorem CS{A:Option Addr}{n c:Nat}{l:List UInt8}(hc:n≤c)(hn:n≤100000000)(hl:l.length=n):b6 Tryz.prog 81 [.slice A n c] [] [cn 1 A n (aP l)] (fun v_ X_ S_=>∃v,v_=v∧X_=[aF 5 1 v (b7 l).length (aP (b7 l))]∧S_=[]):=by
 have hpl:=lA l
 have hcl:=iP l
 refine aI (N:=30) Tryz.func81 rfl rfl (by simp) fun b=> ?_
 refine aU (fun m=>eb (m.rd 0 rfl)) ?_
 rintro⟨hl_r,hA_r⟩
 refine ah<|aj<|hy (fun _=>ab rfl)<|ai<|ae<|ah<|aj<|hy (fun _=>aa rfl)<| ?_
 refine hx (au rfl Tryz.call159 (C0 (by omega) (by omega) (by omega)) [] rfl [0] rfl ?_)
 rintro _ _ _ ⟨v,rfl,rfl,rfl⟩
 refine aA (fun m=>(m.own 0 rfl).slice) ?_
 rintro⟨A_x,c_x,rfl,hc_x⟩
 refine aA (fun m=>(m.ord 0 rfl).2.1) fun hA_x=> ?_
 refine hy (fun _=>ab rfl)<|ai<|al (ρ' :=[(3,_),(2,_),(0,_)]) ⟨rfl,rfl,rfl,trivial⟩<|ak (X' :=[_]) (S' :=[_]) (fun _ m=>m)<|ae<|ah<|aj<| ?_
 refine hx (bT Tryz.underlying27 eA rfl rfl rfl (by simp[Value.cells,B8]) (by decide) (by decide) (fun g7=> ?_))
 have hA_b7:0<2→(some (⟨g7,0,none⟩:Addr))≠none:=fun _ h=>by cases h
 refine hy (fun _=>ab rfl)<|ai<|al (ρ' :=[(4,_),(3,_),(2,_),(0,_)]) ⟨rfl,rfl,rfl,rfl,trivial⟩<|ak (X' :=[_,_]) (S' :=[_]) (fun _ m=>m)<|ae<|ah<|aj<|hy (fun _=>aa rfl)<|hy (fun _=>aa rfl)<|hy (fun _=>aT rfl Tryz.underlying27)<| ?_
 refine hx (au rfl Tryz.call160 (AQ (by omega)) [] rfl [] rfl ?_)
 rintro _ _ _ ⟨v2,rfl,rfl,rfl⟩
 refine aA (fun m=>(m.own 0 rfl).slice) ?_
 rintro⟨A_x2,c_x2,rfl,hc_x2⟩
 refine aA (fun m=>(m.ord 0 rfl).2.1) fun hA_x2=> ?_
 refine aG (fun w m=>m.bs 1 rfl (show _=aF 5 1 (.slice (some ⟨g7,0,none⟩) 2 2) 2 (aP [76,0])from rfl)) ?_
 refine hx (bw 0 rfl rfl rfl Tryz.underlying27 Tryz.underlying27 (by exact .inl rfl) eA rfl (fun m=>Src.bW (m.ord 1 rfl)) bg (by unfold maxLen;omega) (by omega) (fun u=> ?_))
 refine aA (fun m=>(m.own 0 rfl).slice) ?_
 rintro⟨A_b7,c_b7,rfl,hc_b7⟩
 refine aA (fun m=>(m.ord 0 rfl).2.1) fun hA_b7=> ?_
 refine hy (fun _=>ab rfl)<|ai<|al (ρ' :=[(4,_),(3,_),(2,_),(0,_)]) ⟨rfl,rfl,rfl,rfl,trivial⟩<|ak (X' :=[_,_,_]) (S' :=[_]) (fun _ m=>m)<|ae<|ah<|ah<|aj<|hy (fun _=>aa rfl)<|hy (fun _=>aT rfl Tryz.underlying27)<|hy (fun _=>aa rfl)<|hy (fun _=>aT rfl Tryz.underlying27)<|hy (fun _=>bC rfl rfl)<|ai<|al (ρ' :=[(17,_),(4,_),(3,_),(2,_),(0,_)]) ⟨rfl,rfl,rfl,rfl,rfl,trivial⟩<|ae<| ?_
 refine cj rfl (fun hp=> ?_) (fun hp=> ?_)
 ·have hq:b7 l=[76,1]++iW l.length++en l++iW (cX l):=by
   have:xB l=true:=by unfold xB;exact decide_eq_true (by omega)
   unfold b7 nv
   rw[this];rfl
  refine ah<|aj<|hy (fun _=>aa rfl)<|hy (fun _=>aN rfl rfl Tryz.underlying27 dB hA_b7 (show((1:Nat):Int)=1 from rfl) (by omega))<| ?_
  refine cx (zm 0 rfl rfl rfl dB rfl (by omega) ?_)
  refine ai<|al (ρ' :=[(17,_),(4,_),(3,_),(2,_),(0,_)]) ⟨rfl,rfl,rfl,rfl,rfl,trivial⟩<|ak (X' :=[_,_,_]) (S' :=[_]) (fun _ m=>m)<|ae<|aj<|hy (fun _=>aa rfl)<|hy (fun _=>aa rfl)<| ?_
  refine aG (fun w m=>m.bs 0 rfl (show _=aF 5 1 (.slice A_b7 (2+4) c_b7) (2+4) (aP ([76,1]++iW n))from rfl)) ?_
  refine hx (bw 0 rfl rfl rfl Tryz.underlying27 Tryz.underlying27 (by exact .inl rfl) eA rfl (fun m=>Src.bW (m.ord 2 rfl)) bg (by unfold maxLen;omega) (by omega) (fun u2=> ?_))
  refine aA (fun m=>(m.own 0 rfl).slice) ?_
  rintro⟨A_b72,c_b72,rfl,hc_b7⟩
  refine aA (fun m=>(m.ord 0 rfl).2.1) fun hA_b7=> ?_
  refine hy (fun _=>ab rfl)<|ai<|al (ρ' :=[(4,_),(17,_),(3,_),(2,_),(0,_)]) ⟨rfl,rfl,rfl,rfl,rfl,trivial⟩<|ak (X' :=[_,_,_]) (S' :=[_]) (fun _ m=>m)<|ae<|ah<|aj<|hy (fun _=>aa rfl)<|hy (fun _=>aa rfl)<| ?_
  refine hx (au rfl Tryz.call161 (ve (by omega) (by omega) (by omega)) [] rfl [0] rfl ?_)
  rintro _ _ _ ⟨v3,rfl,rfl,rfl⟩
  refine aA (fun m=>(m.own 0 rfl).slice) ?_
  rintro⟨A_x3,c_x3,rfl,hc_x3⟩
  refine aA (fun m=>(m.ord 0 rfl).2.1) fun hA_x3=> ?_
  refine hx (bw 1 rfl rfl rfl Tryz.underlying27 Tryz.underlying27 (by exact .inl rfl) eA rfl (fun m=>Src.bW (m.ord 0 rfl)) bg (by unfold maxLen;omega) (by omega) (fun u3=> ?_))
  refine aA (fun m=>(m.own 0 rfl).slice) ?_
  rintro⟨A_b73,c_b73,rfl,hc_b7⟩
  refine aA (fun m=>(m.ord 0 rfl).2.1) fun hA_b7=> ?_
  refine hy (fun _=>ab rfl)<|ai<|al (ρ' :=[(2,_),(4,_),(17,_),(3,_),(0,_)]) ⟨rfl,rfl,rfl,rfl,rfl,trivial⟩<|ak (X' :=[_,_,_,_]) (S' :=[_]) (fun _ m=>m)<|ae<|aS<| ?_
  have hol:2+4+(en l).length+4=(b7 l).length:=by rw[hq];simp[gT,hl];try omega
  rw[hol]
  have hsl:aP ([76,1]++iW n)++aP (en l)++aP (iW (cX l))=aP (b7 l):=by rw[hq,hl,bz ([76,1]++iW n++(en l)),bz ([76,1]++iW n)]
  rw[hsl]
  exact a6 trivial rfl rfl [0] rfl [] rfl ⟨_,rfl,rfl,rfl⟩
 ·have hq:b7 l=[76,0]++iW l.length++l++iW (cX l):=by
   have:xB l=false:=by unfold xB;exact decide_eq_false (by omega)
   unfold b7 nv
   rw[this];rfl
  refine aj<|hy (fun _=>aa rfl)<|hy (fun _=>aa rfl)<| ?_
  refine aG (fun w m=>m.bs 0 rfl (show _=aF 5 1 (.slice A_b7 (2+4) c_b7) (2+4) (aP ([76,0]++iW n))from rfl)) ?_
  refine hx (bw 0 rfl rfl rfl Tryz.underlying27 Tryz.underlying27 (by exact .inl rfl) eA rfl (fun m=>Src.bW (m.rd 0 rfl)) bg (by unfold maxLen;omega) (by omega) (fun u2=> ?_))
  refine aA (fun m=>(m.own 0 rfl).slice) ?_
  rintro⟨A_b72,c_b72,rfl,hc_b7⟩
  refine aA (fun m=>(m.ord 0 rfl).2.1) fun hA_b7=> ?_
  refine hy (fun _=>ab rfl)<|ai<|al (ρ' :=[(4,_),(17,_),(3,_),(2,_),(0,_)]) ⟨rfl,rfl,rfl,rfl,rfl,trivial⟩<|ak (X' :=[_,_,_]) (S' :=[_]) (fun _ m=>m)<|ae<|ah<|aj<|hy (fun _=>aa rfl)<|hy (fun _=>aa rfl)<| ?_
  refine hx (au rfl Tryz.call161 (ve (by omega) (by omega) (by omega)) [] rfl [0] rfl ?_)
  rintro _ _ _ ⟨v3,rfl,rfl,rfl⟩
  refine aA (fun m=>(m.own 0 rfl).slice) ?_
  rintro⟨A_x3,c_x3,rfl,hc_x3⟩
  refine aA (fun m=>(m.ord 0 rfl).2.1) fun hA_x3=> ?_
  refine hx (bw 1 rfl rfl rfl Tryz.underlying27 Tryz.underlying27 (by exact .inl rfl) eA rfl (fun m=>Src.bW (m.ord 0 rfl)) bg (by unfold maxLen;omega) (by omega) (fun u3=> ?_))
  refine aA (fun m=>(m.own 0 rfl).slice) ?_
  rintro⟨A_b73,c_b73,rfl,hc_b7⟩
  refine aA (fun m=>(m.ord 0 rfl).2.1) fun hA_b7=> ?_
  refine hy (fun _=>ab rfl)<|ai<|al (ρ' :=[(2,_),(4,_),(17,_),(3,_),(0,_)]) ⟨rfl,rfl,rfl,rfl,rfl,trivial⟩<|ak (X' :=[_,_,_,_]) (S' :=[_]) (fun _ m=>m)<|ae<|aS<| ?_
  have hol:2+4+n+4=(b7 l).length:=by rw[hq];simp[gT,hl];try omega
  rw[hol]
  have hsl:aP ([76,0]++iW n)++aP l++aP (iW (cX l))=aP (b7 l):=by rw[hq,hl,bz ([76,0]++iW n++l),bz ([76,0]++iW n)]
  rw[hsl]
  exact a6 trivial rfl rfl [0] rfl [] rfl ⟨_,rfl,rfl,rfl⟩
end Go.Proofs.YtmibdabdlgmafaaGreatDoor
end
section
set_option maxRecDepth 20000
set_option maxHeartbeats 4000000
namespace Go.Proofs.YtmibdabdlgmafaaGreatDoor
open Go.Eng Go.Hx
@[reducible]def Hd (v:Value) (nn e:Int):List Value:=[v,.int .i64 nn,.int .i64 e]
theorem jy{A:Option Addr}{n c:Nat}{nn e:Int}:∀u∈Hd (.slice A n c) nn e,u.oneCell' =true:=by
 intro u hu
 simp only[List.mem_cons,List.not_mem_nil,or_false]at hu
 rcases hu with rfl|rfl|rfl <;> rfl
theorem kl(l:List UInt8)(i j:Nat):(l.drop i).getD j 0=l.getD (i+j) 0:=by simp[List.getD,List.getElem?_drop]
theorem zt{A:Option Addr}{n c:Nat}{l:List UInt8}{z:Int}(hc:n≤c)(hn:n≤10000000)(hl:l.length=n)(hz:z≤10000000):b6 Tryz.prog 217 [.slice A n c,.int .i64 z] [] [cn 1 A n (aP l)] (fun v_ X_ S_=>∃v nn,v_=(.agg (Hd v nn (kj z l []).2).toArray)∧X_=[aF 5 1 v (kj z l []).1.length (aP (kj z l []).1)]∧S_=[]):=by
 refine aI (N:=109) Tryz.func217 rfl rfl (by simp) fun b=> ?_
 refine aU (fun m=>eb (m.rd 0 rfl)) ?_
 rintro⟨hl_r,hA_r⟩
 refine ah<|aj<| ?_
 refine hx (bh nf (fun g4=> ?_))
 refine ai<|ak (X' :=[_]) (S' :=[_]) (fun _ m=>m)<|ae<|ah<|aj<|hy (fun _=>ab rfl)<|ai<|ae<|ah<|aj<|hy (fun _=>ab rfl)<|ai<|ae<|ah<|ah<|aj<|hy (fun _=>ab rfl)<|ai<|ae<|aK<| ?_
 refine bd (fun w m=>m.cI (r' :=aF 5 1 (.slice none 0 0) 0 []) (.refl _ _) (Own.nil _ _ _ _) (fun k hk=>hk.elim)) ?_
 refine qX (fun i o nn A3 c3=>n-i) (fun i o nn A3 c3=>[(5,.slice A3 (o:List UInt8).length c3),(6,.int .i64 (nn:Nat)),(7,.int .i64 (i:Nat))]) (fun i o nn A3 c3=>[aF 5 1 (.slice A3 o.length c3) o.length (aP o)]) (fun i o nn A3 c3=>[]) (fun i o nn A3 c3=>i≤n∧nn≤i∧o.length≤10000000∧kj z (l.drop i) o=kj z l []) 0 [] 0 none 0 [(4,_),(0,_),(1,_)] ⟨rfl,rfl,rfl,trivial⟩ [0] rfl [] rfl (⟨Nat.zero_le _,Nat.zero_le _,Nat.zero_le _,rfl⟩) ⟨rfl,rfl,rfl,trivial⟩ (fun i o nn A3 c3 ⟨hin,hni,hol,hU⟩=> ?_)
 refine ah<|ah<|aj<|hy (fun _=>aa rfl)<|hy (fun _=>aa rfl)<|hy (fun _=>aT rfl Tryz.underlying27)<|hy (fun _=>bC rfl rfl)<|ai<|al (ρ' :=[(14,_),(5,_),(6,_),(7,_),(4,_),(0,_),(1,_)]) ⟨rfl,rfl,rfl,rfl,rfl,rfl,rfl,trivial⟩<|ae<| ?_
 refine cj rfl (fun hlt=> ?_) (fun hlt=> ?_)
 ·have hil:i<l.length:=by omega
  have hq0:l.drop i≠ []:=fun e=>by have:=congrArg List.length e;rw[List.length_drop]at this;simp at this;omega
  have hql:(l.drop i).length=n-i:=by rw[List.length_drop,hl]
  have hg0:(l.drop i).getD 0 0=l.getD i 0:=kl l i 0
  have hc0:=(l.getD i 0).toNat_lt
  refine aB<|ae<|ah<|aK<|ah<|aj<|hy (fun _=>aa rfl)<|hy (fun _=>aa rfl)<|hy (fun _=>aN rfl rfl Tryz.underlying27 dB hA_r rfl (by omega))<|hy (fun m=>aq rfl iv ((m.rd 0 rfl).cell (bB (by omega))))<|hy (fun _=>bS rfl Tryz.underlying5 Tryz.underlying3 (zX _))<|hy (fun _=>ab rfl)<|ai<|al (ρ' :=[(8,_),(14,_),(5,_),(6,_),(7,_),(4,_),(0,_),(1,_)]) ⟨rfl,rfl,rfl,rfl,rfl,rfl,rfl,rfl,trivial⟩<|ae<|ah<|ah<|aj<|hy (fun _=>aa rfl)<|hy (fun _=>bC rfl rfl)<|ai<|al (ρ' :=[(23,_),(8,_),(14,_),(5,_),(6,_),(7,_),(4,_),(0,_),(1,_)]) ⟨rfl,rfl,rfl,rfl,rfl,rfl,rfl,rfl,rfl,trivial⟩<|ae<| ?_
  generalize hc8:(l.getD i 0).toNat=c8 at hc0 hg0 ⊢
  have hc8' :((l.drop i).getD 0 0).toNat=c8:=by rw[kl,Nat.add_zero,hc8]
  refine cj rfl (fun h128=> ?_) (fun h128=> ?_)
  ·have ht:cz (l.drop i)=(c8+2,c8+1,0,decide (c8+2≤n-i)):=by
    unfold cz;rw[hc8',if_pos (by omega),hql]
   refine ah<|ah<|aj<|hy (fun _=>aa rfl)<|hy (fun _=>aa rfl)<|hy (fun _=>aL rfl rfl (bx (by omega) (by omega)))<|hy (fun _=>aL rfl rfl (bx (by omega) (by omega)))<|hy (fun _=>aa rfl)<|hy (fun _=>aT rfl Tryz.underlying27)<|hy (fun _=>cy rfl rfl)<|ai<|al (ρ' :=[(30,_),(23,_),(8,_),(14,_),(5,_),(6,_),(7,_),(4,_),(0,_),(1,_)]) ⟨rfl,rfl,rfl,rfl,rfl,rfl,rfl,rfl,rfl,rfl,trivial⟩<|ae<| ?_
   refine cj rfl (fun h30=> ?_) (fun h30=> ?_)
   ·rw[j7 hq0 (fun h=>by rw[ht]at h;have:=of_decide_eq_true h.1;omega)]at hU
    rw[←hU]
    refine ah<|aj<|hy (fun _=>bQ nf rfl rfl (by kernel_rfl) (.cons (o:=2) (sz:=1) (by kernel_rfl) rfl rfl (Nat.le_of_ble_eq_true rfl) .nil))<| ?_
    refine cx (a8 1 rfl rfl rfl iL rfl jy rfl ?_)
    refine ai<|al (ρ' :=[(30,_),(23,_),(8,_),(14,_),(5,_),(6,_),(7,_),(4,_),(0,_),(1,_)]) ⟨rfl,rfl,rfl,rfl,rfl,rfl,rfl,rfl,rfl,rfl,trivial⟩<|ak (X' :=[_,_]) (S' :=[_]) (fun _ m=>m)<|ae<|aS<|ay<|ay<|bf<|ay<|ay<|bf<|ay<| ?_
    refine ak (fun w m=>m.cI (r' :=aF 5 1 (.slice none 0 0) 0 []) (.refl _ _) (Own.nil _ _ _ _) (fun k hk=>hk.elim)) ?_
    exact eJ trivial rfl rfl qt iL rfl (fun m=>(m.aQ 1 rfl).aw) [0] rfl [] rfl ⟨_,_,rfl,rfl,rfl⟩
   ·have hok:(cz (l.drop i)).2.2.2=true:=by rw[ht];exact decide_eq_true (by omega)
    have hdo:(cz (l.drop i)).2.2.1≤o.length:=by rw[ht];exact Nat.zero_le _
    refine aB<|ae<|ah<|ah<|aj<|hy (fun _=>aa rfl)<|hy (fun _=>aT rfl Tryz.underlying27)<|hy (fun _=>aa rfl)<|hy (fun _=>aL rfl rfl (bx (by omega) (by omega)))<|hy (fun _=>aL rfl rfl (bx (by omega) (by omega)))<|hy (fun _=>aa rfl)<|hy (fun _=>cy rfl rfl)<|ai<|al (ρ' :=[(38,_),(30,_),(23,_),(8,_),(14,_),(5,_),(6,_),(7,_),(4,_),(0,_),(1,_)]) ⟨rfl,rfl,rfl,rfl,rfl,rfl,rfl,rfl,rfl,rfl,rfl,trivial⟩<|ae<| ?_
    refine cj rfl (fun h38=> ?_) (fun h38=> ?_)
    ·rw[oa hq0 hok hdo (by rw[ht];show z<(o.length:Int)+((c8+1:Nat):Int);omega)]at hU
     rw[←hU]
     refine ah<|aj<|hy (fun _=>bQ nf rfl rfl (by kernel_rfl) (.cons (o:=2) (sz:=1) (by kernel_rfl) rfl rfl (Nat.le_of_ble_eq_true rfl) .nil))<| ?_
     refine cx (a8 1 rfl rfl rfl iL rfl jy rfl ?_)
     refine ai<|al (ρ' :=[(38,_),(30,_),(23,_),(8,_),(14,_),(5,_),(6,_),(7,_),(4,_),(0,_),(1,_)]) ⟨rfl,rfl,rfl,rfl,rfl,rfl,rfl,rfl,rfl,rfl,rfl,trivial⟩<|ak (X' :=[_,_]) (S' :=[_]) (fun _ m=>m)<|ae<|aS<|ay<|ay<|bf<|ay<|ay<|bf<|ay<| ?_
     refine ak (fun w m=>m.cI (r' :=aF 5 1 (.slice none 0 0) 0 []) (.refl _ _) (Own.nil _ _ _ _) (fun k hk=>hk.elim)) ?_
     exact eJ trivial rfl rfl qt iL rfl (fun m=>(m.aQ 1 rfl).aw) [0] rfl [] rfl ⟨_,_,rfl,rfl,rfl⟩
    ·rw[rm hq0 hok hdo (by rw[ht];show¬z<(o.length:Int)+((c8+1:Nat):Int);omega)]at hU
     have hK:i+1+(c8+1)-(i+1)=c8+1:=by omega
     have hma:made (l.drop i) o=o++(l.drop (i+1)).take (i+1+(c8+1)-(i+1)):=by unfold made;rw[ht,hK,if_pos rfl,List.drop_drop];rfl
     rw[hma,ht,List.drop_drop]at hU
     have hpl:((l.drop (i+1)).take (i+1+(c8+1)-(i+1))).length=i+1+(c8+1)-(i+1):=by rw[List.length_take,List.length_drop];omega
     refine bd (fun w m=>m.fp 0 rfl (View.sub (n:=n) (c:=c) (k:=i+1) (m:=i+1+(c8+1)-(i+1)) (by omega) (by omega))) ?_
     refine aU (fun m=>eb (m.rd 0 rfl)) ?_
     rintro⟨hl_q,hA_q⟩
     refine aB<|ae<|ah<|aj<|hy (fun _=>aa rfl)<|hy (fun _=>aa rfl)<|hy (fun _=>aa rfl)<|hy (fun _=>aL rfl rfl (bx (by omega) (by omega)))<|hy (fun _=>aa rfl)<|hy (fun _=>aa rfl)<|hy (fun _=>aL rfl rfl (bx (by omega) (by omega)))<|hy (fun _=>aL rfl rfl (bx (by omega) (by omega)))<|hy (fun _=>ef rfl rfl rfl Tryz.underlying27 dB (show((i+1:Nat):Int)=_ by omega) (show((i+1+(c8+1):Nat):Int)=_ by omega) (by omega) (by omega))<| ?_
     refine hx (bw 0 rfl rfl rfl Tryz.underlying27 Tryz.underlying27 (by exact .inl rfl) eA rfl (fun m=>Src.bW (m.rd 0 rfl)) bg (by unfold maxLen;omega) (by omega) (fun u=> ?_))
     refine aA (fun m=>(m.own 0 rfl).slice) ?_
     rintro⟨A_x,c_x,rfl,hc_x⟩
     refine aA (fun m=>(m.ord 0 rfl).2.1) fun hA_x=> ?_
     have hlm:o.length+(i+1+(c8+1)-(i+1))=(o++(l.drop (i+1)).take (i+1+(c8+1)-(i+1))).length:=by rw[List.length_append,hpl]
     rw[hlm]at hc_x hA_x ⊢
     refine aG (fun w m=>m.bs 0 rfl (show _=aF 5 1 (.slice A_x (o++(l.drop (i+1)).take (i+1+(c8+1)-(i+1))).length c_x) (o++(l.drop (i+1)).take (i+1+(c8+1)-(i+1))).length (aP (o++(l.drop (i+1)).take (i+1+(c8+1)-(i+1))))from congrArg (aF _ _ _ _) (by rw[bz]))) ?_
     refine hy (fun _=>ab rfl)<|ai<|al (ρ' :=[(5,_),(38,_),(30,_),(23,_),(8,_),(14,_),(6,_),(7,_),(4,_),(0,_),(1,_)]) ⟨rfl,rfl,rfl,rfl,rfl,rfl,rfl,rfl,rfl,rfl,rfl,trivial⟩<|ak (X' :=[_,_]) (S' :=[_,_]) (fun _ m=>m)<|ae<|ah<|aj<|hy (fun _=>aa rfl)<|hy (fun _=>aa rfl)<|hy (fun _=>aL rfl rfl (bx (by omega) (by omega)))<|hy (fun _=>yV (aL rfl rfl (bx (by omega) (by omega))) ((show Value.int .i64 _= .int .i64 ((i+(c8+2):Nat):Int) by congr 1)))<|hy (fun _=>ab rfl)<|ai<|al (ρ' :=[(7,_),(5,_),(38,_),(30,_),(23,_),(8,_),(14,_),(6,_),(4,_),(0,_),(1,_)]) ⟨rfl,rfl,rfl,rfl,rfl,rfl,rfl,rfl,rfl,rfl,rfl,trivial⟩<|ae<|bK<|ao<|aC<|ae<|aj<|hy (fun _=>aa rfl)<|hy (fun _=>aL rfl rfl (bx (by omega) (by omega)))<|hy (fun _=>ab rfl)<|ai<|al (ρ' :=[(6,_),(7,_),(5,_),(38,_),(30,_),(23,_),(8,_),(14,_),(4,_),(0,_),(1,_)]) ⟨rfl,rfl,rfl,rfl,rfl,rfl,rfl,rfl,rfl,rfl,rfl,trivial⟩<| ?_
     refine mN (i+(c8+2)) (o++(l.drop (i+1)).take (i+1+(c8+1)-(i+1))) (nn+1) A_x c_x ⟨rfl,rfl,rfl,rfl,rfl,rfl,trivial⟩ [0,0] rfl [1] rfl (⟨by omega,by omega,by rw[←hlm];omega,hU⟩) (by omega)
  ·refine aB<|ae<|ah<|ah<|aj<|hy (fun _=>aa rfl)<|hy (fun _=>aL rfl rfl (bx (by omega) (by omega)))<|hy (fun _=>aa rfl)<|hy (fun _=>aT rfl Tryz.underlying27)<|hy (fun _=>cy rfl rfl)<|ai<|al (ρ' :=[(58,_),(23,_),(8,_),(14,_),(5,_),(6,_),(7,_),(4,_),(0,_),(1,_)]) ⟨rfl,rfl,rfl,rfl,rfl,rfl,rfl,rfl,rfl,rfl,trivial⟩<|ae<| ?_
   refine cj rfl (fun h58=> ?_) (fun h58=> ?_)
   ·have ht:cz (l.drop i)=(0,0,0,false):=by unfold cz;rw[hc8',if_neg (by omega),if_pos (by omega)]
    rw[j7 hq0 (fun h=>by rw[ht]at h;cases h.1)]at hU
    rw[←hU]
    refine ah<|aj<|hy (fun _=>bQ nf rfl rfl (by kernel_rfl) (.cons (o:=2) (sz:=1) (by kernel_rfl) rfl rfl (Nat.le_of_ble_eq_true rfl) .nil))<| ?_
    refine cx (a8 1 rfl rfl rfl iL rfl jy rfl ?_)
    refine ai<|al (ρ' :=[(58,_),(23,_),(8,_),(14,_),(5,_),(6,_),(7,_),(4,_),(0,_),(1,_)]) ⟨rfl,rfl,rfl,rfl,rfl,rfl,rfl,rfl,rfl,rfl,trivial⟩<|ak (X' :=[_,_]) (S' :=[_]) (fun _ m=>m)<|ae<|aS<|ay<|bf<|ay<|ay<|bf<|ay<| ?_
    refine ak (fun w m=>m.cI (r' :=aF 5 1 (.slice none 0 0) 0 []) (.refl _ _) (Own.nil _ _ _ _) (fun k hk=>hk.elim)) ?_
    exact eJ trivial rfl rfl qt iL rfl (fun m=>(m.aQ 1 rfl).aw) [0] rfl [] rfl ⟨_,_,rfl,rfl,rfl⟩
   ·have ht:cz (l.drop i)=(3,c8-124,1+(l.getD (i+1) 0).toNat+256*(l.getD (i+2) 0).toNat,true):=by
     unfold cz;rw[hc8',if_neg (by omega),if_neg (by omega),kl,kl]
    have b1:=(l.getD (i+1) 0).toNat_lt
    have b2:=(l.getD (i+2) 0).toNat_lt
    have hok:(cz (l.drop i)).2.2.2=true:=by rw[ht]
    refine aB<|ae<|ah<|cu [] [(0,some 0),(1,some 0),(2,some 0),(3,some 0),(4,some 0),(5,some 0),(6,some 0),(7,some 0),(8,some 0),(9,some 0),(10,some 0),(11,some 0),(12,some 0),(13,some 0),(14,some 0),(15,some 0)] (by kernel_rfl) (by kernel_rfl) rfl 99<|an (aa rfl)<|an (aa rfl)<|an (aL rfl rfl (bx (by omega) (by omega)))<|an (aN rfl rfl Tryz.underlying27 dB hA_r (show((i+1:Nat):Int)=_ by omega) (by omega))<|b5 (fun m=>aq rfl iv ((m.rd 0 rfl).cell (bB (by omega))))<|an (bS rfl Tryz.underlying5 Tryz.underlying3 (zX _))<|an (aL rfl rfl (bx (by omega) (by omega)))<|an (aa rfl)<|an (aa rfl)<|an (aL rfl rfl (bx (by omega) (by omega)))<|an (aN rfl rfl Tryz.underlying27 dB hA_r (show((i+2:Nat):Int)=_ by omega) (by omega))<|b5 (fun m=>aq rfl iv ((m.rd 0 rfl).cell (bB (by omega))))<|an (bS rfl Tryz.underlying5 Tryz.underlying3 (zX _))<|an (fg rfl rfl (bx (by omega) (by omega)))<|an (yV (aL rfl rfl (bx (by omega) (by omega))) ((show Value.int .i64 ((1:Int)+((l.getD (i+1) 0).toNat:Int)+256*((l.getD (i+2) 0).toNat:Int))= .int .i64 ((1+(l.getD (i+1) 0).toNat+256*(l.getD (i+2) 0).toNat:Nat):Int) by congr 1)))<|an (ab rfl)<|bo<|al (ρ' :=[(9,_),(58,_),(23,_),(8,_),(14,_),(5,_),(6,_),(7,_),(4,_),(0,_),(1,_)]) ⟨rfl,rfl,rfl,rfl,rfl,rfl,rfl,rfl,rfl,rfl,rfl,trivial⟩<|ae<|ah<|ah<|aj<|hy (fun _=>aa rfl)<|hy (fun _=>aa rfl)<|hy (fun _=>aT rfl Tryz.underlying27)<|hy (fun _=>cy rfl rfl)<|ai<|al (ρ' :=[(78,_),(9,_),(58,_),(23,_),(8,_),(14,_),(5,_),(6,_),(7,_),(4,_),(0,_),(1,_)]) ⟨rfl,rfl,rfl,rfl,rfl,rfl,rfl,rfl,rfl,rfl,rfl,rfl,trivial⟩<|ae<| ?_
    generalize hdd:1+(l.getD (i+1) 0).toNat+256*(l.getD (i+2) 0).toNat=dd at ht ⊢
    refine cj rfl (fun h78=> ?_) (fun h78=> ?_)
    ·rw[j7 hq0 (fun h=>by rw[ht]at h;have h2:dd≤o.length:=h.2;omega)]at hU
     rw[←hU]
     refine ah<|aj<|hy (fun _=>bQ nf rfl rfl (by kernel_rfl) (.cons (o:=2) (sz:=1) (by kernel_rfl) rfl rfl (Nat.le_of_ble_eq_true rfl) .nil))<| ?_
     refine cx (a8 1 rfl rfl rfl iL rfl jy rfl ?_)
     refine ai<|al (ρ' :=[(78,_),(9,_),(58,_),(23,_),(8,_),(14,_),(5,_),(6,_),(7,_),(4,_),(0,_),(1,_)]) ⟨rfl,rfl,rfl,rfl,rfl,rfl,rfl,rfl,rfl,rfl,rfl,rfl,trivial⟩<|ak (X' :=[_,_]) (S' :=[_]) (fun _ m=>m)<|ae<|aS<|ay<|bf<|ay<|ay<|bf<|ay<| ?_
     refine ak (fun w m=>m.cI (r' :=aF 5 1 (.slice none 0 0) 0 []) (.refl _ _) (Own.nil _ _ _ _) (fun k hk=>hk.elim)) ?_
     exact eJ trivial rfl rfl qt iL rfl (fun m=>(m.aQ 1 rfl).aw) [0] rfl [] rfl ⟨_,_,rfl,rfl,rfl⟩
    ·have hdo:(cz (l.drop i)).2.2.1≤o.length:=by rw[ht];show dd≤_;omega
     refine aB<|ae<|ah<|ah<|aj<|hy (fun _=>aa rfl)<|hy (fun _=>aT rfl Tryz.underlying27)<|hy (fun _=>aa rfl)<|hy (fun _=>aL rfl rfl (bx (by omega) (by omega)))<|hy (fun _=>ca rfl rfl (bx (by omega) (by omega)))<|hy (fun _=>aa rfl)<|hy (fun _=>cy rfl rfl)<|ai<|al (ρ' :=[(86,_),(78,_),(9,_),(58,_),(23,_),(8,_),(14,_),(5,_),(6,_),(7,_),(4,_),(0,_),(1,_)]) ⟨rfl,rfl,rfl,rfl,rfl,rfl,rfl,rfl,rfl,rfl,rfl,rfl,rfl,trivial⟩<|ae<| ?_
     refine cj rfl (fun h86=> ?_) (fun h86=> ?_)
     ·rw[oa hq0 hok hdo (by rw[ht];show z<(o.length:Int)+((c8-124:Nat):Int);omega)]at hU
      rw[←hU]
      refine ah<|aj<|hy (fun _=>bQ nf rfl rfl (by kernel_rfl) (.cons (o:=2) (sz:=1) (by kernel_rfl) rfl rfl (Nat.le_of_ble_eq_true rfl) .nil))<| ?_
      refine cx (a8 1 rfl rfl rfl iL rfl jy rfl ?_)
      refine ai<|al (ρ' :=[(86,_),(78,_),(9,_),(58,_),(23,_),(8,_),(14,_),(5,_),(6,_),(7,_),(4,_),(0,_),(1,_)]) ⟨rfl,rfl,rfl,rfl,rfl,rfl,rfl,rfl,rfl,rfl,rfl,rfl,rfl,trivial⟩<|ak (X' :=[_,_]) (S' :=[_]) (fun _ m=>m)<|ae<|aS<|ay<|bf<|ay<|ay<|bf<|ay<| ?_
      refine ak (fun w m=>m.cI (r' :=aF 5 1 (.slice none 0 0) 0 []) (.refl _ _) (Own.nil _ _ _ _) (fun k hk=>hk.elim)) ?_
      exact eJ trivial rfl rfl qt iL rfl (fun m=>(m.aQ 1 rfl).aw) [0] rfl [] rfl ⟨_,_,rfl,rfl,rfl⟩
     ·rw[rm hq0 hok hdo (by rw[ht];show¬z<(o.length:Int)+((c8-124:Nat):Int);omega)]at hU
      have hma:made (l.drop i) o=again dd (c8-124) o:=by unfold made;rw[ht];exact if_neg (show¬dd=0 by omega)
      rw[hma,ht,List.drop_drop]at hU
      refine aB<|ae<|ah<|ah<|aj<|hy (fun _=>ab rfl)<|ai<|ae<|aK<| ?_
      refine ow (fun k2 o2 A4 c4=>c8-124-k2) (fun k2 o2 A4 c4=>[(5,.slice A4 (o2:List UInt8).length c4),(10,.int .i64 (k2:Nat))]) (fun k2 o2 A4 c4=>[aF 5 1 (.slice A4 o2.length c4) o2.length (aP o2)]) (fun k2 o2 A4 c4=>[]) (fun k2 o2 A4 c4=>k2≤c8-124∧o2.length=o.length+k2∧again dd (c8-124-k2) o2=again dd (c8-124) o) 0 o A3 c3 [(86,_),(78,_),(9,_),(58,_),(23,_),(8,_),(14,_),(6,_),(7,_),(4,_),(0,_),(1,_)] ⟨rfl,rfl,rfl,rfl,rfl,rfl,rfl,rfl,rfl,rfl,rfl,rfl,trivial⟩ [0] rfl [] rfl (⟨Nat.zero_le _,rfl,rfl⟩) ⟨rfl,rfl,trivial⟩ (fun k2 o2 A4 c4 ⟨hk2,ho2,hag⟩=> ?_)
      refine ah<|ah<|aj<|hy (fun _=>aa rfl)<|hy (fun _=>aa rfl)<|hy (fun _=>ca rfl rfl (bx (by omega) (by omega)))<|hy (fun _=>bC rfl rfl)<|ai<|al (ρ' :=[(91,_),(5,_),(10,_),(86,_),(78,_),(9,_),(58,_),(23,_),(8,_),(14,_),(6,_),(7,_),(4,_),(0,_),(1,_)]) ⟨rfl,rfl,rfl,rfl,rfl,rfl,rfl,rfl,rfl,rfl,rfl,rfl,rfl,rfl,rfl,trivial⟩<|ae<| ?_
      refine cj rfl (fun hk=> ?_) (fun hk=> ?_)
      ·have hk3:k2<c8-124:=by omega
       have hi2:o2.length-dd<o2.length:=by omega
       have hs:again dd (c8-124-k2) o2=again dd (c8-124-(k2+1)) (o2++[o2.getD (o2.length-dd) 0]):=by
        rw[show c8-124-k2=(c8-124-(k2+1))+1 by omega];rfl
       rw[hs]at hag
       refine aU (fun m=>(m.ord 0 rfl).2.1) fun hA_x=> ?_
       refine aB<|ae<|ah<|aK<|aj<|hy (fun _=>aa rfl)<|hy (fun _=>aa rfl)<|hy (fun _=>aa rfl)<|hy (fun _=>aT rfl Tryz.underlying27)<|hy (fun _=>aa rfl)<|hy (fun _=>ca rfl rfl (bx (by omega) (by omega)))<|hy (fun _=>aN rfl rfl Tryz.underlying27 dB hA_x (show((o2.length-dd:Nat):Int)=_ by omega) (by omega))<|hy (fun m=>aq rfl iv ((m.ord 0 rfl).cell (bB (by omega))))<| ?_
       refine hx (bT Tryz.underlying27 eA rfl rfl rfl (by simp[Value.cells,B8]) (by decide) (by decide) (fun g102=> ?_))
       have hA_b102:0<1→(some (⟨g102,0,none⟩:Addr))≠none:=fun _ h=>by cases h
       refine aG (fun w m=>m.bs 0 rfl (show _=aF 5 1 (.slice (some ⟨g102,0,none⟩) 1 1) 1 (aP [o2.getD (o2.length-dd) 0])from rfl)) ?_
       refine hx (bw 1 rfl rfl rfl Tryz.underlying27 Tryz.underlying27 (by exact .inl rfl) eA rfl (fun m=>Src.bW (m.ord 0 rfl)) bg (by unfold maxLen;omega) (by omega) (fun u=> ?_))
       refine aA (fun m=>(m.own 0 rfl).slice) ?_
       rintro⟨A_x,c_x,rfl,hc_x⟩
       refine aA (fun m=>(m.ord 0 rfl).2.1) fun hA_x=> ?_
       have hlm:o2.length+1=(o2++[o2.getD (o2.length-dd) 0]).length:=by rw[List.length_append];rfl
       rw[hlm]at hc_x hA_x ⊢
       refine aG (fun w m=>m.bs 0 rfl (show _=aF 5 1 (.slice A_x (o2++[o2.getD (o2.length-dd) 0]).length c_x) (o2++[o2.getD (o2.length-dd) 0]).length (aP (o2++[o2.getD (o2.length-dd) 0]))from congrArg (aF _ _ _ _) (by rw[bz]))) ?_
       refine hy (fun _=>ab rfl)<|ai<|al (ρ' :=[(5,_),(91,_),(10,_),(86,_),(78,_),(9,_),(58,_),(23,_),(8,_),(14,_),(6,_),(7,_),(4,_),(0,_),(1,_)]) ⟨rfl,rfl,rfl,rfl,rfl,rfl,rfl,rfl,rfl,rfl,rfl,rfl,rfl,rfl,rfl,trivial⟩<|ak (X' :=[_,_,_]) (S' :=[_]) (fun _ m=>m)<|aR<|ae<|aj<|hy (fun _=>aa rfl)<|hy (fun _=>aL rfl rfl (bx (by omega) (by omega)))<|hy (fun _=>ab rfl)<|ai<|al (ρ' :=[(10,_),(5,_),(91,_),(86,_),(78,_),(9,_),(58,_),(23,_),(8,_),(14,_),(6,_),(7,_),(4,_),(0,_),(1,_)]) ⟨rfl,rfl,rfl,rfl,rfl,rfl,rfl,rfl,rfl,rfl,rfl,rfl,rfl,rfl,rfl,trivial⟩<| ?_
       refine k6 (k2+1) (o2++[o2.getD (o2.length-dd) 0]) A_x c_x ⟨rfl,rfl,rfl,rfl,rfl,rfl,rfl,rfl,rfl,rfl,rfl,rfl,rfl,rfl,trivial⟩ [0,1] rfl [0] rfl (⟨by omega,by rw[←hlm];omega,hag⟩) (by omega)
      ·obtain rfl:k2=c8-124:=by omega
       rw[Nat.sub_self]at hag
       have hag:o2=again dd (c8-124) o:=hag
       rw[←hag]at hU
       refine bK<|ao<|ao<|aC<|ae<|aj<|hy (fun _=>aa rfl)<|hy (fun _=>yV (aL rfl rfl (bx (by omega) (by omega))) ((show Value.int .i64 _= .int .i64 ((i+3:Nat):Int) by congr 1)))<|hy (fun _=>ab rfl)<|ai<|al (ρ' :=[(7,_),(91,_),(5,_),(10,_),(86,_),(78,_),(9,_),(58,_),(23,_),(8,_),(14,_),(6,_),(4,_),(0,_),(1,_)]) ⟨rfl,rfl,rfl,rfl,rfl,rfl,rfl,rfl,rfl,rfl,rfl,rfl,rfl,rfl,rfl,trivial⟩<|aR<|ae<|aj<|hy (fun _=>aa rfl)<|hy (fun _=>aL rfl rfl (bx (by omega) (by omega)))<|hy (fun _=>ab rfl)<|ai<|al (ρ' :=[(6,_),(7,_),(91,_),(5,_),(10,_),(86,_),(78,_),(9,_),(58,_),(23,_),(8,_),(14,_),(4,_),(0,_),(1,_)]) ⟨rfl,rfl,rfl,rfl,rfl,rfl,rfl,rfl,rfl,rfl,rfl,rfl,rfl,rfl,rfl,trivial⟩<| ?_
       refine mN (i+3) o2 (nn+1) A4 c4 ⟨rfl,rfl,rfl,rfl,rfl,rfl,trivial⟩ [0,0] rfl [0] rfl (⟨by omega,by omega,by omega,hU⟩) (by omega)
 ·obtain rfl:i=n:=by omega
  rw[List.drop_of_length_le (by omega),rC]at hU
  rw[←hU]
  refine bK<|ao<|ao<|aC<|ae<|ah<|aj<|hy (fun _=>aa rfl)<|hy (fun _=>aa rfl)<|hy (fun _=>bQ nf rfl rfl (by kernel_rfl) (.cons (o:=0) (sz:=1) (by kernel_rfl) rfl rfl (Nat.le_of_ble_eq_true rfl) (.cons (o:=1) (sz:=1) (by kernel_rfl) rfl rfl (Nat.le_of_ble_eq_true rfl) .nil)))<| ?_
  refine cx (a8 1 rfl rfl rfl iL rfl jy rfl ?_)
  refine ai<|al (ρ' :=[(14,_),(5,_),(6,_),(7,_),(4,_),(0,_),(1,_)]) ⟨rfl,rfl,rfl,rfl,rfl,rfl,rfl,trivial⟩<|ak (X' :=[_,_]) (S' :=[_]) (fun _ m=>m)<|ae<|aS<| ?_
  exact eJ trivial rfl rfl qt iL rfl (fun m=>(m.aQ 0 rfl).aw) [1] rfl [] rfl ⟨_,_,rfl,rfl,rfl⟩
end Go.Proofs.YtmibdabdlgmafaaGreatDoor
end
