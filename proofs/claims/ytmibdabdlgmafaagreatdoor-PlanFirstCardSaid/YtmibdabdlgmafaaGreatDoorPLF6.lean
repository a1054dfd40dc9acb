/- Part. -/
import Derived.Test.YtmibdabdlgmafaaGreatDoorPLF5
set_option linter.all false
section
set_option maxRecDepth 20000
set_option maxHeartbeats 2000000
namespace Go.Proofs.YtmibdabdlgmafaaGreatDoor
open Go.Eng Go.Hx
abbrev D5:=Nat×Int×Int
def Gz(x:D5):List Value:=[.int .i64 (x.1:Int),.int .i64 x.2.1,.int .i64 x.2.2]
def xa(x:D5):Value:=.agg (Gz x).toArray
theorem q8(x:D5):∀u∈Gz x,u.oneCell' =true:=by
 intro u hu
 simp only[Gz,List.mem_cons,List.not_mem_nil,or_false]at hu
 rcases hu with rfl|rfl|rfl <;> rfl
structure GI(x:D5):Prop where
 i:x.1≤1000000
 o0:0≤x.2.1
 o1:x.2.1≤1000000
 s0:1≤x.2.2
 s1:x.2.2≤1000000
abbrev xj:=List (Dg×D5)
def xY(l:xj):List (Dg×Value):=l.map fun x=>(x.1,xa x.2)
theorem ob:∀(l:xj) (p:Dg),bA (xY l) p=(bA l p).map xa
 | [],p=>rfl
 |(k,r)::q,p=>by
  have:=ob q p
  simp only[xY,List.map_cons,bA]at this ⊢
  split <;> simp_all
theorem vg:∀(l:xj) (p:Dg) (x:D5),cq (xY l) p (xa x)=xY (cq l p x)
 | [],p,x=>rfl
 |(k,r)::q,p,x=>by
  have:=vg q p x
  simp only[xY,List.map_cons,cq]at this ⊢
  split
  ·simp
  ·simp[this]
def Er(q:Pn)(A:Option Addr)(n c gm:Nat):List Value:=q.p.cs++[.slice A n c,.map (some gm)]
theorem Et{q:Pn}{A:Option Addr}{n c gm j:Nat}{u:Value}(h:q.p.cs[j]? =some u):(Er q A n c gm)[j]? =some u:=by
 rw[Er,List.getElem?_append_left (List.getElem?_eq_some_iff.1 h).1];exact h
abbrev fP(g gm:Nat)(q:Pn)(A:Option Addr)(c:Nat)(rs:List ba)(l:xj):bc:=ep [aE g 267 (Er q A rs.length c gm),aF 27 1 (.slice A rs.length c) rs.length (lr rs),dk DK gm (xY l),dw rs]
structure iE(q:Pn)(rs:List ba)(l:xj):Prop where
 find:∀nm:Dg,bA l nm=gg q (rs.map ba.l) 0 nm.1
 rows:∀r∈rs,r.n=r.l.length∧r.n≤r.c∧r.n≤100000
 Hk:∀(nm:Dg) x,bA l nm=some x→GI x
theorem iE.nil(q:Pn):iE q [] []:=⟨fun _=>rfl,fun r h=>absurd h List.not_mem_nil,fun _ _ h=>by cases h⟩
def dg(t:It):Dg:=⟨t.1.b,t.1.h⟩
theorem ik{t:It}{j:Nat}{u:Value}(h:(aP t.1.b)[j]? =some u):(ia t)[j]? =some u:=by
 rw[ia,List.getElem?_append_left (List.getElem?_eq_some_iff.1 h).1];exact h
theorem l8(t:It):(ia t)[32]? =some (Value.int .i64 t.2):=by
 rw[ia,List.getElem?_append_right (by rw[az,t.1.h];exact Nat.le_refl _),az,t.1.h];rfl
theorem nM{nm:List UInt8}{t:It}:∀(a:List It) (off:Int),dy (a++[t]) off nm=(dy a off nm).or (if t.1.b=nm then some (off+(a.map (·.2)).sum,t.2)else none)
 | [],off=>by simp[dy]
 |x::r,off=>by
  rw[List.cons_append,dy,dy]
  split
  ·rfl
  ·rw[nM r (off+x.2)]
   congr 1
   split
   ·simp;omega
   ·rfl
theorem pj{q:Pn}{nm tx:List UInt8}:∀(ts:List (List UInt8)) (i0:Nat),gg q (ts++[tx]) i0 nm=(gg q ts i0 nm).or ((dy (cw tx q) 0 nm).map fun x=>(i0+ts.length,x.1,x.2))
 | [],i0=>by
  rw[List.nil_append,gg,gg]
  rcases dy (cw tx q) 0 nm with _|⟨o,s⟩ <;> simp[gg]
 |l::r,i0=>by
  rw[List.cons_append,gg,gg,pj r (i0+1)]
  rcases dy (cw l q) 0 nm with _|⟨o,s⟩
  ·simp[Nat.add_assoc,Nat.add_comm 1]
  ·rfl
theorem sN{w:List UInt32}{q:Pn}(hq:q.ok):∀{f:Nat} {b c:List UInt8},c∈iw w q f b→1≤c.length
 |0,_,_,h=>by rw[iw]at h;exact absurd h List.not_mem_nil
 |f+1,b,c,h=>by
  rw[iw]at h
  split at h
  ·exact absurd h List.not_mem_nil
  ·next hb=>
   rcases List.mem_cons.1 h with h|h
   ·have hb1:1≤b.length:=Nat.pos_of_ne_zero fun h0=>hb (List.length_eq_zero_iff.1 h0)
    have:=iZ (w:=w) hq hb1
    rw[h,List.length_take];omega
   ·exact sN hq h
theorem uz{q:Pn}(hq:q.ok){l:List UInt8}{k:Nat}{t:It}(h:(cw l q)[k]? =some t):1≤t.2∧t.2≤l.length:=by
 have hm:=List.mem_of_getElem? h
 obtain⟨c,hc,rfl⟩:=List.mem_map.1 hm
 have h1:=sN (w:=bm) hq (f:=l.length) (b:=l) hc
 have h2:=lR (w:=bm) (q:=q) (f:=l.length) (b:=l) hc
 show 1≤((c.length:Nat):Int)∧((c.length:Nat):Int)≤_
 omega
theorem Cd{a b c:Int}(ha:-9223372036854775808≤a∧a≤9223372036854775807)(hb:-9223372036854775808≤b∧b≤9223372036854775807)(hc:-9223372036854775808≤c∧c≤9223372036854775807):
  Tryz.prog.keyLits 2 271 [.int .i64 a,.int .i64 b,.int .i64 c]=some [Lit.int .i64 a,Lit.int .i64 b,Lit.int .i64 c]:=by
 have e:[Lit.int .i64 a,Lit.int .i64 b,Lit.int .i64 c]=[[Lit.int .i64 a],[Lit.int .i64 b],[Lit.int .i64 c]].flatten:=rfl
 rw[e]
 refine wz (d:=1) Tryz.underlying271 (show 3=_ by kernel_rfl) (by kernel_rfl) (mapM_some ?_)
 have c2:Tryz.prog.cellsOf 3=1:=by kernel_rfl
 simp only[List.map_cons,List.map_nil,c2]
 show [Tryz.prog.keyLits 1 3 [.int .i64 a],Tryz.prog.keyLits 1 3 [.int .i64 b],Tryz.prog.keyLits 1 3 [.int .i64 c]]=_
 rw[tT (d:=0) Tryz.underlying3 ha.1 ha.2,tT (d:=0) Tryz.underlying3 hb.1 hb.2,tT (d:=0) Tryz.underlying3 hc.1 hc.2]
theorem yj{N:Nat}{D:List Deferred}{ρ:Env}{w:World}{ty t' :TypeId}{x y:Operand}{a:D5}(hx:ev ρ x=some (xa a))(hy:ev ρ y=some (xa (0,0,0)))(ha:a.1≤1000000)(h1:0≤a.2.1∧a.2.1≤1000000)(h2:0≤a.2.2∧a.2.2≤1000000):
  Yl Tryz.prog N D ρ w (.binOp .eql 271 x y t') ty (.bool (decide ((a.1:Int)=0∧a.2.1=0∧a.2.2=0))):=
 Cn (m:=5) hx hy (by decide) (by kernel_rfl) (by kernel_rfl) zL (show 3=_ by kernel_rfl) (show 3=_ by kernel_rfl) (Cd (by omega) (by omega) (by omega)) (Cd (a:=((0:Nat):Int)) (by decide) (by decide) (by decide)) (by simp)
theorem xr{l lj:xj}{its:List It}{k j:Nat}{t:It}(ht:its[j]? =some t)(h:∀nm:Dg,bA lj nm=(bA l nm).or ((dy (its.take j) 0 nm.1).map fun x=>(k,x.1,x.2))):
  (bA lj (dg t)=none→∀nm:Dg,bA (cq lj (dg t) (k,jz its j,t.2)) nm=(bA l nm).or ((dy (its.take (j+1)) 0 nm.1).map fun x=>(k,x.1,x.2)))∧
  ((bA lj (dg t)).isSome=true→∀nm:Dg,bA lj nm=(bA l nm).or ((dy (its.take (j+1)) 0 nm.1).map fun x=>(k,x.1,x.2))):=by
 have e:∀nm,dy (its.take (j+1)) 0 nm=(dy (its.take j) 0 nm).or (if t.1.b=nm then some (jz its j,t.2)else none):=fun nm=>by
  obtain⟨h1,rfl⟩:=List.getElem?_eq_some_iff.1 ht
  rw[List.take_succ_eq_append_getElem h1,nM,Int.zero_add]
  rfl
 refine⟨fun hn nm=> ?_,fun hs nm=> ?_⟩
 ·rw[ku,e]
  by_cases hd:dg t=nm
  ·subst hd
   have h0:=h (dg t)
   rw[hn]at h0
   rw[if_pos rfl,if_pos (show t.1.b=(dg t).1 from rfl)]
   rcases h1:bA l (dg t)with _|y
   ·rw[h1]at h0
    rcases h2:dy (its.take j) 0 (dg t).1 with _|z
    ·rfl
    ·rw[h2]at h0;simp at h0
   ·rw[h1]at h0;simp at h0
  ·have hd2:¬t.1.b=nm.1:=fun e=>hd (Subtype.ext e)
   rw[if_neg hd,if_neg hd2,h nm,Option.or_none]
 ·rw[e]
  by_cases hd:t.1.b=nm.1
  ·obtain rfl:dg t=nm:=Subtype.ext hd
   have h0:=h (dg t)
   rw[h0]at hs ⊢
   rcases h1:bA l (dg t)with _|y
   ·rw[h1]at hs
    rcases h2:dy (its.take j) 0 (dg t).1 with _|z
    ·rw[h2]at hs;simp at hs
    ·simp
   ·simp
  ·rw[if_neg hd,Option.or_none,h nm]
theorem x5{q:Pn}(hq:q.ok):b6 Tryz.prog 126 [.agg q.p.cs.toArray] [] [] (fun v_ X_ S_=>∃g gm,v_=(.tuple #[.pointer (some ⟨g,0,none⟩),.int .i64 0])∧X_=[fP g gm q none 0 [] []]∧S_=[]):=by
 refine aI (N:=11) Tryz.func126 rfl rfl (by simp) fun b=> ?_
 refine ah<|aj<| ?_
 refine hx (bu rfl (fun g1=> ?_))
 refine aG (fun w m=>m.bs 0 rfl (show _=aE g1 75 q.p.cs from congrArg (aE _ _) (aW _))) ?_
 refine hy (fun _=>ab rfl)<|hy (fun _=>ab rfl)<|ai<|ak (X' :=[_]) (S' :=[]) (fun _ m=>m)<|ae<|ah<|ah<|aj<|hy (fun m=>yV (aX rfl jv iy rfl ((m.aQ 0 rfl).aw)) ((rfl:_=Value.agg q.p.cs.toArray)))<| ?_
 refine hx (au rfl Tryz.call192 (n9 (p:=q.p)) [] rfl [] rfl ?_)
 rintro _ _ _ ⟨rfl,rfl,rfl⟩
 refine hy (fun _=>eE rfl)<|ai<|al (ρ' :=[(6,_),(3,_),(2,_),(1,_),(0,_)]) ⟨rfl,rfl,rfl,rfl,rfl,trivial⟩<|ak (X' :=[_]) (S' :=[]) (fun _ m=>m)<|ae<| ?_
 refine dj rfl ((decide_eq_false (fun h=>h hq.may))) ?_
 refine aB<|ae<|ah<|aj<|hy (fun m=>yV (aX rfl jv iy rfl ((m.aQ 0 rfl).aw)) ((rfl:_=Value.agg q.p.cs.toArray)))<| ?_
 refine hx (lH DK (fun g8=> ?_))
 refine hy (fun _=>yV (bQ Gb rfl rfl (by kernel_rfl) (.cons (o:=0) (sz:=3) (by kernel_rfl) rfl rfl (Nat.le_of_ble_eq_true rfl) (.cons (o:=4) (sz:=1) (by kernel_rfl) rfl rfl (Nat.le_of_ble_eq_true rfl) .nil))) ((rfl:_=Value.agg (Er q none 0 0 g8).toArray)))<| ?_
 refine hx (bu rfl (fun g10=> ?_))
 refine hy (fun _=>ab rfl)<|hy (fun _=>ab rfl)<|ai<|al (ρ' :=[(3,_),(2,_),(6,_),(1,_),(0,_)]) ⟨rfl,rfl,rfl,rfl,rfl,trivial⟩<|ak (X' :=[_,_,_]) (S' :=[]) (fun _ m=>m)<|ae<|aS<| ?_
 refine ak (fun w m=>m.bs 0 rfl (show _=aE g10 267 (Er q none ([]:List ba).length 0 g8)from congrArg (aE _ _) (aW _))) ?_
 refine ak (fun w m=>m.yJ) ?_
 refine ak (fun w m=>m.cI (r' :=aF 27 1 (.slice none 0 0) 0 []) (.refl _ _) (Own.nil _ _ _ _) (fun k hk=>hk.elim)) ?_
 refine ak (X' :=fP g10 g8 q none 0 [] []::_) (fun w m=>(m.perm (ar [2,0,1,0] _ [_,_,_,_] _ rfl)).pack) ?_
 exact c9 trivial rfl rfl rfl [0] rfl [] rfl ⟨g10,g8,rfl,rfl,rfl⟩
theorem s5{g gm:Nat}{q:Pn}{A:Option Addr}{c:Nat}{rs:List ba}{l:xj}{B:Option Addr}{n k:Nat}{tx:List UInt8}(hq:q.ok)(hok:iE q rs l)(hl:tx.length=n)(hn:n≤100000)(hrs:rs.length≤1000):b6 Tryz.prog 128 [.pointer (some ⟨g,0,none⟩),.slice B n k] [fP g gm q A c rs l] [cn 1 B n (aP tx),dG] (fun v_ X_ S_=>∃A1 c1 r l1,v_=(.int .i64 (rs.length:Nat))∧X_=[fP g gm q A1 c1 (rs++[r]) l1]∧S_=[]∧(iE q (rs++[r]) l1∧r.l=tx)):=by
 refine aI (N:=68) Tryz.func128 rfl rfl (by simp) fun b=> ?_
 refine aU (fun m=>eb (m.rd 0 rfl)) ?_
 rintro⟨hl_rb,hA_rb⟩
 refine bd (fun w m=>(m.perm (ar [0] _ [_] _ rfl)).unpack) ?_
 refine ah<|aj<|hy (fun _=>ab rfl)<|ai<|ae<|ah<|aj<|hy (fun _=>aa rfl)<|hy (fun _=>aM rfl)<|hy (fun _=>aD rfl qK (by decide))<|hy (fun m=>aq rfl BN (ax (m.aQ 0 rfl) rfl))<|hy (fun _=>aT rfl Tryz.underlying84)<|hy (fun _=>ab rfl)<|ai<|al (ρ' :=[(5,_),(4,_),(0,_),(1,_)]) ⟨rfl,rfl,rfl,rfl,trivial⟩<|ae<|ah<|cu [6,7,8,11] [(0,some 3),(1,some 2),(2,some 2),(3,some 2),(4,some 2),(5,some 0),(6,none),(7,none),(8,none),(9,some 3),(10,some 3),(11,none)] (by kernel_rfl) (by kernel_rfl) rfl 2<|an (aa rfl)<|an (aa rfl)<|an (aM rfl)<|an (aD rfl qK (by decide))<|b5 (fun m=>aq rfl BN (ax (m.aQ 0 rfl) rfl))<|an (aa rfl)<| ?_
 refine di (au rfl Tryz.call117 (mo (by omega)) [] rfl [0] rfl ?_)
 rintro _ _ _ ⟨v,rfl,rfl,rfl⟩
 refine⟨(fun _=>wk [1,1,1,1] [0,1] rfl rfl), ?_⟩
 refine b4 (fun m=>(m.own 0 rfl).slice) ?_
 rintro⟨A_x,c_x,rfl,hc_x⟩
 refine b4 (fun m=>(m.ord 0 rfl).2.1) fun hA_x=> ?_
 refine di (bT Tryz.underlying84 jW rfl rfl rfl (by simp[Value.cells,B8]) (by decide) (by decide) (fun g23=>⟨(fun _=>wk [2,2,2,2] [0,1] rfl rfl), ?_⟩))
 have hA_b23:0<1→(some (⟨g23,0,none⟩:Addr))≠none:=fun _ h=>by cases h
 refine dO (fun w m=>m.bs 0 rfl (show _=aF 27 1 (.slice (some ⟨g23,0,none⟩) 1 1) 1 (lr [⟨A_x,n,c_x,tx⟩])from rfl)) ?_
 refine di (bw 3 rfl rfl rfl Tryz.underlying84 Tryz.underlying84 (by exact .inl rfl) jW rfl (fun m=>Src.bW (m.ord 0 rfl)) n5 (by unfold maxLen;omega) (by omega) (fun u=>⟨(fun h=>absurd h (by decide)), ?_⟩))
 refine b4 (fun m=>(m.own 0 rfl).slice) ?_
 rintro⟨A_d1,c_d1,rfl,hc_d1⟩
 refine b4 (fun m=>(m.ord 0 rfl).2.1) fun hA_d1=> ?_
 refine an (aM rfl)<|an (aD rfl qK (by decide))<| ?_
 refine fS (bU 3 rfl rfl rfl EW rfl (by first|exact Nat.le_of_ble_eq_true rfl|simp) ⟨(fun h=>absurd h (by decide)), ?_⟩)
 refine bo<|al (ρ' :=[(5,_),(4,_),(0,_),(1,_)]) ⟨rfl,rfl,rfl,rfl,trivial⟩<|ak (X' :=[_,_,_,_,_,_]) (S' :=[_,_]) (fun _ m=>m)<|ae<|ah<| ?_
 obtain⟨r,hr⟩:∃r:ba,r=⟨A_x,n,c_x,tx⟩:=⟨_,rfl⟩
 have hlr:(rs++[r]).length=rs.length+1:=by simp
 refine bd (fun w m=>m.bs 1 rfl (show _=aF 27 1 (.slice A_d1 (rs++[r]).length c_d1) (rs++[r]).length (lr (rs++[r]))from(by rw[hlr,jf,hr]))) ?_
 refine bd (fun w m=>m.bs 1 rfl (show _=aE g 267 (Er q A_d1 (rs++[r]).length c_d1 gm)from(by rw[hlr];rfl))) ?_
 refine bd (X' :=dw (rs++[r])::_) (fun w m=>(m.perm (ar [5,3] _ [_,_] _ rfl)).yz (fun y hy=>(List.mem_append.1 hy).imp id (fun h=>(List.mem_singleton.1 h).trans hr))) ?_
 refine aj<|hy (fun _=>aa rfl)<|hy (fun _=>aa rfl)<|hy (fun _=>aM rfl)<|hy (fun _=>aD rfl AX (by decide))<|hy (fun m=>yV (aX rfl jv iy rfl (fun j u hu=>(m.aQ 1 rfl).aw j u (Et hu))) ((rfl:_=Value.agg q.p.cs.toArray)))<| ?_
 refine hx (au rfl Tryz.call194 (Bi hq hl (by omega) (q:=q)) [] rfl [0,1] rfl ?_)
 rintro _ _ _ ⟨A2,c2,rfl,rfl,rfl⟩
 refine hy (fun _=>aa rfl)<|hy (fun _=>aH rfl rfl)<|hy (fun _=>aH rfl rfl)<|hy (fun _=>ab rfl)<|hy (fun _=>ab rfl)<|ai<|al (ρ' :=[(6,_),(5,_),(4,_),(0,_),(1,_)]) ⟨rfl,rfl,rfl,rfl,rfl,trivial⟩<|ak (X' :=[_,_,_,_,_,_]) (S' :=[_,_]) (fun _ m=>m)<|ae<|ah<|aj<|hy (fun _=>ab rfl)<|ai<|ae<|ah<|ah<|aj<|hy (fun _=>aa rfl)<|hy (fun _=>aT rfl Tryz.underlying80)<|hy (fun _=>aa rfl)<|ai<|ae<|aK<| ?_
 obtain⟨its,hits⟩:∃its,its=cw tx q:=⟨_,rfl⟩
 have hitl:its.length≤n:=by rw[hits,cw,List.length_map,←hl];exact qq tx q
 rw[←hits]
 refine aU (fun m=>(m.ord 0 rfl).2.1) fun hA_z=> ?_
 refine jS (fun j lj=>its.length-j) (fun j lj=>[(38,.int .i64 (j:Nat)),(8,.int .i64 (jz its j))]) (fun j lj=>[dk DK gm (xY lj)]) (fun j lj=>[]) (fun j lj=>j≤its.length∧(∀nm:Dg,bA lj nm=(bA l nm).or ((dy (its.take j) 0 nm.1).map fun x=>(rs.length,x.1,x.2)))∧(∀(nm:Dg) x,bA lj nm=some x→GI x)) 0 l [(37,_),(36,_),(6,_),(5,_),(4,_),(0,_),(1,_)] ⟨rfl,rfl,rfl,rfl,rfl,rfl,rfl,trivial⟩ [5] rfl [] rfl (⟨Nat.zero_le _,fun nm=>by simp[dy],hok.Hk⟩) ⟨rfl,rfl,trivial⟩ (fun j lj ⟨hj,hfj,hoj0⟩=> ?_)
 refine ah<|aj<|hy (fun _=>bC rfl rfl)<|ai<|ae<|ah<| ?_
 refine cj rfl (fun hlt=> ?_) (fun hlt=> ?_)
 ·obtain⟨t,ht⟩:∃t,its[j]? =some t:=⟨_,List.getElem?_eq_getElem (by omega)⟩
  have h32:(aP t.1.b).length=32:=by rw[az,t.1.h]
  have Am:=uz hq (hits▸ht)
  have hoi:=q9 (l:=tx) hq j
  rw[←hits]at hoi
  have htk:its.take (j+1)=its.take j++[t]:=by
   obtain⟨h1,rfl⟩:=List.getElem?_eq_some_iff.1 ht
   exact List.take_succ_eq_append_getElem h1
  refine aB<|ae<|ah<|aK<|ah<|aj<|hy (fun _=>cW rfl rfl Tryz.underlying80 jJ hA_z rfl (by omega))<|hy (fun m=>yV (aX rfl u0 jJ (cE t) (fu (f:=ia) cE (m.ord 1 rfl) ht)) ((rfl:_=Value.agg (ia t).toArray)))<| ?_
  refine hx (bh iU (fun g10=> ?_))
  refine cx (a8 0 rfl rfl rfl jJ (cE t) (lG t) rfl ?_)
  refine ai<|al (ρ' :=[(10,_),(39,_),(38,_),(8,_),(37,_),(36,_),(6,_),(5,_),(4,_),(0,_),(1,_)]) ⟨rfl,rfl,rfl,rfl,rfl,rfl,rfl,rfl,rfl,rfl,rfl,trivial⟩<|ak (X' :=[_,_,_,_,_,_,_]) (S' :=[_,_]) (fun _ m=>m)<|ae<|ah<|ah<| ?_
  obtain⟨hput,hkeep⟩:=xr ht hfj
  rcases hg:bA lj (dg t)with _|x
  ·refine cu [] [(0,some 0),(1,some 0),(2,some 0),(3,some 0),(4,some 0),(5,some 0),(6,some 0),(7,some 0),(8,some 0)] (by kernel_rfl) (by kernel_rfl) rfl 99<|an (aa rfl)<|an (aM rfl)<|an (aD rfl n4 (by decide))<|b5 (fun m=>aq rfl vz (ax (m.aQ 4 rfl) rfl))<|an (aD rfl fJ (by decide))<|b5 (fun m=>yV (aX rfl cr bZ h32 (fun j u hu=>(m.aQ 0 rfl).aw j u (ik hu))) ((rfl:Value.agg (aP t.1.b).toArray=DK (dg t))))<|b5 (fun m=>yV (fF (enc:=DK) (k:=(dg t)) rfl rfl Tryz.underlying265 lx (rn rfl Tryz.underlying53 Tryz.underlying5 (by kernel_rfl) (by kernel_rfl) (by kernel_rfl)) (m.lV 1 rfl)) ((show eM false _ (bA (xY lj) (dg t))=xa (0,0,0) by rw[ob,hg];rfl)))<|an (yV (dK lx rfl (by kernel_rfl)) ((rfl:_=xa (0,0,0))))<|an ((yj (a:=(0,0,0)) rfl rfl (by decide) (by decide) (by decide)))<|bo<|al (ρ' :=[(50,_),(10,_),(39,_),(38,_),(8,_),(37,_),(36,_),(6,_),(5,_),(4,_),(0,_),(1,_)]) ⟨rfl,rfl,rfl,rfl,rfl,rfl,rfl,rfl,rfl,rfl,rfl,rfl,trivial⟩<|ae<| ?_
   refine gS rfl ((decide_eq_true ⟨rfl,rfl,rfl⟩)) ?_
   refine cu [11] [(0,some 0),(1,some 0),(2,some 0),(3,some 0),(4,some 0),(5,some 0),(6,some 0),(7,some 0),(8,some 0),(9,some 0),(10,some 0),(11,none)] (by kernel_rfl) (by kernel_rfl) rfl 0<|an (aa rfl)<|an (aM rfl)<|an (aD rfl n4 (by decide))<|b5 (fun m=>aq rfl vz (ax (m.aQ 4 rfl) rfl))<|an (aD rfl fJ (by decide))<|b5 (fun m=>yV (aX rfl cr bZ h32 (fun j u hu=>(m.aQ 0 rfl).aw j u (ik hu))) ((rfl:Value.agg (aP t.1.b).toArray=DK (dg t))))<|an (aa rfl)<|an (aa rfl)<|an (aD rfl qN (by decide))<|b5 (fun m=>aq rfl dq ((m.aQ 0 rfl).aw 32 _ (l8 t)))<|an (yV (bQ lx rfl rfl (by kernel_rfl) (.cons (o:=0) (sz:=1) (by kernel_rfl) rfl rfl (Nat.le_of_ble_eq_true rfl) (.cons (o:=1) (sz:=1) (by kernel_rfl) rfl rfl (Nat.le_of_ble_eq_true rfl) (.cons (o:=2) (sz:=1) (by kernel_rfl) rfl rfl (Nat.le_of_ble_eq_true rfl) .nil)))) ((rfl:_=xa (rs.length,jz its j,t.2))))<| ?_
   refine fS (oK (enc:=DK) (k:=(dg t)) 1 rfl rfl rfl rfl Tryz.underlying265 (rn rfl Tryz.underlying53 Tryz.underlying5 (by kernel_rfl) (by kernel_rfl) (by kernel_rfl)) ⟨(fun h=>absurd h (by decide)), ?_⟩)
   refine bo<|al (ρ' :=[(50,_),(10,_),(39,_),(38,_),(8,_),(37,_),(36,_),(6,_),(5,_),(4,_),(0,_),(1,_)]) ⟨rfl,rfl,rfl,rfl,rfl,rfl,rfl,rfl,rfl,rfl,rfl,rfl,trivial⟩<|ak (X' :=[_,_,_,_,_,_,_]) (S' :=[_,_]) (fun _ m=>m)<|ae<| ?_
   refine bd (fun w m=>m.bs 0 rfl (show _=dk DK gm (xY (cq lj (dg t) (rs.length,jz its j,t.2)))from congrArg (dk DK gm) (vg _ _ _))) ?_
   have hoj:=q9 (l:=tx) hq (j+1)
   refine aj<|hy (fun _=>aa rfl)<|hy (fun _=>aD rfl qN (by decide))<|hy (fun m=>aq rfl dq ((m.aQ 1 rfl).aw 32 _ (l8 t)))<|hy (fun _=>yV (aL rfl rfl (bx (by omega) (by omega))) ((show Value.int .i64 (jz its j+t.2)= .int .i64 (jz its (j+1)) by rw[qc ht])))<|hy (fun _=>ab rfl)<|ai<|al (ρ' :=[(8,_),(50,_),(10,_),(39,_),(38,_),(37,_),(36,_),(6,_),(5,_),(4,_),(0,_),(1,_)]) ⟨rfl,rfl,rfl,rfl,rfl,rfl,rfl,rfl,rfl,rfl,rfl,rfl,trivial⟩<|aR<|ae<|aj<|hy (fun _=>aL rfl rfl (bx (by omega) (by omega)))<|hy (fun _=>aa rfl)<|ai<|al (ρ' :=[(38,_),(8,_),(50,_),(10,_),(39,_),(37,_),(36,_),(6,_),(5,_),(4,_),(0,_),(1,_)]) ⟨rfl,rfl,rfl,rfl,rfl,rfl,rfl,rfl,rfl,rfl,rfl,rfl,trivial⟩<| ?_
   have hnew:∀(nm:Dg) x,bA (cq lj (dg t) (rs.length,jz its j,t.2)) nm=some x→GI x:=fun nm x h=>by
    rw[ku]at h
    split at h
    ·cases h;exact⟨by show rs.length≤_;omega,hoi.1,by show jz its j≤_;omega,Am.1,by show t.2≤_;omega⟩
    ·exact hoj0 nm x h
   refine fW (j+1) (cq lj (dg t) (rs.length,jz its j,t.2)) ⟨rfl,rfl,rfl,rfl,rfl,rfl,rfl,rfl,rfl,trivial⟩ [0,1,1,1,1,1] rfl [0,1] rfl (⟨by omega,hput hg,hnew⟩) (by omega)
  ·have hx:=hoj0 _ _ hg
   have cx:=hx.s0
   refine cu [] [(0,some 0),(1,some 0),(2,some 0),(3,some 0),(4,some 0),(5,some 0),(6,some 0),(7,some 0),(8,some 0)] (by kernel_rfl) (by kernel_rfl) rfl 99<|an (aa rfl)<|an (aM rfl)<|an (aD rfl n4 (by decide))<|b5 (fun m=>aq rfl vz (ax (m.aQ 4 rfl) rfl))<|an (aD rfl fJ (by decide))<|b5 (fun m=>yV (aX rfl cr bZ h32 (fun j u hu=>(m.aQ 0 rfl).aw j u (ik hu))) ((rfl:Value.agg (aP t.1.b).toArray=DK (dg t))))<|b5 (fun m=>yV (fF (enc:=DK) (k:=(dg t)) rfl rfl Tryz.underlying265 lx (rn rfl Tryz.underlying53 Tryz.underlying5 (by kernel_rfl) (by kernel_rfl) (by kernel_rfl)) (m.lV 1 rfl)) ((show eM false _ (bA (xY lj) (dg t))=xa x by rw[ob,hg];rfl)))<|an (yV (dK lx rfl (by kernel_rfl)) ((rfl:_=xa (0,0,0))))<|an ((yj (a:=x) rfl rfl hx.i ⟨hx.o0,hx.o1⟩ ⟨by omega,hx.s1⟩))<|bo<|al (ρ' :=[(50,_),(10,_),(39,_),(38,_),(8,_),(37,_),(36,_),(6,_),(5,_),(4,_),(0,_),(1,_)]) ⟨rfl,rfl,rfl,rfl,rfl,rfl,rfl,rfl,rfl,rfl,rfl,rfl,trivial⟩<|ae<| ?_
   refine dj rfl ((decide_eq_false (fun h=>by have:=h.2.2;omega))) ?_
   have hoj:=q9 (l:=tx) hq (j+1)
   refine aB<|ae<|aj<|hy (fun _=>aa rfl)<|hy (fun _=>aD rfl qN (by decide))<|hy (fun m=>aq rfl dq ((m.aQ 0 rfl).aw 32 _ (l8 t)))<|hy (fun _=>yV (aL rfl rfl (bx (by omega) (by omega))) ((show Value.int .i64 (jz its j+t.2)= .int .i64 (jz its (j+1)) by rw[qc ht])))<|hy (fun _=>ab rfl)<|ai<|al (ρ' :=[(8,_),(50,_),(10,_),(39,_),(38,_),(37,_),(36,_),(6,_),(5,_),(4,_),(0,_),(1,_)]) ⟨rfl,rfl,rfl,rfl,rfl,rfl,rfl,rfl,rfl,rfl,rfl,rfl,trivial⟩<|aR<|ae<|aj<|hy (fun _=>aL rfl rfl (bx (by omega) (by omega)))<|hy (fun _=>aa rfl)<|ai<|al (ρ' :=[(38,_),(8,_),(50,_),(10,_),(39,_),(37,_),(36,_),(6,_),(5,_),(4,_),(0,_),(1,_)]) ⟨rfl,rfl,rfl,rfl,rfl,rfl,rfl,rfl,rfl,rfl,rfl,rfl,trivial⟩<| ?_
   refine fW (j+1) lj ⟨rfl,rfl,rfl,rfl,rfl,rfl,rfl,rfl,rfl,trivial⟩ [1,1,1,1,1,1] rfl [0,1] rfl (⟨by omega,hkeep (by rw[hg];rfl),hoj0⟩) (by omega)
 ·obtain rfl:j=its.length:=by omega
  rw[List.take_length]at hfj
  refine bK<|ao<|ao<|aC<|ae<|ah<|aj<|hy (fun _=>aa rfl)<|hy (fun _=>ab rfl)<|ai<|al (ρ' :=[(4,_),(39,_),(38,_),(8,_),(37,_),(36,_),(6,_),(5,_),(0,_),(1,_)]) ⟨rfl,rfl,rfl,rfl,rfl,rfl,rfl,rfl,rfl,rfl,trivial⟩<|ae<|aS<| ?_
  refine ak (X' :=fP g gm q A_d1 c_d1 (rs++[r]) lj::_) (fun w m=>(m.perm (ar [3,3,0,1] _ [_,_,_,_] _ rfl)).pack) ?_
  have hrl:r.l=tx:=by rw[hr]
  have hfind:∀nm:Dg,bA lj nm=gg q ((rs++[r]).map ba.l) 0 nm.1:=fun nm=>by
   rw[List.map_append,List.map_cons,List.map_nil,hrl,pj,←hits,List.length_map,Nat.zero_add,←hok.find nm]
   exact hfj nm
  have hrows:∀y∈rs++[r],y.n=y.l.length∧y.n≤y.c∧y.n≤100000:=fun y hy=>by
   rcases List.mem_append.1 hy with h|h
   ·exact hok.rows y h
   ·rw[List.mem_singleton.1 h,hr]
    exact⟨hl.symm,by show n≤c_x;omega,hn⟩
  exact a6 trivial rfl rfl [0] rfl [] rfl ⟨A_d1,c_d1,r,lj,rfl,rfl,rfl,⟨⟨hfind,hrows,hoj0⟩,hrl⟩⟩
end Go.Proofs.YtmibdabdlgmafaaGreatDoor
end
section
set_option maxRecDepth 20000
set_option maxHeartbeats 2000000
namespace Go.Proofs.YtmibdabdlgmafaaGreatDoor
open Go.Eng Go.Hx
theorem wX{g gm:Nat}{q:Pn}{A:Option Addr}{c:Nat}{rs:List ba}{l:xj}{nm:Dg}:b6 Tryz.prog 196 [.pointer (some ⟨g,0,none⟩),DK nm] [fP g gm q A c rs l] [] (fun v_ X_ S_=>v_=(.tuple #[xa ((bA l nm).getD (0,0,0)),.bool (bA l nm).isSome])∧X_=[fP g gm q A c rs l]∧S_=[]):=by
 refine aI (N:=19) Tryz.func196 rfl rfl (by simp) fun b=> ?_
 refine bd (fun w m=>(m.perm (ar [0] _ [_] _ rfl)).unpack) ?_
 refine ah<|aj<| ?_
 refine hx (bu rfl (fun g3=> ?_))
 refine aG (fun w m=>m.bs 0 rfl (show _=aE g3 53 (aP nm.1)from congrArg (aE _ _) (aW _))) ?_
 obtain⟨x,hxx⟩:∃x,x=(bA l nm).getD (0,0,0):=⟨_,rfl⟩
 rw[←hxx]
 refine hx (bh lx (fun g4=> ?_))
 refine hy (fun _=>ab rfl)<|ai<|ak (X' :=[_,_,_,_,_,_]) (S' :=[]) (fun _ m=>m)<|ae<|ah<|cu [9,10] [(0,some 1),(1,some 1),(2,some 1),(3,some 1),(4,some 1),(5,some 1),(6,some 1),(7,some 1),(8,some 2),(9,none),(10,none),(11,some 2)] (by kernel_rfl) (by kernel_rfl) rfl 1<|an (aa rfl)<|an (aM rfl)<|an (aD rfl n4 (by decide))<|b5 (fun m=>aq rfl vz (ax (m.aQ 2 rfl) rfl))<|b5 (fun m=>yV (aX rfl cr bZ (by rw[az];exact nm.2) ((m.aQ 1 rfl).aw)) ((rfl:Value.agg _=DK nm)))<|b5 (fun m=>yV (fF (enc:=DK) (k:=nm) rfl rfl Tryz.underlying265 lx (rn rfl Tryz.underlying53 Tryz.underlying5 (by kernel_rfl) (by kernel_rfl) (by kernel_rfl)) (m.lV 4 rfl)) ((show eM true _ (bA (xY l) nm)=Value.tuple #[xa x,.bool (bA l nm).isSome] by rw[ob,hxx];cases bA l nm <;> rfl)))<|an (aa rfl)<|an (aH rfl rfl)<|an (aH rfl rfl)<| ?_
 refine di (bh lx (fun g6=>⟨(fun _=>wk [1,1,1,1,1,1] [] rfl rfl), ?_⟩))
 refine fS (a8 0 rfl rfl rfl sR rfl (q8 x) rfl ⟨(fun h=>absurd h (by decide)), ?_⟩)
 refine an (ab rfl)<|bo<|al (ρ' :=[(7,_),(6,_),(5,_),(4,_),(3,_),(0,_),(1,_)]) ⟨rfl,rfl,rfl,rfl,rfl,rfl,rfl,trivial⟩<|ak (X' :=[_,_,_,_,_,_,_]) (S' :=[]) (fun _ m=>m)<|ae<|ah<|aj<|hy (fun m=>yV (aX rfl zL sR rfl ((m.aQ 0 rfl).aw)) ((rfl:_=xa x)))<|hy (fun _=>aa rfl)<| ?_
 refine cx (a8 1 rfl rfl rfl sR rfl (q8 x) rfl ?_)
 refine hy (fun _=>ab rfl)<|ai<|al (ρ' :=[(5,_),(7,_),(6,_),(4,_),(3,_),(0,_),(1,_)]) ⟨rfl,rfl,rfl,rfl,rfl,rfl,rfl,trivial⟩<|ak (X' :=[_,_,_,_,_,_,_]) (S' :=[]) (fun _ m=>m)<|ae<|aS<| ?_
 refine ak (X' :=fP g gm q A c rs l::_) (fun w m=>(m.perm (ar [3,3,3,3] _ [_,_,_,_] _ rfl)).pack) ?_
 exact dY trivial rfl rfl rfl zL sR rfl (fun m=>(m.aQ 1 rfl).aw) [0] rfl [] rfl ⟨rfl,rfl,rfl⟩
end Go.Proofs.YtmibdabdlgmafaaGreatDoor
end
section
set_option maxRecDepth 20000
set_option maxHeartbeats 4000000
namespace Go.Proofs.YtmibdabdlgmafaaGreatDoor
open Go.Eng Go.Hx
def dr(d:RD)(q:Pn)(ts:List (List UInt8))(nm:List UInt8):Int:=if d.fV nm=0 then 1 else if(gg q ts 0 nm).isSome then 2 else 3
def dL(fr:List UInt8→Int)(its:List It):Nat→List It
 |0=>[]
 |i+1=>match its[i]? with
  |some t=>if t.1.b∈(its.take i).map (fun t=>t.1.b)then dL fr its i else dL fr its i++[(t.1,fr t.1.b)]
  |none=>dL fr its i
theorem j4{fr:List UInt8→Int}{its:List It}{i:Nat}{t:It}(h:its[i]? =some t):dL fr its (i+1)=if t.1.b∈(its.take i).map (fun t=>t.1.b)then dL fr its i else dL fr its i++[(t.1,fr t.1.b)]:=by
 rw[dL,h]
theorem jB{fr:List UInt8→Int}{its:List It}:∀(i:Nat),(dL fr its i).length≤i
 |0=>Nat.le_refl _
 |i+1=>by
  have:=jB (fr:=fr) (its:=its) i
  rw[dL]
  split
  ·split
   ·omega
   ·rw[List.length_append,List.length_singleton];omega
  ·omega
def jL(fr:List UInt8→Int)(its:List It):List It:=dL fr its its.length
theorem wj{its:List It}{j:Nat}{t:It}(h:its[j]? =some t):(its.take (j+1)).map (fun t=>t.1.b)=(its.take j).map (fun t=>t.1.b)++[t.1.b]:=by
 obtain⟨h1,rfl⟩:=List.getElem?_eq_some_iff.1 h
 rw[List.take_succ_eq_append_getElem h1,List.map_append]
 rfl
end Go.Proofs.YtmibdabdlgmafaaGreatDoor
end
section
set_option maxRecDepth 20000
set_option maxHeartbeats 4000000
namespace Go.Proofs.YtmibdabdlgmafaaGreatDoor
open Go.Eng Go.Hx
def eC(l:List It)(k:Int):List (List UInt8):=(l.filter fun t=>decide (t.2=k)).map fun t=>t.1.b
theorem sL{l:List It}{k:Int}{i:Nat}{t:It}(h:l[i]? =some t):eC (l.take (i+1)) k=eC (l.take i) k++(if t.2=k then [t.1.b]else []):=by
 obtain⟨h1,rfl⟩:=List.getElem?_eq_some_iff.1 h
 unfold eC
 rw[List.take_succ_eq_append_getElem h1,List.filter_append,List.map_append]
 congr 1
 by_cases e:(l[i]).2=k
 ·rw[if_pos e];simp only[List.filter_cons,List.filter_nil,e,decide_true,if_true,List.map_cons,List.map_nil]
 ·rw[if_neg e];simp only[List.filter_cons,List.filter_nil,e,decide_false,Bool.false_eq_true,if_false,List.map_nil]
theorem uO(l:List It)(k:Int):(eC l k).length≤l.length:=by
 unfold eC
 rw[List.length_map]
 exact List.length_filter_le _ _
theorem zq(t:It):(ia t)[32]? =some (Value.int .i64 t.2):=by
 have h:(aP t.1.b).length=32:=by rw[az,t.1.h]
 rw[ia,List.getElem?_append_right (by omega),h]
 rfl
end Go.Proofs.YtmibdabdlgmafaaGreatDoor
end
section
set_option maxRecDepth 20000
set_option maxHeartbeats 2000000
namespace Go.Proofs.YtmibdabdlgmafaaGreatDoor
open Go.Eng Go.Hx
theorem pJ{ds:List (List UInt8)}{i:Nat}(hi:i<ds.length)(nm:List UInt8):nm∈ds.take (i+1)↔nm∈ds.take i∨nm=ds.getD i []:=by
 rw[List.take_succ_eq_append_getElem hi,List.mem_append,List.mem_singleton,List.getD,List.getElem?_eq_getElem hi]
 rfl
theorem E7{A:Option Addr}{n c:Nat}{nm:List UInt8}{ds:List (List UInt8)}(hm:nm.length=32)(hD:Ge ds)(hl:ds.length=n)(hn:n≤1000000):b6 Tryz.prog 195 [.slice A n c,.agg (aP nm).toArray] [] [cn 32 A n (dc ds)] (fun v_ X_ S_=>∃z,v_=(.int .i64 z)∧X_=[]∧S_=[]∧(0≤z↔nm∈ds)):=by
 have h32:(aP nm).length=32:=by rw[az,hm]
 refine aI (N:=19) Tryz.func195 rfl rfl (by simp) fun b=> ?_
 refine aU (fun m=>gu (m.rd 0 rfl)) ?_
 rintro⟨hl_r,hA_r⟩
 refine ah<|aj<| ?_
 refine hx (bu rfl (fun g3=> ?_))
 refine aG (fun w m=>m.bs 0 rfl (show _=aE g3 53 (aP nm)from congrArg (aE _ _) (aW _))) ?_
 refine hy (fun _=>ab rfl)<|ai<|ak (X' :=[_]) (S' :=[_]) (fun _ m=>m)<|ae<|ah<|ah<|aj<|hy (fun _=>aa rfl)<|hy (fun _=>aT rfl Tryz.underlying33)<|hy (fun _=>aa rfl)<|ai<|al (ρ' :=[(8,_),(7,_),(4,_),(3,_),(0,_),(1,_)]) ⟨rfl,rfl,rfl,rfl,rfl,rfl,trivial⟩<|ae<|aK<| ?_
 refine dH (fun i=>n-i) (fun i=>[(8,.int .i64 (i:Nat))]) (fun i=>[]) (fun i=>[]) (fun i=>i≤n∧¬nm∈ds.take i) 0 [(7,_),(3,_),(0,_),(1,_)] ⟨rfl,rfl,rfl,rfl,trivial⟩ [] rfl [] rfl (⟨Nat.zero_le _,by simp⟩) ⟨rfl,trivial⟩ (fun i ⟨hi,hno⟩=> ?_)
 refine ah<|aj<|hy (fun _=>bC rfl rfl)<|ai<|ae<|ah<| ?_
 refine cj rfl (fun hlt=> ?_) (fun hlt=> ?_)
 ·have hil:i<ds.length:=by omega
  have hdl:=Ab hD hil
  have hmt:=pJ hil nm
  refine aB<|ae<|ah<|aK<|ah<|aj<|hy (fun _=>aa rfl)<|hy (fun _=>ab rfl)<|ai<|al (ρ' :=[(5,_),(9,_),(8,_),(7,_),(3,_),(0,_),(1,_)]) ⟨rfl,rfl,rfl,rfl,rfl,rfl,rfl,trivial⟩<|ae<|ah<|cu [] [(0,some 0),(1,some 0),(2,some 0),(3,some 0),(4,some 0),(5,some 0)] (by kernel_rfl) (by kernel_rfl) rfl 99<|b5 (fun m=>aX rfl cr bZ h32 ((m.aQ 0 rfl).aw))<|an (aa rfl)<|an (aa rfl)<|an (cW rfl rfl Tryz.underlying33 bZ hA_r rfl (by omega))<|b5 (fun m=>aX rfl cr bZ (by rw[az];exact hdl) ((m.rd 0 rfl).CV hD hil))<|an (vF rfl rfl hm hdl)<|bo<|al (ρ' :=[(16,_),(5,_),(9,_),(8,_),(7,_),(3,_),(0,_),(1,_)]) ⟨rfl,rfl,rfl,rfl,rfl,rfl,rfl,rfl,trivial⟩<|ae<| ?_
  refine cj rfl (fun he=> ?_) (fun he=> ?_)
  ·refine ah<|aj<|hy (fun _=>aa rfl)<|hy (fun _=>ab rfl)<|ai<|al (ρ' :=[(4,_),(16,_),(5,_),(9,_),(8,_),(7,_),(3,_),(0,_),(1,_)]) ⟨rfl,rfl,rfl,rfl,rfl,rfl,rfl,rfl,rfl,trivial⟩<|ae<|aS<|bf<|ay<|ay<|bf<|ay<| ?_
   exact a6 trivial rfl rfl [] rfl [] rfl ⟨((i:Nat):Int),rfl,rfl,rfl,⟨fun _=>by rw[he,List.getD,List.getElem?_eq_getElem hil];exact List.getElem_mem ..,fun _=>by omega⟩⟩
  ·refine aB<|aR<|ae<|aj<|hy (fun _=>aL rfl rfl (bx (by omega) (by omega)))<|hy (fun _=>aa rfl)<|ai<|al (ρ' :=[(8,_),(16,_),(5,_),(9,_),(7,_),(3,_),(0,_),(1,_)]) ⟨rfl,rfl,rfl,rfl,rfl,rfl,rfl,rfl,trivial⟩<| ?_
   refine cJ (i+1) ⟨rfl,rfl,rfl,rfl,rfl,trivial⟩ [0] rfl [0] rfl (⟨by omega,fun h=>(hmt.1 h).elim hno he⟩) (by omega)
 ·obtain rfl:i=n:=by omega
  rw[←hl,List.take_length]at hno
  refine bK<|ao<|ao<|aC<|ae<|ah<|aj<|hy (fun _=>ab rfl)<|ai<|ae<|aS<| ?_
  exact a6 trivial rfl rfl [] rfl [] rfl ⟨(-1:Int),rfl,rfl,rfl,⟨fun h=>absurd h (by decide),fun h=>absurd h hno⟩⟩
theorem DX{A:Option Addr}{n c:Nat}{nm:List UInt8}{ds:List (List UInt8)}(hm:nm.length=32)(hD:Ge ds)(hl:ds.length=n)(hn:n≤1000000):b6 Tryz.prog 130 [.slice A n c,.agg (aP nm).toArray] [] [cn 32 A n (dc ds)] (fun v_ X_ S_=>v_=(.bool (decide (nm∈ds)))∧X_=[]∧S_=[]):=by
 have h32:(aP nm).length=32:=by rw[az,hm]
 refine aI (N:=9) Tryz.func130 rfl rfl (by simp) fun b=> ?_
 refine aU (fun m=>gu (m.rd 0 rfl)) ?_
 rintro⟨hl_r,hA_r⟩
 refine ah<|aj<| ?_
 refine hx (bu rfl (fun g3=> ?_))
 refine aG (fun w m=>m.bs 0 rfl (show _=aE g3 53 (aP nm)from congrArg (aE _ _) (aW _))) ?_
 refine hy (fun _=>ab rfl)<|ai<|ak (X' :=[_]) (S' :=[_]) (fun _ m=>m)<|ae<|ah<|aj<|hy (fun _=>aa rfl)<|hy (fun m=>aX rfl cr bZ h32 ((m.aQ 0 rfl).aw))<| ?_
 refine hx (au rfl Tryz.call195 (E7 hm hD hl hn) [] rfl [0] rfl ?_)
 rintro _ _ _ ⟨z,rfl,rfl,rfl,hz⟩
 rw[←decide_eq_decide.2 hz]
 refine hy (fun _=>ec rfl rfl)<|hy (fun _=>ab rfl)<|ai<|al (ρ' :=[(4,_),(3,_),(0,_),(1,_)]) ⟨rfl,rfl,rfl,rfl,trivial⟩<|ak (X' :=[_]) (S' :=[_]) (fun _ m=>m)<|ae<|aS<| ?_
 exact a6 trivial rfl rfl [] rfl [] rfl ⟨rfl,rfl,rfl⟩
theorem Dq{g gs gm kk:Nat}{st:cU}{d:RD}{q:Pn}{A:Option Addr}{c:Nat}{rs:List ba}{l:xj}{nm:Dg}(hD:DS st d kk)(hok:iE q rs l):b6 Tryz.prog 133 [.pointer (some ⟨g,0,none⟩),DK nm,.pointer (some ⟨gs,0,none⟩)] [bP g st,fP gs gm q A c rs l] [dG] (fun v_ X_ S_=>v_=(.int .i64 (dr d q (rs.map ba.l) nm.1))∧X_=[bP g st,fP gs gm q A c rs l]∧S_=[]):=by
 have h32:(aP nm.1).length=32:=by rw[az];exact nm.2
 have hfn:=hok.find nm
 refine aI (N:=19) Tryz.func133 rfl rfl (by simp) fun b=> ?_
 refine ah<|aj<| ?_
 refine hx (bu rfl (fun g4=> ?_))
 refine aG (fun w m=>m.bs 0 rfl (show _=aE g4 53 (aP nm.1)from congrArg (aE _ _) (aW _))) ?_
 refine hy (fun _=>ab rfl)<|ai<|ak (X' :=[_,_,_]) (S' :=[_]) (fun _ m=>m)<|ae<|ah<|ah<|aj<|hy (fun _=>aa rfl)<|hy (fun m=>aX rfl cr bZ h32 ((m.aQ 0 rfl).aw))<| ?_
 refine hx (au rfl Tryz.call145 (GG hD nm.2) [1] rfl [0] rfl ?_)
 rintro _ _ _ ⟨rfl,rfl,rfl⟩
 refine ai<|al (ρ' :=[(11,_),(6,_),(4,_),(0,_),(1,_),(2,_)]) ⟨rfl,rfl,rfl,rfl,rfl,rfl,trivial⟩<|ak (X' :=[_,_,_]) (S' :=[_]) (fun _ m=>m)<|ae<| ?_
 refine cj rfl (fun he=> ?_) (fun he=> ?_)
 ·have hfr:dr d q (rs.map ba.l) nm.1=1:=by unfold dr;rw[if_pos he]
  rw[hfr]
  refine ah<|aj<|hy (fun _=>ab rfl)<|ai<|ae<|aS<|ay<| ?_
  exact a6 trivial rfl rfl [0,1] rfl [] rfl ⟨rfl,rfl,rfl⟩
 ·obtain⟨x,hxx⟩:∃x,x=(bA l nm).getD (0,0,0):=⟨_,rfl⟩
  refine aB<|ae<|ah<|ah<|aj<|hy (fun _=>aa rfl)<|hy (fun m=>yV (aX rfl cr bZ h32 ((m.aQ 1 rfl).aw)) ((rfl:Value.agg _=DK nm)))<| ?_
  refine hx (au rfl Tryz.call196 (wX (nm:=nm)) [2] rfl [] rfl ?_)
  rintro _ _ _ ⟨rfl,rfl,rfl⟩
  refine hy (fun _=>aa rfl)<|hy (fun _=>aH rfl rfl)<|hy (fun _=>aH rfl rfl)<| ?_
  refine hx (bh lx (fun g7=> ?_))
  rw[←hxx]
  refine cx (a8 0 rfl rfl rfl sR rfl (q8 x) rfl ?_)
  refine hy (fun _=>ab rfl)<|ai<|al (ρ' :=[(8,_),(11,_),(6,_),(4,_),(0,_),(1,_),(2,_)]) ⟨rfl,rfl,rfl,rfl,rfl,rfl,rfl,trivial⟩<|ak (X' :=[_,_,_,_]) (S' :=[_]) (fun _ m=>m)<|ae<|ah<|aj<|hy (fun _=>aa rfl)<|ai<|ae<| ?_
  refine CI rfl (fun hs=> ?_) (fun hs=> ?_)
  ·have hfr:dr d q (rs.map ba.l) nm.1=2:=by unfold dr;rw[if_neg he,←hfn,if_pos hs]
   rw[hfr]
   refine ah<|aj<|hy (fun _=>ab rfl)<|ai<|ae<|aS<|ay<| ?_
   exact a6 trivial rfl rfl [2,1] rfl [] rfl ⟨rfl,rfl,rfl⟩
  ·have hfr:dr d q (rs.map ba.l) nm.1=3:=by unfold dr;rw[if_neg he,←hfn,hs];rfl
   rw[hfr]
   refine aB<|ae<|ah<|aj<|hy (fun _=>ab rfl)<|ai<|ae<|aS<| ?_
   exact a6 trivial rfl rfl [2,1] rfl [] rfl ⟨rfl,rfl,rfl⟩
def dS(ds:List (List UInt8))(nm:List UInt8):List (List UInt8):=if nm∈ds then ds else ds++[nm]
theorem r7{ds:List (List UInt8)}{nm x:List UInt8}:x∈dS ds nm↔x∈ds∨x=nm:=by
 unfold dS
 split
 ·next h=>exact⟨.inl,fun h1=>h1.elim id (fun e=>e▸h)⟩
 ·rw[List.mem_append,List.mem_singleton]
theorem r9(ds:List (List UInt8))(nm:List UInt8):(dS ds nm).length≤ds.length+1:=by
 unfold dS
 split
 ·omega
 ·simp
theorem DB{gq:Nat}{A:Option Addr}{n c:Nat}{t:It}{ds:List (List UInt8)}(hD:Ge ds)(hl:ds.length=n)(hn:n≤100000):b6 Tryz.prog 129 [.agg (ia t).toArray,.pointer (some ⟨gq,0,none⟩)] [aE gq 33 [.slice A n c],aF 53 32 (.slice A n c) n (dc ds)] [] (fun v_ X_ S_=>∃A1 n1 c1,v_=(.bool (decide (¬t.1.b∈ds)))∧X_=[aE gq 33 [.slice A1 n1 c1],aF 53 32 (.slice A1 n1 c1) n1 (dc (dS ds t.1.b))]∧S_=[]∧(n1=(dS ds t.1.b).length)):=by
 have h32:(aP t.1.b).length=32:=by rw[az,t.1.h]
 refine aI (N:=13) Tryz.func129 rfl rfl (by simp) fun b=> ?_
 refine ah<|aj<| ?_
 refine hx (bu rfl (fun g2=> ?_))
 refine aG (fun w m=>m.bs 0 rfl (show _=aE g2 100 (ia t)from congrArg (aE _ _) (aW _))) ?_
 refine hy (fun _=>ab rfl)<|ai<|ak (X' :=[_,_,_]) (S' :=[]) (fun _ m=>m)<|ae<|ah<|ah<|aj<|hy (fun m=>aq rfl Ez (ax (m.aQ 1 rfl) rfl))<|hy (fun _=>aD rfl fJ (by decide))<|hy (fun m=>aX rfl cr bZ h32 (fun j u hu=>(m.aQ 0 rfl).aw j u (ik hu)))<| ?_
 refine hx (cK rfl Tryz.call130 (DX t.1.h hD hl (by omega)) [] rfl (.x 2 rfl .own .nil) ?_)
 rintro _ _ _ ⟨rfl,rfl,rfl⟩
 refine⟨rfl, ?_⟩
 refine ai<|al (ρ' :=[(7,_),(3,_),(2,_),(0,_),(1,_)]) ⟨rfl,rfl,rfl,rfl,rfl,trivial⟩<|ak (X' :=[_,_,_]) (S' :=[]) (fun _ m=>m)<|ae<| ?_
 refine cj rfl (fun hin=> ?_) (fun hin=> ?_)
 ·have hsp:dS ds t.1.b=ds:=by unfold dS;rw[if_pos hin]
  rw[decide_eq_false (not_not_intro hin),hsp]
  refine ah<|aj<|hy (fun _=>ab rfl)<|ai<|ae<|aS<|ay<| ?_
  exact a6 trivial rfl rfl [1,1] rfl [] rfl ⟨A,n,c,rfl,rfl,rfl,hl.symm⟩
 ·have hsp:dS ds t.1.b=ds++[t.1.b]:=by unfold dS;rw[if_neg hin]
  rw[decide_eq_true hin,hsp]
  refine aB<|ae<|ah<|aj<|hy (fun m=>aq rfl Ez (ax (m.aQ 1 rfl) rfl))<|hy (fun _=>aD rfl fJ (by decide))<|hy (fun m=>aX rfl cr bZ h32 (fun j u hu=>(m.aQ 0 rfl).aw j u (ik hu)))<| ?_
  refine hx (bT Tryz.underlying33 fY rfl rfl rfl (by simpa[Value.cells,B8]using h32) (by decide) (by decide) (fun g11=> ?_))
  have hA_b11:0<1→(some (⟨g11,0,none⟩:Addr))≠none:=fun _ h=>by cases h
  refine aG (fun w m=>m.bs 0 rfl (show _=aF 53 32 (.slice (some ⟨g11,0,none⟩) 1 1) 1 (dc [t.1.b])from rfl)) ?_
  refine hx (bw 3 rfl rfl rfl Tryz.underlying33 Tryz.underlying33 (by exact .inl rfl) fY rfl (fun m=>Src.bW (m.ord 0 rfl)) o5 (by unfold maxLen;omega) (by omega) (fun u=> ?_))
  refine aA (fun m=>(m.own 0 rfl).slice) ?_
  rintro⟨A_o,c_o,rfl,hc_o⟩
  refine aA (fun m=>(m.ord 0 rfl).2.1) fun hA_o=> ?_
  refine aG (fun w m=>m.bs 0 rfl (show _=aF 53 32 (.slice A_o (n+1) c_o) (n+1) (dc (ds++[t.1.b]))from congrArg (aF _ _ _ _) (by rw[pN]))) ?_
  refine cx (c5 3 rfl rfl rfl GP rfl (by first|exact Nat.le_of_ble_eq_true rfl|simp) ?_)
  refine ai<|al (ρ' :=[(7,_),(3,_),(2,_),(0,_),(1,_)]) ⟨rfl,rfl,rfl,rfl,rfl,trivial⟩<|ak (X' :=[_,_,_,_]) (S' :=[]) (fun _ m=>m)<|ae<|ah<|aj<|hy (fun _=>ab rfl)<|ai<|ae<|aS<| ?_
  refine ak (fun w m=>m.bs 0 rfl (show _=aE gq 33 [.slice A_o (n+1) c_o]from rfl)) ?_
  exact a6 trivial rfl rfl [0,0] rfl [] rfl ⟨A_o,(n+1),c_o,rfl,rfl,rfl,(by rw[List.length_append,hl];rfl)⟩
theorem CX{g gs gm gd ge kk:Nat}{st:cU}{d:RD}{q:Pn}{A:Option Addr}{c:Nat}{rs:List ba}{l:xj}{t:It}(hD:DS st d kk)(hok:iE q rs l):b6 Tryz.prog 132 [.agg (ia t).toArray,.pointer (some ⟨gd,0,none⟩),.pointer (some ⟨ge,0,none⟩)] [bP g st,fP gs gm q A c rs l,aE gd 35 [.pointer (some ⟨g,0,none⟩)],aE ge 83 [.pointer (some ⟨gs,0,none⟩)]] [dG] (fun v_ X_ S_=>v_=(.agg (ia (t.1,dr d q (rs.map ba.l) t.1.b)).toArray)∧X_=[bP g st,fP gs gm q A c rs l,aE gd 35 [.pointer (some ⟨g,0,none⟩)],aE ge 83 [.pointer (some ⟨gs,0,none⟩)]]∧S_=[]):=by
 have h32:(aP t.1.b).length=32:=by rw[az,t.1.h]
 refine aI (N:=13) Tryz.func132 rfl rfl (by simp) fun b=> ?_
 refine ah<|aj<| ?_
 refine hx (bu rfl (fun g3=> ?_))
 refine aG (fun w m=>m.bs 0 rfl (show _=aE g3 100 (ia t)from congrArg (aE _ _) (aW _))) ?_
 refine hx (bh tg (fun g4=> ?_))
 refine ai<|ak (X' :=[_,_,_,_,_,_]) (S' :=[_]) (fun _ m=>m)<|ae<|ah<|cu [6,8] [(0,some 1),(1,some 1),(2,some 0),(3,some 0),(4,some 0),(5,some 0),(6,none),(7,some 1),(8,none)] (by kernel_rfl) (by kernel_rfl) rfl 1<|an (aD rfl fJ (by decide))<|b5 (fun m=>aX rfl cr bZ h32 (fun j u hu=>(m.aQ 1 rfl).aw j u (ik hu)))<|b5 (fun m=>aq rfl rR (ax (m.aQ 4 rfl) rfl))<|an (aD rfl fJ (by decide))<|b5 (fun m=>yV (aX rfl cr bZ h32 (fun j u hu=>(m.aQ 1 rfl).aw j u (ik hu))) ((rfl:Value.agg (aP t.1.b).toArray=DK (dg t))))<|b5 (fun m=>aq rfl D0 (ax (m.aQ 5 rfl) rfl))<| ?_
 refine di (au rfl Tryz.call133 (Dq hD hok (nm:=(dg t))) [2,2] rfl [0] rfl ?_)
 rintro _ _ _ ⟨rfl,rfl,rfl⟩
 refine⟨(fun _=>wk [2,2,0,0,0,0] [0] rfl rfl), ?_⟩
 refine an (bQ tg rfl rfl (by kernel_rfl) (sZ (t:=(t.1,dr d q (rs.map ba.l) t.1.b)) z7 BA))<| ?_
 refine fS (a8 2 rfl rfl rfl kS (cE _) (lG _) rfl ⟨(fun h=>absurd h (by decide)), ?_⟩)
 refine bo<|al (ρ' :=[(4,_),(3,_),(0,_),(1,_),(2,_)]) ⟨rfl,rfl,rfl,rfl,rfl,trivial⟩<|ak (X' :=[_,_,_,_,_,_]) (S' :=[_]) (fun _ m=>m)<|ae<|aS<| ?_
 exact eJ trivial rfl rfl vD kS (cE _) (fun m=>(m.aQ 0 rfl).aw) [1,1,2,2] rfl [] rfl ⟨rfl,rfl,rfl⟩
end Go.Proofs.YtmibdabdlgmafaaGreatDoor
end
section
set_option maxRecDepth 20000
set_option maxHeartbeats 2000000
namespace Go.Proofs.YtmibdabdlgmafaaGreatDoor
open Go.Eng Go.Hx
def kF(its:List It):List (List UInt8):=its.foldl (fun ds t=>dS ds t.1.b) []
theorem tP(its:List It)(t:It):kF (its++[t])=dS (kF its) t.1.b:=by simp[kF]
theorem pW(its:List It)(nm:List UInt8):nm∈kF its↔nm∈its.map (fun t=>t.1.b):=by
 have h:∀(its:List It) (ds:List (List UInt8)),nm∈its.foldl (fun ds t=>dS ds t.1.b) ds↔nm∈ds∨nm∈its.map (fun t=>t.1.b):=by
  intro its
  induction its with
  |nil=>intro ds;simp
  |cons t r ih=>
   intro ds
   rw[List.foldl_cons,ih,r7,List.map_cons,List.mem_cons,or_assoc]
 have:=h its []
 simpa[kF]using this
theorem wI(its:List It):Ge (kF its):=fun x hx=>by
 obtain⟨t,_,rfl⟩:=List.mem_map.1 ((pW its x).1 hx)
 exact t.1.h
theorem wZ(its:List It):(kF its).length≤its.length:=by
 have h:∀(its:List It) (ds:List (List UInt8)),(its.foldl (fun ds t=>dS ds t.1.b) ds).length≤ds.length+its.length:=by
  intro its
  induction its with
  |nil=>intro ds;simp
  |cons t r ih=>
   intro ds
   rw[List.foldl_cons,List.length_cons]
   have h1:=ih (dS ds t.1.b)
   have h2:=r9 ds t.1.b
   omega
 have:=h its []
 simpa[kF]using this
theorem uo{its:List It}{i:Nat}{t:It}(h:its[i]? =some t):its.take (i+1)=its.take i++[t]:=by
 obtain⟨h1,rfl⟩:=List.getElem?_eq_some_iff.1 h
 exact List.take_succ_eq_append_getElem h1
theorem G3{g gs gm gd ge gq kk:Nat}{st:cU}{d:RD}{q:Pn}{A:Option Addr}{c:Nat}{rs:List ba}{l:xj}{I:Option Addr}{n ci:Nat}{its:List It}(hD:DS st d kk)(hok:iE q rs l)(hl:its.length=n)(hn:n≤100000):b6 Tryz.prog 131 [.slice I n ci,.func (.func 129) #[] #[.pointer (some ⟨gq,0,none⟩)],.func (.func 132) #[] #[.pointer (some ⟨gd,0,none⟩),.pointer (some ⟨ge,0,none⟩)]] [aE gq 33 [.slice none 0 0],aF 53 32 (.slice none 0 0) 0 (dc []),bP g st,fP gs gm q A c rs l,aE gd 35 [.pointer (some ⟨g,0,none⟩)],aE ge 83 [.pointer (some ⟨gs,0,none⟩)]] [cn 33 I n (km its),dG] (fun v_ X_ S_=>∃A1 k1 c1,v_=(.slice A1 k1 c1)∧X_=[aF 101 33 (.slice A1 k1 c1) k1 (km (jL (dr d q (rs.map ba.l)) its)),bP g st,fP gs gm q A c rs l]∧S_=[]∧(k1=(jL (dr d q (rs.map ba.l)) its).length)):=by
 refine aI (N:=27) Tryz.func131 rfl rfl (by simp) fun b=> ?_
 refine aU (fun m=>gu (m.rd 0 rfl)) ?_
 rintro⟨hl_it,hA_it⟩
 refine ah<|aj<|hy (fun _=>ab rfl)<|ai<|ae<|ah<|aj<|hy (fun _=>ab rfl)<|ai<|ae<|ah<|ah<|aj<|hy (fun _=>aa rfl)<|hy (fun _=>aT rfl Tryz.underlying80)<|hy (fun _=>aa rfl)<|ai<|ae<|aK<| ?_
 refine bd (fun w m=>m.cI (r' :=aF 101 33 (.slice none 0 0) 0 []) (.refl _ _) (Own.nil _ _ _ _) (fun k hk=>hk.elim)) ?_
 refine Df (fun i A1 k1 c1 A2 n2 c2=>n-i) (fun i A1 k1 c1 A2 n2 c2=>[(12,.int .i64 (i:Nat)),(7,.slice A1 k1 c1)]) (fun i A1 k1 c1 A2 n2 c2=>[aF 101 33 (.slice A1 k1 c1) k1 (km (dL (dr d q (rs.map ba.l)) its i)),aE gq 33 [.slice A2 n2 c2],aF 53 32 (.slice A2 n2 c2) n2 (dc (kF (its.take i)))]) (fun i A1 k1 c1 A2 n2 c2=>[]) (fun i A1 k1 c1 A2 n2 c2=>i≤n∧k1=(dL (dr d q (rs.map ba.l)) its i).length∧n2=(kF (its.take i)).length) 0 none 0 0 none 0 0 [(11,_),(10,_),(6,_),(0,_),(1,_),(2,_)] ⟨rfl,rfl,rfl,rfl,rfl,rfl,trivial⟩ [0,0,0] rfl [] rfl (⟨Nat.zero_le _,rfl,rfl⟩) ⟨rfl,rfl,trivial⟩ (fun i A1 k1 c1 A2 n2 c2 ⟨hi,hk1,hn2⟩=> ?_)
 refine ah<|aj<|hy (fun _=>bC rfl rfl)<|ai<|ae<|ah<| ?_
 refine cj rfl (fun hlt=> ?_) (fun hlt=> ?_)
 ·obtain⟨t,ht⟩:∃t,its[i]? =some t:=⟨_,List.getElem?_eq_getElem (by omega)⟩
  have hsu:=j4 (fr:=dr d q (rs.map ba.l)) ht
  have hsl:=jB (fr:=dr d q (rs.map ba.l)) (its:=its) i
  have hse:=tP (its.take i) t
  rw[←uo ht]at hse
  have hsm:=pW (its.take i) t.1.b
  have hsn:=wZ (its.take i)
  rw[List.length_take]at hsn
  refine aB<|ae<|ah<|aK<|ah<|aj<|hy (fun _=>cW rfl rfl Tryz.underlying80 jJ hA_it rfl (by omega))<|hy (fun m=>yV (aX rfl u0 jJ (cE t) (fu (f:=ia) cE (m.rd 0 rfl) ht)) ((rfl:_=Value.agg (ia t).toArray)))<| ?_
  refine hx (bh iU (fun g9=> ?_))
  refine cx (a8 0 rfl rfl rfl jJ (cE t) (lG t) rfl ?_)
  refine ai<|al (ρ' :=[(9,_),(13,_),(12,_),(7,_),(11,_),(10,_),(6,_),(0,_),(1,_),(2,_)]) ⟨rfl,rfl,rfl,rfl,rfl,rfl,rfl,rfl,rfl,rfl,trivial⟩<|ak (X' :=[_,_,_,_,_,_,_,_]) (S' :=[_,_]) (fun _ m=>m)<|ae<|ah<|aj<|hy (fun _=>aa rfl)<|hy (fun m=>yV (aX rfl u0 jJ (cE t) ((m.aQ 0 rfl).aw)) ((rfl:_=Value.agg (ia t).toArray)))<| ?_
  refine hx (ek rfl rfl Tryz.call129 (DB (wI _) hn2.symm (by omega) (t:=t)) [2,2] rfl [] rfl ?_)
  rintro _ _ _ ⟨A3,n3,c3,rfl,rfl,rfl,hn3⟩
  rw[←hse]at hn3
  rw[←hse]
  refine ai<|al (ρ' :=[(18,_),(9,_),(13,_),(12,_),(7,_),(11,_),(10,_),(6,_),(0,_),(1,_),(2,_)]) ⟨rfl,rfl,rfl,rfl,rfl,rfl,rfl,rfl,rfl,rfl,rfl,trivial⟩<|ak (X' :=[_,_,_,_,_,_,_,_]) (S' :=[_,_]) (fun _ m=>m)<|ae<| ?_
  refine cj rfl (fun hin=> ?_) (fun hin=> ?_)
  ·rw[if_neg (fun h=>hin (hsm.2 h))]at hsu
   refine aj<|hy (fun _=>aa rfl)<|hy (fun _=>aa rfl)<|hy (fun m=>yV (aX rfl u0 jJ (cE t) ((m.aQ 2 rfl).aw)) ((rfl:_=Value.agg (ia t).toArray)))<| ?_
   refine hx (ek rfl rfl Tryz.call132 (CX hD hok (t:=t)) [4,4,4,4] rfl [1] rfl ?_)
   rintro _ _ _ ⟨rfl,rfl,rfl⟩
   refine hx (bT Tryz.underlying78 tg rfl rfl rfl (by intro v hv;rw[List.mem_singleton.1 hv];show(ia (t.1,dr d q (rs.map ba.l) t.1.b)).toArray.size=33;rw[List.size_toArray,cE]) (by decide) (by decide) (fun g23=> ?_))
   have hA_b23:0<1→(some (⟨g23,0,none⟩:Addr))≠none:=fun _ h=>by cases h
   refine aG (fun w m=>m.bs 0 rfl (show _=aF 101 33 (.slice (some ⟨g23,0,none⟩) 1 1) 1 (km [(t.1,dr d q (rs.map ba.l) t.1.b)])from rfl)) ?_
   refine hx (bw 8 rfl rfl rfl Tryz.underlying78 Tryz.underlying78 (by exact .inl rfl) tg rfl (fun m=>Src.bW (m.ord 0 rfl)) n0 (by unfold maxLen;omega) (by omega) (fun u=> ?_))
   refine aA (fun m=>(m.own 0 rfl).slice) ?_
   rintro⟨A_z,c_z,rfl,hc_z⟩
   refine aA (fun m=>(m.ord 0 rfl).2.1) fun hA_z=> ?_
   refine aG (fun w m=>m.bs 0 rfl (show _=aF 101 33 (.slice A_z (k1+1) c_z) (k1+1) (km (dL (dr d q (rs.map ba.l)) its (i+1)))from congrArg (aF _ _ _ _) (by rw[hsu,iX]))) ?_
   refine hy (fun _=>ab rfl)<|ai<|al (ρ' :=[(7,_),(18,_),(9,_),(13,_),(12,_),(11,_),(10,_),(6,_),(0,_),(1,_),(2,_)]) ⟨rfl,rfl,rfl,rfl,rfl,rfl,rfl,rfl,rfl,rfl,rfl,trivial⟩<|ak (X' :=[_,_,_,_,_,_,_,_,_]) (S' :=[_,_]) (fun _ m=>m)<|aR<|ae<|aj<|hy (fun _=>aL rfl rfl (bx (by omega) (by omega)))<|hy (fun _=>aa rfl)<|ai<|al (ρ' :=[(12,_),(7,_),(18,_),(9,_),(13,_),(11,_),(10,_),(6,_),(0,_),(1,_),(2,_)]) ⟨rfl,rfl,rfl,rfl,rfl,rfl,rfl,rfl,rfl,rfl,rfl,trivial⟩<| ?_
   refine yY (i+1) A_z (k1+1) c_z A3 n3 c3 ⟨rfl,rfl,rfl,rfl,rfl,rfl,rfl,rfl,trivial⟩ [0,5,5,1,1,1,1] rfl [0,1] rfl (⟨by omega,by rw[hsu,List.length_append,hk1];rfl,hn3⟩) (by omega)
  ·rw[if_pos (hsm.1 (Decidable.not_not.1 hin))]at hsu
   rw[←hsu]at hk1
   rw[←hsu]
   refine aB<|aR<|ae<|aj<|hy (fun _=>aL rfl rfl (bx (by omega) (by omega)))<|hy (fun _=>aa rfl)<|ai<|al (ρ' :=[(12,_),(18,_),(9,_),(13,_),(7,_),(11,_),(10,_),(6,_),(0,_),(1,_),(2,_)]) ⟨rfl,rfl,rfl,rfl,rfl,rfl,rfl,rfl,rfl,rfl,rfl,trivial⟩<| ?_
   refine yY (i+1) A1 k1 c1 A3 n3 c3 ⟨rfl,rfl,rfl,rfl,rfl,rfl,rfl,rfl,trivial⟩ [3,0,0,1,1,1,1] rfl [0,1] rfl (⟨by omega,hk1,hn3⟩) (by omega)
 ·obtain rfl:i=its.length:=by omega
  refine bK<|ao<|ao<|aC<|ae<|ah<|aj<|hy (fun _=>aa rfl)<|hy (fun _=>ab rfl)<|ai<|al (ρ' :=[(6,_),(13,_),(12,_),(7,_),(11,_),(10,_),(0,_),(1,_),(2,_)]) ⟨rfl,rfl,rfl,rfl,rfl,rfl,rfl,rfl,rfl,trivial⟩<|ae<|aS<| ?_
  exact a6 trivial rfl rfl [0,2,2] rfl [] rfl ⟨A1,k1,c1,rfl,rfl,rfl,hk1⟩
theorem zd{g gs gm kk:Nat}{st:cU}{d:RD}{q:Pn}{A:Option Addr}{c:Nat}{rs:List ba}{l:xj}{u:IX}(hD:DS st d kk)(hok:iE q rs l)(hu:u.its.length≤100000):b6 Tryz.prog 42 [.pointer (some ⟨g,0,none⟩),.agg u.cs.toArray,.pointer (some ⟨gs,0,none⟩)] [bP g st,fP gs gm q A c rs l] [cn 33 u.A u.its.length (km u.its),dG] (fun v_ X_ S_=>∃A1 k1 c1,v_=(.slice A1 k1 c1)∧X_=[aF 101 33 (.slice A1 k1 c1) k1 (km (jL (dr d q (rs.map ba.l)) u.its)),bP g st,fP gs gm q A c rs l]∧S_=[]∧(k1=(jL (dr d q (rs.map ba.l)) u.its).length)):=by
 refine aI (N:=15) Tryz.func42 rfl rfl (by simp) fun b=> ?_
 refine aU (fun m=>gu (m.rd 0 rfl)) ?_
 rintro⟨hl_it,hA_it⟩
 refine ah<|aj<| ?_
 refine hx (bu rfl (fun g3=> ?_))
 refine aG (fun w m=>m.bs 0 rfl (show _=aE g3 35 [.pointer (some ⟨g,0,none⟩)]from rfl)) ?_
 refine hx (bu rfl (fun g4=> ?_))
 refine aG (fun w m=>m.bs 0 rfl (show _=aE g4 88 u.cs from congrArg (aE _ _) (aW _))) ?_
 refine hx (bu rfl (fun g5=> ?_))
 refine aG (fun w m=>m.bs 0 rfl (show _=aE g5 83 [.pointer (some ⟨gs,0,none⟩)]from rfl)) ?_
 refine hy (fun _=>ab rfl)<|ai<|ak (X' :=[_,_,_,_,_]) (S' :=[_,_]) (fun _ m=>m)<|ae<|ah<|aj<| ?_
 refine hx (bh G0 (fun g7=> ?_))
 refine aG (fun w m=>m.bs 0 rfl (show _=aE g7 33 [.slice none 0 0]from rfl)) ?_
 refine aG (fun w m=>m.cI (r' :=aF 53 32 (.slice none 0 0) 0 []) (.refl _ _) (Own.nil _ _ _ _) (fun k hk=>hk.elim)) ?_
 refine ai<|ak (X' :=[_,_,_,_,_,_,_]) (S' :=[_,_]) (fun _ m=>m)<|ae<|ah<|aj<|hy (fun _=>ff rfl rfl)<|hy (fun _=>ab rfl)<|ai<|al (ρ' :=[(8,_),(7,_),(6,_),(5,_),(4,_),(3,_),(0,_),(1,_),(2,_)]) ⟨rfl,rfl,rfl,rfl,rfl,rfl,rfl,rfl,rfl,trivial⟩<|ae<|ah<|aj<|hy (fun _=>aD rfl ln (by decide))<|hy (fun m=>aq rfl tD (ax (m.aQ 3 rfl) (i:=35) u.C3))<|hy (fun _=>aa rfl)<|hy (fun _=>ff rfl rfl)<| ?_
 refine hx (au rfl Tryz.call131 (G3 hD hok rfl hu) [1,0,3,3,2,0] rfl [0,1] rfl ?_)
 rintro _ _ _ ⟨A1,k1,c1,rfl,rfl,rfl,hp⟩
 refine hy (fun _=>ab rfl)<|ai<|al (ρ' :=[(6,_),(8,_),(7,_),(5,_),(4,_),(3,_),(0,_),(1,_),(2,_)]) ⟨rfl,rfl,rfl,rfl,rfl,rfl,rfl,rfl,rfl,trivial⟩<|ak (X' :=[_,_,_,_]) (S' :=[_,_]) (fun _ m=>m)<|ae<|aS<| ?_
 exact a6 trivial rfl rfl [0,0,0] rfl [] rfl ⟨A1,k1,c1,rfl,rfl,rfl,hp⟩
theorem Bq{gf:Nat}{k:Int}{t:It}:b6 Tryz.prog 198 [.agg (ia t).toArray,.pointer (some ⟨gf,0,none⟩)] [aE gf 3 [.int .i64 k]] [] (fun v_ X_ S_=>v_=(.bool (decide (t.2=k)))∧X_=[aE gf 3 [.int .i64 k]]∧S_=[]):=by
 refine aI (N:=8) Tryz.func198 rfl rfl (by simp) fun b=> ?_
 refine ah<|aj<| ?_
 refine hx (bu rfl (fun g2=> ?_))
 refine aG (fun w m=>m.bs 0 rfl (show _=aE g2 101 (ia t)from congrArg (aE _ _) (aW _))) ?_
 refine hy (fun _=>ab rfl)<|ai<|ak (X' :=[_,_]) (S' :=[]) (fun _ m=>m)<|ae<|ah<|aj<|hy (fun _=>aD rfl qS (by decide))<|hy (fun m=>aq rfl dq ((m.aQ 0 rfl).aw 32 _ (l8 t)))<|hy (fun m=>aq rfl dq (ax (m.aQ 1 rfl) rfl))<|hy (fun _=>cm rfl rfl)<|hy (fun _=>ab rfl)<|ai<|al (ρ' :=[(3,_),(2,_),(0,_),(1,_)]) ⟨rfl,rfl,rfl,rfl,trivial⟩<|ae<|aS<| ?_
 exact a6 trivial rfl rfl [1] rfl [] rfl ⟨rfl,rfl,rfl⟩
theorem A7{t:It}:b6 Tryz.prog 199 [.agg (ia t).toArray] [] [] (fun v_ X_ S_=>v_=(.agg (aP t.1.b).toArray)∧X_=[]∧S_=[]):=by
 have h32:(aP t.1.b).length=32:=by rw[az,t.1.h]
 refine aI (N:=5) Tryz.func199 rfl rfl (by simp) fun b=> ?_
 refine ah<|aj<| ?_
 refine hx (bu rfl (fun g1=> ?_))
 refine aG (fun w m=>m.bs 0 rfl (show _=aE g1 101 (ia t)from congrArg (aE _ _) (aW _))) ?_
 refine hx (bh fY (fun g2=> ?_))
 refine ai<|ak (X' :=[_,_]) (S' :=[]) (fun _ m=>m)<|ae<|ah<|aj<|hy (fun _=>aD rfl vt (by decide))<|hy (fun m=>aX rfl cr bZ h32 (fun j u hu=>(m.aQ 1 rfl).aw j u (ik hu)))<| ?_
 refine cx (a8 0 rfl rfl rfl bZ h32 bg rfl ?_)
 refine ai<|al (ρ' :=[(2,_),(1,_),(0,_)]) ⟨rfl,rfl,rfl,trivial⟩<|ak (X' :=[_,_]) (S' :=[]) (fun _ m=>m)<|ae<|aS<| ?_
 exact eJ trivial rfl rfl cr bZ h32 (fun m=>(m.aQ 0 rfl).aw) [] rfl [] rfl ⟨rfl,rfl,rfl⟩
theorem EL{gf:Nat}{k:Int}{S:Option Addr}{n cs:Nat}{l:List It}(hl:l.length=n)(hn:n≤100000):b6 Tryz.prog 197 [.slice S n cs,.func (.func 198) #[] #[.pointer (some ⟨gf,0,none⟩)],.func (.func 199) #[] #[]] [aE gf 3 [.int .i64 k]] [cn 33 S n (km l)] (fun v_ X_ S_=>∃A1 k1 c1,v_=(.slice A1 k1 c1)∧X_=[aF 53 32 (.slice A1 k1 c1) k1 (dc (eC l k))]∧S_=[]∧(k1=(eC l k).length)):=by
 refine aI (N:=27) Tryz.func197 rfl rfl (by simp) fun b=> ?_
 refine aU (fun m=>gu (m.rd 0 rfl)) ?_
 rintro⟨hl_r,hA_r⟩
 refine ah<|aj<|hy (fun _=>ab rfl)<|ai<|ae<|ah<|aj<|hy (fun _=>ab rfl)<|ai<|ae<|ah<|ah<|aj<|hy (fun _=>aa rfl)<|hy (fun _=>aT rfl Tryz.underlying78)<|hy (fun _=>aa rfl)<|ai<|ae<|aK<| ?_
 refine bd (fun w m=>m.cI (r' :=aF 53 32 (.slice none 0 0) 0 []) (.refl _ _) (Own.nil _ _ _ _) (fun k hk=>hk.elim)) ?_
 refine ow (fun i A1 k1 c1=>n-i) (fun i A1 k1 c1=>[(12,.int .i64 (i:Nat)),(7,.slice A1 k1 c1)]) (fun i A1 k1 c1=>[aF 53 32 (.slice A1 k1 c1) k1 (dc (eC (l.take i) k))]) (fun i A1 k1 c1=>[]) (fun i A1 k1 c1=>i≤n∧k1=(eC (l.take i) k).length) 0 none 0 0 [(11,_),(10,_),(6,_),(0,_),(1,_),(2,_)] ⟨rfl,rfl,rfl,rfl,rfl,rfl,trivial⟩ [0] rfl [] rfl (⟨Nat.zero_le _,rfl⟩) ⟨rfl,rfl,trivial⟩ (fun i A1 k1 c1 ⟨hi,hk1⟩=> ?_)
 refine ah<|aj<|hy (fun _=>bC rfl rfl)<|ai<|ae<|ah<| ?_
 refine cj rfl (fun hlt=> ?_) (fun hlt=> ?_)
 ·obtain⟨t,ht⟩:∃t,l[i]? =some t:=⟨_,List.getElem?_eq_getElem (by omega)⟩
  have h32:(aP t.1.b).length=32:=by rw[az,t.1.h]
  have hsu:=sL (k:=k) ht
  have hll:(eC (l.take i) k).length≤100000:=Nat.le_trans (uO _ _) (by rw[List.length_take];omega)
  refine aB<|ae<|ah<|aK<|ah<|aj<|hy (fun _=>cW rfl rfl Tryz.underlying78 kS hA_r rfl (by omega))<|hy (fun m=>yV (aX rfl vD kS (cE t) (fu (f:=ia) cE (m.rd 0 rfl) ht)) ((rfl:_=Value.agg (ia t).toArray)))<| ?_
  refine hx (bh tg (fun g9=> ?_))
  refine cx (a8 0 rfl rfl rfl kS (cE t) (lG t) rfl ?_)
  refine ai<|al (ρ' :=[(9,_),(13,_),(12,_),(7,_),(11,_),(10,_),(6,_),(0,_),(1,_),(2,_)]) ⟨rfl,rfl,rfl,rfl,rfl,rfl,rfl,rfl,rfl,rfl,trivial⟩<|ak (X' :=[_,_,_]) (S' :=[_]) (fun _ m=>m)<|ae<|ah<|aj<|hy (fun _=>aa rfl)<|hy (fun m=>yV (aX rfl vD kS (cE t) ((m.aQ 0 rfl).aw)) ((rfl:_=Value.agg (ia t).toArray)))<| ?_
  refine hx (ek rfl rfl Tryz.call198 (Bq (t:=t)) [2] rfl [] rfl ?_)
  rintro _ _ _ ⟨rfl,rfl,rfl⟩
  refine ai<|al (ρ' :=[(18,_),(9,_),(13,_),(12,_),(7,_),(11,_),(10,_),(6,_),(0,_),(1,_),(2,_)]) ⟨rfl,rfl,rfl,rfl,rfl,rfl,rfl,rfl,rfl,rfl,rfl,trivial⟩<|ak (X' :=[_,_,_]) (S' :=[_]) (fun _ m=>m)<|ae<| ?_
  refine cj rfl (fun h3=> ?_) (fun h3=> ?_)
  ·rw[if_pos h3]at hsu
   refine aj<|hy (fun _=>aa rfl)<|hy (fun _=>aa rfl)<|hy (fun m=>yV (aX rfl vD kS (cE t) ((m.aQ 1 rfl).aw)) ((rfl:_=Value.agg (ia t).toArray)))<| ?_
   refine hx (ek rfl rfl Tryz.call199 (A7 (t:=t)) [] rfl [] rfl ?_)
   rintro _ _ _ ⟨rfl,rfl,rfl⟩
   refine hx (bT Tryz.underlying33 fY rfl rfl rfl (by simpa[Value.cells,B8]using h32) (by decide) (by decide) (fun g23=> ?_))
   have hA_b23:0<1→(some (⟨g23,0,none⟩:Addr))≠none:=fun _ h=>by cases h
   refine aG (fun w m=>m.bs 0 rfl (show _=aF 53 32 (.slice (some ⟨g23,0,none⟩) 1 1) 1 (dc [t.1.b])from rfl)) ?_
   refine hx (bw 3 rfl rfl rfl Tryz.underlying33 Tryz.underlying33 (by exact .inl rfl) fY rfl (fun m=>Src.bW (m.ord 0 rfl)) o5 (by unfold maxLen;omega) (by omega) (fun u=> ?_))
   refine aA (fun m=>(m.own 0 rfl).slice) ?_
   rintro⟨A_o,c_o,rfl,hc_o⟩
   refine aA (fun m=>(m.ord 0 rfl).2.1) fun hA_o=> ?_
   refine aG (fun w m=>m.bs 0 rfl (show _=aF 53 32 (.slice A_o (k1+1) c_o) (k1+1) (dc (eC (l.take (i+1)) k))from congrArg (aF _ _ _ _) (by rw[hsu,pN]))) ?_
   refine hy (fun _=>ab rfl)<|ai<|al (ρ' :=[(7,_),(18,_),(9,_),(13,_),(12,_),(11,_),(10,_),(6,_),(0,_),(1,_),(2,_)]) ⟨rfl,rfl,rfl,rfl,rfl,rfl,rfl,rfl,rfl,rfl,rfl,trivial⟩<|ak (X' :=[_,_,_,_]) (S' :=[_]) (fun _ m=>m)<|aR<|ae<|aj<|hy (fun _=>aL rfl rfl (bx (by omega) (by omega)))<|hy (fun _=>aa rfl)<|ai<|al (ρ' :=[(12,_),(7,_),(18,_),(9,_),(13,_),(11,_),(10,_),(6,_),(0,_),(1,_),(2,_)]) ⟨rfl,rfl,rfl,rfl,rfl,rfl,rfl,rfl,rfl,rfl,rfl,trivial⟩<| ?_
   refine k6 (i+1) A_o (k1+1) c_o ⟨rfl,rfl,rfl,rfl,rfl,rfl,rfl,rfl,trivial⟩ [0,1] rfl [0] rfl (⟨by omega,by rw[hsu,List.length_append,hk1];rfl⟩) (by omega)
  ·rw[if_neg h3,List.append_nil]at hsu
   rw[←hsu]at hk1
   rw[←hsu]
   refine aB<|aR<|ae<|aj<|hy (fun _=>aL rfl rfl (bx (by omega) (by omega)))<|hy (fun _=>aa rfl)<|ai<|al (ρ' :=[(12,_),(18,_),(9,_),(13,_),(7,_),(11,_),(10,_),(6,_),(0,_),(1,_),(2,_)]) ⟨rfl,rfl,rfl,rfl,rfl,rfl,rfl,rfl,rfl,rfl,rfl,trivial⟩<| ?_
   refine k6 (i+1) A1 k1 c1 ⟨rfl,rfl,rfl,rfl,rfl,rfl,rfl,rfl,trivial⟩ [2,0] rfl [0] rfl (⟨by omega,hk1⟩) (by omega)
 ·obtain rfl:i=n:=by omega
  have htl:l.take i=l:=by rw[←hl,List.take_length]
  rw[htl]at hk1
  rw[htl]
  refine bK<|ao<|ao<|aC<|ae<|ah<|aj<|hy (fun _=>aa rfl)<|hy (fun _=>ab rfl)<|ai<|al (ρ' :=[(6,_),(13,_),(12,_),(7,_),(11,_),(10,_),(0,_),(1,_),(2,_)]) ⟨rfl,rfl,rfl,rfl,rfl,rfl,rfl,rfl,rfl,trivial⟩<|ae<|aS<| ?_
  exact a6 trivial rfl rfl [0] rfl [] rfl ⟨A1,k1,c1,rfl,rfl,rfl,hk1⟩
theorem vu{k:Int}{S:Option Addr}{n cs:Nat}{l:List It}(hl:l.length=n)(hn:n≤100000):b6 Tryz.prog 135 [.slice S n cs,.int .i64 k] [] [cn 33 S n (km l)] (fun v_ X_ S_=>∃A1 k1 c1,v_=(.slice A1 k1 c1)∧X_=[aF 53 32 (.slice A1 k1 c1) k1 (dc (eC l k))]∧S_=[]∧(k1=(eC l k).length)):=by
 refine aI (N:=8) Tryz.func135 rfl rfl (by simp) fun b=> ?_
 refine aU (fun m=>gu (m.rd 0 rfl)) ?_
 rintro⟨hl_r,hA_r⟩
 refine ah<|aj<| ?_
 refine hx (bu rfl (fun g3=> ?_))
 refine aG (fun w m=>m.bs 0 rfl (show _=aE g3 3 [.int .i64 k]from rfl)) ?_
 refine hy (fun _=>ab rfl)<|ai<|ak (X' :=[_]) (S' :=[_]) (fun _ m=>m)<|ae<|ah<|aj<|hy (fun _=>aa rfl)<|hy (fun _=>ff rfl rfl)<| ?_
 refine hx (au rfl Tryz.call197 (EL hl hn) [0] rfl [0] rfl ?_)
 rintro _ _ _ ⟨A1,k1,c1,rfl,rfl,rfl,hp⟩
 refine hy (fun _=>ab rfl)<|ai<|al (ρ' :=[(4,_),(3,_),(0,_),(1,_)]) ⟨rfl,rfl,rfl,rfl,trivial⟩<|ak (X' :=[_]) (S' :=[_]) (fun _ m=>m)<|ae<|aS<| ?_
 exact a6 trivial rfl rfl [0] rfl [] rfl ⟨A1,k1,c1,rfl,rfl,rfl,hp⟩
theorem BI{k:Int}{S:Option Addr}{n cs:Nat}{l:List It}(hl:l.length=n)(hn:n≤100000):b6 Tryz.prog 48 [.slice S n cs,.int .i64 k] [] [cn 33 S n (km l)] (fun v_ X_ S_=>v_=(.int .i64 ((eC l k).length:Nat))∧X_=[]∧S_=[]):=by
 refine aI (N:=9) Tryz.func48 rfl rfl (by simp) fun b=> ?_
 refine aU (fun m=>gu (m.rd 0 rfl)) ?_
 rintro⟨hl_r,hA_r⟩
 refine ah<|aj<|hy (fun _=>ab rfl)<|ai<|ae<|ah<|aj<|hy (fun _=>aa rfl)<|hy (fun _=>aa rfl)<| ?_
 refine hx (au rfl Tryz.call135 (vu hl hn) [] rfl [0] rfl ?_)
 rintro _ _ _ ⟨A1,k1,c1,rfl,rfl,rfl,hk1⟩
 rw[←hk1]
 refine hy (fun _=>aT rfl Tryz.underlying33)<|hy (fun _=>ab rfl)<|ai<|al (ρ' :=[(4,_),(0,_),(1,_)]) ⟨rfl,rfl,rfl,trivial⟩<|ak (X' :=[_]) (S' :=[_]) (fun _ m=>m)<|ae<|aS<| ?_
 exact a6 trivial rfl rfl [] rfl [] rfl ⟨rfl,rfl,rfl⟩
theorem AG{S:Option Addr}{n cs:Nat}{l:List It}(hl:l.length=n)(hn:n≤100000):b6 Tryz.prog 46 [.slice S n cs] [] [cn 33 S n (km l)] (fun v_ X_ S_=>∃A1 k1 c1,v_=(.slice A1 k1 c1)∧X_=[aF 53 32 (.slice A1 k1 c1) k1 (dc (eC l 3))]∧S_=[]∧(k1=(eC l 3).length)):=by
 refine aI (N:=5) Tryz.func46 rfl rfl (by simp) fun b=> ?_
 refine aU (fun m=>gu (m.rd 0 rfl)) ?_
 rintro⟨hl_r,hA_r⟩
 refine ah<|aj<|hy (fun _=>ab rfl)<|ai<|ae<|ah<|aj<|hy (fun _=>aa rfl)<| ?_
 refine hx (au rfl Tryz.call135 (vu hl hn (k:=3)) [] rfl [0] rfl ?_)
 rintro _ _ _ ⟨A1,k1,c1,rfl,rfl,rfl,hk1⟩
 refine hy (fun _=>ab rfl)<|ai<|al (ρ' :=[(2,_),(0,_)]) ⟨rfl,rfl,trivial⟩<|ak (X' :=[_]) (S' :=[_]) (fun _ m=>m)<|ae<|aS<| ?_
 exact a6 trivial rfl rfl [0] rfl [] rfl ⟨A1,k1,c1,rfl,rfl,rfl,hk1⟩
end Go.Proofs.YtmibdabdlgmafaaGreatDoor
end
section
set_option maxRecDepth 20000
set_option maxHeartbeats 4000000
namespace Go.Proofs.YtmibdabdlgmafaaGreatDoor
open Go.Eng Go.Hx
def rV(ga:Nat)(x:RX)(u:IX)(gs:Nat)(t o:Value):List Value:=([.pointer (some ⟨ga,0,none⟩)]++x.cs)++u.cs++[.pointer (some ⟨gs,0,none⟩),t,o]
section
variable{ga gs:Nat}{x y:RX}{u:IX}{t o t' :Value}
theorem qM:([Value.pointer (some ⟨ga,0,none⟩)]++x.cs).length=6:=rfl
theorem uW:(rV ga x u gs t o).length=45:=by
 rw[rV,List.length_append,List.length_append,qM,u.eW];rfl
theorem lB{j:Nat}:(rV ga x u gs t o)[42+j]? =[Value.pointer (some ⟨gs,0,none⟩),t,o][j]? :=by
 have h:(([Value.pointer (some ⟨ga,0,none⟩)]++x.cs)++u.cs).length=42:=by rw[List.length_append,qM,u.eW]
 rw[rV,List.getElem?_append_right (by omega),h,Nat.add_sub_cancel_left]
theorem xF:(rV ga x u gs t o).set 43 t' =rV ga x u gs t' o:=by
 have h:(([Value.pointer (some ⟨ga,0,none⟩)]++x.cs)++u.cs).length=42:=by rw[List.length_append,qM,u.eW]
 rw[rV,List.set_append_right _ _ (by omega),h]
 rfl
theorem yI:bL (rV ga x u gs t o) 1 y.cs=rV ga y u gs t o:=by
 have h:=dp (a:=[Value.pointer (some ⟨ga,0,none⟩)]) (b:=x.cs) (c:=u.cs++[.pointer (some ⟨gs,0,none⟩),t,o]) (vs:=y.cs) (o:=1) rfl rfl
 rw[←List.append_assoc,←List.append_assoc]at h
 exact h
theorem ED{w:World}{g:Nat}{ty:TypeId}(h:eS w g ty (rV ga x u gs t o)):∀(j:Nat) (v:Value),x.cs[j]? =some v→w.cell? ((⟨g,0,none⟩:Addr).add 1|>.add j)=some v:=by
 have h2:eS w g ty (([Value.pointer (some ⟨ga,0,none⟩)]++x.cs)++(u.cs++[.pointer (some ⟨gs,0,none⟩),t,o])):=by rw[←List.append_assoc];exact h
 exact A0 h2
end
theorem BK{P:Program}{pl:Nat→Option (Nat×Nat)}{A B:Option Addr}{x:RX}{u:IX}{o a0 s0 t0 i0:Value}{zr zx:List Value}(hr:zr.length=5)(hx:zx.length=36)(ho:o.cells.toList=[o])(p0:pl 0=some (0,1))(p1:pl 1=some (1,5))(p2:pl 2=some (6,36))(p3:pl 3=some (42,1))(p5:pl 5=some (44,1)):
  tI P pl ([a0]++zr++zx++[s0]++[t0]++[i0]) [(0,.pointer A),(1,.agg x.cs.toArray),(2,.agg u.cs.toArray),(3,.pointer B),(5,o)] (([.pointer A]++x.cs)++u.cs++[.pointer B,t0,o]):=by
 have e0:bL ([a0]++zr++zx++[s0]++[t0]++[i0]) 0 [.pointer A]=[.pointer A]++zr++(zx++[s0]++[t0]++[i0]):=by
  have:=dp (a:=[]) (b:=[a0]) (c:=zr++zx++[s0]++[t0]++[i0]) (vs:=[Value.pointer A]) (o:=0) rfl rfl
  simpa using this
 have e1:bL ([.pointer A]++zr++(zx++[s0]++[t0]++[i0])) 1 x.cs=([.pointer A]++x.cs)++zx++([s0]++[t0]++[i0]):=by
  rw[dp (a:=[Value.pointer A]) (b:=zr) (c:=zx++[s0]++[t0]++[i0]) (vs:=x.cs) (o:=1) rfl (by rw[hr];rfl)]
  simp
 have hp:([Value.pointer A]++x.cs).length=6:=rfl
 have e2:bL (([.pointer A]++x.cs)++zx++([s0]++[t0]++[i0])) 6 u.cs=(([.pointer A]++x.cs)++u.cs)++[s0]++([t0]++[i0]):=by
  rw[dp (b:=zx) (c:=[s0]++[t0]++[i0]) (vs:=u.cs) hp (by rw[hx,u.eW])]
  simp
 have hp2:(([Value.pointer A]++x.cs)++u.cs).length=42:=by rw[List.length_append,hp,u.eW]
 have e3:bL ((([.pointer A]++x.cs)++u.cs)++[s0]++([t0]++[i0])) 42 [.pointer B]=((([.pointer A]++x.cs)++u.cs)++[.pointer B,t0])++[i0]++[]:=by
  rw[dp (b:=[s0]) (c:=[t0]++[i0]) (vs:=[.pointer B]) hp2 rfl]
  simp
 have hp3:((([Value.pointer A]++x.cs)++u.cs)++[.pointer B,t0]).length=44:=by rw[List.length_append,hp2];rfl
 have e4:bL (((([.pointer A]++x.cs)++u.cs)++[.pointer B,t0])++[i0]++[]) 44 [o]=([.pointer A]++x.cs)++u.cs++[.pointer B,t0,o]:=by
  rw[dp (b:=[i0]) (c:=[]) (vs:=[o]) hp3 rfl]
  simp
 have l0:([a0]++zr++zx++[s0]++[t0]++[i0]).length=45:=by simp[hr,hx]
 refine .cons p0 (vs:=[.pointer A]) rfl rfl (by omega) ?_
 rw[e0]
 refine .cons p1 (aW _) rfl (by simp[hr,hx]) ?_
 rw[e1]
 refine .cons p2 (aW _) u.eW (by rw[List.length_append,List.length_append,hp,hx];simp) ?_
 rw[e2]
 refine .cons p3 (vs:=[.pointer B]) rfl rfl (by rw[List.length_append,List.length_append,hp2];simp) ?_
 rw[e3]
 refine .cons p5 ho rfl (by rw[List.length_append,List.length_append,hp3];simp) ?_
 rw[e4]
 exact .nil
def tl(cs:List (List UInt8))(zl:List Int)(d:RD):RD:=zl.foldl (fun d z=>(d.put (cs.getD (ck z cs.length).toNat [])).1) d
def k9(cs:List (List UInt8))(zl:List Int):RD:=if cs=[]then RD.new 20000 else tl cs (zl.take 5) (RD.new 20000)
theorem uP{cs:List (List UInt8)}{zl:List Int}{d:RD}{i:Nat}(h:i<zl.length):tl cs (zl.take (i+1)) d=((tl cs (zl.take i) d).put (cs.getD (ck (zl.getD i 0) cs.length).toNat [])).1:=by
 have e:zl[i]=zl.getD i 0:=by rw[List.getD,List.getElem?_eq_getElem h];rfl
 rw[List.take_succ_eq_append_getElem h,tl,List.foldl_append,e]
 rfl
def j6(img:List UInt8):List UInt8:=img.take 60
def oq(img:List UInt8)(fr:Int)(ot:List UInt8):List (List UInt8):=[(j6 img).drop (ck fr ((j6 img).length+1:Nat)).toNat,ot.take 30]
theorem sb{I:Option Addr}{ni ci:Nat}{img:List UInt8}{p:Pm}{L:Option Addr}{np cp:Nat}{zl:List Int}{fr:Int}{O:Option Addr}{no co:Nat}{ot:List UInt8}(hic:ni≤ci)(hin:ni≤140737488351232)(h1:-9223372036854775808≤p.mn∧p.mn≤9223372036854775807)(h2:-9223372036854775808≤p.av∧p.av≤9223372036854775807)(h3:-9223372036854775808≤p.mx∧p.mx≤9223372036854775807)(hzl:wU zl)(hfr:-9223372036854775808≤fr∧fr≤9223372036854775807)(hoc:no≤co)(hon:no≤140737488351232):b6 Tryz.prog 41 [.slice I ni ci,.agg p.cs.toArray,.slice L np cp,.int .i64 fr,.slice O no co] [] [cn 1 I ni (aP img),cn 1 L np (ints zl),cn 1 O no (aP ot),dG] (fun v_ X_ S_=>∃gw gd st y gs gm A c rs l A2 c2 T trs AO cO,v_=(.pointer (some ⟨gw,0,none⟩))∧X_=[aE gw 86 (rV gd y (zO (j6 img) (fl p) A2 c2) gs (.slice T 2 2) (.slice AO (j6 img).length cO)),bP gd st,fP gs gm (fl p) A c rs l]∧S_=[fN y,cn 33 A2 (cw (j6 img) (fl p)).length (km (cw (j6 img) (fl p))),cn 1 T 2 (lr trs),dw trs,cn 1 AO (j6 img).length (aP (j6 img))]∧(y.d=k9 (ee (j6 img) (fl p)) zl∧DS st y.d 20∧iE (fl p) rs l∧rs.map ba.l=trs.map ba.l∧trs.map ba.l=oq img fr ot∧trs.length=2∧(∀r∈trs,r.n=r.l.length∧r.n≤r.c∧r.n≤100000)∧(j6 img).length≤cO)):=by
 obtain⟨q,hqe⟩:∃q,q=fl p:=⟨_,rfl⟩
 have hq:q.ok:=by rw[hqe];exact(sc p).1
 obtain⟨own,hown⟩:∃own,own=j6 img:=⟨_,rfl⟩
 have hown2:img.take 60=own:=hown.symm
 rw[←hqe,←hown]
 refine aI (N:=138) Tryz.func41 rfl rfl (by simp) fun b=> ?_
 refine aU (fun m=>eb (m.rd 0 rfl)) ?_
 rintro⟨hl_ri,hA_ri⟩
 refine aU (fun m=>gu (m.rd 1 rfl)) ?_
 rintro⟨hl_rl,hA_rl⟩
 refine aU (fun m=>eb (m.rd 2 rfl)) ?_
 rintro⟨hl_rt,hA_rt⟩
 refine ah<|aj<| ?_
 refine hx (bu rfl (fun g6=> ?_))
 refine aG (fun w m=>m.bs 0 rfl (show _=aE g6 75 p.cs from congrArg (aE _ _) (aW _))) ?_
 refine hy (fun _=>ab rfl)<|ai<|ak (X' :=[_]) (S' :=[_,_,_,_]) (fun _ m=>m)<|ae<|ah<|aj<| ?_
 refine hx (au rfl Tryz.call24 (G9 (by decide) (by decide)) [] rfl [] rfl ?_)
 rintro _ _ _ ⟨g,gs,gl,rfl,rfl,rfl⟩
 refine hy (fun _=>aa rfl)<|hy (fun _=>aH rfl rfl)<|hy (fun _=>aH rfl rfl)<|hy (fun _=>ab rfl)<|hy (fun _=>ab rfl)<|ai<|al (ρ' :=[(12,_),(11,_),(10,_),(6,_),(0,_),(1,_),(2,_),(3,_),(4,_)]) ⟨rfl,rfl,rfl,rfl,rfl,rfl,rfl,rfl,rfl,trivial⟩<|ak (X' :=[_,_]) (S' :=[_,_,_,_]) (fun _ m=>m)<|ae<|ah<|aj<|hy (fun m=>yV (aX rfl jv iy rfl ((m.aQ 1 rfl).aw)) ((rfl:_=Value.agg p.cs.toArray)))<| ?_
 refine hx (au rfl Tryz.call125 (FU h1 h2 h3) [] rfl [] rfl ?_)
 rintro _ _ _ ⟨rfl,rfl,rfl⟩
 rw[←hqe]
 refine hx (bh uD (fun g13=> ?_))
 refine cx (a8 0 rfl rfl rfl iy rfl (Pm.one (p:=q.p)) rfl ?_)
 refine ai<|al (ρ' :=[(13,_),(12,_),(11,_),(10,_),(6,_),(0,_),(1,_),(2,_),(3,_),(4,_)]) ⟨rfl,rfl,rfl,rfl,rfl,rfl,rfl,rfl,rfl,rfl,trivial⟩<|ak (X' :=[_,_,_]) (S' :=[_,_,_,_]) (fun _ m=>m)<|ae<|ah<|aj<|hy (fun m=>yV (aX rfl jv iy rfl ((m.aQ 0 rfl).aw)) ((rfl:_=Value.agg q.p.cs.toArray)))<| ?_
 refine hx (au rfl Tryz.call126 (x5 hq (q:=q)) [] rfl [] rfl ?_)
 rintro _ _ _ ⟨g2,gm,rfl,rfl,rfl⟩
 refine hy (fun _=>aa rfl)<|hy (fun _=>aH rfl rfl)<|hy (fun _=>aH rfl rfl)<|hy (fun _=>ab rfl)<|hy (fun _=>ab rfl)<|ai<|al (ρ' :=[(15,_),(14,_),(13,_),(12,_),(11,_),(10,_),(6,_),(0,_),(1,_),(2,_),(3,_),(4,_)]) ⟨rfl,rfl,rfl,rfl,rfl,rfl,rfl,rfl,rfl,rfl,rfl,rfl,trivial⟩<|ak (X' :=[_,_,_,_]) (S' :=[_,_,_,_]) (fun _ m=>m)<|ae<|ah<|ah<|aj<|hy (fun _=>aa rfl)<|hy (fun _=>rP rfl rfl (by kernel_rfl))<|hy (fun _=>aa rfl)<|cg (o:=_) rfl rfl rfl (fun _=>aa rfl)<|cg (o:=_) rfl rfl rfl (fun _=>rP rfl rfl (by kernel_rfl))<|hy (fun _=>bn rfl rfl)<|hy (fun _=>aa rfl)<|cg (o:=_) rfl rfl rfl (fun _=>aa rfl)<|cg (o:=_) rfl rfl rfl (fun _=>dF rfl rfl)<|hy (fun _=>bn rfl rfl)<|hy (fun _=>aa rfl)<|cg (o:=_) rfl rfl rfl (fun _=>aa rfl)<|cg (o:=_) rfl rfl rfl (fun _=>dF rfl rfl)<|hy (fun _=>bn rfl rfl)<|ai<|al (ρ' :=[(48,_),(15,_),(14,_),(13,_),(12,_),(11,_),(10,_),(6,_),(0,_),(1,_),(2,_),(3,_),(4,_)]) ⟨rfl,rfl,rfl,rfl,rfl,rfl,rfl,rfl,rfl,rfl,rfl,rfl,rfl,trivial⟩<|ae<| ?_
 refine dj rfl ((by decide)) ?_
 refine aB<|ae<|ah<|aj<|hy (fun _=>aa rfl)<| ?_
 refine hx (au rfl Tryz.call32 (Fq hic hin (m:=60)) [] rfl [0] rfl ?_)
 rintro _ _ _ ⟨v,rfl,rfl,rfl⟩
 refine aA (fun m=>(m.own 0 rfl).slice) ?_
 rintro⟨A_x,c_x,rfl,hc_x⟩
 refine aA (fun m=>(m.ord 0 rfl).2.1) fun hA_x=> ?_
 have hol:own.length=min ni 60:=by rw[←hown2,List.length_take,hl_ri,Nat.min_comm]
 have ho60:own.length≤60:=by omega
 rw[hown2,←hol]
 have hcx:own.length≤c_x:=by omega
 refine aG (fun w m=>(m.perm (ar [0] _ [_] _ rfl)).freeze) ?_
 refine aG (fun w m=>m.fp 0 rfl .own) ?_
 refine aA (fun m=>eb (m.rd 0 rfl)) ?_
 rintro⟨hl_xr,hA_xr⟩
 refine hy (fun _=>ab rfl)<|ai<|al (ρ' :=[(16,_),(48,_),(15,_),(14,_),(13,_),(12,_),(11,_),(10,_),(6,_),(0,_),(1,_),(2,_),(3,_),(4,_)]) ⟨rfl,rfl,rfl,rfl,rfl,rfl,rfl,rfl,rfl,rfl,rfl,rfl,rfl,rfl,trivial⟩<|ak (X' :=[_,_,_,_]) (S' :=[_,_,_,_,_,_]) (fun _ m=>m)<|ae<|ah<|cu [1,4,8] [(0,some 2),(2,some 1),(3,some 1),(5,some 2),(6,some 2),(1,none),(4,none),(7,some 2),(8,none),(9,some 3)] (by kernel_rfl) (by kernel_rfl) rfl 99<|an (aa rfl)<|an (aa rfl)<|b5 (fun m=>yV (aX rfl jv iy rfl ((m.aQ 1 rfl).aw)) ((rfl:_=Value.agg q.p.cs.toArray)))<|an (aa rfl)<|an (aa rfl)<| ?_
 refine di (au rfl Tryz.call25 (ES) [] rfl [] rfl ?_)
 rintro _ _ _ ⟨y,rfl,rfl,rfl,hy1⟩
 refine⟨(fun _=>wk [0,0,0,0] [1,2,3,4,5,6] rfl rfl), ?_⟩
 refine di (au rfl Tryz.call127 (C8 hq rfl (by omega) hcx (q:=q)) [] rfl [1] rfl ?_)
 rintro _ _ _ ⟨A2,c2,rfl,rfl,rfl⟩
 refine⟨(fun _=>wk [0,0,0,0] [2,3,4,5,6,7] rfl rfl), ?_⟩
 refine b4 (fun m=>gu (m.rd 0 rfl)) ?_
 rintro⟨hl_z,hA_z⟩
 refine an (bQ GH rfl rfl (by kernel_rfl) (BK rfl rfl rfl Dt CT CR D6 CA))<| ?_
 refine di (bu rfl (fun g59=>⟨(fun _=>wk [1,1,1,1] [2,3,4,5,6,7] rfl rfl), ?_⟩))
 refine dO (fun w m=>m.bs 0 rfl (show _=aE g59 86 (rV g y (zO own q A2 c2) g2 (.slice none 0 0) (.slice A_x own.length c_x))from congrArg (aE _ _) (aW _))) ?_
 refine an (ab rfl)<|bo<|al (ρ' :=[(17,_),(16,_),(48,_),(15,_),(14,_),(13,_),(12,_),(11,_),(10,_),(6,_),(0,_),(1,_),(2,_),(3,_),(4,_)]) ⟨rfl,rfl,rfl,rfl,rfl,rfl,rfl,rfl,rfl,rfl,rfl,rfl,rfl,rfl,rfl,trivial⟩<|ak (X' :=[_,_,_,_,_]) (S' :=[_,_,_,_,_,_,_,_]) (fun _ m=>m)<|ae<|ah<|aj<|hy (fun _=>aa rfl)<|hy (fun m=>yV (aX rfl jv iy rfl ((m.aQ 2 rfl).aw)) ((rfl:_=Value.agg q.p.cs.toArray)))<| ?_
 refine hx (au rfl Tryz.call50 (sj hq rfl (by omega) hcx (q:=q)) [] rfl [2] rfl ?_)
 rintro _ _ _ ⟨A1,c1,crs,rfl,rfl,rfl,hck⟩
 obtain⟨hck,hcn⟩:=hck
 refine aA (fun m=>(show∀r∈crs,ba.n r≤ba.c r from fun r hr=>((m.F3 0 rfl) r hr).2)) fun hcc=> ?_
 have hcr:∀r∈crs,r.n=r.l.length∧r.n≤r.c∧r.l.length≤60:=fun r hr=>⟨hcn r hr,hcc r hr,Nat.le_trans (uj (q:=q) (by rw[←hck];exact List.mem_map_of_mem hr)) ho60⟩
 rw[←hck]
 refine aG (fun w m=>(m.perm (ar [0] _ [_] _ rfl)).freeze) ?_
 refine aG (fun w m=>m.fp 0 rfl .own) ?_
 refine aA (fun m=>gu (m.rd 0 rfl)) ?_
 rintro⟨hl_or,hA_or⟩
 have hD0:DS (lP 20000 gs gl) y.d 0:=by rw[hy1];exact DS.init (by decide)
 refine aA (fun m=>(m.rd 8 rfl).1) fun hln1=> ?_
 have hln1:zl.length=np:=by rw[ints,List.length_map,Nat.mul_one]at hln1;exact hln1
 have hckl:(crs.map ba.l).length=crs.length:=List.length_map ..
 refine hy (fun _=>ab rfl)<|ai<|al (ρ' :=[(18,_),(17,_),(16,_),(48,_),(15,_),(14,_),(13,_),(12,_),(11,_),(10,_),(6,_),(0,_),(1,_),(2,_),(3,_),(4,_)]) ⟨rfl,rfl,rfl,rfl,rfl,rfl,rfl,rfl,rfl,rfl,rfl,rfl,rfl,rfl,rfl,rfl,trivial⟩<|ak (X' :=[_,_,_,_,_]) (S' :=[_,_,_,_,_,_,_,_,_,_,_]) (fun _ m=>m)<|ae<|ah<|ah<|aj<|hy (fun _=>ab rfl)<|ai<|ae<| ?_
 refine C1 (fun(st1:cU) (y1:RX)=>[]) (fun(st1:cU) (y1:RX)=>[aE g59 86 (rV g y1 (zO own q A2 c2) g2 (.slice none 0 0) (.slice A_x own.length c_x)),bP g st1]) (fun(st1:cU) (y1:RX)=>[fN y1]) (fun(st1:cU) (y1:RX)=>y1.d=k9 (crs.map ba.l) zl∧DS st1 y1.d 20) [(18,_),(17,_),(16,_),(48,_),(15,_),(14,_),(13,_),(12,_),(11,_),(10,_),(6,_),(0,_),(1,_),(2,_),(3,_),(4,_)] ⟨rfl,rfl,rfl,rfl,rfl,rfl,rfl,rfl,rfl,rfl,rfl,rfl,rfl,rfl,rfl,rfl,trivial⟩ [0,2] rfl ?_ (fun st1 y1 ⟨hE1,hD1⟩=> ?_)
 ·refine aK<| ?_
  refine fD (fun i st y=>np-i) (fun i st y=>[(19,.int .i64 (i:Nat))]) (fun i st y=>[aE g59 86 (rV g y (zO own q A2 c2) g2 (.slice none 0 0) (.slice A_x own.length c_x)),bP g st]) (fun i st y=>[fN y]) (fun i st y=>i≤np∧i≤5∧(crs.length=0→i=0)∧y.d=tl (crs.map ba.l) (zl.take i) (RD.new 20000)∧DS st y.d (4*i)) 0 (lP 20000 gs gl) y [(18,_),(17,_),(16,_),(48,_),(15,_),(14,_),(13,_),(12,_),(11,_),(10,_),(6,_),(0,_),(1,_),(2,_),(3,_),(4,_)] ⟨rfl,rfl,rfl,rfl,rfl,rfl,rfl,rfl,rfl,rfl,rfl,rfl,rfl,rfl,rfl,rfl,trivial⟩ [0,2] rfl [4] rfl (⟨Nat.zero_le _,Nat.zero_le _,fun _=>rfl,hy1,hD0⟩) ⟨rfl,trivial⟩ (fun i st y ⟨hinp,hi5,hi0,hE,hD⟩=> ?_)
  refine ah<|ah<|aj<|hy (fun _=>aa rfl)<|hy (fun _=>aa rfl)<|hy (fun _=>aT rfl Tryz.underlying44)<|hy (fun _=>bC rfl rfl)<|hy (fun _=>aa rfl)<| ?_
  refine fe 67 rfl (fun ha=> ?_) (fun ha=> ?_)
  ·refine cg (o:=_) rfl rfl rfl (fun _=>aa rfl)<|cg (o:=_) rfl rfl rfl (fun _=>bC rfl rfl)<|hy (fun _=>bM rfl rfl)<|hy (fun _=>aa rfl)<| ?_
   refine fe 71 rfl (fun hb=> ?_) (fun hb=> ?_)
   ·refine cg (o:=_) rfl rfl rfl (fun _=>aa rfl)<|cg (o:=_) rfl rfl rfl (fun _=>aT rfl Tryz.underlying84)<|cg (o:=_) rfl rfl rfl (fun _=>cy rfl rfl)<|hy (fun _=>bM rfl rfl)<|ai<|al (ρ' :=[(75,_),(19,_),(18,_),(17,_),(16,_),(48,_),(15,_),(14,_),(13,_),(12,_),(11,_),(10,_),(6,_),(0,_),(1,_),(2,_),(3,_),(4,_)]) ⟨rfl,rfl,rfl,rfl,rfl,rfl,rfl,rfl,rfl,rfl,rfl,rfl,rfl,rfl,rfl,rfl,rfl,rfl,trivial⟩<|ae<| ?_
    refine cj rfl (fun hc=> ?_) (fun hc=> ?_)
    ·obtain⟨z,hz⟩:∃z,z=zl.getD i 0:=⟨_,rfl⟩
     have hzb:=hzl.at (i:=i) (by omega)
     rw[←hz]at hzb
     have har:=dC z (crs.length:Int) (by omega)
     obtain⟨j,hj⟩:∃j:Nat,ck z (crs.length:Int)=j:=⟨(ck z (crs.length:Int)).toNat,by omega⟩
     obtain⟨r,hr⟩:∃r,crs[j]? =some r:=⟨_,List.getElem?_eq_getElem (by omega)⟩
     obtain⟨hrn,hrc,hrl⟩:=hcr r (List.mem_of_getElem? hr)
     have hDo:y.d.ok (4*i):=⟨st,hD⟩
     have hp32:(aP (y.d.put r.l).2.1).length=32:=by rw[az];exact Bm _ _
     have hgr:(crs.map ba.l).getD (ck z ((crs.map ba.l).length:Int)).toNat []=r.l:=by
      rw[List.length_map,hj,Int.toNat_natCast,List.getD,List.getElem?_map,hr];rfl
     have hsu:=uP (cs:=crs.map ba.l) (zl:=zl) (d:=RD.new 20000) (i:=i) (by omega)
     rw[←hz,hgr,←hE]at hsu
     refine aB<|ae<|ah<|aK<|ah<|aj<|hy (fun _=>aa rfl)<|hy (fun _=>aa rfl)<|hy (fun _=>aa rfl)<|hy (fun _=>aN rfl rfl Tryz.underlying44 ta hA_rl rfl (by omega))<|hy (fun m=>yV (aq rfl dq ((m.rd 9 rfl).cell (sM (by omega)))) ((show Value.int .i64 (zl.getD i 0)= .int .i64 z by rw[hz])))<|hy (fun _=>aa rfl)<|hy (fun _=>aT rfl Tryz.underlying84)<| ?_
     refine hx (au rfl Tryz.call16 (jt hzb.1 hzb.2 (by omega) (n:=z) (m:=(crs.length:Int))) [] rfl [] rfl ?_)
     rintro _ _ _ ⟨rfl,rfl,rfl⟩
     rw[hj]
     refine aG (fun w m=>m.fp 3 rfl (View.row hr)) ?_
     refine aA (fun m=>eb (m.rd 0 rfl)) ?_
     rintro⟨hl_rr1,hA_rr1⟩
     refine hy (fun _=>aN rfl rfl Tryz.underlying84 jk hA_or rfl (by omega))<|hy (fun m=>aq rfl cZ ((m.rd 2 rfl).cell (show(lr crs)[j]? =some (Value.slice r.A r.n r.c) by rw[lr,List.getElem?_map,hr];rfl)))<|hy (fun _=>ab rfl)<|ai<|al (ρ' :=[(20,_),(75,_),(19,_),(18,_),(17,_),(16,_),(48,_),(15,_),(14,_),(13,_),(12,_),(11,_),(10,_),(6,_),(0,_),(1,_),(2,_),(3,_),(4,_)]) ⟨rfl,rfl,rfl,rfl,rfl,rfl,rfl,rfl,rfl,rfl,rfl,rfl,rfl,rfl,rfl,rfl,rfl,rfl,rfl,trivial⟩<|ak (X' :=[_,_,_,_,_]) (S' :=[_,_,_,_,_,_,_,_,_,_,_,_,_]) (fun _ m=>m)<|ae<|ah<|aj<|hy (fun _=>aa rfl)<|hy (fun _=>aM rfl)<|hy (fun _=>aD rfl zz (by decide))<|hy (fun m=>yV (aX rfl cF bX rfl (ED (m.aQ 0 rfl))) ((rfl:_=Value.agg y.cs.toArray)))<|hy (fun _=>aa rfl)<| ?_
     refine hx (au rfl Tryz.call26 (EU hDo (by omega) hrc hrn.symm (by omega)) [] rfl [1,0,12] rfl ?_)
     rintro _ _ _ ⟨y2,rfl,rfl,rfl,hyd2⟩
     refine hy (fun _=>aa rfl)<|hy (fun _=>aH rfl rfl)<|hy (fun _=>aH rfl rfl)<|hy (fun _=>aH rfl rfl)<| ?_
     refine hx (bh tp (fun g21=> ?_))
     refine hx (bh fY (fun g22=> ?_))
     refine cx (a8 1 rfl rfl rfl bX rfl cQ rfl ?_)
     refine cx (a8 1 rfl rfl rfl bZ hp32 bg rfl ?_)
     refine hy (fun _=>ab rfl)<|ai<|al (ρ' :=[(21,_),(20,_),(75,_),(19,_),(18,_),(17,_),(16,_),(48,_),(15,_),(14,_),(13,_),(12,_),(11,_),(10,_),(6,_),(0,_),(1,_),(2,_),(3,_),(4,_)]) ⟨rfl,rfl,rfl,rfl,rfl,rfl,rfl,rfl,rfl,rfl,rfl,rfl,rfl,rfl,rfl,rfl,rfl,rfl,rfl,rfl,trivial⟩<|ak (X' :=[_,_,_,_,_,_,_]) (S' :=[_,_,_,_,_,_,_,_,_,_,_,_,_,_]) (fun _ m=>m)<|ae<|ah<|aj<|hy (fun _=>aa rfl)<|hy (fun m=>yV (aX rfl cF bX rfl ((m.aQ 1 rfl).aw)) ((rfl:_=Value.agg y2.cs.toArray)))<|hy (fun _=>aM rfl)<|hy (fun _=>aD rfl zz (by decide))<| ?_
     refine cx (vC 2 rfl rfl rfl bX rfl cQ (by rw[uW];decide) ?_)
     refine aG (fun w m=>m.bs 0 rfl (show _=aE g59 86 (rV g y2 (zO own q A2 c2) g2 (.slice none 0 0) (.slice A_x own.length c_x))from congrArg (aE _ _) yI)) ?_
     refine ai<|al (ρ' :=[(21,_),(20,_),(75,_),(19,_),(18,_),(17,_),(16,_),(48,_),(15,_),(14,_),(13,_),(12,_),(11,_),(10,_),(6,_),(0,_),(1,_),(2,_),(3,_),(4,_)]) ⟨rfl,rfl,rfl,rfl,rfl,rfl,rfl,rfl,rfl,rfl,rfl,rfl,rfl,rfl,rfl,rfl,rfl,rfl,rfl,rfl,trivial⟩<|ak (X' :=[_,_,_,_,_,_,_]) (S' :=[_,_,_,_,_,_,_,_,_,_,_,_,_,_]) (fun _ m=>m)<|ae<|aj<|hy (fun _=>aa rfl)<|hy (fun _=>aM rfl)<|hy (fun _=>aD rfl uL (by decide))<|hy (fun m=>aq rfl rR (ax (m.aQ 0 rfl) rfl))<|hy (fun _=>aa rfl)<| ?_
     refine hx (au rfl Tryz.call28 (Fo hD (by omega) hrc hrn.symm (by omega)) [3] rfl [1,13] rfl ?_)
     rintro _ _ _ ⟨st1,rfl,rfl,rfl,hD2⟩
     refine ai<|al (ρ' :=[(21,_),(20,_),(75,_),(19,_),(18,_),(17,_),(16,_),(48,_),(15,_),(14,_),(13,_),(12,_),(11,_),(10,_),(6,_),(0,_),(1,_),(2,_),(3,_),(4,_)]) ⟨rfl,rfl,rfl,rfl,rfl,rfl,rfl,rfl,rfl,rfl,rfl,rfl,rfl,rfl,rfl,rfl,rfl,rfl,rfl,rfl,trivial⟩<|ak (X' :=[_,_,_,_,_,_,_]) (S' :=[_,_,_,_,_,_,_,_,_,_,_,_,_,_]) (fun _ m=>m)<|aR<|ae<|aj<|hy (fun _=>aa rfl)<|hy (fun _=>aL rfl rfl (bx (by omega) (by omega)))<|hy (fun _=>ab rfl)<|ai<|al (ρ' :=[(19,_),(21,_),(20,_),(75,_),(18,_),(17,_),(16,_),(48,_),(15,_),(14,_),(13,_),(12,_),(11,_),(10,_),(6,_),(0,_),(1,_),(2,_),(3,_),(4,_)]) ⟨rfl,rfl,rfl,rfl,rfl,rfl,rfl,rfl,rfl,rfl,rfl,rfl,rfl,rfl,rfl,rfl,rfl,rfl,rfl,rfl,trivial⟩<| ?_
     rw[←hyd2]at hD2
     refine fz (i+1) st1 y2 ⟨rfl,rfl,rfl,rfl,rfl,rfl,rfl,rfl,rfl,rfl,rfl,rfl,rfl,rfl,rfl,rfl,rfl,trivial⟩ [1,0,2,2,2] rfl [0,3,4,5,6,7,8,9,10,11,12,13] rfl (⟨by omega,by omega,by omega,by rw[hsu,hyd2],hD2⟩) (by omega)
    ·refine bK<|ao<|ao<|aC<| ?_
     have ai:y.d=k9 (crs.map ba.l) zl:=by
      unfold k9
      by_cases hc0:crs.length=0
      ·have h0:i=0:=hi0 hc0
       rw[if_pos (List.eq_nil_of_length_eq_zero (by rw[hckl];exact hc0)),hE,h0]
       rfl
      ·rw[if_neg (fun e=>hc0 (by rw[←hckl,e];rfl)),hE,ml (l:=zl) (i:=i) (n:=5) (by omega) (by omega) hi5]
     exact rl (R:=fun(st1:cU) (y1:RX)=>[]) (X1:=fun(st1:cU) (y1:RX)=>[aE g59 86 (rV g y1 (zO own q A2 c2) g2 (.slice none 0 0) (.slice A_x own.length c_x)),bP g st1]) (S1:=fun(st1:cU) (y1:RX)=>[fN y1]) (I:=fun(st1:cU) (y1:RX)=>y1.d=k9 (crs.map ba.l) zl∧DS st1 y1.d 20) st y ⟨rfl,rfl,rfl,rfl,rfl,rfl,rfl,rfl,rfl,rfl,rfl,rfl,rfl,rfl,rfl,rfl,trivial⟩ [0,0,0,0,0] rfl [0,1,2,3,4,5,6,7,8,9,10,11] rfl (⟨ai,hD.le (by omega)⟩)
   ·refine a7 rfl rfl rfl (by decide)<|a7 rfl rfl rfl (by decide)<|a7 rfl rfl rfl (by decide)<|hy (fun _=>bn rfl rfl)<|ai<|al (ρ' :=[(75,_),(19,_),(18,_),(17,_),(16,_),(48,_),(15,_),(14,_),(13,_),(12,_),(11,_),(10,_),(6,_),(0,_),(1,_),(2,_),(3,_),(4,_)]) ⟨rfl,rfl,rfl,rfl,rfl,rfl,rfl,rfl,rfl,rfl,rfl,rfl,rfl,rfl,rfl,rfl,rfl,rfl,trivial⟩<|ae<| ?_
    refine dj rfl (rfl) ?_
    refine bK<|ao<|ao<|aC<| ?_
    have ai:y.d=k9 (crs.map ba.l) zl:=by
     unfold k9
     by_cases hc0:crs.length=0
     ·have h0:i=0:=hi0 hc0
      rw[if_pos (List.eq_nil_of_length_eq_zero (by rw[hckl];exact hc0)),hE,h0]
      rfl
     ·rw[if_neg (fun e=>hc0 (by rw[←hckl,e];rfl)),hE,ml (l:=zl) (i:=i) (n:=5) (by omega) (by omega) hi5]
    exact rl (R:=fun(st1:cU) (y1:RX)=>[]) (X1:=fun(st1:cU) (y1:RX)=>[aE g59 86 (rV g y1 (zO own q A2 c2) g2 (.slice none 0 0) (.slice A_x own.length c_x)),bP g st1]) (S1:=fun(st1:cU) (y1:RX)=>[fN y1]) (I:=fun(st1:cU) (y1:RX)=>y1.d=k9 (crs.map ba.l) zl∧DS st1 y1.d 20) st y ⟨rfl,rfl,rfl,rfl,rfl,rfl,rfl,rfl,rfl,rfl,rfl,rfl,rfl,rfl,rfl,rfl,trivial⟩ [0,0,0,0,0] rfl [0,1,2,3,4,5,6,7,8,9,10,11] rfl (⟨ai,hD.le (by omega)⟩)
  ·refine a7 rfl rfl rfl (by decide)<|a7 rfl rfl rfl (by decide)<|hy (fun _=>bn rfl rfl)<|hy (fun _=>aa rfl)<|a7 rfl rfl rfl (by decide)<|a7 rfl rfl rfl (by decide)<|a7 rfl rfl rfl (by decide)<|hy (fun _=>bn rfl rfl)<|ai<|al (ρ' :=[(75,_),(19,_),(18,_),(17,_),(16,_),(48,_),(15,_),(14,_),(13,_),(12,_),(11,_),(10,_),(6,_),(0,_),(1,_),(2,_),(3,_),(4,_)]) ⟨rfl,rfl,rfl,rfl,rfl,rfl,rfl,rfl,rfl,rfl,rfl,rfl,rfl,rfl,rfl,rfl,rfl,rfl,trivial⟩<|ae<| ?_
   refine dj rfl (rfl) ?_
   refine bK<|ao<|ao<|aC<| ?_
   have ai:y.d=k9 (crs.map ba.l) zl:=by
    unfold k9
    by_cases hc0:crs.length=0
    ·have h0:i=0:=hi0 hc0
     rw[if_pos (List.eq_nil_of_length_eq_zero (by rw[hckl];exact hc0)),hE,h0]
     rfl
    ·rw[if_neg (fun e=>hc0 (by rw[←hckl,e];rfl)),hE,ml (l:=zl) (i:=i) (n:=5) (by omega) (by omega) hi5]
   exact rl (R:=fun(st1:cU) (y1:RX)=>[]) (X1:=fun(st1:cU) (y1:RX)=>[aE g59 86 (rV g y1 (zO own q A2 c2) g2 (.slice none 0 0) (.slice A_x own.length c_x)),bP g st1]) (S1:=fun(st1:cU) (y1:RX)=>[fN y1]) (I:=fun(st1:cU) (y1:RX)=>y1.d=k9 (crs.map ba.l) zl∧DS st1 y1.d 20) st y ⟨rfl,rfl,rfl,rfl,rfl,rfl,rfl,rfl,rfl,rfl,rfl,rfl,rfl,rfl,rfl,rfl,trivial⟩ [0,0,0,0,0] rfl [0,1,2,3,4,5,6,7,8,9,10,11] rfl (⟨ai,hD.le (by omega)⟩)
 ·have har:=dC fr ((own.length:Int)+1) (by omega)
  obtain⟨k,hk⟩:∃k:Nat,ck fr ((own.length:Int)+1)=k:=⟨(ck fr ((own.length:Int)+1)).toNat,by omega⟩
  have htexts:oq img fr ot=[own.drop k,ot.take 30]:=by
   unfold oq
   rw[←hown,show(((own.length+1:Nat)):Int)=(own.length:Int)+1 from rfl,hk,Int.toNat_natCast]
  refine ae<|ah<|cu [6,9,10,13] [(0,some 3),(1,some 2),(2,some 0),(3,some 3),(4,some 0),(5,some 0),(8,some 1),(6,none),(7,some 2),(9,none),(10,none),(11,some 3),(12,some 3),(13,none)] (by kernel_rfl) (by kernel_rfl) rfl 3<|an (aa rfl)<|an (aa rfl)<|an (aa rfl)<|an (aa rfl)<|an (aT rfl Tryz.underlying27)<|an (aL rfl rfl (bx (by omega) (by omega)))<|an (aa rfl)<| ?_
  refine di (au rfl Tryz.call16 (jt hfr.1 hfr.2 (by omega) (n:=fr) (m:=((own.length:Int)+1))) [] rfl [] rfl ?_)
  rintro _ _ _ ⟨rfl,rfl,rfl⟩
  refine⟨(fun _=>wk [0,0,0,0,0] [0,1,2,3,4,5,6,7,8,9,10,11] rfl rfl), ?_⟩
  rw[hk]
  refine an (dV rfl rfl Tryz.underlying27 dB rfl (by omega))<| ?_
  refine di (au rfl Tryz.call32 (Fq hoc hon (m:=30)) [] rfl [10] rfl ?_)
  rintro _ _ _ ⟨v2,rfl,rfl,rfl⟩
  refine⟨(fun _=>wk [1,1,1,1,1] [0,1,2,3,4,5,6,7,8,9,10,11] rfl rfl), ?_⟩
  refine b4 (fun m=>(m.own 0 rfl).slice) ?_
  rintro⟨A_x2,c_x2,rfl,hc_x2⟩
  refine b4 (fun m=>(m.ord 0 rfl).2.1) fun hA_x2=> ?_
  refine di (bT Tryz.underlying84 jW rfl rfl rfl (by simp[Value.cells,B8]) (by decide) (by decide) (fun g118=>⟨(fun _=>wk [2,2,2,2,2] [0,1,2,3,4,5,6,7,8,9,10,11] rfl rfl), ?_⟩))
  have hA_b118:0<2→(some (⟨g118,0,none⟩:Addr))≠none:=fun _ h=>by cases h
  obtain⟨r0,hr0⟩:∃r:ba,r=⟨if c_x=k then A_x else A_x.map (·.add (k*1)),own.length-k,c_x-k,own.drop k⟩:=⟨_,rfl⟩
  obtain⟨r1,hr1⟩:∃r:ba,r=⟨A_x2,min no 30,c_x2,ot.take 30⟩:=⟨_,rfl⟩
  refine dO (fun w m=>m.bs 0 rfl (show _=aF 27 1 (.slice (some ⟨g118,0,none⟩) 2 2) 2 (lr [r0,r1])from(by rw[hr0,hr1];rfl))) ?_
  refine an (aM rfl)<|an (aD rfl uI (by decide))<| ?_
  refine fS (bU 2 rfl rfl rfl EW rfl (by(rw[uW];try dsimp only);omega) ⟨(fun h=>absurd h (by decide)), ?_⟩)
  refine bo<|al (ρ' :=[(18,_),(17,_),(16,_),(48,_),(15,_),(14,_),(13,_),(12,_),(11,_),(10,_),(6,_),(0,_),(1,_),(2,_),(3,_),(4,_)]) ⟨rfl,rfl,rfl,rfl,rfl,rfl,rfl,rfl,rfl,rfl,rfl,rfl,rfl,rfl,rfl,rfl,trivial⟩<|ak (X' :=[_,_,_,_,_,_,_]) (S' :=[_,_,_,_,_,_,_,_,_,_,_,_]) (fun _ m=>m)<|ae<|ah<| ?_
  refine bd (fun w m=>m.bs 0 rfl (show _=aE g59 86 (rV g y1 (zO own q A2 c2) g2 (.slice (some ⟨g118,0,none⟩) 2 2) (.slice A_x own.length c_x))from congrArg (aE _ _) xF)) ?_
  refine bd (fun w m=>(m.perm (ar [1] _ [_] _ rfl)).freeze) ?_
  refine bd (fun w m=>m.fp 0 rfl .own) ?_
  refine aU (fun m=>gu (m.rd 0 rfl)) ?_
  rintro⟨hl_b118r,hA_b118r⟩
  refine bd (fun w m=>(m.perm (ar [1] _ [_] _ rfl)).freeze) ?_
  refine bd (fun w m=>m.fp 0 rfl .own) ?_
  refine bd (fun w m=>m.fp 10 rfl (View.drop (k:=k) hcx (by omega))) ?_
  refine aU (fun m=>eb (m.rd 0 rfl)) ?_
  rintro⟨hl_v0,hA_v0⟩
  refine bd (S' :=fw []::_) (fun w m=>m.o6 [] rfl) ?_
  refine bd (fun w m=>m.fp 0 rfl View.zS) ?_
  refine bd (S' :=fw [dw [],cn 1 (if c_x=k then A_x else A_x.map (·.add (k*1))) (own.length-k) (aP (own.drop k))]::_) (fun w m=>m.o6 [0,2] rfl) ?_
  refine bd (fun w m=>m.fp 0 rfl (View.jM (rs:=[]) (r:=⟨if c_x=k then A_x else A_x.map (·.add (k*1)),own.length-k,c_x-k,own.drop k⟩) (by show own.length-k≤c_x-k;omega))) ?_
  refine bd (S' :=fw [dw [⟨if c_x=k then A_x else A_x.map (·.add (k*1)),own.length-k,c_x-k,own.drop k⟩],cn 1 A_x2 (min no 30) (aP (ot.take 30))]::_) (fun w m=>m.o6 [0,5] rfl) ?_
  refine bd (fun w m=>m.fp 0 rfl (View.jM (rs:=[⟨if c_x=k then A_x else A_x.map (·.add (k*1)),own.length-k,c_x-k,own.drop k⟩]) (r:=⟨A_x2,min no 30,c_x2,ot.take 30⟩) (by show min no 30≤c_x2;omega))) ?_
  refine aj<|hy (fun _=>aa rfl)<|hy (fun _=>aa rfl)<|hy (fun _=>aM rfl)<|hy (fun _=>aD rfl uI (by decide))<|hy (fun m=>aq rfl BN ((m.aQ 0 rfl).aw 43 _ (lB (j:=1))))<|hy (fun _=>aN rfl rfl Tryz.underlying84 jk hA_b118r (show((0:Nat):Int)=0 from rfl) (by omega))<|hy (fun m=>aq rfl cZ ((m.rd 9 rfl).cell (show(lr [r0,r1])[0]? =some (Value.slice (if c_x=k then A_x else A_x.map (·.add (k*1))) (own.length-k) (c_x-k)) by rw[hr0];rfl)))<| ?_
  refine hx (au rfl Tryz.call128 (s5 hq (iE.nil q) (by rw[List.length_drop]) (by omega) (by simp) (tx:=(own.drop k))) [2] rfl [6,22] rfl ?_)
  rintro _ _ _ ⟨A3,c3,rA,l1,rfl,rfl,rfl,hs1⟩
  obtain⟨hsA,hlA⟩:=hs1
  refine ai<|al (ρ' :=[(18,_),(17,_),(16,_),(48,_),(15,_),(14,_),(13,_),(12,_),(11,_),(10,_),(6,_),(0,_),(1,_),(2,_),(3,_),(4,_)]) ⟨rfl,rfl,rfl,rfl,rfl,rfl,rfl,rfl,rfl,rfl,rfl,rfl,rfl,rfl,rfl,rfl,trivial⟩<|ak (X' :=[_,_,_,_,_]) (S' :=[_,_,_,_,_,_,_,_,_,_,_,_,_,_,_,_,_,_,_,_,_,_,_]) (fun _ m=>m)<|ae<|ah<|aj<|hy (fun _=>aa rfl)<|hy (fun _=>aa rfl)<|hy (fun _=>aM rfl)<|hy (fun _=>aD rfl uI (by decide))<|hy (fun m=>aq rfl BN ((m.aQ 1 rfl).aw 43 _ (lB (j:=1))))<|hy (fun _=>aN rfl rfl Tryz.underlying84 jk hA_b118r (show((1:Nat):Int)=1 from rfl) (by omega))<|hy (fun m=>aq rfl cZ ((m.rd 9 rfl).cell (show(lr [r0,r1])[1]? =some (Value.slice A_x2 (min no 30) c_x2) by rw[hr1];rfl)))<| ?_
  refine hx (au rfl Tryz.call128 (s5 hq hsA (by rw[List.length_take,hl_rt,Nat.min_comm]) (by omega) (by simp) (tx:=(ot.take 30))) [0] rfl [7,22] rfl ?_)
  rintro _ _ _ ⟨A4,c4,rB,l2,rfl,rfl,rfl,hs2⟩
  refine ai<|al (ρ' :=[(18,_),(17,_),(16,_),(48,_),(15,_),(14,_),(13,_),(12,_),(11,_),(10,_),(6,_),(0,_),(1,_),(2,_),(3,_),(4,_)]) ⟨rfl,rfl,rfl,rfl,rfl,rfl,rfl,rfl,rfl,rfl,rfl,rfl,rfl,rfl,rfl,rfl,trivial⟩<|ak (X' :=[_,_,_,_,_]) (S' :=[_,_,_,_,_,_,_,_,_,_,_,_,_,_,_,_,_,_,_,_,_,_,_]) (fun _ m=>m)<|ae<|ah<|aj<|hy (fun _=>aa rfl)<|hy (fun _=>ab rfl)<|ai<|al (ρ' :=[(10,_),(18,_),(17,_),(16,_),(48,_),(15,_),(14,_),(13,_),(12,_),(11,_),(6,_),(0,_),(1,_),(2,_),(3,_),(4,_)]) ⟨rfl,rfl,rfl,rfl,rfl,rfl,rfl,rfl,rfl,rfl,rfl,rfl,rfl,rfl,rfl,rfl,trivial⟩<|ae<|aS<| ?_
  obtain⟨hsB,hlB⟩:=hs2
  have hok0:r0.n=r0.l.length∧r0.n≤r0.c∧r0.n≤100000:=by
   rw[hr0]
   exact⟨by show own.length-k=(own.drop k).length;rw[List.length_drop],by show own.length-k≤c_x-k;omega,by show own.length-k≤100000;omega⟩
  have hok1:r1.n=r1.l.length∧r1.n≤r1.c∧r1.n≤100000:=by
   rw[hr1]
   exact⟨by show min no 30=(ot.take 30).length;rw[List.length_take,hl_rt,Nat.min_comm],by show min no 30≤c_x2;omega,by show min no 30≤100000;omega⟩
  have hl0:r0.l=own.drop k:=by rw[hr0]
  have hl1:r1.l=ot.take 30:=by rw[hr1]
  rw[htexts]
  rw[←hr0,←hr1]
  have hoks:∀r∈ [r0,r1],r.n=r.l.length∧r.n≤r.c∧r.n≤100000:=fun r hr=>by
   rcases List.mem_cons.1 hr with rfl|hr
   ·exact hok0
   ·rw[List.mem_singleton.1 hr];exact hok1
  exact a6 trivial rfl rfl [1,1,0] rfl [11,15,9,0,17] rfl ⟨g59,g,st1,y1,g2,gm,A4,c4,([]++[rA]++[rB]),l2,A2,c2,some ⟨g118,0,none⟩,[r0,r1],A_x,c_x,rfl,rfl,rfl,⟨hE1,hD1,hsB,by simp[hlA,hlB,hl0,hl1],by simp[hl0,hl1],rfl,hoks,hcx⟩⟩
end Go.Proofs.YtmibdabdlgmafaaGreatDoor
end
section
set_option maxRecDepth 100000
namespace Go.Hx
def GK:List UInt32:=[2054848512,0,0,0,0,0,0,0,0,0,0,0,0,0,0,16,2054848512,655360,270445778,1073742468,2214022567,16951296,1330105446,2071642123,532037560,1211676980,405595174,3483758812,4019481642,2509104064,1462406960,489633397,1495300361,2738993129,328826285,2831584293,1427066711,643395021,1684437551,1813612341,85832476,3312818198,222100383,4145366621,3826746586,3478384474,437666230,3029790180,2991995450,1663170194,3798308262,3393185983,1656179136,381296077,1834242528,3224949950,1580794161,439224757,1824648827,1748212868,492697611,4186724706,2178264625,2819880860]
def G8:List (List UInt32):=[[1988298829,1779033703,3144134277,1013904242,323117730,1359893119,2600822924,528734635],[888048463,1988298829,1779033703,3144134277,3815738539,323117730,1359893119,2600822924],[2503672134,888048463,1988298829,1779033703,2896686088,3815738539,323117730,1359893119],[1453803797,2503672134,888048463,1988298829,1216787024,2896686088,3815738539,323117730],[3587256143,1453803797,2503672134,888048463,3078487088,1216787024,2896686088,3815738539],[3783733788,3587256143,1453803797,2503672134,1963645463,3078487088,1216787024,2896686088],[2694956762,3783733788,3587256143,1453803797,2886134219,1963645463,3078487088,1216787024],[993505436,2694956762,3783733788,3587256143,2524427545,2886134219,1963645463,3078487088],[1776035538,993505436,2694956762,3783733788,1226268175,2524427545,2886134219,1963645463],[2839353572,1776035538,993505436,2694956762,2224002356,1226268175,2524427545,2886134219],[1480501187,2839353572,1776035538,993505436,3063521364,2224002356,1226268175,2524427545],[1232551184,1480501187,2839353572,1776035538,149447045,3063521364,2224002356,1226268175],[8581469,1232551184,1480501187,2839353572,4210300055,149447045,3063521364,2224002356],[3535482551,8581469,1232551184,1480501187,1924384264,4210300055,149447045,3063521364],[888350764,3535482551,8581469,1232551184,3738440092,1924384264,4210300055,149447045],[4191002941,888350764,3535482551,8581469,2979256527,3738440092,1924384264,4210300055],[1302964646,4191002941,888350764,3535482551,471408897,2979256527,3738440092,1924384264],[1425853591,1302964646,4191002941,888350764,818918416,471408897,2979256527,3738440092],[3583141768,1425853591,1302964646,4191002941,1776295021,818918416,471408897,2979256527],[2834514066,3583141768,1425853591,1302964646,206298658,1776295021,818918416,471408897],[2835066875,2834514066,3583141768,1425853591,3188144114,206298658,1776295021,818918416],[632147561,2835066875,2834514066,3583141768,1448800486,3188144114,206298658,1776295021],[316632740,632147561,2835066875,2834514066,2992245967,1448800486,3188144114,206298658],[3565579178,316632740,632147561,2835066875,1347149882,2992245967,1448800486,3188144114],[1589254609,3565579178,316632740,632147561,21808537,1347149882,2992245967,1448800486],[843690353,1589254609,3565579178,316632740,2417352028,21808537,1347149882,2992245967],[3330174534,843690353,1589254609,3565579178,2700437537,2417352028,21808537,1347149882],[3908560670,3330174534,843690353,1589254609,754148860,2700437537,2417352028,21808537],[3742535924,3908560670,3330174534,843690353,4260756884,754148860,2700437537,2417352028],[208392570,3742535924,3908560670,3330174534,1981615296,4260756884,754148860,2700437537],[2268459190,208392570,3742535924,3908560670,3652259405,1981615296,4260756884,754148860],[2079066416,2268459190,208392570,3742535924,3790897082,3652259405,1981615296,4260756884],[875868000,2079066416,2268459190,208392570,477975135,3790897082,3652259405,1981615296],[4002368837,875868000,2079066416,2268459190,521497314,477975135,3790897082,3652259405],[1096602954,4002368837,875868000,2079066416,489490447,521497314,477975135,3790897082],[1405644100,1096602954,4002368837,875868000,575115907,489490447,521497314,477975135],[369260087,1405644100,1096602954,4002368837,2802140150,575115907,489490447,521497314],[3994575861,369260087,1405644100,1096602954,192825902,2802140150,575115907,489490447],[3302278898,3994575861,369260087,1405644100,2860676417,192825902,2802140150,575115907],[3142174017,3302278898,3994575861,369260087,1934159749,2860676417,192825902,2802140150],[206652124,3142174017,3302278898,3994575861,3492823855,1934159749,2860676417,192825902],[2474449308,206652124,3142174017,3302278898,2755949749,3492823855,1934159749,2860676417],[1726643361,2474449308,206652124,3142174017,1946702325,2755949749,3492823855,1934159749],[3775773623,1726643361,2474449308,206652124,2157640316,1946702325,2755949749,3492823855],[2442542790,3775773623,1726643361,2474449308,2808581865,2157640316,1946702325,2755949749],[3470959541,2442542790,3775773623,1726643361,1982293348,2808581865,2157640316,1946702325],[4260370276,3470959541,2442542790,3775773623,3199979403,1982293348,2808581865,2157640316],[560430426,4260370276,3470959541,2442542790,3766257535,3199979403,1982293348,2808581865],[1161603101,560430426,4260370276,3470959541,3916624519,3766257535,3199979403,1982293348],[756396479,1161603101,560430426,4260370276,3011420450,3916624519,3766257535,3199979403],[4049090682,756396479,1161603101,560430426,3113721417,3011420450,3916624519,3766257535],[2038398248,4049090682,756396479,1161603101,376034089,3113721417,3011420450,3916624519],[2956388496,2038398248,4049090682,756396479,1898816031,376034089,3113721417,3011420450],[4285633937,2956388496,2038398248,4049090682,2279495109,1898816031,376034089,3113721417],[3820581800,4285633937,2956388496,2038398248,3331577213,2279495109,1898816031,376034089],[997295916,3820581800,4285633937,2956388496,2169974805,3331577213,2279495109,1898816031],[3067190091,997295916,3820581800,4285633937,2046157193,2169974805,3331577213,2279495109],[3048715921,3067190091,997295916,3820581800,2410855029,2046157193,2169974805,3331577213],[3272704094,3048715921,3067190091,997295916,3885979182,2410855029,2046157193,2169974805],[1945285113,3272704094,3048715921,3067190091,60793651,3885979182,2410855029,2046157193],[724963306,1945285113,3272704094,3048715921,3563267128,60793651,3885979182,2410855029],[937297014,724963306,1945285113,3272704094,1556071975,3563267128,60793651,3885979182],[2421831168,937297014,724963306,1945285113,1226688818,1556071975,3563267128,60793651],[3763788054,2421831168,937297014,724963306,606173085,1226688818,1556071975,3563267128]]
def Gm:List UInt8:=[74,96,191,125,75,193,228,133,116,76,247,232,208,134,5,36,117,47,202,28,228,35,49,190,124,67,159,210,48,67,241,81]
theorem y9:bp [122,122]=Gm:=(qW (m:=[122,122,128,0,0,0,0,0,0,0,0,0,0,0,0,0,0,0,0,0,0,0,0,0,0,0,0,0,0,0,0,0,0,0,0,0,0,0,0,0,0,0,0,0,0,0,0,0,0,0,0,0,0,0,0,0,0,0,0,0,0,0,0,16]) (w:=GK) (t:=G8) (by decide+kernel) rfl rfl rfl (by decide+kernel) (by decide+kernel)).trans (by decide+kernel)
def FQ:List UInt32:=[1633772160,0,0,0,0,0,0,0,0,0,0,0,0,0,0,24,1633772160,983040,2634572996,1610613702,1054711612,25426944,2088120298,3806446222,3525733438,1983281696,1538014866,824661887,2584840620,3184682828,145562809,2782273773,3311626407,3014102398,668440457,1236728612,891273620,4255289291,2893836319,3143125713,211285158,3935344578,3619783650,3884440052,2692719170,3061227957,823166091,3292487821,186174800,3676732107,2379011416,3136145349,125334337,3233317804,1328489748,3366404324,460414623,2154383420,445434772,4128881331,868591611,557500486,1005762625,2935325738]
def EK:List (List UInt32):=[[1567222477,1779033703,3144134277,1013904242,4197008674,1359893119,2600822924,528734635],[1055034233,1567222477,1779033703,3144134277,1498147741,4197008674,1359893119,2600822924],[1758861786,1055034233,1567222477,1779033703,125250753,1498147741,4197008674,1359893119],[3844022234,1758861786,1055034233,1567222477,3318010115,125250753,1498147741,4197008674],[3332111562,3844022234,1758861786,1055034233,2067810083,3318010115,125250753,1498147741],[3740884683,3332111562,3844022234,1758861786,20507507,2067810083,3318010115,125250753],[1220767109,3740884683,3332111562,3844022234,107125138,20507507,2067810083,3318010115],[933204837,1220767109,3740884683,3332111562,439791131,107125138,20507507,2067810083],[305035725,933204837,1220767109,3740884683,3513469399,439791131,107125138,20507507],[1066270522,305035725,933204837,1220767109,3639847160,3513469399,439791131,107125138],[4228268457,1066270522,305035725,933204837,3412805730,3639847160,3513469399,439791131],[600733777,4228268457,1066270522,305035725,2987833957,3412805730,3639847160,3513469399],[3545897291,600733777,4228268457,1066270522,4066268407,2987833957,3412805730,3639847160],[3445770707,3545897291,600733777,4228268457,3266624501,4066268407,2987833957,3412805730],[1165553213,3445770707,3545897291,600733777,1230184512,3266624501,4066268407,2987833957],[2400360033,1165553213,3445770707,3545897291,710533114,1230184512,3266624501,4066268407],[2757246063,2400360033,1165553213,3445770707,263072793,710533114,1230184512,3266624501],[483894141,2757246063,2400360033,1165553213,4198931352,263072793,710533114,1230184512],[3264986754,483894141,2757246063,2400360033,2037447745,4198931352,263072793,710533114],[303077852,3264986754,483894141,2757246063,4059857239,2037447745,4198931352,263072793],[502823825,303077852,3264986754,483894141,666449257,4059857239,2037447745,4198931352],[571080131,502823825,303077852,3264986754,2989502560,666449257,4059857239,2037447745],[1625332644,571080131,502823825,303077852,267844766,2989502560,666449257,4059857239],[3874493497,1625332644,571080131,502823825,2426536486,267844766,2989502560,666449257],[3211142389,3874493497,1625332644,571080131,1650077136,2426536486,267844766,2989502560],[1822082660,3211142389,3874493497,1625332644,3604810369,1650077136,2426536486,267844766],[3390284912,1822082660,3211142389,3874493497,4175820450,3604810369,1650077136,2426536486],[3471826545,3390284912,1822082660,3211142389,1748620173,4175820450,3604810369,1650077136],[687723256,3471826545,3390284912,1822082660,3665553828,1748620173,4175820450,3604810369],[2731603891,687723256,3471826545,3390284912,3652588468,3665553828,1748620173,4175820450],[1099115018,2731603891,687723256,3471826545,1235292585,3652588468,3665553828,1748620173],[740843164,1099115018,2731603891,687723256,229333686,1235292585,3652588468,3665553828],[2075604582,740843164,1099115018,2731603891,631473263,229333686,1235292585,3652588468],[1148627423,2075604582,740843164,1099115018,2359089590,631473263,229333686,1235292585],[407832768,1148627423,2075604582,740843164,2824535833,2359089590,631473263,229333686],[3051835849,407832768,1148627423,2075604582,224954230,2824535833,2359089590,631473263],[1581036634,3051835849,407832768,1148627423,1192854360,224954230,2824535833,2359089590],[415589118,1581036634,3051835849,407832768,2034255498,1192854360,224954230,2824535833],[360447969,415589118,1581036634,3051835849,2358980816,2034255498,1192854360,224954230],[773251491,360447969,415589118,1581036634,1909877760,2358980816,2034255498,1192854360],[594874040,773251491,360447969,415589118,3359611592,1909877760,2358980816,2034255498],[2266280655,594874040,773251491,360447969,3476778401,3359611592,1909877760,2358980816],[451014547,2266280655,594874040,773251491,3822527167,3476778401,3359611592,1909877760],[1895651634,451014547,2266280655,594874040,1577036730,3822527167,3476778401,3359611592],[332479563,1895651634,451014547,2266280655,2206742283,1577036730,3822527167,3476778401],[1054836794,332479563,1895651634,451014547,1352974370,2206742283,1577036730,3822527167],[3646796636,1054836794,332479563,1895651634,287018668,1352974370,2206742283,1577036730],[2743469782,3646796636,1054836794,332479563,505991759,287018668,1352974370,2206742283],[2633224930,2743469782,3646796636,1054836794,1855309252,505991759,287018668,1352974370],[3860727076,2633224930,2743469782,3646796636,2344771891,1855309252,505991759,287018668],[4254252976,3860727076,2633224930,2743469782,3349563909,2344771891,1855309252,505991759],[3264127931,4254252976,3860727076,2633224930,3781464674,3349563909,2344771891,1855309252],[2935174069,3264127931,4254252976,3860727076,2371160918,3781464674,3349563909,2344771891],[588073142,2935174069,3264127931,4254252976,3753454682,2371160918,3781464674,3349563909],[4149922135,588073142,2935174069,3264127931,1510855301,3753454682,2371160918,3781464674],[3093635581,4149922135,588073142,2935174069,4148962467,1510855301,3753454682,2371160918],[3733276247,3093635581,4149922135,588073142,3837243998,4148962467,1510855301,3753454682],[280484849,3733276247,3093635581,4149922135,1702422667,3837243998,4148962467,1510855301],[1301593689,280484849,3733276247,3093635581,1736412347,1702422667,3837243998,4148962467],[1967713523,1301593689,280484849,3733276247,3720481434,1736412347,1702422667,3837243998],[3606092690,1967713523,1301593689,280484849,3328607818,3720481434,1736412347,1702422667],[3799463215,3606092690,1967713523,1301593689,4061755410,3328607818,3720481434,1736412347],[4211030625,3799463215,3606092690,1967713523,3303856524,4061755410,3328607818,3720481434],[3463194692,4211030625,3799463215,3606092690,4284758922,3303856524,4061755410,3328607818]]
def ET:List UInt8:=[56,118,14,171,182,102,232,230,30,230,40,161,124,64,144,204,80,114,142,9,95,242,66,24,17,157,81,189,34,71,83,99]
theorem Ai:bp [97,97,98]=ET:=(qW (m:=[97,97,98,128,0,0,0,0,0,0,0,0,0,0,0,0,0,0,0,0,0,0,0,0,0,0,0,0,0,0,0,0,0,0,0,0,0,0,0,0,0,0,0,0,0,0,0,0,0,0,0,0,0,0,0,0,0,0,0,0,0,0,0,24]) (w:=FQ) (t:=EK) (by decide+kernel) rfl rfl rfl (by decide+kernel) (by decide+kernel)).trans (by decide+kernel)
def Gi:List UInt32:=[1650622464,0,0,0,0,0,0,0,0,0,0,0,0,0,0,16,1650622464,655360,270050781,1073742468,1179724838,16951296,3011936185,1667416075,4027649580,1211411274,3874481357,120556636,264870995,3945449546,2164708487,3652222486,3683381346,2840470196,2641696470,876562213,87360721,3363725241,1523790501,661762801,1337217553,1392281669,444939906,2727719024,1266786748,1579160283,3061099938,1466235909,3869735878,2693605697,802400516,2499427292,40879100,1726646860,1440081435,1652352204,3808980258,3128721053,2207850535,1866567534,544381429,587330707,2013314720,1328068330]
def G4:List (List UInt32):=[[1584072781,1779033703,3144134277,1013904242,4213858978,1359893119,2600822924,528734635],[1619638428,1584072781,1779033703,3144134277,1757149591,4213858978,1359893119,2600822924],[1624555175,1619638428,1584072781,1779033703,3088034039,1757149591,4213858978,1359893119],[1316080225,1624555175,1619638428,1584072781,3619505068,3088034039,1757149591,4213858978],[763883861,1316080225,1624555175,1619638428,1667349198,3619505068,3088034039,1757149591],[3109837683,763883861,1316080225,1624555175,3473036494,1667349198,3619505068,3088034039],[869842003,3109837683,763883861,1316080225,581995694,3473036494,1667349198,3619505068],[3248460530,869842003,3109837683,763883861,2308269794,581995694,3473036494,1667349198],[710299200,3248460530,869842003,3109837683,1279754716,2308269794,581995694,3473036494],[3141506399,710299200,3248460530,869842003,789549301,1279754716,2308269794,581995694],[2261939969,3141506399,710299200,3248460530,1428445883,789549301,1279754716,2308269794],[1320674158,2261939969,3141506399,710299200,3583799767,1428445883,789549301,1279754716],[3484157267,1320674158,2261939969,3141506399,335030246,3583799767,1428445883,789549301],[3594503089,3484157267,1320674158,2261939969,1500036803,335030246,3583799767,1428445883],[1310589237,3594503089,3484157267,1320674158,1864445561,1500036803,335030246,3583799767],[2610828803,1310589237,3594503089,3484157267,4193178299,1864445561,1500036803,335030246],[550073819,2610828803,1310589237,3594503089,3820232927,4193178299,1864445561,1500036803],[1125329867,550073819,2610828803,1310589237,3413680811,3820232927,4193178299,1864445561],[2391077476,1125329867,550073819,2610828803,383106151,3413680811,3820232927,4193178299],[1638016482,2391077476,1125329867,550073819,1467084182,383106151,3413680811,3820232927],[3440917524,1638016482,2391077476,1125329867,1785954334,1467084182,383106151,3413680811],[840598629,3440917524,1638016482,2391077476,4103947996,1785954334,1467084182,383106151],[3628523852,840598629,3440917524,1638016482,4294117959,4103947996,1785954334,1467084182],[3572611031,3628523852,840598629,3440917524,914813040,4294117959,4103947996,1785954334],[3568505820,3572611031,3628523852,840598629,1142625664,914813040,4294117959,4103947996],[2649802761,3568505820,3572611031,3628523852,2475853397,1142625664,914813040,4294117959],[3384683852,2649802761,3568505820,3572611031,3909254856,2475853397,1142625664,914813040],[2082492515,3384683852,2649802761,3568505820,3533900138,3909254856,2475853397,1142625664],[1852734083,2082492515,3384683852,2649802761,2283719980,3533900138,3909254856,2475853397],[1893229348,1852734083,2082492515,3384683852,3962557056,2283719980,3533900138,3909254856],[816348348,1893229348,1852734083,2082492515,426059804,3962557056,2283719980,3533900138],[3276869986,816348348,1893229348,1852734083,2253356147,426059804,3962557056,2283719980],[1275037569,3276869986,816348348,1893229348,3389897475,2253356147,426059804,3962557056],[2507675164,1275037569,3276869986,816348348,829139053,3389897475,2253356147,426059804],[3492303199,2507675164,1275037569,3276869986,3346324233,829139053,3389897475,2253356147],[3299029820,3492303199,2507675164,1275037569,3603579692,3346324233,829139053,3389897475],[3350835840,3299029820,3492303199,2507675164,462359585,3603579692,3346324233,829139053],[384157940,3350835840,3299029820,3492303199,2761054593,462359585,3603579692,3346324233],[305841412,384157940,3350835840,3299029820,1183272551,2761054593,462359585,3603579692],[2667731577,305841412,384157940,3350835840,2234621010,1183272551,2761054593,462359585],[1587097338,2667731577,305841412,384157940,1389006870,2234621010,1183272551,2761054593],[2237809476,1587097338,2667731577,305841412,4183713715,1389006870,2234621010,1183272551],[1608593575,2237809476,1587097338,2667731577,547881309,4183713715,1389006870,2234621010],[2726665298,1608593575,2237809476,1587097338,195470726,547881309,4183713715,1389006870],[3233469535,2726665298,1608593575,2237809476,992852321,195470726,547881309,4183713715],[4093045175,3233469535,2726665298,1608593575,4248160481,992852321,195470726,547881309],[1436379579,4093045175,3233469535,2726665298,1742914550,4248160481,992852321,195470726],[95472850,1436379579,4093045175,3233469535,3915146130,1742914550,4248160481,992852321],[3274282493,95472850,1436379579,4093045175,157297157,3915146130,1742914550,4248160481],[3481028991,3274282493,95472850,1436379579,71686652,157297157,3915146130,1742914550],[2786186409,3481028991,3274282493,95472850,3950107109,71686652,157297157,3915146130],[438004969,2786186409,3481028991,3274282493,3438706818,3950107109,71686652,157297157],[1209980630,438004969,2786186409,3481028991,816935009,3438706818,3950107109,71686652],[3227581657,1209980630,438004969,2786186409,634569996,816935009,3438706818,3950107109],[1531615800,3227581657,1209980630,438004969,2753304280,634569996,816935009,3438706818],[3114685828,1531615800,3227581657,1209980630,2650686942,2753304280,634569996,816935009],[1600763431,3114685828,1531615800,3227581657,3003868592,2650686942,2753304280,634569996],[4213060976,1600763431,3114685828,1531615800,2682032236,3003868592,2650686942,2753304280],[2047901638,4213060976,1600763431,3114685828,3969339033,2682032236,3003868592,2650686942],[3576465825,2047901638,4213060976,1600763431,4067545381,3969339033,2682032236,3003868592],[1660462503,3576465825,2047901638,4213060976,1021514134,4067545381,3969339033,2682032236],[4239228159,1660462503,3576465825,2047901638,1853841825,1021514134,4067545381,3969339033],[267262174,4239228159,1660462503,3576465825,3895108951,1853841825,1021514134,4067545381],[3512399150,267262174,4239228159,1660462503,976404568,3895108951,1853841825,1021514134]]
def Gn:List UInt8:=[59,100,219,149,203,85,199,99,57,28,112,113,8,72,154,225,139,65,18,215,131,48,13,227,142,3,59,76,152,195,222,175]
theorem CK:bp [98,98]=Gn:=(qW (m:=[98,98,128,0,0,0,0,0,0,0,0,0,0,0,0,0,0,0,0,0,0,0,0,0,0,0,0,0,0,0,0,0,0,0,0,0,0,0,0,0,0,0,0,0,0,0,0,0,0,0,0,0,0,0,0,0,0,0,0,0,0,0,0,16]) (w:=Gi) (t:=G4) (by decide+kernel) rfl rfl rfl (by decide+kernel) (by decide+kernel)).trans (by decide+kernel)
end Go.Hx
end
section
namespace Go.Proofs.YtmibdabdlgmafaaGreatDoor
open Go.Eng Go.Hx
theorem uk:ee [97,97,98,98] ⟨2,3,3⟩=[[97,97,98],[98]]:=by decide+kernel
theorem su:ee [98,98] ⟨2,3,3⟩=[[98,98]]:=by decide+kernel
theorem D3:bp [122,122]≠bp [97,97,98]:=by rw[y9,Ai];decide+kernel
theorem EY:bp [122,122]≠bp [98,98]:=by rw[y9,CK];decide+kernel
theorem uM:k9 (ee [97,97,98,98] ⟨2,3,3⟩) [0]=((RD.new 20000).put [97,97,98]).1:=by
 rw[uk]
 rfl
theorem uc:(k9 (ee [97,97,98,98] ⟨2,3,3⟩) [0]).fV (bp [122,122])=4:=by
 have hs:=(oS [97,97,98]).2
 obtain⟨d',e,hd⟩:=(SD.new 20000).put (b:=[97,97,98]) (by decide) rfl (by simp at hs ⊢;omega)
 rw[uM,e]
 refine qI hd.at_ ?_
 unfold DJ zV
 rw[if_neg (fun h=>D3 (tQ (bk _) (bk _) h)),if_neg (nL _ _),if_neg (nL _ _)]
theorem tR:gg ⟨2,3,3⟩ [[98,98],[]] 0 (bp [122,122])=none:=by
 have h1:cw [98,98] ⟨2,3,3⟩=[dm [98,98]]:=by rw[cw,su];rfl
 have h2:cw [] ⟨2,3,3⟩=[]:=rfl
 rw[gg,h1,dy,if_neg (show¬(dm [98,98]).1.b=bp [122,122]from fun h=>EY h.symm),dy]
 show gg _ [[]] 1 _=none
 rw[gg,h2,dy]
 rfl
theorem tN:dr (k9 (ee [97,97,98,98] ⟨2,3,3⟩) [0]) ⟨2,3,3⟩ [[98,98],[]] (bp [122,122])=3:=by
 unfold dr
 rw[if_neg (by rw[uc];decide),tR]
 rfl
theorem sO:oq [97,97,98,98] 2 []=[[98,98],[]]:=rfl
end Go.Proofs.YtmibdabdlgmafaaGreatDoor
end
section
set_option maxRecDepth 20000
set_option maxHeartbeats 4000000
namespace Go.Proofs.YtmibdabdlgmafaaGreatDoor
open Go.Eng Go.Hx
def rZ(a b c:Int)(its:List It)(A:Option Addr)(k:Nat):IX:=⟨a,b,c,iY,its,A,k⟩
theorem Gy{P:Program}{pl:Nat→Option (Nat×Nat)}{a b c:Int}{its:List It}{A:Option Addr}{n k:Nat}(hn:n=its.length)(h0:pl 0=some (0,3))(h2:pl 2=some (35,1)):tI P pl Ep.cs [(0,.agg [Value.int .i64 a,.int .i64 b,.int .i64 c].toArray),(2,.slice A n k)] (rZ a b c its A k).cs:=by
 subst hn
 have hz:(aP iY.b).length=32:=by rw[az,iY.h]
 have e1:bL Ep.cs 0 [Value.int .i64 a,.int .i64 b,.int .i64 c]=[Value.int .i64 a,.int .i64 b,.int .i64 c]++aP iY.b++[.slice none 0 0]:=rfl
 have e3:bL ([Value.int .i64 a,.int .i64 b,.int .i64 c]++aP iY.b++[.slice none 0 0]) 35 [.slice A its.length k]=(rZ a b c its A k).cs:=by
  have:=dp (a:=[Value.int .i64 a,.int .i64 b,.int .i64 c]++aP iY.b) (b:=[Value.slice none 0 0]) (c:=[]) (vs:=[.slice A its.length k]) (o:=35) (by simp[hz]) rfl
  rw[List.append_nil,List.append_nil]at this
  exact this
 exact .cons h0 (aW _) rfl (by rw[IX.eW];decide) (by rw[e1];exact .cons h2 rfl rfl (by simp[hz]) (by rw[show(Value.slice A its.length k).cells.toList=[Value.slice A its.length k]from rfl,e3];exact .nil))
theorem CM{P:Program}{pl:Nat→Option (Nat×Nat)}{t:It}{n:Int}(hn:t.2=n)(h0:pl 0=some (0,32))(h1:pl 1=some (32,1)):tI P pl (ia (iY,0)) [(0,.agg (aP t.1.b).toArray),(1,.int .i64 n)] (ia t):=by
 subst hn
 exact sZ h0 h1
theorem zo:b6 Tryz.prog 49 [] [] [dG] (fun v_ X_ S_=>v_=(.bool true)∧X_=[]∧S_=[]):=by
 refine aI (N:=45) Tryz.func49 rfl rfl (by simp) fun b=> ?_
 refine ah<|aj<|hy (fun _=>ab rfl)<|ai<|ae<|ah<|aj<| ?_
 refine hx (bT Tryz.underlying27 eA rfl rfl rfl (by simp[Value.cells,B8]) (by decide) (by decide) (fun g3=> ?_))
 have hA_b3:0<4→(some (⟨g3,0,none⟩:Addr))≠none:=fun _ h=>by cases h
 refine hx (zD 0 rfl rfl Tryz.underlying27 Tryz.underlying5 ?_)
 refine hy (fun _=>bQ uD rfl rfl (by kernel_rfl) (.cons (o:=0) (sz:=1) (by kernel_rfl) rfl rfl (Nat.le_of_ble_eq_true rfl) (.cons (o:=1) (sz:=1) (by kernel_rfl) rfl rfl (Nat.le_of_ble_eq_true rfl) (.cons (o:=2) (sz:=1) (by kernel_rfl) rfl rfl (Nat.le_of_ble_eq_true rfl) .nil))))<| ?_
 refine hx (bT Tryz.underlying44 Eo rfl rfl rfl (by simp[Value.cells,B8]) (by decide) (by decide) (fun g6=> ?_))
 have hA_b6:0<1→(some (⟨g6,0,none⟩:Addr))≠none:=fun _ h=>by cases h
 refine aG (fun w m=>m.bs 1 rfl (show _=aF 5 1 (.slice (some ⟨g3,0,none⟩) 4 4) 4 (aP [97,97,98,98])from rfl)) ?_
 refine aG (fun w m=>(m.perm (ar [0] _ [_] _ rfl)).freeze) ?_
 refine aG (fun w m=>m.fp 0 rfl .own) ?_
 refine aA (fun m=>eb (m.rd 0 rfl)) ?_
 rintro⟨hl_b3r,hA_b3r⟩
 refine aG (fun w m=>m.bs 0 rfl (show _=aF 3 1 (.slice (some ⟨g6,0,none⟩) 1 1) 1 (ints [0])from rfl)) ?_
 refine aG (fun w m=>(m.perm (ar [0] _ [_] _ rfl)).freeze) ?_
 refine aG (fun w m=>m.fp 0 rfl .own) ?_
 refine aA (fun m=>gu (m.rd 0 rfl)) ?_
 rintro⟨hl_b6r,hA_b6r⟩
 refine aG (fun w m=>m.mR (r' :=cn 1 none 0 []) (.refl _ _) (Rd.nil _ _ _) (fun k hk=>absurd rfl hk.1)) ?_
 have hA_z1:0<0→(none:Option Addr)≠none:=fun h=>absurd h (by decide)
 refine hx (au rfl Tryz.call41 (sb (Nat.le_refl _) (by decide) (by decide) (by decide) (by decide) (by intro z hz;rw[List.mem_singleton.1 hz];decide) (by decide) (Nat.le_refl 0) (by decide) (img:=[97,97,98,98]) (ot:=[]) (zl:=[0]) (p:=⟨1,1,0⟩)) [] rfl [3,1,0,5] rfl ?_)
 rintro _ _ _ ⟨gw,gd,st,y,gs,gm,A,c,rs,l,A2,c2,T,trs,AO,cO,rfl,rfl,rfl,hbg⟩
 refine aA (fun m=>gu (m.rd 1 rfl)) ?_
 rintro⟨hl_z,hA_z⟩
 refine aA (fun m=>gu (m.rd 2 rfl)) ?_
 rintro⟨hl_tr,hA_tr⟩
 refine aA (fun m=>eb (m.rd 4 rfl)) ?_
 rintro⟨hl_xo,hA_xo⟩
 refine hy (fun _=>ab rfl)<|ai<|al (ρ' :=[(1,_),(0,_)]) ⟨rfl,rfl,trivial⟩<|ak (X' :=[_,_,_]) (S' :=[_,_,_,_,_,_,_,_,_,_,_]) (fun _ m=>m)<|ae<|ah<|ah<|aj<|hy (fun _=>aa rfl)<|hy (fun _=>rP rfl rfl (by kernel_rfl))<|ai<|al (ρ' :=[(9,_),(1,_),(0,_)]) ⟨rfl,rfl,rfl,trivial⟩<|ae<| ?_
 obtain⟨hyd,hD,hok,hrs,hxts,htl,htr,hcO⟩:=hbg
 refine dj rfl (rfl) ?_
 refine aB<|ae<|ah<|pg [0] [0,1,2,3,4,5,6,7,8,9,10] rfl rfl [5,6,7,9,15] [(0,some 4),(1,some 4),(2,some 4),(3,some 4),(4,some 4),(11,some 4),(12,some 4),(13,some 4),(14,some 4),(5,none),(6,none),(7,none),(8,some 3),(9,none),(10,some 4),(15,none),(16,some 5)] (by kernel_rfl) (by kernel_rfl) rfl 99<|an (aa rfl)<|an (aM rfl)<|an (aD rfl uL (by decide))<|b5 (fun m=>aq rfl rR (ax (m.aQ 0 rfl) (i:=0) rfl))<|an (bQ uD rfl rfl (by kernel_rfl) (.cons (o:=0) (sz:=1) (by kernel_rfl) rfl rfl (Nat.le_of_ble_eq_true rfl) (.cons (o:=1) (sz:=1) (by kernel_rfl) rfl rfl (Nat.le_of_ble_eq_true rfl) (.cons (o:=2) (sz:=1) (by kernel_rfl) rfl rfl (Nat.le_of_ble_eq_true rfl) .nil))))<|an (aa rfl)<|an (aM rfl)<|an (aD rfl xV (by decide))<|b5 (fun m=>aq rfl D0 ((m.aQ 0 rfl).aw 42 _ (lB (j:=0))))<| ?_
 refine di (bT Tryz.underlying27 eA rfl rfl rfl (by simp[Value.cells,B8]) (by decide) (by decide) (fun g15=>⟨(fun _=>wk [1] [0,1,2,3,4,5,6,7,8,9,10] rfl rfl), ?_⟩))
 have hA_b15:0<2→(some (⟨g15,0,none⟩:Addr))≠none:=fun _ h=>by cases h
 refine di (zD 0 rfl rfl Tryz.underlying27 Tryz.underlying5 ⟨(fun _=>wk [1] [0,1,2,3,4,5,6,7,8,9,10] rfl rfl), ?_⟩)
 refine dO (fun w m=>m.bs 0 rfl (show _=aF 5 1 (.slice (some ⟨g15,0,none⟩) 2 2) 2 (aP [122,122])from rfl)) ?_
 refine dO (fun w m=>(m.perm (ar [0] _ [_] _ rfl)).freeze) ?_
 refine dO (fun w m=>m.fp 0 rfl .own) ?_
 refine b4 (fun m=>eb (m.rd 0 rfl)) ?_
 rintro⟨hl_b15r,hA_b15r⟩
 obtain⟨tz,htz⟩:∃tz:It,tz=(⟨bp [122,122],bk _⟩,2):=⟨_,rfl⟩
 refine di (au rfl Tryz.call56 (iM (by decide) (l:=[122,122])) [] rfl [0] rfl ?_)
 rintro _ _ _ ⟨rfl,rfl,rfl⟩
 refine⟨(fun _=>wk [0] [2,3,4,5,6,7,8,9,10,11,12] rfl rfl), ?_⟩
 have hta:Value.agg (aP (bp [122,122])).toArray= .agg (aP tz.1.b).toArray:=by rw[htz]
 rw[hta]
 refine an (bQ iU rfl rfl (by kernel_rfl) (CM (t:=tz) (n:=2) (by rw[htz]) nZ oo))<| ?_
 refine di (bT Tryz.underlying80 iU rfl rfl rfl (by intro v hv;rw[List.mem_singleton.1 hv];show(ia tz).toArray.size=33;rw[List.size_toArray,cE]) (by decide) (by decide) (fun g19=>⟨(fun _=>wk [1] [2,3,4,5,6,7,8,9,10,11,12] rfl rfl), ?_⟩))
 have hA_b19:0<1→(some (⟨g19,0,none⟩:Addr))≠none:=fun _ h=>by cases h
 refine dO (fun w m=>m.bs 0 rfl (show _=aF 100 33 (.slice (some ⟨g19,0,none⟩) 1 1) 1 (km [tz])from rfl)) ?_
 refine dO (fun w m=>(m.perm (ar [0] _ [_] _ rfl)).freeze) ?_
 refine dO (fun w m=>m.fp 0 rfl .own) ?_
 refine b4 (fun m=>gu (m.rd 0 rfl)) ?_
 rintro⟨hl_b19r,hA_b19r⟩
 refine an (bQ CW rfl rfl (by kernel_rfl) (Gy (its:=[tz]) rfl xA DC))<| ?_
 refine di (au rfl Tryz.call42 (zd hD hok (by show 1≤100000;decide) (u:=(rZ 1 1 9 [tz] (some ⟨g19,0,none⟩) 1))) [1,1] rfl [0,14] rfl ?_)
 rintro _ _ _ ⟨A1,k1,c1,rfl,rfl,rfl,hk1⟩
 refine⟨(fun _=>wk [3] [4,5,6,7,8,9,10,11,12,13,14] rfl rfl), ?_⟩
 refine an (ab rfl)<|bo<|al (ρ' :=[(2,_),(9,_),(1,_),(0,_)]) ⟨rfl,rfl,rfl,rfl,trivial⟩<|ak (X' :=[_,_,_,_]) (S' :=[_,_,_,_,_,_,_,_,_,_,_,_,_,_,_]) (fun _ m=>m)<|ae<|ah<|ah<|aj<|hy (fun _=>aa rfl)<|hy (fun _=>aT rfl Tryz.underlying78)<|hy (fun _=>dF rfl rfl)<|ai<|al (ρ' :=[(28,_),(2,_),(9,_),(1,_),(0,_)]) ⟨rfl,rfl,rfl,rfl,rfl,trivial⟩<|ae<| ?_
 have hst:jL (dr y.d (fl ⟨1,1,0⟩) (rs.map ba.l)) [tz]=[(tz.1,3)]:=by
  have e1:tz.1.b=bp [122,122]:=by rw[htz]
  have e2:y.d=k9 (ee [97,97,98,98] ⟨2,3,3⟩) [0]:=hyd
  have hfr:=tN
  rw[←e2,←sO,←hxts,←hrs,←e1]at hfr
  have hfr2:dr y.d (fl ⟨1,1,0⟩) (rs.map ba.l) tz.1.b=3:=hfr
  show dL _ [tz] (0+1)=_
  rw[j4 (t:=tz) rfl,if_neg (by simp),hfr2]
  rfl
 replace hk1:k1=(jL (dr y.d (fl ⟨1,1,0⟩) (rs.map ba.l)) [tz]).length:=hk1
 rw[hst]at hk1
 have hst2:jL (dr y.d (fl ⟨1,1,0⟩) (rs.map ba.l)) (rZ 1 1 9 [tz] (some ⟨g19,0,none⟩) 1).its=[(tz.1,3)]:=hst
 rw[hst2]
 replace hk1:k1=1:=hk1
 subst hk1
 refine bd (fun w m=>(m.perm (ar [0] _ [_] _ rfl)).freeze) ?_
 refine bd (fun w m=>m.fp 0 rfl .own) ?_
 refine aU (fun m=>gu (m.rd 0 rfl)) ?_
 rintro⟨hl_z2r,hA_z2r⟩
 refine dj rfl (rfl) ?_
 refine aB<|ae<|ah<|aj<|hy (fun _=>aa rfl)<|hy (fun _=>cW rfl rfl Tryz.underlying78 kS hA_z2r (show((0:Nat):Int)=0 from rfl) (by omega))<|hy (fun _=>aD rfl qS (by decide))<|hy (fun m=>aq rfl dq (fu (f:=ia) cE (m.rd 0 rfl) (i:=0) (x:=(tz.1,3)) rfl 32 _ (zq _)))<|hy (fun _=>cm rfl rfl)<|hy (fun _=>yT (aa rfl) (rfl))<|cg (o:=_) rfl rfl rfl (fun _=>aa rfl)<| ?_
 refine Ft (o:=_) rfl rfl rfl (au rfl Tryz.call48 (BI rfl (by decide) (k:=3) (l:=[(tz.1,3)])) [] rfl [0] rfl ?_)
 rintro _ _ _ ⟨rfl,rfl,rfl⟩
 refine cg (o:=_) rfl rfl rfl (fun _=>cm rfl rfl)<|hy (fun _=>bM rfl rfl)<|hy (fun _=>aa rfl)<|cg (o:=_) rfl rfl rfl (fun _=>aa rfl)<| ?_
 refine Ft (o:=_) rfl rfl rfl (au rfl Tryz.call46 (AG rfl (by decide) (l:=[(tz.1,3)])) [] rfl [0] rfl ?_)
 rintro _ _ _ ⟨A12,k12,c12,rfl,rfl,rfl,hk2⟩
 replace hk2:k12=1:=hk2
 subst hk2
 refine cg (o:=_) rfl rfl rfl (fun _=>aT rfl Tryz.underlying33)<|cg (o:=_) rfl rfl rfl (fun _=>cm rfl rfl)<|hy (fun _=>bM rfl rfl)<|hy (fun _=>ab rfl)<|ai<|al (ρ' :=[(0,_),(28,_),(2,_),(9,_),(1,_)]) ⟨rfl,rfl,rfl,rfl,rfl,trivial⟩<|ak (X' :=[_,_,_,_]) (S' :=[_,_,_,_,_,_,_,_,_,_,_,_,_,_,_,_,_]) (fun _ m=>m)<|ae<|aS<| ?_
 exact a6 trivial rfl rfl [] rfl [] rfl ⟨rfl,rfl,rfl⟩
end Go.Proofs.YtmibdabdlgmafaaGreatDoor
end
section
namespace Go.Proofs.YtmibdabdlgmafaaGreatDoor
open Go.Eng Go.Hx
theorem oO{fr:List UInt8→Int}{its:List It}{i:Nat}:∀(n:Nat),i≤n→∃r,dL fr its n=dL fr its i++r
 |0,h=>⟨[],by rw[Nat.le_zero.1 h,List.append_nil]⟩
 |n+1,h=>by
  by_cases he:i=n+1
  ·exact⟨[],by rw[he,List.append_nil]⟩
  ·obtain⟨r,hr⟩:=oO (fr:=fr) (its:=its) n (by omega:i≤n)
   rw[dL]
   split
   ·split
    ·exact⟨r,hr⟩
    ·exact⟨r++[_],by rw[hr,List.append_assoc]⟩
   ·exact⟨r,hr⟩
theorem tL(q:Pn)(nm:List UInt8):gg q [[],[]] 0 nm=none:=rfl
theorem uu(q:Pn)(nm:List UInt8):dr (RD.new 20000) q [[],[]] nm=3:=by
 unfold dr
 rw[if_neg (by rw[qI (SD.new 20000).at_ rfl];decide),tL]
 rfl
end Go.Proofs.YtmibdabdlgmafaaGreatDoor
end
section
set_option maxRecDepth 20000
set_option maxHeartbeats 4000000
namespace Go.Proofs.YtmibdabdlgmafaaGreatDoor
open Go.Eng Go.Hx
theorem F7{P:Program}{pl:Nat→Option (Nat×Nat)}{a b c:Int}(h0:pl 0=some (0,3)):tI P pl Ep.cs [(0,.agg [Value.int .i64 a,.int .i64 b,.int .i64 c].toArray)] (rZ a b c [] none 0).cs:=
 .cons h0 (aW _) rfl (by rw[IX.eW];decide) (show tI P pl (bL Ep.cs 0 [Value.int .i64 a,.int .i64 b,.int .i64 c]) [] _ from .nil)
theorem Aq{a b k:Int}{its its' :List It}{A A' :Option Addr}{c c' n:Nat}(hn:n=its'.length):(rZ a b k its A c).cs.set 35 (.slice A' n c')=(rZ a b k its' A' c').cs:=by
 subst hn
 have hz:(aP iY.b).length=32:=by rw[az,iY.h]
 unfold IX.cs rZ
 rw[List.set_append,if_neg (by simp[hz])]
 simp[hz]
abbrev OA:=Option Addr
theorem uy{L:Option Addr}{np cp:Nat}{zl:List Int}(hzl:wU zl):b6 Tryz.prog 6 [.slice L np cp] [] [cn 1 L np (ints zl),dG] (fun v_ X_ S_=>v_=(.bool true)∧X_=[]∧S_=[]):=by
 obtain⟨q,hqe⟩:∃q,q=fl ⟨0,0,0⟩:=⟨_,rfl⟩
 have hq:q.ok:=by rw[hqe];exact(sc ⟨0,0,0⟩).1
 refine aI (N:=116) Tryz.func6 rfl rfl (by simp) fun b=> ?_
 refine aU (fun m=>gu (m.rd 0 rfl)) ?_
 rintro⟨hl_rl,hA_rl⟩
 refine aU (fun m=>(m.rd 0 rfl).1) fun hln=> ?_
 have hln:zl.length=np:=by rw[ints,List.length_map,Nat.mul_one]at hln;exact hln
 refine bd (fun w m=>m.mR (r' :=cn 1 none 0 []) (.refl _ _) (Rd.nil _ _ _) (fun k hk=>absurd rfl hk.1)) ?_
 have hA_z1:0<0→(none:Option Addr)≠none:=fun h=>absurd h (by decide)
 refine bd (fun w m=>m.mR (r' :=cn 1 none 0 []) (.refl _ _) (Rd.nil _ _ _) (fun k hk=>absurd rfl hk.1)) ?_
 have hA_z2:0<0→(none:Option Addr)≠none:=fun h=>absurd h (by decide)
 refine bd (fun w m=>m.mR (r' :=cn 1 none 0 []) (.refl _ _) (Rd.nil _ _ _) (fun k hk=>absurd rfl hk.1)) ?_
 have hA_z3:0<0→(none:Option Addr)≠none:=fun h=>absurd h (by decide)
 refine ah<|aj<|hy (fun _=>ab rfl)<|ai<|ae<|ah<|aj<|hy (fun _=>yV (dK uD rfl (by kernel_rfl)) ((rfl:_=Value.agg (Pm.mk 0 0 0).cs.toArray)))<| ?_
 refine hx (au rfl Tryz.call41 (sb (Nat.le_refl _) (by decide) (by decide) (by decide) (by decide) (fun z hz=>absurd hz List.not_mem_nil) (by decide) (Nat.le_refl 0) (by decide) (img:=[]) (ot:=[]) (zl:=[]) (p:=⟨0,0,0⟩)) [] rfl [2,1,0,4] rfl ?_)
 rintro _ _ _ ⟨gw,gd,st,y,gs,gm,A,c,rs,l,A2,c2,T,trs,AO,cO,rfl,rfl,rfl,hbg⟩
 refine aA (fun m=>gu (m.rd 1 rfl)) ?_
 rintro⟨hl_z,hA_z⟩
 refine aA (fun m=>gu (m.rd 2 rfl)) ?_
 rintro⟨hl_tr,hA_tr⟩
 refine aA (fun m=>eb (m.rd 4 rfl)) ?_
 rintro⟨hl_xo,hA_xo⟩
 refine hy (fun _=>ab rfl)<|ai<|al (ρ' :=[(3,_),(2,_),(0,_)]) ⟨rfl,rfl,rfl,trivial⟩<|ak (X' :=[_,_,_]) (S' :=[_,_,_,_,_,_,_,_,_,_]) (fun _ m=>m)<|ae<|ah<|ah<|aj<|hy (fun _=>aa rfl)<|hy (fun _=>rP rfl rfl (by kernel_rfl))<|ai<|al (ρ' :=[(15,_),(3,_),(2,_),(0,_)]) ⟨rfl,rfl,rfl,rfl,trivial⟩<|ae<| ?_
 rw[←hqe]
 obtain⟨hyd,hD,hok,hrs,hxts,htl,htr,hcO⟩:=hbg
 rw[←hqe]at hok
 replace hyd:y.d=RD.new 20000:=by rw[hyd];rfl
 replace hxts:trs.map ba.l=[[],[]]:=hxts
 have hfr:∀nm,dr y.d q (rs.map ba.l) nm=3:=fun nm=>by rw[hyd,hrs,hxts];exact uu q nm
 refine dj rfl (rfl) ?_
 refine aB<|ae<|ah<|aj<|hy (fun _=>bQ uD rfl rfl (by kernel_rfl) (.cons (o:=0) (sz:=1) (by kernel_rfl) rfl rfl (Nat.le_of_ble_eq_true rfl) (.cons (o:=1) (sz:=1) (by kernel_rfl) rfl rfl (Nat.le_of_ble_eq_true rfl) (.cons (o:=2) (sz:=1) (by kernel_rfl) rfl rfl (Nat.le_of_ble_eq_true rfl) .nil))))<|hy (fun _=>bQ CW rfl rfl (by kernel_rfl) (F7 xA))<| ?_
 refine hx (bh CW (fun g4=> ?_))
 refine cx (a8 0 rfl rfl rfl Fw (IX.eW _) (IX.cQ _) rfl ?_)
 refine ai<|al (ρ' :=[(4,_),(15,_),(3,_),(2,_),(0,_)]) ⟨rfl,rfl,rfl,rfl,rfl,trivial⟩<|ak (X' :=[_,_,_,_]) (S' :=[_,_,_,_,_,_,_,_,_,_]) (fun _ m=>m)<|ae<|ah<|ah<|aj<|hy (fun _=>ab rfl)<|ai<|ae<| ?_
 refine bd (fun w m=>m.bs 0 rfl (show _=aE g4 88 (rZ 1 9 20 (iK zl 0) none 0).cs from rfl)) ?_
 refine Dj (fun(i:Nat) (A1:OA) (c1:Nat)=>[]) (fun(i:Nat) (A1:OA) (c1:Nat)=>[aE g4 88 (rZ 1 9 20 (iK zl i) A1 c1).cs]) (fun(i:Nat) (A1:OA) (c1:Nat)=>[cn 33 A1 i (km (iK zl i))]) (fun(i:Nat) (A1:OA) (c1:Nat)=>i≤np∧i≤8) [(4,_),(15,_),(3,_),(2,_),(0,_)] ⟨rfl,rfl,rfl,rfl,rfl,trivial⟩ [0] rfl ?_ (fun i A1 c1 ⟨hin,hi8⟩=> ?_)
 ·refine aK<| ?_
  refine bd (fun w m=>m.cI (r' :=aF 100 33 (.slice none 0 0) 0 []) (.refl _ _) (Own.nil _ _ _ _) (fun k hk=>hk.elim)) ?_
  refine fD (fun i A1 c1=>np-i) (fun i A1 c1=>[(5,.int .i64 (i:Nat))]) (fun i A1 c1=>[aE g4 88 (rZ 1 9 20 (iK zl i) A1 c1).cs,aF 100 33 (.slice A1 i c1) i (km (iK zl i))]) (fun i A1 c1=>[]) (fun i A1 c1=>i≤np∧i≤8) 0 none 0 [(4,_),(15,_),(3,_),(2,_),(0,_)] ⟨rfl,rfl,rfl,rfl,rfl,trivial⟩ [1,0] rfl [] rfl (⟨Nat.zero_le _,Nat.zero_le _⟩) ⟨rfl,trivial⟩ (fun i A1 c1 ⟨hin,hi8⟩=> ?_)
  refine ah<|ah<|aj<|hy (fun _=>aa rfl)<|hy (fun _=>aa rfl)<|hy (fun _=>aT rfl Tryz.underlying44)<|hy (fun _=>bC rfl rfl)<|hy (fun _=>aa rfl)<| ?_
  refine fe 22 rfl (fun h1=> ?_) (fun h1=> ?_)
  ·refine cg (o:=_) rfl rfl rfl (fun _=>aa rfl)<|cg (o:=_) rfl rfl rfl (fun _=>bC rfl rfl)<|hy (fun _=>bM rfl rfl)<|ai<|al (ρ' :=[(25,_),(5,_),(4,_),(15,_),(3,_),(2,_),(0,_)]) ⟨rfl,rfl,rfl,rfl,rfl,rfl,rfl,trivial⟩<|ae<| ?_
   refine cj rfl (fun h2=> ?_) (fun h2=> ?_)
   ·have hil:i<zl.length:=by omega
    have hz:=hzl.at hil
    have har:=dC (zl.getD i 0) 5 (by decide)
    obtain⟨k5,hk5,hk5l⟩:∃k5:Nat,ck (zl.getD i 0) 5=(k5:Int)∧k5<5:=⟨(ck (zl.getD i 0) 5).toNat,by omega,by omega⟩
    have hkz:kz (zl.getD i 0)=k5+1:=by unfold kz;rw[hk5];omega
    have h6:ck ((k5+1:Nat):Int) 6=((k5+1:Nat):Int):=by unfold ck;rw[if_neg (by omega)];omega
    have hsc:=wW hil
    rw[hkz]at hsc
    obtain⟨tt,htt⟩:∃tt:It,tt=(⟨bp (jZ (k5+1)),bk _⟩,((3*(k5+1):Nat):Int)):=⟨_,rfl⟩
    rw[←htt]at hsc
    have hl1:(iK zl (i+1)).length=i+1:=oZ (by omega)
    refine aB<|ae<|ah<|aK<|ah<|aj<|hy (fun _=>aa rfl)<|hy (fun _=>aa rfl)<|hy (fun _=>aN rfl rfl Tryz.underlying44 ta hA_rl rfl (by omega))<|hy (fun m=>aq rfl dq ((m.rd 8 rfl).cell (sM hil)))<| ?_
    refine hx (au rfl Tryz.call16 (jt hz.1 hz.2 (by decide) (n:=(zl.getD i 0)) (m:=5)) [] rfl [] rfl ?_)
    rintro _ _ _ ⟨rfl,rfl,rfl⟩
    refine hy (fun _=>yV (aL rfl rfl (bx (by omega) (by omega))) ((show Value.int .i64 (1+ck (zl.getD i 0) 5)= .int .i64 ((k5+1:Nat):Int)from by rw[hk5];congr 1;omega)))<|hy (fun _=>ab rfl)<|ai<|al (ρ' :=[(6,_),(25,_),(5,_),(4,_),(15,_),(3,_),(2,_),(0,_)]) ⟨rfl,rfl,rfl,rfl,rfl,rfl,rfl,rfl,trivial⟩<|ak (X' :=[_,_,_,_,_]) (S' :=[_,_,_,_,_,_,_,_,_,_]) (fun _ m=>m)<|ae<|cu [3,7,8,10] [(0,some 2),(1,some 2),(2,some 0),(4,some 1),(5,some 1),(3,none),(6,some 1),(7,none),(8,none),(9,some 3),(10,none)] (by kernel_rfl) (by kernel_rfl) rfl 2<|an (aD rfl ln (by decide))<|b5 (fun m=>aq rfl tD (ax (m.aQ 0 rfl) (i:=35) (show(rZ 1 9 20 (iK zl i) A1 c1).cs[35]? =some (Value.slice A1 i c1)from by rw[IX.C3];show some (Value.slice A1 (iK zl i).length c1)=_;rw[oZ (by omega)])))<|an (aa rfl)<|an (aa rfl)<|an (yV (fg rfl rfl (bx (by omega) (by omega))) ((show Value.int .i64 (3*((k5+1:Nat):Int))= .int .i64 tt.2 from by rw[htt];congr 1)))<| ?_
    refine di (au rfl Tryz.call30 (Ao (⟨by omega,by omega⟩) h6 (by omega)) [] rfl [9] rfl ?_)
    rintro _ _ _ ⟨rfl,rfl,rfl⟩
    refine⟨(fun _=>wk [0,0,0,0,0] [0,1,2,3,4,5,6,7,8,9] rfl rfl), ?_⟩
    have hta:Value.agg (aP (bp (jZ (k5+1)))).toArray= .agg (aP tt.1.b).toArray:=by rw[htt]
    rw[hta]
    refine an (bQ iU rfl rfl (by kernel_rfl) (sZ nZ oo))<| ?_
    refine di (bT Tryz.underlying80 iU rfl rfl rfl (by intro v hv;rw[List.mem_singleton.1 hv];show(ia tt).toArray.size=33;rw[List.size_toArray,cE]) (by decide) (by decide) (fun g41=>⟨(fun _=>wk [1,1,1,1,1] [0,1,2,3,4,5,6,7,8,9] rfl rfl), ?_⟩))
    have hA_b41:0<1→(some (⟨g41,0,none⟩:Addr))≠none:=fun _ h=>by cases h
    refine dO (fun w m=>m.bs 0 rfl (show _=aF 100 33 (.slice (some ⟨g41,0,none⟩) 1 1) 1 (km [tt])from rfl)) ?_
    refine di (bw 2 rfl rfl rfl Tryz.underlying80 Tryz.underlying80 (by exact .inl rfl) iU rfl (fun m=>Src.bW (m.ord 0 rfl)) n0 (by unfold maxLen;omega) (by omega) (fun u=>⟨(fun h=>absurd h (by decide)), ?_⟩))
    refine b4 (fun m=>(m.own 0 rfl).slice) ?_
    rintro⟨A_zi,c_zi,rfl,hc_zi⟩
    refine b4 (fun m=>(m.ord 0 rfl).2.1) fun hA_zi=> ?_
    refine dO (fun w m=>m.bs 0 rfl (show _=aF 100 33 (.slice A_zi (i+1) c_zi) (i+1) (km (iK zl (i+1)))from congrArg (aF _ _ _ _) (by rw[hsc,iX]))) ?_
    refine an (aD rfl ln (by decide))<| ?_
    refine fS (bU 2 rfl rfl rfl E2 rfl (by rw[IX.eW];decide) ⟨(fun h=>absurd h (by decide)), ?_⟩)
    refine bo<|al (ρ' :=[(6,_),(25,_),(5,_),(4,_),(15,_),(3,_),(2,_),(0,_)]) ⟨rfl,rfl,rfl,rfl,rfl,rfl,rfl,rfl,trivial⟩<|ak (X' :=[_,_,_,_,_,_]) (S' :=[_,_,_,_,_,_,_,_,_,_]) (fun _ m=>m)<|aR<|ae<|aj<|hy (fun _=>aa rfl)<|hy (fun _=>aL rfl rfl (bx (by omega) (by omega)))<|hy (fun _=>ab rfl)<|ai<|al (ρ' :=[(5,_),(6,_),(25,_),(4,_),(15,_),(3,_),(2,_),(0,_)]) ⟨rfl,rfl,rfl,rfl,rfl,rfl,rfl,rfl,trivial⟩<| ?_
    refine ak (fun w m=>m.bs 0 rfl (show _=aE g4 88 (rZ 1 9 20 (iK zl (i+1)) A_zi c_zi).cs from congrArg (aE _ _) (Aq hl1.symm))) ?_
    refine fz (i+1) A_zi c_zi ⟨rfl,rfl,rfl,rfl,rfl,rfl,trivial⟩ [0,0,1,1,1] rfl [0,1,2,3,4,5,6,7,8,9] rfl (⟨by omega,by omega⟩) (by omega)
   ·refine bK<|ao<|ao<|aC<| ?_
    refine ak (fun w m=>(m.perm (ar [1] _ [_] _ rfl)).freeze) ?_
    refine ak (fun w m=>m.fp 0 rfl .own) ?_
    refine mw (fun m=>gu (m.rd 0 rfl)) ?_
    rintro⟨hl_zir,hA_zir⟩
    exact va (R:=fun(i:Nat) (A1:OA) (c1:Nat)=>[]) (X1:=fun(i:Nat) (A1:OA) (c1:Nat)=>[aE g4 88 (rZ 1 9 20 (iK zl i) A1 c1).cs]) (S1:=fun(i:Nat) (A1:OA) (c1:Nat)=>[cn 33 A1 i (km (iK zl i))]) (I:=fun(i:Nat) (A1:OA) (c1:Nat)=>i≤np∧i≤8) i A1 c1 ⟨rfl,rfl,rfl,rfl,rfl,trivial⟩ [0,0,0,0] rfl [0,2,3,4,5,6,7,8,9,10,11] rfl (⟨by omega,by omega⟩)
  ·refine a7 rfl rfl rfl (by decide)<|a7 rfl rfl rfl (by decide)<|hy (fun _=>bn rfl rfl)<|ai<|al (ρ' :=[(25,_),(5,_),(4,_),(15,_),(3,_),(2,_),(0,_)]) ⟨rfl,rfl,rfl,rfl,rfl,rfl,rfl,trivial⟩<|ae<| ?_
   refine dj rfl (rfl) ?_
   refine bK<|ao<|ao<|aC<| ?_
   refine ak (fun w m=>(m.perm (ar [1] _ [_] _ rfl)).freeze) ?_
   refine ak (fun w m=>m.fp 0 rfl .own) ?_
   refine mw (fun m=>gu (m.rd 0 rfl)) ?_
   rintro⟨hl_zir,hA_zir⟩
   exact va (R:=fun(i:Nat) (A1:OA) (c1:Nat)=>[]) (X1:=fun(i:Nat) (A1:OA) (c1:Nat)=>[aE g4 88 (rZ 1 9 20 (iK zl i) A1 c1).cs]) (S1:=fun(i:Nat) (A1:OA) (c1:Nat)=>[cn 33 A1 i (km (iK zl i))]) (I:=fun(i:Nat) (A1:OA) (c1:Nat)=>i≤np∧i≤8) i A1 c1 ⟨rfl,rfl,rfl,rfl,rfl,trivial⟩ [0,0,0,0] rfl [0,2,3,4,5,6,7,8,9,10,11] rfl (⟨by omega,by omega⟩)
 ·obtain⟨its,hits⟩:∃its,its=iK zl i:=⟨_,rfl⟩
  have hil:its.length=i:=by rw[hits];exact oZ (by omega)
  rw[←hits]
  subst hil
  refine mw (fun m=>(gu (m.rd 0 rfl)).2) fun hA_zir=> ?_
  refine ae<|ah<|pg [0,0] [0,1,2,3,4,5,6,7,8,9,10] rfl rfl [9] [(0,some 0),(1,some 0),(2,some 0),(3,some 0),(4,some 0),(5,some 0),(6,some 0),(7,some 0),(8,some 0),(9,none),(10,some 1)] (by kernel_rfl) (by kernel_rfl) rfl 99<|an (aa rfl)<|an (aM rfl)<|an (aD rfl uL (by decide))<|b5 (fun m=>aq rfl rR (ax (m.aQ 1 rfl) (i:=0) rfl))<|b5 (fun m=>aX rfl GV Fw (IX.eW _) ((m.aQ 0 rfl).aw))<|an (aa rfl)<|an (aM rfl)<|an (aD rfl xV (by decide))<|b5 (fun m=>aq rfl D0 ((m.aQ 1 rfl).aw 42 _ (lB (j:=0))))<| ?_
  refine di (au rfl Tryz.call42 (zd hD hok (by show its.length≤100000;omega) (u:=(rZ 1 9 20 its A1 c1))) [2,2] rfl [0,10] rfl ?_)
  rintro _ _ _ ⟨A12,k1,c12,rfl,rfl,rfl,hk1⟩
  refine⟨(fun _=>wk [3,3] [0,1,2,3,4,5,6,7,8,9,10] rfl rfl), ?_⟩
  refine an (ab rfl)<|bo<|al (ρ' :=[(7,_),(4,_),(15,_),(3,_),(2,_),(0,_)]) ⟨rfl,rfl,rfl,rfl,rfl,rfl,trivial⟩<|ak (X' :=[_,_,_,_,_]) (S' :=[_,_,_,_,_,_,_,_,_,_,_]) (fun _ m=>m)<|ae<|ah<|aj<|hy (fun _=>ab rfl)<|ai<|ae<|ah<|ah<|aj<|hy (fun _=>ab rfl)<|ai<|ae<|aK<| ?_
  obtain⟨fr,hfe⟩:∃fr,fr=dr y.d q (rs.map ba.l):=⟨_,rfl⟩
  rw[←hfe]at hfr hk1 ⊢
  replace hk1:k1=(dL fr its its.length).length:=hk1
  obtain⟨gl,hgl⟩:∃gl,gl=dL fr its its.length:=⟨_,rfl⟩
  have hgl2:jL fr (rZ 1 9 20 its A1 c1).its=gl:=hgl.symm
  rw[←hgl]at hk1
  rw[hgl2]
  subst hk1
  refine bd (fun w m=>(m.perm (ar [0] _ [_] _ rfl)).freeze) ?_
  refine bd (fun w m=>m.fp 0 rfl .own) ?_
  refine aU (fun m=>gu (m.rd 0 rfl)) ?_
  rintro⟨hl_z4r,hA_z4r⟩
  have hgll:gl.length≤8:=by rw[hgl];exact Nat.le_trans (jB _) hi8
  have h35:(rZ 1 9 20 its A1 c1).cs[35]? =some (Value.slice A1 its.length c1):=IX.C3 _
  refine jS (fun j a=>its.length-j) (fun j a=>[(9,.int .i64 (j:Nat)),(8,.int .i64 (a:Nat))]) (fun j a=>[]) (fun j a=>[]) (fun j a=>j≤its.length∧a=(dL fr its j).length) 0 0 [(7,_),(4,_),(15,_),(3,_),(0,_)] ⟨rfl,rfl,rfl,rfl,rfl,trivial⟩ [] rfl [] rfl (⟨Nat.zero_le _,rfl⟩) ⟨rfl,rfl,trivial⟩ (fun j a ⟨hj,ha⟩=> ?_)
  refine ah<|ah<|aj<|hy (fun _=>aa rfl)<|hy (fun _=>aD rfl ln (by decide))<|hy (fun m=>aq rfl tD (ax (m.aQ 2 rfl) (i:=35) h35))<|hy (fun _=>aT rfl Tryz.underlying80)<|hy (fun _=>bC rfl rfl)<|ai<|al (ρ' :=[(58,_),(9,_),(8,_),(7,_),(4,_),(15,_),(3,_),(0,_)]) ⟨rfl,rfl,rfl,rfl,rfl,rfl,rfl,rfl,trivial⟩<|ae<| ?_
  refine cj rfl (fun hlt=> ?_) (fun hlt=> ?_)
  ·obtain⟨t,ht⟩:∃t,its[j]? =some t:=⟨_,List.getElem?_eq_getElem (by omega)⟩
   have h32:(aP t.1.b).length=32:=by rw[az,t.1.h]
   have hsu:=j4 (fr:=fr) ht
   have hfl:=jB (fr:=fr) (its:=its) j
   refine aB<|ae<|ah<|aK<|ah<|aj<|hy (fun _=>ab rfl)<|ai<|ae<|ah<|ah<|aj<|hy (fun _=>ab rfl)<|ai<|ae<|aK<| ?_
   refine jS (fun k nb=>j-k) (fun k nb=>[(11,.int .i64 (k:Nat)),(10,.bool nb)]) (fun k nb=>[]) (fun k nb=>[]) (fun k nb=>k≤j∧nb=decide (t.1.b∈(its.take k).map (fun t=>t.1.b))) 0 false [(58,_),(9,_),(8,_),(7,_),(4,_),(15,_),(3,_),(0,_)] ⟨rfl,rfl,rfl,rfl,rfl,rfl,rfl,rfl,trivial⟩ [] rfl [] rfl (⟨Nat.zero_le _,by simp⟩) ⟨rfl,rfl,trivial⟩ (fun k nb ⟨hk,hnb⟩=> ?_)
   refine ah<|ah<|aj<|hy (fun _=>aa rfl)<|hy (fun _=>aa rfl)<|hy (fun _=>bC rfl rfl)<|ai<|al (ρ' :=[(63,_),(11,_),(10,_),(58,_),(9,_),(8,_),(7,_),(4,_),(15,_),(3,_),(0,_)]) ⟨rfl,rfl,rfl,rfl,rfl,rfl,rfl,rfl,rfl,rfl,rfl,trivial⟩<|ae<| ?_
   refine cj rfl (fun hlt2=> ?_) (fun hlt2=> ?_)
   ·obtain⟨t2,ht2⟩:∃t,its[k]? =some t:=⟨_,List.getElem?_eq_getElem (by omega)⟩
    have h32t:(aP t2.1.b).length=32:=by rw[az,t2.1.h]
    have hns:=wj ht2
    cases nb
    ·have hno:=of_decide_eq_false hnb.symm
     refine aB<|ae<|ah<|aK<|cu [] [(0,some 0),(1,some 0),(2,some 0),(3,some 0),(4,some 0),(5,some 0),(6,some 0),(7,some 0),(8,some 0),(9,some 0),(10,some 0),(11,some 0),(12,some 0),(13,some 0),(14,some 0),(15,some 0),(16,some 0)] (by kernel_rfl) (by kernel_rfl) rfl 99<|an (aa rfl)<|an (aa rfl)<|bN (o:=_) rfl rfl rfl (aD rfl ln (by decide))<|kE (o:=_) rfl rfl rfl (fun m=>aq rfl tD (ax (m.aQ 2 rfl) (i:=35) h35))<|bN (o:=_) rfl rfl rfl (aa rfl)<|bN (o:=_) rfl rfl rfl (cW rfl rfl Tryz.underlying80 jJ hA_zir rfl (by omega))<|bN (o:=_) rfl rfl rfl (aD rfl fJ (by decide))<|kE (o:=_) rfl rfl rfl (fun m=>aX rfl cr bZ h32t (ra (m.rd 2 rfl) ht2))<|bN (o:=_) rfl rfl rfl (aD rfl ln (by decide))<|kE (o:=_) rfl rfl rfl (fun m=>aq rfl tD (ax (m.aQ 2 rfl) (i:=35) h35))<|bN (o:=_) rfl rfl rfl (aa rfl)<|bN (o:=_) rfl rfl rfl (cW rfl rfl Tryz.underlying80 jJ hA_zir rfl (by omega))<|bN (o:=_) rfl rfl rfl (aD rfl fJ (by decide))<|kE (o:=_) rfl rfl rfl (fun m=>aX rfl cr bZ h32 (ra (m.rd 2 rfl) ht))<|bN (o:=_) rfl rfl rfl (vF rfl rfl t2.1.h t.1.h)<|an (bn rfl rfl)<|an (ab rfl)<|bo<|al (ρ' :=[(10,_),(63,_),(11,_),(58,_),(9,_),(8,_),(7,_),(4,_),(15,_),(3,_),(0,_)]) ⟨rfl,rfl,rfl,rfl,rfl,rfl,rfl,rfl,rfl,rfl,rfl,trivial⟩<|aR<|ae<|aj<|hy (fun _=>aa rfl)<|hy (fun _=>aL rfl rfl (bx (by omega) (by omega)))<|hy (fun _=>ab rfl)<|ai<|al (ρ' :=[(11,_),(10,_),(63,_),(58,_),(9,_),(8,_),(7,_),(4,_),(15,_),(3,_),(0,_)]) ⟨rfl,rfl,rfl,rfl,rfl,rfl,rfl,rfl,rfl,rfl,rfl,trivial⟩<| ?_
     refine fW (k+1) (decide (t2.1.b=t.1.b)) ⟨rfl,rfl,rfl,rfl,rfl,rfl,rfl,rfl,rfl,rfl,trivial⟩ [0,0,0,0] rfl [0,1,2,3,4,5,6,7,8,9,10,11,12] rfl (⟨by omega,by rw[hns];exact decide_eq_decide.2 ⟨fun h=>List.mem_append_right _ (List.mem_singleton.2 h.symm),fun h=>(List.mem_append.1 h).elim (fun h=>absurd h hno) (fun h=>(List.mem_singleton.1 h).symm)⟩⟩) (by omega)
    ·have hyes:=of_decide_eq_true hnb.symm
     refine aB<|ae<|ah<|aK<|cu [] [(0,some 0),(1,some 0),(2,some 0),(3,some 0),(4,some 0),(5,some 0),(6,some 0),(7,some 0),(8,some 0),(9,some 0),(10,some 0),(11,some 0),(12,some 0),(13,some 0),(14,some 0),(15,some 0),(16,some 0)] (by kernel_rfl) (by kernel_rfl) rfl 99<|an (aa rfl)<|an (aa rfl)<|aV rfl rfl rfl (by decide)<|aV rfl rfl rfl (by decide)<|aV rfl rfl rfl (by decide)<|aV rfl rfl rfl (by decide)<|aV rfl rfl rfl (by decide)<|aV rfl rfl rfl (by decide)<|aV rfl rfl rfl (by decide)<|aV rfl rfl rfl (by decide)<|aV rfl rfl rfl (by decide)<|aV rfl rfl rfl (by decide)<|aV rfl rfl rfl (by decide)<|aV rfl rfl rfl (by decide)<|aV rfl rfl rfl (by decide)<|an (bM rfl rfl)<|an (ab rfl)<|bo<|al (ρ' :=[(10,_),(63,_),(11,_),(58,_),(9,_),(8,_),(7,_),(4,_),(15,_),(3,_),(0,_)]) ⟨rfl,rfl,rfl,rfl,rfl,rfl,rfl,rfl,rfl,rfl,rfl,trivial⟩<|aR<|ae<|aj<|hy (fun _=>aa rfl)<|hy (fun _=>aL rfl rfl (bx (by omega) (by omega)))<|hy (fun _=>ab rfl)<|ai<|al (ρ' :=[(11,_),(10,_),(63,_),(58,_),(9,_),(8,_),(7,_),(4,_),(15,_),(3,_),(0,_)]) ⟨rfl,rfl,rfl,rfl,rfl,rfl,rfl,rfl,rfl,rfl,rfl,trivial⟩<| ?_
     refine fW (k+1) true ⟨rfl,rfl,rfl,rfl,rfl,rfl,rfl,rfl,rfl,rfl,trivial⟩ [0,0,0,0] rfl [0,1,2,3,4,5,6,7,8,9,10,11,12] rfl (⟨by omega,by rw[hns];exact(decide_eq_true (List.mem_append_left _ hyes)).symm⟩) (by omega)
   ·obtain rfl:k=j:=by omega
    subst hnb
    refine bK<|ao<|ao<|aC<|ae<|ah<|ah<|aj<|hy (fun _=>aa rfl)<|ai<|ae<| ?_
    refine cj rfl (fun hseen=> ?_) (fun hseen=> ?_)
    ·rw[if_pos hseen]at hsu
     refine bK<|ao<|aC<|ae<|aj<|hy (fun _=>aa rfl)<|hy (fun _=>aL rfl rfl (bx (by omega) (by omega)))<|hy (fun _=>ab rfl)<|ai<|al (ρ' :=[(9,_),(82,_),(63,_),(11,_),(10,_),(58,_),(8,_),(7,_),(4,_),(15,_),(3,_),(0,_)]) ⟨rfl,rfl,rfl,rfl,rfl,rfl,rfl,rfl,rfl,rfl,rfl,rfl,trivial⟩<| ?_
     refine fW (k+1) a ⟨rfl,rfl,rfl,rfl,rfl,rfl,rfl,trivial⟩ [0,0,0,0] rfl [0,1,2,3,4,5,6,7,8,9,10,11,12] rfl (⟨by omega,by rw[hsu];exact ha⟩) (by omega)
    ·rw[if_neg hseen,hfr]at hsu
     obtain⟨r,hr⟩:=oO (fr:=fr) (its:=its) its.length (show k+1≤its.length by omega)
     rw[←hgl,hsu]at hr
     have hgt:gl[a]? =some (t.1,3):=by rw[hr,List.append_assoc,ha,List.getElem?_append_right (Nat.le_refl _),Nat.sub_self];rfl
     have hal:a<gl.length:=(List.getElem?_eq_some_iff.1 hgt).1
     refine aB<|ae<|ah<|ah<|aj<|hy (fun _=>aa rfl)<|hy (fun _=>aa rfl)<|hy (fun _=>aT rfl Tryz.underlying78)<|hy (fun _=>ec rfl rfl)<|ai<|al (ρ' :=[(86,_),(82,_),(63,_),(11,_),(10,_),(58,_),(9,_),(8,_),(7,_),(4,_),(15,_),(3,_),(0,_)]) ⟨rfl,rfl,rfl,rfl,rfl,rfl,rfl,rfl,rfl,rfl,rfl,rfl,rfl,trivial⟩<|ae<| ?_
     refine dj rfl ((decide_eq_false (by omega))) ?_
     refine aB<|ae<|ah<|ah<|pg [0,0,0,0] [0,1,2,3,4,5,6,7,8,9,10,11,12] rfl rfl [] [(0,some 0),(1,some 0),(2,some 0),(3,some 0),(4,some 0),(5,some 0),(6,some 0),(7,some 0),(8,some 0),(9,some 0),(10,some 0),(11,some 0),(12,some 0),(13,some 0),(14,some 0),(15,some 0),(16,some 0),(17,some 0),(18,some 0),(19,some 0)] (by kernel_rfl) (by kernel_rfl) rfl 99<|an (aa rfl)<|an (aa rfl)<|an (cW rfl rfl Tryz.underlying78 kS hA_z4r rfl (by omega))<|an (aD rfl vt (by decide))<|b5 (fun m=>aX rfl cr bZ h32 (ra (t:=(t.1,3)) (m.rd 0 rfl) hgt))<|an (aD rfl ln (by decide))<|b5 (fun m=>aq rfl tD (ax (m.aQ 2 rfl) (i:=35) h35))<|an (aa rfl)<|an (cW rfl rfl Tryz.underlying80 jJ hA_zir rfl (by omega))<|an (aD rfl fJ (by decide))<|b5 (fun m=>aX rfl cr bZ h32 (ra (m.rd 2 rfl) ht))<|an (rS rfl rfl t.1.h t.1.h)<|an (yF (aa rfl) ((decide_eq_false (not_not_intro rfl))))<|bN (o:=_) rfl rfl rfl (aa rfl)<|bN (o:=_) rfl rfl rfl (aa rfl)<|bN (o:=_) rfl rfl rfl (cW rfl rfl Tryz.underlying78 kS hA_z4r rfl (by omega))<|bN (o:=_) rfl rfl rfl (aD rfl qS (by decide))<|kE (o:=_) rfl rfl rfl (fun m=>aq rfl dq (fu (f:=ia) cE (m.rd 0 rfl) hgt 32 _ (zq _)))<|bN (o:=_) rfl rfl rfl (dF rfl rfl)<|an (bn rfl rfl)<|bo<|al (ρ' :=[(106,_),(86,_),(82,_),(63,_),(11,_),(10,_),(58,_),(9,_),(8,_),(7,_),(4,_),(15,_),(3,_),(0,_)]) ⟨rfl,rfl,rfl,rfl,rfl,rfl,rfl,rfl,rfl,rfl,rfl,rfl,rfl,rfl,trivial⟩<|ae<| ?_
     refine dj rfl ((decide_eq_false (not_not_intro rfl))) ?_
     refine aB<|ae<|aj<|hy (fun _=>aa rfl)<|hy (fun _=>aL rfl rfl (bx (by omega) (by omega)))<|hy (fun _=>ab rfl)<|ai<|al (ρ' :=[(8,_),(106,_),(86,_),(82,_),(63,_),(11,_),(10,_),(58,_),(9,_),(7,_),(4,_),(15,_),(3,_),(0,_)]) ⟨rfl,rfl,rfl,rfl,rfl,rfl,rfl,rfl,rfl,rfl,rfl,rfl,rfl,rfl,trivial⟩<|aR<|ae<|aj<|hy (fun _=>aa rfl)<|hy (fun _=>aL rfl rfl (bx (by omega) (by omega)))<|hy (fun _=>ab rfl)<|ai<|al (ρ' :=[(9,_),(8,_),(106,_),(86,_),(82,_),(63,_),(11,_),(10,_),(58,_),(7,_),(4,_),(15,_),(3,_),(0,_)]) ⟨rfl,rfl,rfl,rfl,rfl,rfl,rfl,rfl,rfl,rfl,rfl,rfl,rfl,rfl,trivial⟩<| ?_
     refine fW (k+1) (a+1) ⟨rfl,rfl,rfl,rfl,rfl,rfl,rfl,trivial⟩ [0,0,0,0] rfl [0,1,2,3,4,5,6,7,8,9,10,11,12] rfl (⟨by omega,by rw[hsu,List.length_append,←ha];rfl⟩) (by omega)
  ·obtain rfl:j=its.length:=by omega
   rw[←hgl]at ha
   refine bK<|ao<|ao<|aC<|ae<|ah<|aj<|hy (fun _=>aa rfl)<|hy (fun _=>aa rfl)<|hy (fun _=>aT rfl Tryz.underlying78)<|hy (fun _=>yT (cm rfl rfl) ((decide_eq_true (by omega))))<|hy (fun _=>aa rfl)<| ?_
   refine Ft (o:=_) rfl rfl rfl (au rfl Tryz.call49 (zo) [] rfl [12] rfl ?_)
   rintro _ _ _ ⟨rfl,rfl,rfl⟩
   refine hy (fun _=>bM rfl rfl)<|hy (fun _=>ab rfl)<|ai<|al (ρ' :=[(2,_),(58,_),(9,_),(8,_),(7,_),(4,_),(15,_),(3,_),(0,_)]) ⟨rfl,rfl,rfl,rfl,rfl,rfl,rfl,rfl,rfl,trivial⟩<|ak (X' :=[_,_,_,_]) (S' :=[_,_,_,_,_,_,_,_,_,_,_,_,_]) (fun _ m=>m)<|ae<|aS<| ?_
   exact a6 trivial rfl rfl [] rfl [] rfl ⟨rfl,rfl,rfl⟩
theorem kv(L:Option Addr)(np cp:Nat)(ys:List Cell)(W:World)(h3:(vP (.s 1 L np cp ys)).holds W)(hT3:Ty Tryz.prog 44 [.s 1 L np cp ys])(hro:dG.holds W):
  Calls Tryz.prog 6 #[.slice L np cp] W fun e w' =>e= .returned (.bool true)∧Fr No W w' :=by
 obtain⟨_,_,_,_,l3,e3,hv3,hz3⟩:=BG hT3
 cases e3
 have r3:=(View.rowOf (n:=np) (c:=cp) (A:=L) hv3).ok.1 W h3
 exact w8 (uy hz3) (by
  intro s hs
  simp only[List.mem_cons,List.not_mem_nil,or_false]at hs
  rcases hs with rfl|rfl
  ·exact r3
  ·exact hro)
end Go.Proofs.YtmibdabdlgmafaaGreatDoor
end
