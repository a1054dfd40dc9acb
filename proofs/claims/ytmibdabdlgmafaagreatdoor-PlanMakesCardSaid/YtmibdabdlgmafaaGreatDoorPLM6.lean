/- Part. -/
import Derived.Test.YtmibdabdlgmafaaGreatDoorPLM5
set_option linter.all false
section
set_option maxRecDepth 20000
set_option maxHeartbeats 2000000
namespace Go.Proofs.YtmibdabdlgmafaaGreatDoor
open Go.Eng Go.Hx
abbrev DQ:=Nat×Int×Int
def GV(x:DQ):List Value:=[.int .i64 (x.1:Int),.int .i64 x.2.1,.int .i64 x.2.2]
def wH(x:DQ):Value:=.agg (GV x).toArray
theorem rT(x:DQ):∀u∈GV x,u.oneCell' =true:=by
 intro u hu
 simp only[GV,List.mem_cons,List.not_mem_nil,or_false]at hu
 rcases hu with rfl|rfl|rfl <;> rfl
structure GX(x:DQ):Prop where
 i:x.1≤1000000
 o0:0≤x.2.1
 o1:x.2.1≤1000000
 s0:1≤x.2.2
 s1:x.2.2≤1000000
abbrev xC:=List (Dg×DQ)
def Ao(l:xC):List (Dg×Value):=l.map fun x=>(x.1,wH x.2)
theorem ow:∀(l:xC) (p:Dg),bz (Ao l) p=(bz l p).map wH
 | [],p=>rfl
 |(k,r)::q,p=>by
  have:=ow q p
  simp only[Ao,List.map_cons,bz]at this ⊢
  split <;> simp_all
theorem vx:∀(l:xC) (p:Dg) (x:DQ),cw (Ao l) p (wH x)=Ao (cw l p x)
 | [],p,x=>rfl
 |(k,r)::q,p,x=>by
  have:=vx q p x
  simp only[Ao,List.map_cons,cw]at this ⊢
  split
  ·simp
  ·simp[this]
def EZ(q:Pn)(A:Option Addr)(n c gm:Nat):List Value:=q.p.cs++[.slice A n c,.map (some gm)]
theorem FF{q:Pn}{A:Option Addr}{n c gm j:Nat}{u:Value}(h:q.p.cs[j]? =some u):(EZ q A n c gm)[j]? =some u:=by
 rw[EZ,List.getElem?_append_left (List.getElem?_eq_some_iff.1 h).1];exact h
abbrev fT(g gm:Nat)(q:Pn)(A:Option Addr)(c:Nat)(rs:List aX)(l:xC):bc:=eh [aE g 267 (EZ q A rs.length c gm),aG 27 1 (.slice A rs.length c) rs.length (j6 rs),dw DK gm (Ao l),dp rs]
structure iA(q:Pn)(rs:List aX)(l:xC):Prop where
 find:∀nm:Dg,bz l nm=eg q (rs.map aX.l) 0 nm.1
 rows:∀r∈rs,r.n=r.l.length∧r.n≤r.c∧r.n≤100000
 H0:∀(nm:Dg) x,bz l nm=some x→GX x
theorem iA.nil(q:Pn):iA q [] []:=⟨fun _=>rfl,fun r h=>absurd h List.not_mem_nil,fun _ _ h=>by cases h⟩
def dg(t:It):Dg:=⟨t.1.b,t.1.h⟩
theorem hG{t:It}{j:Nat}{u:Value}(h:(aP t.1.b)[j]? =some u):(eS t)[j]? =some u:=by
 rw[eS,List.getElem?_append_left (List.getElem?_eq_some_iff.1 h).1];exact h
theorem lO(t:It):(eS t)[32]? =some (Value.int .i64 t.2):=by
 rw[eS,List.getElem?_append_right (by rw[az,t.1.h];exact Nat.le_refl _),az,t.1.h];rfl
theorem nh{nm:List UInt8}{t:It}:∀(a:List It) (off:Int),cX (a++[t]) off nm=(cX a off nm).or (if t.1.b=nm then some (off+(a.map (·.2)).sum,t.2)else none)
 | [],off=>by simp[cX]
 |x::r,off=>by
  rw[List.cons_append,cX,cX]
  split
  ·rfl
  ·rw[nh r (off+x.2)]
   congr 1
   split
   ·simp;omega
   ·rfl
theorem oE{q:Pn}{nm tx:List UInt8}:∀(ts:List (List UInt8)) (i0:Nat),eg q (ts++[tx]) i0 nm=(eg q ts i0 nm).or ((cX (cb tx q) 0 nm).map fun x=>(i0+ts.length,x.1,x.2))
 | [],i0=>by
  rw[List.nil_append,eg,eg]
  rcases cX (cb tx q) 0 nm with _|⟨o,s⟩ <;> simp[eg]
 |l::r,i0=>by
  rw[List.cons_append,eg,eg,oE r (i0+1)]
  rcases cX (cb l q) 0 nm with _|⟨o,s⟩
  ·simp[Nat.add_assoc,Nat.add_comm 1]
  ·rfl
theorem tf{w:List UInt32}{q:Pn}(hq:q.ok):∀{f:Nat} {b c:List UInt8},c∈iE w q f b→1≤c.length
 |0,_,_,h=>by rw[iE]at h;exact absurd h List.not_mem_nil
 |f+1,b,c,h=>by
  rw[iE]at h
  split at h
  ·exact absurd h List.not_mem_nil
  ·next hb=>
   rcases List.mem_cons.1 h with h|h
   ·have hb1:1≤b.length:=Nat.pos_of_ne_zero fun h0=>hb (List.length_eq_zero_iff.1 h0)
    have:=jx (w:=w) hq hb1
    rw[h,List.length_take];omega
   ·exact tf hq h
theorem uD{q:Pn}(hq:q.ok){l:List UInt8}{k:Nat}{t:It}(h:(cb l q)[k]? =some t):1≤t.2∧t.2≤l.length:=by
 have hm:=List.mem_of_getElem? h
 obtain⟨c,hc,rfl⟩:=List.mem_map.1 hm
 have h1:=tf (w:=bm) hq (f:=l.length) (b:=l) hc
 have h2:=lR (w:=bm) (q:=q) (f:=l.length) (b:=l) hc
 show 1≤((c.length:Nat):Int)∧((c.length:Nat):Int)≤_
 omega
theorem Cv{a b c:Int}(ha:-9223372036854775808≤a∧a≤9223372036854775807)(hb:-9223372036854775808≤b∧b≤9223372036854775807)(hc:-9223372036854775808≤c∧c≤9223372036854775807):
  Tryz.prog.keyLits 2 271 [.int .i64 a,.int .i64 b,.int .i64 c]=some [Lit.int .i64 a,Lit.int .i64 b,Lit.int .i64 c]:=by
 have e:[Lit.int .i64 a,Lit.int .i64 b,Lit.int .i64 c]=[[Lit.int .i64 a],[Lit.int .i64 b],[Lit.int .i64 c]].flatten:=rfl
 rw[e]
 refine qc (d:=1) Tryz.underlying271 (show 3=_ by kernel_rfl) (by kernel_rfl) (mapM_some ?_)
 have c2:Tryz.prog.cellsOf 3=1:=by kernel_rfl
 simp only[List.map_cons,List.map_nil,c2]
 show [Tryz.prog.keyLits 1 3 [.int .i64 a],Tryz.prog.keyLits 1 3 [.int .i64 b],Tryz.prog.keyLits 1 3 [.int .i64 c]]=_
 rw[qZ (d:=0) Tryz.underlying3 ha.1 ha.2,qZ (d:=0) Tryz.underlying3 hb.1 hb.2,qZ (d:=0) Tryz.underlying3 hc.1 hc.2]
theorem zS{N:Nat}{D:List Deferred}{ρ:Env}{w:World}{ty t' :TypeId}{x y:Operand}{a:DQ}(hx:ev ρ x=some (wH a))(hy:ev ρ y=some (wH (0,0,0)))(ha:a.1≤1000000)(h1:0≤a.2.1∧a.2.1≤1000000)(h2:0≤a.2.2∧a.2.2≤1000000):
  Yl Tryz.prog N D ρ w (.binOp .eql 271 x y t') ty (.bool (decide ((a.1:Int)=0∧a.2.1=0∧a.2.2=0))):=
 C3 (m:=5) hx hy (by decide) (by kernel_rfl) (by kernel_rfl) xN (show 3=_ by kernel_rfl) (show 3=_ by kernel_rfl) (Cv (by omega) (by omega) (by omega)) (Cv (a:=((0:Nat):Int)) (by decide) (by decide) (by decide)) (by simp)
theorem Ae{l lj:xC}{its:List It}{k j:Nat}{t:It}(ht:its[j]? =some t)(h:∀nm:Dg,bz lj nm=(bz l nm).or ((cX (its.take j) 0 nm.1).map fun x=>(k,x.1,x.2))):
  (bz lj (dg t)=none→∀nm:Dg,bz (cw lj (dg t) (k,fY its j,t.2)) nm=(bz l nm).or ((cX (its.take (j+1)) 0 nm.1).map fun x=>(k,x.1,x.2)))∧
  ((bz lj (dg t)).isSome=true→∀nm:Dg,bz lj nm=(bz l nm).or ((cX (its.take (j+1)) 0 nm.1).map fun x=>(k,x.1,x.2))):=by
 have e:∀nm,cX (its.take (j+1)) 0 nm=(cX (its.take j) 0 nm).or (if t.1.b=nm then some (fY its j,t.2)else none):=fun nm=>by
  obtain⟨h1,rfl⟩:=List.getElem?_eq_some_iff.1 ht
  rw[List.take_succ_eq_append_getElem h1,nh,Int.zero_add]
  rfl
 refine⟨fun hn nm=> ?_,fun hs nm=> ?_⟩
 ·rw[ke,e]
  by_cases hd:dg t=nm
  ·subst hd
   have h0:=h (dg t)
   rw[hn]at h0
   rw[if_pos rfl,if_pos (show t.1.b=(dg t).1 from rfl)]
   rcases h1:bz l (dg t)with _|y
   ·rw[h1]at h0
    rcases h2:cX (its.take j) 0 (dg t).1 with _|z
    ·rfl
    ·rw[h2]at h0;simp at h0
   ·rw[h1]at h0;simp at h0
  ·have hd2:¬t.1.b=nm.1:=fun e=>hd (Subtype.ext e)
   rw[if_neg hd,if_neg hd2,h nm,Option.or_none]
 ·rw[e]
  by_cases hd:t.1.b=nm.1
  ·obtain rfl:dg t=nm:=Subtype.ext hd
   have h0:=h (dg t)
   rw[h0]at hs ⊢
   rcases h1:bz l (dg t)with _|y
   ·rw[h1]at hs
    rcases h2:cX (its.take j) 0 (dg t).1 with _|z
    ·rw[h2]at hs;simp at hs
    ·simp
   ·simp
  ·rw[if_neg hd,Option.or_none,h nm]
theorem Ay{q:Pn}(hq:q.ok):b6 Tryz.prog 126 [.agg q.p.cs.toArray] [] [] (fun v_ X_ S_=>∃g gm,v_=(.tuple #[.pointer (some ⟨g,0,none⟩),.int .i64 0])∧X_=[fT g gm q none 0 [] []]∧S_=[]):=by
 refine aJ (N:=11) Tryz.func126 rfl rfl (by simp) fun b=> ?_
 refine ah<|aj<| ?_
 refine hx (bn rfl (fun g1=> ?_))
 refine aF (fun w m=>m.bq 0 rfl (show _=aE g1 75 q.p.cs from congrArg (aE _ _) (aR _))) ?_
 refine hy (fun _=>ab rfl)<|hy (fun _=>ab rfl)<|ai<|ak (X' :=[_]) (S' :=[]) (fun _ m=>m)<|ae<|ah<|ah<|aj<|hy (fun m=>yV (aQ rfl gC fX rfl ((m.aN 0 rfl).aw)) ((rfl:_=Value.agg q.p.cs.toArray)))<| ?_
 refine hx (au rfl Tryz.call192 (ov (p:=q.p)) [] rfl [] rfl ?_)
 rintro _ _ _ ⟨rfl,rfl,rfl⟩
 refine hy (fun _=>eE rfl)<|ai<|al (ρ' :=[(6,_),(3,_),(2,_),(1,_),(0,_)]) ⟨rfl,rfl,rfl,rfl,rfl,trivial⟩<|ak (X' :=[_]) (S' :=[]) (fun _ m=>m)<|ae<| ?_
 refine cZ rfl ((decide_eq_false (fun h=>h hq.may))) ?_
 refine aA<|ae<|ah<|aj<|hy (fun m=>yV (aQ rfl gC fX rfl ((m.aN 0 rfl).aw)) ((rfl:_=Value.agg q.p.cs.toArray)))<| ?_
 refine hx (ly DK (fun g8=> ?_))
 refine hy (fun _=>yV (bD FH rfl rfl (by kernel_rfl) (.cons (o:=0) (sz:=3) (by kernel_rfl) rfl rfl (Nat.le_of_ble_eq_true rfl) (.cons (o:=4) (sz:=1) (by kernel_rfl) rfl rfl (Nat.le_of_ble_eq_true rfl) .nil))) ((rfl:_=Value.agg (EZ q none 0 0 g8).toArray)))<| ?_
 refine hx (bn rfl (fun g10=> ?_))
 refine hy (fun _=>ab rfl)<|hy (fun _=>ab rfl)<|ai<|al (ρ' :=[(3,_),(2,_),(6,_),(1,_),(0,_)]) ⟨rfl,rfl,rfl,rfl,rfl,trivial⟩<|ak (X' :=[_,_,_]) (S' :=[]) (fun _ m=>m)<|ae<|aU<| ?_
 refine ak (fun w m=>m.bq 0 rfl (show _=aE g10 267 (EZ q none ([]:List aX).length 0 g8)from congrArg (aE _ _) (aR _))) ?_
 refine ak (fun w m=>m.xG) ?_
 refine ak (fun w m=>m.cI (r' :=aG 27 1 (.slice none 0 0) 0 []) (.refl _ _) (Own.nil _ _ _ _) (fun k hk=>hk.elim)) ?_
 refine ak (X' :=fT g10 g8 q none 0 [] []::_) (fun w m=>(m.perm (ar [2,0,1,0] _ [_,_,_,_] _ rfl)).pack) ?_
 exact dh trivial rfl rfl rfl [0] rfl [] rfl ⟨g10,g8,rfl,rfl,rfl⟩
theorem sH{g gm:Nat}{q:Pn}{A:Option Addr}{c:Nat}{rs:List aX}{l:xC}{B:Option Addr}{n k:Nat}{tx:List UInt8}(hq:q.ok)(hok:iA q rs l)(hl:tx.length=n)(hn:n≤100000)(hrs:rs.length≤1000):b6 Tryz.prog 128 [.pointer (some ⟨g,0,none⟩),.slice B n k] [fT g gm q A c rs l] [cr 1 B n (aP tx),dI] (fun v_ X_ S_=>∃A1 c1 r l1,v_=(.int .i64 (rs.length:Nat))∧X_=[fT g gm q A1 c1 (rs++[r]) l1]∧S_=[]∧(iA q (rs++[r]) l1∧r.l=tx)):=by
 refine aJ (N:=68) Tryz.func128 rfl rfl (by simp) fun b=> ?_
 refine aS (fun m=>dZ (m.rd 0 rfl)) ?_
 rintro⟨hl_rb,hA_rb⟩
 refine bg (fun w m=>(m.perm (ar [0] _ [_] _ rfl)).unpack) ?_
 refine ah<|aj<|hy (fun _=>ab rfl)<|ai<|ae<|ah<|aj<|hy (fun _=>aa rfl)<|hy (fun _=>aL rfl)<|hy (fun _=>aD rfl rp (by decide))<|hy (fun m=>aq rfl x5 (ax (m.aN 0 rfl) rfl))<|hy (fun _=>aW rfl Tryz.underlying84)<|hy (fun _=>ab rfl)<|ai<|al (ρ' :=[(5,_),(4,_),(0,_),(1,_)]) ⟨rfl,rfl,rfl,rfl,trivial⟩<|ae<|ah<|cq [6,7,8,11] [(0,some 3),(1,some 2),(2,some 2),(3,some 2),(4,some 2),(5,some 0),(6,none),(7,none),(8,none),(9,some 3),(10,some 3),(11,none)] (by kernel_rfl) (by kernel_rfl) rfl 2<|an (aa rfl)<|an (aa rfl)<|an (aL rfl)<|an (aD rfl rp (by decide))<|bY (fun m=>aq rfl x5 (ax (m.aN 0 rfl) rfl))<|an (aa rfl)<| ?_
 refine dq (au rfl Tryz.call117 (mV (by omega)) [] rfl [0] rfl ?_)
 rintro _ _ _ ⟨v,rfl,rfl,rfl⟩
 refine⟨(fun _=>wk [1,1,1,1] [0,1] rfl rfl), ?_⟩
 refine b7 (fun m=>(m.own 0 rfl).slice) ?_
 rintro⟨A_x,c_x,rfl,hc_x⟩
 refine b7 (fun m=>(m.ord 0 rfl).2.1) fun hA_x=> ?_
 refine dq (bJ Tryz.underlying84 jT rfl rfl rfl (by simp[Value.cells,B8]) (by decide) (by decide) (fun g23=>⟨(fun _=>wk [2,2,2,2] [0,1] rfl rfl), ?_⟩))
 have hA_b23:0<1→(some (⟨g23,0,none⟩:Addr))≠none:=fun _ h=>by cases h
 refine dQ (fun w m=>m.bq 0 rfl (show _=aG 27 1 (.slice (some ⟨g23,0,none⟩) 1 1) 1 (j6 [⟨A_x,n,c_x,tx⟩])from rfl)) ?_
 refine dq (bp 3 rfl rfl rfl Tryz.underlying84 Tryz.underlying84 (by exact .inl rfl) jT rfl (fun m=>Src.bS (m.ord 0 rfl)) oe (by unfold maxLen;omega) (by omega) (fun u=>⟨(fun h=>absurd h (by decide)), ?_⟩))
 refine b7 (fun m=>(m.own 0 rfl).slice) ?_
 rintro⟨A_d1,c_d1,rfl,hc_d1⟩
 refine b7 (fun m=>(m.ord 0 rfl).2.1) fun hA_d1=> ?_
 refine an (aL rfl)<|an (aD rfl rp (by decide))<| ?_
 refine fS (bX 3 rfl rfl rfl Fe rfl (by first|exact Nat.le_of_ble_eq_true rfl|simp) ⟨(fun h=>absurd h (by decide)), ?_⟩)
 refine bk<|al (ρ' :=[(5,_),(4,_),(0,_),(1,_)]) ⟨rfl,rfl,rfl,rfl,trivial⟩<|ak (X' :=[_,_,_,_,_,_]) (S' :=[_,_]) (fun _ m=>m)<|ae<|ah<| ?_
 obtain⟨r,hr⟩:∃r:aX,r=⟨A_x,n,c_x,tx⟩:=⟨_,rfl⟩
 have hlr:(rs++[r]).length=rs.length+1:=by simp
 refine bg (fun w m=>m.bq 1 rfl (show _=aG 27 1 (.slice A_d1 (rs++[r]).length c_d1) (rs++[r]).length (j6 (rs++[r]))from(by rw[hlr,jz,hr]))) ?_
 refine bg (fun w m=>m.bq 1 rfl (show _=aE g 267 (EZ q A_d1 (rs++[r]).length c_d1 gm)from(by rw[hlr];rfl))) ?_
 refine bg (X' :=dp (rs++[r])::_) (fun w m=>(m.perm (ar [5,3] _ [_,_] _ rfl)).yo (fun y hy=>(List.mem_append.1 hy).imp id (fun h=>(List.mem_singleton.1 h).trans hr))) ?_
 refine aj<|hy (fun _=>aa rfl)<|hy (fun _=>aa rfl)<|hy (fun _=>aL rfl)<|hy (fun _=>aD rfl AV (by decide))<|hy (fun m=>yV (aQ rfl gC fX rfl (fun j u hu=>(m.aN 1 rfl).aw j u (FF hu))) ((rfl:_=Value.agg q.p.cs.toArray)))<| ?_
 refine hx (au rfl Tryz.call194 (B2 hq hl (by omega) (q:=q)) [] rfl [0,1] rfl ?_)
 rintro _ _ _ ⟨A2,c2,rfl,rfl,rfl⟩
 refine hy (fun _=>aa rfl)<|hy (fun _=>aH rfl rfl)<|hy (fun _=>aH rfl rfl)<|hy (fun _=>ab rfl)<|hy (fun _=>ab rfl)<|ai<|al (ρ' :=[(6,_),(5,_),(4,_),(0,_),(1,_)]) ⟨rfl,rfl,rfl,rfl,rfl,trivial⟩<|ak (X' :=[_,_,_,_,_,_]) (S' :=[_,_]) (fun _ m=>m)<|ae<|ah<|aj<|hy (fun _=>ab rfl)<|ai<|ae<|ah<|ah<|aj<|hy (fun _=>aa rfl)<|hy (fun _=>aW rfl Tryz.underlying80)<|hy (fun _=>aa rfl)<|ai<|ae<|aI<| ?_
 obtain⟨its,hits⟩:∃its,its=cb tx q:=⟨_,rfl⟩
 have hitl:its.length≤n:=by rw[hits,cb,List.length_map,←hl];exact ka tx q
 rw[←hits]
 refine aS (fun m=>(m.ord 0 rfl).2.1) fun hA_z=> ?_
 refine jU (fun j lj=>its.length-j) (fun j lj=>[(38,.int .i64 (j:Nat)),(8,.int .i64 (fY its j))]) (fun j lj=>[dw DK gm (Ao lj)]) (fun j lj=>[]) (fun j lj=>j≤its.length∧(∀nm:Dg,bz lj nm=(bz l nm).or ((cX (its.take j) 0 nm.1).map fun x=>(rs.length,x.1,x.2)))∧(∀(nm:Dg) x,bz lj nm=some x→GX x)) 0 l [(37,_),(36,_),(6,_),(5,_),(4,_),(0,_),(1,_)] ⟨rfl,rfl,rfl,rfl,rfl,rfl,rfl,trivial⟩ [5] rfl [] rfl (⟨Nat.zero_le _,fun nm=>by simp[cX],hok.H0⟩) ⟨rfl,rfl,trivial⟩ (fun j lj ⟨hj,hfj,hoj0⟩=> ?_)
 refine ah<|aj<|hy (fun _=>bu rfl rfl)<|ai<|ae<|ah<| ?_
 refine cj rfl (fun hlt=> ?_) (fun hlt=> ?_)
 ·obtain⟨t,ht⟩:∃t,its[j]? =some t:=⟨_,List.getElem?_eq_getElem (by omega)⟩
  have h32:(aP t.1.b).length=32:=by rw[az,t.1.h]
  have Cc:=uD hq (hits▸ht)
  have hoi:=ou (l:=tx) hq j
  rw[←hits]at hoi
  have htk:its.take (j+1)=its.take j++[t]:=by
   obtain⟨h1,rfl⟩:=List.getElem?_eq_some_iff.1 ht
   exact List.take_succ_eq_append_getElem h1
  refine aA<|ae<|ah<|aI<|ah<|aj<|hy (fun _=>cy rfl rfl Tryz.underlying80 iV hA_z rfl (by omega))<|hy (fun m=>yV (aQ rfl vg iV (bZ t) (dB (f:=eS) bZ (m.ord 1 rfl) ht)) ((rfl:_=Value.agg (eS t).toArray)))<| ?_
  refine hx (bf kR (fun g10=> ?_))
  refine cB (a6 0 rfl rfl rfl iV (bZ t) (lV t) rfl ?_)
  refine ai<|al (ρ' :=[(10,_),(39,_),(38,_),(8,_),(37,_),(36,_),(6,_),(5,_),(4,_),(0,_),(1,_)]) ⟨rfl,rfl,rfl,rfl,rfl,rfl,rfl,rfl,rfl,rfl,rfl,trivial⟩<|ak (X' :=[_,_,_,_,_,_,_]) (S' :=[_,_]) (fun _ m=>m)<|ae<|ah<|ah<| ?_
  obtain⟨hput,hkeep⟩:=Ae ht hfj
  rcases hg:bz lj (dg t)with _|x
  ·refine cq [] [(0,some 0),(1,some 0),(2,some 0),(3,some 0),(4,some 0),(5,some 0),(6,some 0),(7,some 0),(8,some 0)] (by kernel_rfl) (by kernel_rfl) rfl 99<|an (aa rfl)<|an (aL rfl)<|an (aD rfl ox (by decide))<|bY (fun m=>aq rfl vG (ax (m.aN 4 rfl) rfl))<|an (aD rfl fN (by decide))<|bY (fun m=>yV (aQ rfl cf bL h32 (fun j u hu=>(m.aN 0 rfl).aw j u (hG hu))) ((rfl:Value.agg (aP t.1.b).toArray=DK (dg t))))<|bY (fun m=>yV (fM (enc:=DK) (k:=(dg t)) rfl rfl Tryz.underlying265 ma (q7 rfl Tryz.underlying53 Tryz.underlying5 (by kernel_rfl) (by kernel_rfl) (by kernel_rfl)) (m.lP 1 rfl)) ((show eM false _ (bz (Ao lj) (dg t))=wH (0,0,0) by rw[ow,hg];rfl)))<|an (yV (dV ma rfl (by kernel_rfl)) ((rfl:_=wH (0,0,0))))<|an ((zS (a:=(0,0,0)) rfl rfl (by decide) (by decide) (by decide)))<|bk<|al (ρ' :=[(50,_),(10,_),(39,_),(38,_),(8,_),(37,_),(36,_),(6,_),(5,_),(4,_),(0,_),(1,_)]) ⟨rfl,rfl,rfl,rfl,rfl,rfl,rfl,rfl,rfl,rfl,rfl,rfl,trivial⟩<|ae<| ?_
   refine gj rfl ((decide_eq_true ⟨rfl,rfl,rfl⟩)) ?_
   refine cq [11] [(0,some 0),(1,some 0),(2,some 0),(3,some 0),(4,some 0),(5,some 0),(6,some 0),(7,some 0),(8,some 0),(9,some 0),(10,some 0),(11,none)] (by kernel_rfl) (by kernel_rfl) rfl 0<|an (aa rfl)<|an (aL rfl)<|an (aD rfl ox (by decide))<|bY (fun m=>aq rfl vG (ax (m.aN 4 rfl) rfl))<|an (aD rfl fN (by decide))<|bY (fun m=>yV (aQ rfl cf bL h32 (fun j u hu=>(m.aN 0 rfl).aw j u (hG hu))) ((rfl:Value.agg (aP t.1.b).toArray=DK (dg t))))<|an (aa rfl)<|an (aa rfl)<|an (aD rfl mj (by decide))<|bY (fun m=>aq rfl dr ((m.aN 0 rfl).aw 32 _ (lO t)))<|an (yV (bD ma rfl rfl (by kernel_rfl) (.cons (o:=0) (sz:=1) (by kernel_rfl) rfl rfl (Nat.le_of_ble_eq_true rfl) (.cons (o:=1) (sz:=1) (by kernel_rfl) rfl rfl (Nat.le_of_ble_eq_true rfl) (.cons (o:=2) (sz:=1) (by kernel_rfl) rfl rfl (Nat.le_of_ble_eq_true rfl) .nil)))) ((rfl:_=wH (rs.length,fY its j,t.2))))<| ?_
   refine fS (pg (enc:=DK) (k:=(dg t)) 1 rfl rfl rfl rfl Tryz.underlying265 (q7 rfl Tryz.underlying53 Tryz.underlying5 (by kernel_rfl) (by kernel_rfl) (by kernel_rfl)) ⟨(fun h=>absurd h (by decide)), ?_⟩)
   refine bk<|al (ρ' :=[(50,_),(10,_),(39,_),(38,_),(8,_),(37,_),(36,_),(6,_),(5,_),(4,_),(0,_),(1,_)]) ⟨rfl,rfl,rfl,rfl,rfl,rfl,rfl,rfl,rfl,rfl,rfl,rfl,trivial⟩<|ak (X' :=[_,_,_,_,_,_,_]) (S' :=[_,_]) (fun _ m=>m)<|ae<| ?_
   refine bg (fun w m=>m.bq 0 rfl (show _=dw DK gm (Ao (cw lj (dg t) (rs.length,fY its j,t.2)))from congrArg (dw DK gm) (vx _ _ _))) ?_
   have hoj:=ou (l:=tx) hq (j+1)
   refine aj<|hy (fun _=>aa rfl)<|hy (fun _=>aD rfl mj (by decide))<|hy (fun m=>aq rfl dr ((m.aN 1 rfl).aw 32 _ (lO t)))<|hy (fun _=>yV (aK rfl rfl (bs (by omega) (by omega))) ((show Value.int .i64 (fY its j+t.2)= .int .i64 (fY its (j+1)) by rw[mM ht])))<|hy (fun _=>ab rfl)<|ai<|al (ρ' :=[(8,_),(50,_),(10,_),(39,_),(38,_),(37,_),(36,_),(6,_),(5,_),(4,_),(0,_),(1,_)]) ⟨rfl,rfl,rfl,rfl,rfl,rfl,rfl,rfl,rfl,rfl,rfl,rfl,trivial⟩<|aM<|ae<|aj<|hy (fun _=>aK rfl rfl (bs (by omega) (by omega)))<|hy (fun _=>aa rfl)<|ai<|al (ρ' :=[(38,_),(8,_),(50,_),(10,_),(39,_),(37,_),(36,_),(6,_),(5,_),(4,_),(0,_),(1,_)]) ⟨rfl,rfl,rfl,rfl,rfl,rfl,rfl,rfl,rfl,rfl,rfl,rfl,trivial⟩<| ?_
   have hnew:∀(nm:Dg) x,bz (cw lj (dg t) (rs.length,fY its j,t.2)) nm=some x→GX x:=fun nm x h=>by
    rw[ke]at h
    split at h
    ·cases h;exact⟨by show rs.length≤_;omega,hoi.1,by show fY its j≤_;omega,Cc.1,by show t.2≤_;omega⟩
    ·exact hoj0 nm x h
   refine gk (j+1) (cw lj (dg t) (rs.length,fY its j,t.2)) ⟨rfl,rfl,rfl,rfl,rfl,rfl,rfl,rfl,rfl,trivial⟩ [0,1,1,1,1,1] rfl [0,1] rfl (⟨by omega,hput hg,hnew⟩) (by omega)
  ·have hx:=hoj0 _ _ hg
   have cB:=hx.s0
   refine cq [] [(0,some 0),(1,some 0),(2,some 0),(3,some 0),(4,some 0),(5,some 0),(6,some 0),(7,some 0),(8,some 0)] (by kernel_rfl) (by kernel_rfl) rfl 99<|an (aa rfl)<|an (aL rfl)<|an (aD rfl ox (by decide))<|bY (fun m=>aq rfl vG (ax (m.aN 4 rfl) rfl))<|an (aD rfl fN (by decide))<|bY (fun m=>yV (aQ rfl cf bL h32 (fun j u hu=>(m.aN 0 rfl).aw j u (hG hu))) ((rfl:Value.agg (aP t.1.b).toArray=DK (dg t))))<|bY (fun m=>yV (fM (enc:=DK) (k:=(dg t)) rfl rfl Tryz.underlying265 ma (q7 rfl Tryz.underlying53 Tryz.underlying5 (by kernel_rfl) (by kernel_rfl) (by kernel_rfl)) (m.lP 1 rfl)) ((show eM false _ (bz (Ao lj) (dg t))=wH x by rw[ow,hg];rfl)))<|an (yV (dV ma rfl (by kernel_rfl)) ((rfl:_=wH (0,0,0))))<|an ((zS (a:=x) rfl rfl hx.i ⟨hx.o0,hx.o1⟩ ⟨by omega,hx.s1⟩))<|bk<|al (ρ' :=[(50,_),(10,_),(39,_),(38,_),(8,_),(37,_),(36,_),(6,_),(5,_),(4,_),(0,_),(1,_)]) ⟨rfl,rfl,rfl,rfl,rfl,rfl,rfl,rfl,rfl,rfl,rfl,rfl,trivial⟩<|ae<| ?_
   refine cZ rfl ((decide_eq_false (fun h=>by have:=h.2.2;omega))) ?_
   have hoj:=ou (l:=tx) hq (j+1)
   refine aA<|ae<|aj<|hy (fun _=>aa rfl)<|hy (fun _=>aD rfl mj (by decide))<|hy (fun m=>aq rfl dr ((m.aN 0 rfl).aw 32 _ (lO t)))<|hy (fun _=>yV (aK rfl rfl (bs (by omega) (by omega))) ((show Value.int .i64 (fY its j+t.2)= .int .i64 (fY its (j+1)) by rw[mM ht])))<|hy (fun _=>ab rfl)<|ai<|al (ρ' :=[(8,_),(50,_),(10,_),(39,_),(38,_),(37,_),(36,_),(6,_),(5,_),(4,_),(0,_),(1,_)]) ⟨rfl,rfl,rfl,rfl,rfl,rfl,rfl,rfl,rfl,rfl,rfl,rfl,trivial⟩<|aM<|ae<|aj<|hy (fun _=>aK rfl rfl (bs (by omega) (by omega)))<|hy (fun _=>aa rfl)<|ai<|al (ρ' :=[(38,_),(8,_),(50,_),(10,_),(39,_),(37,_),(36,_),(6,_),(5,_),(4,_),(0,_),(1,_)]) ⟨rfl,rfl,rfl,rfl,rfl,rfl,rfl,rfl,rfl,rfl,rfl,rfl,trivial⟩<| ?_
   refine gk (j+1) lj ⟨rfl,rfl,rfl,rfl,rfl,rfl,rfl,rfl,rfl,trivial⟩ [1,1,1,1,1,1] rfl [0,1] rfl (⟨by omega,hkeep (by rw[hg];rfl),hoj0⟩) (by omega)
 ·obtain rfl:j=its.length:=by omega
  rw[List.take_length]at hfj
  refine bA<|ao<|ao<|aC<|ae<|ah<|aj<|hy (fun _=>aa rfl)<|hy (fun _=>ab rfl)<|ai<|al (ρ' :=[(4,_),(39,_),(38,_),(8,_),(37,_),(36,_),(6,_),(5,_),(0,_),(1,_)]) ⟨rfl,rfl,rfl,rfl,rfl,rfl,rfl,rfl,rfl,rfl,trivial⟩<|ae<|aU<| ?_
  refine ak (X' :=fT g gm q A_d1 c_d1 (rs++[r]) lj::_) (fun w m=>(m.perm (ar [3,3,0,1] _ [_,_,_,_] _ rfl)).pack) ?_
  have hrl:r.l=tx:=by rw[hr]
  have hfind:∀nm:Dg,bz lj nm=eg q ((rs++[r]).map aX.l) 0 nm.1:=fun nm=>by
   rw[List.map_append,List.map_cons,List.map_nil,hrl,oE,←hits,List.length_map,Nat.zero_add,←hok.find nm]
   exact hfj nm
  have hrows:∀y∈rs++[r],y.n=y.l.length∧y.n≤y.c∧y.n≤100000:=fun y hy=>by
   rcases List.mem_append.1 hy with h|h
   ·exact hok.rows y h
   ·rw[List.mem_singleton.1 h,hr]
    exact⟨hl.symm,by show n≤c_x;omega,hn⟩
  exact aZ trivial rfl rfl [0] rfl [] rfl ⟨A_d1,c_d1,r,lj,rfl,rfl,rfl,⟨⟨hfind,hrows,hoj0⟩,hrl⟩⟩
end Go.Proofs.YtmibdabdlgmafaaGreatDoor
end
section
set_option maxRecDepth 20000
set_option maxHeartbeats 2000000
namespace Go.Proofs.YtmibdabdlgmafaaGreatDoor
open Go.Eng Go.Hx
theorem wX{g gm:Nat}{q:Pn}{A:Option Addr}{c:Nat}{rs:List aX}{l:xC}{nm:Dg}:b6 Tryz.prog 196 [.pointer (some ⟨g,0,none⟩),DK nm] [fT g gm q A c rs l] [] (fun v_ X_ S_=>v_=(.tuple #[wH ((bz l nm).getD (0,0,0)),.bool (bz l nm).isSome])∧X_=[fT g gm q A c rs l]∧S_=[]):=by
 refine aJ (N:=19) Tryz.func196 rfl rfl (by simp) fun b=> ?_
 refine bg (fun w m=>(m.perm (ar [0] _ [_] _ rfl)).unpack) ?_
 refine ah<|aj<| ?_
 refine hx (bn rfl (fun g3=> ?_))
 refine aF (fun w m=>m.bq 0 rfl (show _=aE g3 53 (aP nm.1)from congrArg (aE _ _) (aR _))) ?_
 obtain⟨x,hxx⟩:∃x,x=(bz l nm).getD (0,0,0):=⟨_,rfl⟩
 rw[←hxx]
 refine hx (bf ma (fun g4=> ?_))
 refine hy (fun _=>ab rfl)<|ai<|ak (X' :=[_,_,_,_,_,_]) (S' :=[]) (fun _ m=>m)<|ae<|ah<|cq [9,10] [(0,some 1),(1,some 1),(2,some 1),(3,some 1),(4,some 1),(5,some 1),(6,some 1),(7,some 1),(8,some 2),(9,none),(10,none),(11,some 2)] (by kernel_rfl) (by kernel_rfl) rfl 1<|an (aa rfl)<|an (aL rfl)<|an (aD rfl ox (by decide))<|bY (fun m=>aq rfl vG (ax (m.aN 2 rfl) rfl))<|bY (fun m=>yV (aQ rfl cf bL (by rw[az];exact nm.2) ((m.aN 1 rfl).aw)) ((rfl:Value.agg _=DK nm)))<|bY (fun m=>yV (fM (enc:=DK) (k:=nm) rfl rfl Tryz.underlying265 ma (q7 rfl Tryz.underlying53 Tryz.underlying5 (by kernel_rfl) (by kernel_rfl) (by kernel_rfl)) (m.lP 4 rfl)) ((show eM true _ (bz (Ao l) nm)=Value.tuple #[wH x,.bool (bz l nm).isSome] by rw[ow,hxx];cases bz l nm <;> rfl)))<|an (aa rfl)<|an (aH rfl rfl)<|an (aH rfl rfl)<| ?_
 refine dq (bf ma (fun g6=>⟨(fun _=>wk [1,1,1,1,1,1] [] rfl rfl), ?_⟩))
 refine fS (a6 0 rfl rfl rfl sk rfl (rT x) rfl ⟨(fun h=>absurd h (by decide)), ?_⟩)
 refine an (ab rfl)<|bk<|al (ρ' :=[(7,_),(6,_),(5,_),(4,_),(3,_),(0,_),(1,_)]) ⟨rfl,rfl,rfl,rfl,rfl,rfl,rfl,trivial⟩<|ak (X' :=[_,_,_,_,_,_,_]) (S' :=[]) (fun _ m=>m)<|ae<|ah<|aj<|hy (fun m=>yV (aQ rfl xN sk rfl ((m.aN 0 rfl).aw)) ((rfl:_=wH x)))<|hy (fun _=>aa rfl)<| ?_
 refine cB (a6 1 rfl rfl rfl sk rfl (rT x) rfl ?_)
 refine hy (fun _=>ab rfl)<|ai<|al (ρ' :=[(5,_),(7,_),(6,_),(4,_),(3,_),(0,_),(1,_)]) ⟨rfl,rfl,rfl,rfl,rfl,rfl,rfl,trivial⟩<|ak (X' :=[_,_,_,_,_,_,_]) (S' :=[]) (fun _ m=>m)<|ae<|aU<| ?_
 refine ak (X' :=fT g gm q A c rs l::_) (fun w m=>(m.perm (ar [3,3,3,3] _ [_,_,_,_] _ rfl)).pack) ?_
 exact ea trivial rfl rfl rfl xN sk rfl (fun m=>(m.aN 1 rfl).aw) [0] rfl [] rfl ⟨rfl,rfl,rfl⟩
end Go.Proofs.YtmibdabdlgmafaaGreatDoor
end
section
set_option maxRecDepth 20000
set_option maxHeartbeats 4000000
namespace Go.Proofs.YtmibdabdlgmafaaGreatDoor
open Go.Eng Go.Hx
def cg(d:RD)(q:Pn)(ts:List (List UInt8))(nm:List UInt8):Int:=if d.gu nm=0 then 1 else if(eg q ts 0 nm).isSome then 2 else 3
def dy(fr:List UInt8→Int)(its:List It):Nat→List It
 |0=>[]
 |i+1=>match its[i]? with
  |some t=>if t.1.b∈(its.take i).map (fun t=>t.1.b)then dy fr its i else dy fr its i++[(t.1,fr t.1.b)]
  |none=>dy fr its i
theorem jM{fr:List UInt8→Int}{its:List It}{i:Nat}{t:It}(h:its[i]? =some t):dy fr its (i+1)=if t.1.b∈(its.take i).map (fun t=>t.1.b)then dy fr its i else dy fr its i++[(t.1,fr t.1.b)]:=by
 rw[dy,h]
theorem jv{fr:List UInt8→Int}{its:List It}:∀(i:Nat),(dy fr its i).length≤i
 |0=>Nat.le_refl _
 |i+1=>by
  have:=jv (fr:=fr) (its:=its) i
  rw[dy]
  split
  ·split
   ·omega
   ·rw[List.length_append,List.length_singleton];omega
  ·omega
def gn(fr:List UInt8→Int)(its:List It):List It:=dy fr its its.length
theorem w9{its:List It}{j:Nat}{t:It}(h:its[j]? =some t):(its.take (j+1)).map (fun t=>t.1.b)=(its.take j).map (fun t=>t.1.b)++[t.1.b]:=by
 obtain⟨h1,rfl⟩:=List.getElem?_eq_some_iff.1 h
 rw[List.take_succ_eq_append_getElem h1,List.map_append]
 rfl
theorem zG{x:RX}{kk:Nat}{u:IX}{T:Option Addr}{n c:Nat}{rs:List aX}{q:Pn}(ok:zQ x.d kk)(hkk:kk≤100000)(hrd:∀p,(x.d.cA p).length≤10000000)(hq:q.ok)(hn:rs.length=n)(hr:∀r∈rs,r.n=r.l.length∧r.n≤r.c∧r.n≤1000000)(hnn:n≤1000000)(hu:u.its.length≤100000):b6 Tryz.prog 44 [.agg x.cs.toArray,.agg u.cs.toArray,.slice T n c,.agg q.p.cs.toArray] [] [fG x,cr 33 u.A u.its.length (iM u.its),cr 1 T n (j6 rs),dp rs,dI] (fun v_ X_ S_=>∃A1 k c1,v_=(.slice A1 k c1)∧X_=[aG 96 33 (.slice A1 k c1) k (iM (gn (cg x.d q (rs.map aX.l)) u.its))]∧S_=[]∧(k=(gn (cg x.d q (rs.map aX.l)) u.its).length)):=by
 refine aJ (N:=70) Tryz.func44 rfl rfl (by simp) fun b=> ?_
 refine aS (fun m=>fv (m.rd 1 rfl)) ?_
 rintro⟨hl_it,hA_it⟩
 refine aS (fun m=>fv (m.rd 2 rfl)) ?_
 rintro⟨hl_rt,hA_rt⟩
 refine ah<|aj<| ?_
 refine hx (bn rfl (fun g4=> ?_))
 refine aF (fun w m=>m.bq 0 rfl (show _=aE g4 39 x.cs from congrArg (aE _ _) (aR _))) ?_
 refine hx (bn rfl (fun g5=> ?_))
 refine aF (fun w m=>m.bq 0 rfl (show _=aE g5 82 u.cs from congrArg (aE _ _) (aR _))) ?_
 refine hx (bn rfl (fun g7=> ?_))
 refine aF (fun w m=>m.bq 0 rfl (show _=aE g7 75 q.p.cs from congrArg (aE _ _) (aR _))) ?_
 refine hy (fun _=>ab rfl)<|ai<|ak (X' :=[_,_,_]) (S' :=[_,_,_,_,_]) (fun _ m=>m)<|ae<|ah<|aj<|hy (fun _=>ab rfl)<|ai<|ae<|ah<|ah<|aj<|hy (fun _=>ab rfl)<|ai<|ae<|aI<| ?_
 refine bg (fun w m=>m.cI (r' :=aG 96 33 (.slice none 0 0) 0 []) (.refl _ _) (Own.nil _ _ _ _) (fun k hk=>hk.elim)) ?_
 refine kZ (fun i A1 k1 c1=>u.its.length-i) (fun i A1 k1 c1=>[(9,.slice A1 k1 c1),(10,.int .i64 (i:Nat))]) (fun i A1 k1 c1=>[aG 96 33 (.slice A1 k1 c1) k1 (iM (dy (cg x.d q (rs.map aX.l)) u.its i))]) (fun i A1 k1 c1=>[]) (fun i A1 k1 c1=>i≤u.its.length∧k1=(dy (cg x.d q (rs.map aX.l)) u.its i).length) 0 none 0 0 [(8,_),(7,_),(5,_),(4,_),(0,_),(1,_),(2,_),(3,_)] ⟨rfl,rfl,rfl,rfl,rfl,rfl,rfl,rfl,trivial⟩ [0] rfl [] rfl (⟨Nat.zero_le _,rfl⟩) ⟨rfl,rfl,trivial⟩ (fun i A1 k1 c1 ⟨hi,hk1⟩=> ?_)
 refine ah<|ah<|aj<|hy (fun _=>aa rfl)<|hy (fun _=>aD rfl rK (by decide))<|hy (fun m=>aq rfl uk (ax (m.aN 2 rfl) (i:=35) u.z6))<|hy (fun _=>aW rfl Tryz.underlying80)<|hy (fun _=>bu rfl rfl)<|ai<|al (ρ' :=[(22,_),(9,_),(10,_),(8,_),(7,_),(5,_),(4,_),(0,_),(1,_),(2,_),(3,_)]) ⟨rfl,rfl,rfl,rfl,rfl,rfl,rfl,rfl,rfl,rfl,rfl,trivial⟩<|ae<| ?_
 refine cj rfl (fun hlt=> ?_) (fun hlt=> ?_)
 ·obtain⟨t,ht⟩:∃t,u.its[i]? =some t:=⟨_,List.getElem?_eq_getElem (by omega)⟩
  have h32:(aP t.1.b).length=32:=by rw[az,t.1.h]
  have hsu:=jM (fr:=cg x.d q (rs.map aX.l)) ht
  have hsl:=jv (fr:=cg x.d q (rs.map aX.l)) (its:=u.its) i
  refine aA<|ae<|ah<|aI<|ah<|aj<|hy (fun _=>aD rfl rK (by decide))<|hy (fun m=>aq rfl uk (ax (m.aN 2 rfl) (i:=35) u.z6))<|hy (fun _=>aa rfl)<|hy (fun _=>cy rfl rfl Tryz.underlying80 iV hA_it rfl (by omega))<|hy (fun _=>aD rfl fN (by decide))<|hy (fun m=>aQ rfl cf bL h32 (rj (m.rd 1 rfl) ht))<| ?_
  refine hx (bf fC (fun g11=> ?_))
  refine cB (a6 0 rfl rfl rfl bL h32 bh rfl ?_)
  refine ai<|al (ρ' :=[(11,_),(22,_),(9,_),(10,_),(8,_),(7,_),(5,_),(4,_),(0,_),(1,_),(2,_),(3,_)]) ⟨rfl,rfl,rfl,rfl,rfl,rfl,rfl,rfl,rfl,rfl,rfl,rfl,trivial⟩<|ak (X' :=[_,_,_,_,_]) (S' :=[_,_,_,_,_]) (fun _ m=>m)<|ae<|ah<|aj<|hy (fun _=>ab rfl)<|ai<|ae<|ah<|ah<|aj<|hy (fun _=>ab rfl)<|ai<|ae<|aI<| ?_
  refine jU (fun j nb=>i-j) (fun j nb=>[(13,.int .i64 (j:Nat)),(12,.bool nb)]) (fun j nb=>[]) (fun j nb=>[]) (fun j nb=>j≤i∧nb=decide (t.1.b∈(u.its.take j).map (fun t=>t.1.b))) 0 false [(11,_),(22,_),(9,_),(10,_),(8,_),(7,_),(5,_),(4,_),(0,_),(1,_),(2,_),(3,_)] ⟨rfl,rfl,rfl,rfl,rfl,rfl,rfl,rfl,rfl,rfl,rfl,rfl,trivial⟩ [] rfl [] rfl (⟨Nat.zero_le _,by simp⟩) ⟨rfl,rfl,trivial⟩ (fun j nb ⟨hj,hnb⟩=> ?_)
  refine ah<|ah<|aj<|hy (fun _=>aa rfl)<|hy (fun _=>aa rfl)<|hy (fun _=>bu rfl rfl)<|ai<|al (ρ' :=[(33,_),(13,_),(12,_),(11,_),(22,_),(9,_),(10,_),(8,_),(7,_),(5,_),(4,_),(0,_),(1,_),(2,_),(3,_)]) ⟨rfl,rfl,rfl,rfl,rfl,rfl,rfl,rfl,rfl,rfl,rfl,rfl,rfl,rfl,rfl,trivial⟩<|ae<| ?_
  refine cj rfl (fun hlt2=> ?_) (fun hlt2=> ?_)
  ·obtain⟨t2,ht2⟩:∃t,u.its[j]? =some t:=⟨_,List.getElem?_eq_getElem (by omega)⟩
   have h32t:(aP t2.1.b).length=32:=by rw[az,t2.1.h]
   have hns:=w9 ht2
   cases nb
   ·have hno:=of_decide_eq_false hnb.symm
    refine aA<|ae<|ah<|aI<|cq [] [(0,some 0),(1,some 0),(2,some 0),(3,some 0),(4,some 0),(5,some 0),(6,some 0),(7,some 0),(8,some 0),(9,some 0),(10,some 0),(11,some 0)] (by kernel_rfl) (by kernel_rfl) rfl 99<|an (aa rfl)<|an (aa rfl)<|b5 (o:=_) rfl rfl rfl (aD rfl rK (by decide))<|lJ (o:=_) rfl rfl rfl (fun m=>aq rfl uk (ax (m.aN 3 rfl) (i:=35) u.z6))<|b5 (o:=_) rfl rfl rfl (aa rfl)<|b5 (o:=_) rfl rfl rfl (cy rfl rfl Tryz.underlying80 iV hA_it rfl (by omega))<|b5 (o:=_) rfl rfl rfl (aD rfl fN (by decide))<|lJ (o:=_) rfl rfl rfl (fun m=>aQ rfl cf bL h32t (rj (m.rd 1 rfl) ht2))<|lJ (o:=_) rfl rfl rfl (fun m=>aQ rfl cf bL h32 ((m.aN 0 rfl).aw))<|b5 (o:=_) rfl rfl rfl (qN rfl rfl t2.1.h t.1.h)<|an (bo rfl rfl)<|an (ab rfl)<|bk<|al (ρ' :=[(12,_),(33,_),(13,_),(11,_),(22,_),(9,_),(10,_),(8,_),(7,_),(5,_),(4,_),(0,_),(1,_),(2,_),(3,_)]) ⟨rfl,rfl,rfl,rfl,rfl,rfl,rfl,rfl,rfl,rfl,rfl,rfl,rfl,rfl,rfl,trivial⟩<|aM<|ae<|aj<|hy (fun _=>aa rfl)<|hy (fun _=>aK rfl rfl (bs (by omega) (by omega)))<|hy (fun _=>ab rfl)<|ai<|al (ρ' :=[(13,_),(12,_),(33,_),(11,_),(22,_),(9,_),(10,_),(8,_),(7,_),(5,_),(4,_),(0,_),(1,_),(2,_),(3,_)]) ⟨rfl,rfl,rfl,rfl,rfl,rfl,rfl,rfl,rfl,rfl,rfl,rfl,rfl,rfl,rfl,trivial⟩<| ?_
    refine gk (j+1) (decide (t2.1.b=t.1.b)) ⟨rfl,rfl,rfl,rfl,rfl,rfl,rfl,rfl,rfl,rfl,rfl,rfl,rfl,rfl,trivial⟩ [0,0,0,0,0] rfl [0,1,2,3,4] rfl (⟨by omega,by rw[hns];exact decide_eq_decide.2 ⟨fun h=>List.mem_append_right _ (List.mem_singleton.2 h.symm),fun h=>(List.mem_append.1 h).elim (fun h=>absurd h hno) (fun h=>(List.mem_singleton.1 h).symm)⟩⟩) (by omega)
   ·have hyes:=of_decide_eq_true hnb.symm
    refine aA<|ae<|ah<|aI<|cq [] [(0,some 0),(1,some 0),(2,some 0),(3,some 0),(4,some 0),(5,some 0),(6,some 0),(7,some 0),(8,some 0),(9,some 0),(10,some 0),(11,some 0)] (by kernel_rfl) (by kernel_rfl) rfl 99<|an (aa rfl)<|an (aa rfl)<|aY rfl rfl rfl (by decide)<|aY rfl rfl rfl (by decide)<|aY rfl rfl rfl (by decide)<|aY rfl rfl rfl (by decide)<|aY rfl rfl rfl (by decide)<|aY rfl rfl rfl (by decide)<|aY rfl rfl rfl (by decide)<|aY rfl rfl rfl (by decide)<|an (bT rfl rfl)<|an (ab rfl)<|bk<|al (ρ' :=[(12,_),(33,_),(13,_),(11,_),(22,_),(9,_),(10,_),(8,_),(7,_),(5,_),(4,_),(0,_),(1,_),(2,_),(3,_)]) ⟨rfl,rfl,rfl,rfl,rfl,rfl,rfl,rfl,rfl,rfl,rfl,rfl,rfl,rfl,rfl,trivial⟩<|aM<|ae<|aj<|hy (fun _=>aa rfl)<|hy (fun _=>aK rfl rfl (bs (by omega) (by omega)))<|hy (fun _=>ab rfl)<|ai<|al (ρ' :=[(13,_),(12,_),(33,_),(11,_),(22,_),(9,_),(10,_),(8,_),(7,_),(5,_),(4,_),(0,_),(1,_),(2,_),(3,_)]) ⟨rfl,rfl,rfl,rfl,rfl,rfl,rfl,rfl,rfl,rfl,rfl,rfl,rfl,rfl,rfl,trivial⟩<| ?_
    refine gk (j+1) true ⟨rfl,rfl,rfl,rfl,rfl,rfl,rfl,rfl,rfl,rfl,rfl,rfl,rfl,rfl,trivial⟩ [0,0,0,0,0] rfl [0,1,2,3,4] rfl (⟨by omega,by rw[hns];exact(decide_eq_true (List.mem_append_left _ hyes)).symm⟩) (by omega)
  ·obtain rfl:j=i:=by omega
   subst hnb
   refine bA<|ao<|ao<|aC<|ae<|ah<|ah<|aj<|hy (fun _=>aa rfl)<|ai<|ae<| ?_
   refine cj rfl (fun hseen=> ?_) (fun hseen=> ?_)
   ·rw[if_pos hseen]at hsu
    rw[←hsu]at hk1
    rw[←hsu]
    refine bA<|ao<|aC<|ae<|aj<|hy (fun _=>aa rfl)<|hy (fun _=>aK rfl rfl (bs (by omega) (by omega)))<|hy (fun _=>ab rfl)<|ai<|al (ρ' :=[(10,_),(47,_),(33,_),(13,_),(12,_),(11,_),(22,_),(9,_),(8,_),(7,_),(5,_),(4,_),(0,_),(1,_),(2,_),(3,_)]) ⟨rfl,rfl,rfl,rfl,rfl,rfl,rfl,rfl,rfl,rfl,rfl,rfl,rfl,rfl,rfl,rfl,trivial⟩<| ?_
    refine fa (j+1) A1 k1 c1 ⟨rfl,rfl,rfl,rfl,rfl,rfl,rfl,rfl,rfl,rfl,trivial⟩ [1,1,1,1] rfl [0,1,2,3,4] rfl (⟨by omega,hk1⟩) (by omega)
   ·rw[if_neg hseen]at hsu
    refine aA<|ae<|ah<|aj<|hy (fun _=>ab rfl)<|ai<|ae<|ah<|aj<|hy (fun _=>aa rfl)<|hy (fun m=>yV (aQ rfl gC fX rfl ((m.aN 2 rfl).aw)) ((rfl:_=Value.agg q.p.cs.toArray)))<|hy (fun m=>aQ rfl cf bL h32 ((m.aN 0 rfl).aw))<| ?_
    refine hx (au rfl Tryz.call134 (yK hq t.1.h hn hr hnn) [] rfl [2,3] rfl ?_)
    rintro _ _ _ ⟨rfl,rfl,rfl⟩
    refine hx (bf vF (fun g15=> ?_))
    refine cB (a6 0 rfl rfl rfl tD (rJ _) (rk _) rfl ?_)
    refine aF (fun w m=>m.bq 0 rfl (show _=aE g15 212 (CD (eg q (rs.map aX.l) 0 t.1.b))from congrArg (aE _ _) (aR _))) ?_
    rcases hfs:eg q (rs.map aX.l) 0 t.1.b with _|⟨i0,o0,s0⟩
    ·refine ai<|al (ρ' :=[(15,_),(14,_),(47,_),(33,_),(13,_),(12,_),(11,_),(22,_),(9,_),(10,_),(8,_),(7,_),(5,_),(4,_),(0,_),(1,_),(2,_),(3,_)]) ⟨rfl,rfl,rfl,rfl,rfl,rfl,rfl,rfl,rfl,rfl,rfl,rfl,rfl,rfl,rfl,rfl,rfl,rfl,trivial⟩<|ak (X' :=[_,_,_,_,_,_]) (S' :=[_,_,_,_,_]) (fun _ m=>m)<|ae<|ah<|ah<|aj<|hy (fun _=>aD rfl vm (by decide))<|hy (fun m=>aq rfl dr (ax (m.aN 0 rfl) (i:=0) (show(CD none)[0]? =some (Value.int .i64 (-1))from rfl)))<|hy (fun _=>ee rfl rfl)<|ai<|al (ρ' :=[(54,_),(15,_),(14,_),(47,_),(33,_),(13,_),(12,_),(11,_),(22,_),(9,_),(10,_),(8,_),(7,_),(5,_),(4,_),(0,_),(1,_),(2,_),(3,_)]) ⟨rfl,rfl,rfl,rfl,rfl,rfl,rfl,rfl,rfl,rfl,rfl,rfl,rfl,rfl,rfl,rfl,rfl,rfl,rfl,trivial⟩<|ae<| ?_
     refine cZ rfl ((by decide)) ?_
     refine aA<|ae<|ah<|aj<|hy (fun m=>yV (aQ rfl cC bV rfl ((m.aN 5 rfl).aw)) ((rfl:_=Value.agg x.cs.toArray)))<|hy (fun m=>aQ rfl cf bL h32 ((m.aN 1 rfl).aw))<| ?_
     refine hx (au rfl Tryz.call74 (yB ok hkk t.1.h (hrd _)) [] rfl [0,4] rfl ?_)
     rintro _ _ _ ⟨rfl,rfl,rfl⟩
     refine hy (fun _=>aa rfl)<|hy (fun _=>aH rfl rfl)<|hy (fun _=>aH rfl rfl)<|hy (fun _=>ab rfl)<|hy (fun _=>ab rfl)<|ai<|al (ρ' :=[(17,_),(54,_),(15,_),(14,_),(47,_),(33,_),(13,_),(12,_),(11,_),(22,_),(9,_),(10,_),(8,_),(7,_),(5,_),(4,_),(0,_),(1,_),(2,_),(3,_)]) ⟨rfl,rfl,rfl,rfl,rfl,rfl,rfl,rfl,rfl,rfl,rfl,rfl,rfl,rfl,rfl,rfl,rfl,rfl,rfl,rfl,trivial⟩<|ak (X' :=[_,_,_,_,_,_]) (S' :=[_,_,_,_,_]) (fun _ m=>m)<|ae<|ah<|ah<|aj<|hy (fun _=>aa rfl)<|hy (fun _=>cn rfl rfl)<|ai<|al (ρ' :=[(62,_),(17,_),(54,_),(15,_),(14,_),(47,_),(33,_),(13,_),(12,_),(11,_),(22,_),(9,_),(10,_),(8,_),(7,_),(5,_),(4,_),(0,_),(1,_),(2,_),(3,_)]) ⟨rfl,rfl,rfl,rfl,rfl,rfl,rfl,rfl,rfl,rfl,rfl,rfl,rfl,rfl,rfl,rfl,rfl,rfl,rfl,rfl,rfl,trivial⟩<|ae<| ?_
     refine cj rfl (fun he=> ?_) (fun he=> ?_)
     ·have hfr:cg x.d q (rs.map aX.l) t.1.b=1:=by unfold cg;rw[if_pos he]
      rw[hfr]at hsu
      refine aj<|hy (fun _=>ab rfl)<|ai<|ae<|aj<|hy (fun _=>aa rfl)<|hy (fun m=>aQ rfl cf bL h32 ((m.aN 1 rfl).aw))<|hy (fun _=>aa rfl)<|hy (fun _=>bD nZ rfl rfl (by kernel_rfl) (nv (t:=(t.1,1)) rP qS))<| ?_
      refine hx (bJ Tryz.underlying90 nZ rfl rfl rfl (by intro v hv;rw[List.mem_singleton.1 hv];show(eS (t.1,1)).toArray.size=33;rw[List.size_toArray,bZ]) (by decide) (by decide) (fun g67=> ?_))
      have hA_b67:0<1→(some (⟨g67,0,none⟩:Addr))≠none:=fun _ h=>by cases h
      refine aF (fun w m=>m.bq 0 rfl (show _=aG 96 33 (.slice (some ⟨g67,0,none⟩) 1 1) 1 (iM [(t.1,1)])from rfl)) ?_
      refine hx (bp 3 rfl rfl rfl Tryz.underlying90 Tryz.underlying90 (by exact .inl rfl) nZ rfl (fun m=>Src.bS (m.ord 0 rfl)) jB (by unfold maxLen;omega) (by omega) (fun u2=> ?_))
      refine aB (fun m=>(m.own 0 rfl).slice) ?_
      rintro⟨A_o,c_o,rfl,hc_o⟩
      refine aB (fun m=>(m.ord 0 rfl).2.1) fun hA_o=> ?_
      refine aF (fun w m=>m.bq 0 rfl (show _=aG 96 33 (.slice A_o (k1+1) c_o) (k1+1) (iM (dy (cg x.d q (rs.map aX.l)) u.its (j+1)))from congrArg (aG _ _ _ _) (by rw[hsu,eP]))) ?_
      refine hy (fun _=>ab rfl)<|ai<|al (ρ' :=[(9,_),(14,_),(62,_),(17,_),(54,_),(15,_),(47,_),(33,_),(13,_),(12,_),(11,_),(22,_),(10,_),(8,_),(7,_),(5,_),(4,_),(0,_),(1,_),(2,_),(3,_)]) ⟨rfl,rfl,rfl,rfl,rfl,rfl,rfl,rfl,rfl,rfl,rfl,rfl,rfl,rfl,rfl,rfl,rfl,rfl,rfl,rfl,rfl,trivial⟩<|ak (X' :=[_,_,_,_,_,_,_]) (S' :=[_,_,_,_,_]) (fun _ m=>m)<|aM<|ae<|aj<|hy (fun _=>aa rfl)<|hy (fun _=>aK rfl rfl (bs (by omega) (by omega)))<|hy (fun _=>ab rfl)<|ai<|al (ρ' :=[(10,_),(9,_),(14,_),(62,_),(17,_),(54,_),(15,_),(47,_),(33,_),(13,_),(12,_),(11,_),(22,_),(8,_),(7,_),(5,_),(4,_),(0,_),(1,_),(2,_),(3,_)]) ⟨rfl,rfl,rfl,rfl,rfl,rfl,rfl,rfl,rfl,rfl,rfl,rfl,rfl,rfl,rfl,rfl,rfl,rfl,rfl,rfl,rfl,trivial⟩<| ?_
      refine fa (j+1) A_o (k1+1) c_o ⟨rfl,rfl,rfl,rfl,rfl,rfl,rfl,rfl,rfl,rfl,trivial⟩ [0,3,3,3] rfl [0,1,2,3,4] rfl (⟨by omega,by rw[hsu,List.length_append,hk1];rfl⟩) (by omega)
     ·have hfr:cg x.d q (rs.map aX.l) t.1.b=3:=by unfold cg;rw[if_neg he,hfs];rfl
      rw[hfr]at hsu
      refine aA<|ae<|aj<|hy (fun _=>aa rfl)<|hy (fun m=>aQ rfl cf bL h32 ((m.aN 1 rfl).aw))<|hy (fun _=>aa rfl)<|hy (fun _=>bD nZ rfl rfl (by kernel_rfl) (nv (t:=(t.1,3)) rP qS))<| ?_
      refine hx (bJ Tryz.underlying90 nZ rfl rfl rfl (by intro v hv;rw[List.mem_singleton.1 hv];show(eS (t.1,3)).toArray.size=33;rw[List.size_toArray,bZ]) (by decide) (by decide) (fun g67=> ?_))
      have hA_b67:0<1→(some (⟨g67,0,none⟩:Addr))≠none:=fun _ h=>by cases h
      refine aF (fun w m=>m.bq 0 rfl (show _=aG 96 33 (.slice (some ⟨g67,0,none⟩) 1 1) 1 (iM [(t.1,3)])from rfl)) ?_
      refine hx (bp 3 rfl rfl rfl Tryz.underlying90 Tryz.underlying90 (by exact .inl rfl) nZ rfl (fun m=>Src.bS (m.ord 0 rfl)) jB (by unfold maxLen;omega) (by omega) (fun u2=> ?_))
      refine aB (fun m=>(m.own 0 rfl).slice) ?_
      rintro⟨A_o,c_o,rfl,hc_o⟩
      refine aB (fun m=>(m.ord 0 rfl).2.1) fun hA_o=> ?_
      refine aF (fun w m=>m.bq 0 rfl (show _=aG 96 33 (.slice A_o (k1+1) c_o) (k1+1) (iM (dy (cg x.d q (rs.map aX.l)) u.its (j+1)))from congrArg (aG _ _ _ _) (by rw[hsu,eP]))) ?_
      refine hy (fun _=>ab rfl)<|ai<|al (ρ' :=[(9,_),(62,_),(17,_),(54,_),(15,_),(14,_),(47,_),(33,_),(13,_),(12,_),(11,_),(22,_),(10,_),(8,_),(7,_),(5,_),(4,_),(0,_),(1,_),(2,_),(3,_)]) ⟨rfl,rfl,rfl,rfl,rfl,rfl,rfl,rfl,rfl,rfl,rfl,rfl,rfl,rfl,rfl,rfl,rfl,rfl,rfl,rfl,rfl,trivial⟩<|ak (X' :=[_,_,_,_,_,_,_]) (S' :=[_,_,_,_,_]) (fun _ m=>m)<|aM<|ae<|aj<|hy (fun _=>aa rfl)<|hy (fun _=>aK rfl rfl (bs (by omega) (by omega)))<|hy (fun _=>ab rfl)<|ai<|al (ρ' :=[(10,_),(9,_),(62,_),(17,_),(54,_),(15,_),(14,_),(47,_),(33,_),(13,_),(12,_),(11,_),(22,_),(8,_),(7,_),(5,_),(4,_),(0,_),(1,_),(2,_),(3,_)]) ⟨rfl,rfl,rfl,rfl,rfl,rfl,rfl,rfl,rfl,rfl,rfl,rfl,rfl,rfl,rfl,rfl,rfl,rfl,rfl,rfl,rfl,trivial⟩<| ?_
      refine fa (j+1) A_o (k1+1) c_o ⟨rfl,rfl,rfl,rfl,rfl,rfl,rfl,rfl,rfl,rfl,trivial⟩ [0,3,3,3] rfl [0,1,2,3,4] rfl (⟨by omega,by rw[hsu,List.length_append,hk1];rfl⟩) (by omega)
    ·refine ai<|al (ρ' :=[(15,_),(14,_),(47,_),(33,_),(13,_),(12,_),(11,_),(22,_),(9,_),(10,_),(8,_),(7,_),(5,_),(4,_),(0,_),(1,_),(2,_),(3,_)]) ⟨rfl,rfl,rfl,rfl,rfl,rfl,rfl,rfl,rfl,rfl,rfl,rfl,rfl,rfl,rfl,rfl,rfl,rfl,trivial⟩<|ae<|ah<|ah<|aj<|hy (fun _=>aD rfl vm (by decide))<|hy (fun m=>aq rfl dr (ax (m.aN 0 rfl) (i:=0) (show(CD (some (i0,o0,s0)))[0]? =some (Value.int .i64 (i0:Nat))from rfl)))<|hy (fun _=>ee rfl rfl)<|ai<|al (ρ' :=[(54,_),(15,_),(14,_),(47,_),(33,_),(13,_),(12,_),(11,_),(22,_),(9,_),(10,_),(8,_),(7,_),(5,_),(4,_),(0,_),(1,_),(2,_),(3,_)]) ⟨rfl,rfl,rfl,rfl,rfl,rfl,rfl,rfl,rfl,rfl,rfl,rfl,rfl,rfl,rfl,rfl,rfl,rfl,rfl,trivial⟩<|ae<| ?_
     refine gj rfl ((decide_eq_true (by omega))) ?_
     refine aj<|hy (fun _=>ab rfl)<|ai<|ae<|ah<|aj<|hy (fun m=>yV (aQ rfl cC bV rfl ((m.aN 5 rfl).aw)) ((rfl:_=Value.agg x.cs.toArray)))<|hy (fun m=>aQ rfl cf bL h32 ((m.aN 1 rfl).aw))<| ?_
     refine hx (au rfl Tryz.call74 (yB ok hkk t.1.h (hrd _)) [] rfl [0,4] rfl ?_)
     rintro _ _ _ ⟨rfl,rfl,rfl⟩
     refine hy (fun _=>aa rfl)<|hy (fun _=>aH rfl rfl)<|hy (fun _=>aH rfl rfl)<|hy (fun _=>ab rfl)<|hy (fun _=>ab rfl)<|ai<|al (ρ' :=[(17,_),(14,_),(54,_),(15,_),(47,_),(33,_),(13,_),(12,_),(11,_),(22,_),(9,_),(10,_),(8,_),(7,_),(5,_),(4,_),(0,_),(1,_),(2,_),(3,_)]) ⟨rfl,rfl,rfl,rfl,rfl,rfl,rfl,rfl,rfl,rfl,rfl,rfl,rfl,rfl,rfl,rfl,rfl,rfl,rfl,rfl,trivial⟩<|ak (X' :=[_,_,_,_,_,_]) (S' :=[_,_,_,_,_]) (fun _ m=>m)<|ae<|ah<|ah<|aj<|hy (fun _=>aa rfl)<|hy (fun _=>cn rfl rfl)<|ai<|al (ρ' :=[(62,_),(17,_),(14,_),(54,_),(15,_),(47,_),(33,_),(13,_),(12,_),(11,_),(22,_),(9,_),(10,_),(8,_),(7,_),(5,_),(4,_),(0,_),(1,_),(2,_),(3,_)]) ⟨rfl,rfl,rfl,rfl,rfl,rfl,rfl,rfl,rfl,rfl,rfl,rfl,rfl,rfl,rfl,rfl,rfl,rfl,rfl,rfl,rfl,trivial⟩<|ae<| ?_
     refine cj rfl (fun he=> ?_) (fun he=> ?_)
     ·have hfr:cg x.d q (rs.map aX.l) t.1.b=1:=by unfold cg;rw[if_pos he]
      rw[hfr]at hsu
      refine aj<|hy (fun _=>ab rfl)<|ai<|ae<|aj<|hy (fun _=>aa rfl)<|hy (fun m=>aQ rfl cf bL h32 ((m.aN 1 rfl).aw))<|hy (fun _=>aa rfl)<|hy (fun _=>bD nZ rfl rfl (by kernel_rfl) (nv (t:=(t.1,1)) rP qS))<| ?_
      refine hx (bJ Tryz.underlying90 nZ rfl rfl rfl (by intro v hv;rw[List.mem_singleton.1 hv];show(eS (t.1,1)).toArray.size=33;rw[List.size_toArray,bZ]) (by decide) (by decide) (fun g67=> ?_))
      have hA_b67:0<1→(some (⟨g67,0,none⟩:Addr))≠none:=fun _ h=>by cases h
      refine aF (fun w m=>m.bq 0 rfl (show _=aG 96 33 (.slice (some ⟨g67,0,none⟩) 1 1) 1 (iM [(t.1,1)])from rfl)) ?_
      refine hx (bp 3 rfl rfl rfl Tryz.underlying90 Tryz.underlying90 (by exact .inl rfl) nZ rfl (fun m=>Src.bS (m.ord 0 rfl)) jB (by unfold maxLen;omega) (by omega) (fun u2=> ?_))
      refine aB (fun m=>(m.own 0 rfl).slice) ?_
      rintro⟨A_o,c_o,rfl,hc_o⟩
      refine aB (fun m=>(m.ord 0 rfl).2.1) fun hA_o=> ?_
      refine aF (fun w m=>m.bq 0 rfl (show _=aG 96 33 (.slice A_o (k1+1) c_o) (k1+1) (iM (dy (cg x.d q (rs.map aX.l)) u.its (j+1)))from congrArg (aG _ _ _ _) (by rw[hsu,eP]))) ?_
      refine hy (fun _=>ab rfl)<|ai<|al (ρ' :=[(9,_),(14,_),(62,_),(17,_),(54,_),(15,_),(47,_),(33,_),(13,_),(12,_),(11,_),(22,_),(10,_),(8,_),(7,_),(5,_),(4,_),(0,_),(1,_),(2,_),(3,_)]) ⟨rfl,rfl,rfl,rfl,rfl,rfl,rfl,rfl,rfl,rfl,rfl,rfl,rfl,rfl,rfl,rfl,rfl,rfl,rfl,rfl,rfl,trivial⟩<|ak (X' :=[_,_,_,_,_,_,_]) (S' :=[_,_,_,_,_]) (fun _ m=>m)<|aM<|ae<|aj<|hy (fun _=>aa rfl)<|hy (fun _=>aK rfl rfl (bs (by omega) (by omega)))<|hy (fun _=>ab rfl)<|ai<|al (ρ' :=[(10,_),(9,_),(14,_),(62,_),(17,_),(54,_),(15,_),(47,_),(33,_),(13,_),(12,_),(11,_),(22,_),(8,_),(7,_),(5,_),(4,_),(0,_),(1,_),(2,_),(3,_)]) ⟨rfl,rfl,rfl,rfl,rfl,rfl,rfl,rfl,rfl,rfl,rfl,rfl,rfl,rfl,rfl,rfl,rfl,rfl,rfl,rfl,rfl,trivial⟩<| ?_
      refine fa (j+1) A_o (k1+1) c_o ⟨rfl,rfl,rfl,rfl,rfl,rfl,rfl,rfl,rfl,rfl,trivial⟩ [0,3,3,3] rfl [0,1,2,3,4] rfl (⟨by omega,by rw[hsu,List.length_append,hk1];rfl⟩) (by omega)
     ·have hfr:cg x.d q (rs.map aX.l) t.1.b=2:=by unfold cg;rw[if_neg he,hfs];rfl
      rw[hfr]at hsu
      refine aA<|ae<|aj<|hy (fun _=>aa rfl)<|hy (fun m=>aQ rfl cf bL h32 ((m.aN 1 rfl).aw))<|hy (fun _=>aa rfl)<|hy (fun _=>bD nZ rfl rfl (by kernel_rfl) (nv (t:=(t.1,2)) rP qS))<| ?_
      refine hx (bJ Tryz.underlying90 nZ rfl rfl rfl (by intro v hv;rw[List.mem_singleton.1 hv];show(eS (t.1,2)).toArray.size=33;rw[List.size_toArray,bZ]) (by decide) (by decide) (fun g67=> ?_))
      have hA_b67:0<1→(some (⟨g67,0,none⟩:Addr))≠none:=fun _ h=>by cases h
      refine aF (fun w m=>m.bq 0 rfl (show _=aG 96 33 (.slice (some ⟨g67,0,none⟩) 1 1) 1 (iM [(t.1,2)])from rfl)) ?_
      refine hx (bp 3 rfl rfl rfl Tryz.underlying90 Tryz.underlying90 (by exact .inl rfl) nZ rfl (fun m=>Src.bS (m.ord 0 rfl)) jB (by unfold maxLen;omega) (by omega) (fun u2=> ?_))
      refine aB (fun m=>(m.own 0 rfl).slice) ?_
      rintro⟨A_o,c_o,rfl,hc_o⟩
      refine aB (fun m=>(m.ord 0 rfl).2.1) fun hA_o=> ?_
      refine aF (fun w m=>m.bq 0 rfl (show _=aG 96 33 (.slice A_o (k1+1) c_o) (k1+1) (iM (dy (cg x.d q (rs.map aX.l)) u.its (j+1)))from congrArg (aG _ _ _ _) (by rw[hsu,eP]))) ?_
      refine hy (fun _=>ab rfl)<|ai<|al (ρ' :=[(9,_),(62,_),(17,_),(14,_),(54,_),(15,_),(47,_),(33,_),(13,_),(12,_),(11,_),(22,_),(10,_),(8,_),(7,_),(5,_),(4,_),(0,_),(1,_),(2,_),(3,_)]) ⟨rfl,rfl,rfl,rfl,rfl,rfl,rfl,rfl,rfl,rfl,rfl,rfl,rfl,rfl,rfl,rfl,rfl,rfl,rfl,rfl,rfl,trivial⟩<|ak (X' :=[_,_,_,_,_,_,_]) (S' :=[_,_,_,_,_]) (fun _ m=>m)<|aM<|ae<|aj<|hy (fun _=>aa rfl)<|hy (fun _=>aK rfl rfl (bs (by omega) (by omega)))<|hy (fun _=>ab rfl)<|ai<|al (ρ' :=[(10,_),(9,_),(62,_),(17,_),(14,_),(54,_),(15,_),(47,_),(33,_),(13,_),(12,_),(11,_),(22,_),(8,_),(7,_),(5,_),(4,_),(0,_),(1,_),(2,_),(3,_)]) ⟨rfl,rfl,rfl,rfl,rfl,rfl,rfl,rfl,rfl,rfl,rfl,rfl,rfl,rfl,rfl,rfl,rfl,rfl,rfl,rfl,rfl,trivial⟩<| ?_
      refine fa (j+1) A_o (k1+1) c_o ⟨rfl,rfl,rfl,rfl,rfl,rfl,rfl,rfl,rfl,rfl,trivial⟩ [0,3,3,3] rfl [0,1,2,3,4] rfl (⟨by omega,by rw[hsu,List.length_append,hk1];rfl⟩) (by omega)
 ·obtain rfl:i=u.its.length:=by omega
  refine bA<|ao<|ao<|aC<|ae<|ah<|aj<|hy (fun _=>aa rfl)<|hy (fun _=>ab rfl)<|ai<|al (ρ' :=[(8,_),(22,_),(9,_),(10,_),(7,_),(5,_),(4,_),(0,_),(1,_),(2,_),(3,_)]) ⟨rfl,rfl,rfl,rfl,rfl,rfl,rfl,rfl,rfl,rfl,rfl,trivial⟩<|ae<|aU<| ?_
  exact aZ trivial rfl rfl [0] rfl [] rfl ⟨_,_,_,rfl,rfl,rfl,hk1⟩
end Go.Proofs.YtmibdabdlgmafaaGreatDoor
end
section
set_option maxRecDepth 20000
set_option maxHeartbeats 4000000
namespace Go.Proofs.YtmibdabdlgmafaaGreatDoor
open Go.Eng Go.Hx
def dj(l:List It)(k:Int):List (List UInt8):=(l.filter fun t=>decide (t.2=k)).map fun t=>t.1.b
theorem j5{l:List It}{k:Int}{i:Nat}{t:It}(h:l[i]? =some t):dj (l.take (i+1)) k=dj (l.take i) k++(if t.2=k then [t.1.b]else []):=by
 obtain⟨h1,rfl⟩:=List.getElem?_eq_some_iff.1 h
 unfold dj
 rw[List.take_succ_eq_append_getElem h1,List.filter_append,List.map_append]
 congr 1
 by_cases e:(l[i]).2=k
 ·rw[if_pos e];simp only[List.filter_cons,List.filter_nil,e,decide_true,if_true,List.map_cons,List.map_nil]
 ·rw[if_neg e];simp only[List.filter_cons,List.filter_nil,e,decide_false,Bool.false_eq_true,if_false,List.map_nil]
theorem kY(l:List It)(k:Int):(dj l k).length≤l.length:=by
 unfold dj
 rw[List.length_map]
 exact List.length_filter_le _ _
theorem ur(l:List It)(k:Int):C7 (dj l k):=fun x hx=>by
 obtain⟨t,_,rfl⟩:=List.mem_map.1 hx
 exact t.1.h
theorem uO(t:It):(eS t)[32]? =some (Value.int .i64 t.2):=by
 have h:(aP t.1.b).length=32:=by rw[az,t.1.h]
 rw[eS,List.getElem?_append_right (by omega),h]
 rfl
theorem wR{A:Option Addr}{n c:Nat}{l:List It}(hl:l.length=n)(hn:n≤100000):b6 Tryz.prog 47 [.slice A n c] [] [cr 33 A n (iM l)] (fun v_ X_ S_=>∃A1 k c1,v_=(.slice A1 k c1)∧X_=[aG 53 32 (.slice A1 k c1) k (dc (dj l 3))]∧S_=[]∧(k=(dj l 3).length)):=by
 refine aJ (N:=26) Tryz.func47 rfl rfl (by simp) fun b=> ?_
 refine aS (fun m=>fv (m.rd 0 rfl)) ?_
 rintro⟨hl_r,hA_r⟩
 refine ah<|aj<|hy (fun _=>ab rfl)<|ai<|ae<|ah<|aj<|hy (fun _=>ab rfl)<|ai<|ae<|ah<|ah<|aj<|hy (fun _=>ab rfl)<|ai<|ae<|aI<| ?_
 refine bg (fun w m=>m.cI (r' :=aG 53 32 (.slice none 0 0) 0 []) (.refl _ _) (Own.nil _ _ _ _) (fun k hk=>hk.elim)) ?_
 refine kZ (fun i A1 k1 c1=>n-i) (fun i A1 k1 c1=>[(3,.slice A1 k1 c1),(4,.int .i64 (i:Nat))]) (fun i A1 k1 c1=>[aG 53 32 (.slice A1 k1 c1) k1 (dc (dj (l.take i) 3))]) (fun i A1 k1 c1=>[]) (fun i A1 k1 c1=>i≤n∧k1=(dj (l.take i) 3).length) 0 none 0 0 [(2,_),(0,_)] ⟨rfl,rfl,trivial⟩ [0] rfl [] rfl (⟨Nat.zero_le _,rfl⟩) ⟨rfl,rfl,trivial⟩ (fun i A1 k1 c1 ⟨hi,hk1⟩=> ?_)
 refine ah<|ah<|aj<|hy (fun _=>aa rfl)<|hy (fun _=>aa rfl)<|hy (fun _=>aW rfl Tryz.underlying90)<|hy (fun _=>bu rfl rfl)<|ai<|al (ρ' :=[(8,_),(3,_),(4,_),(2,_),(0,_)]) ⟨rfl,rfl,rfl,rfl,rfl,trivial⟩<|ae<| ?_
 refine cj rfl (fun hlt=> ?_) (fun hlt=> ?_)
 ·obtain⟨t,ht⟩:∃t,l[i]? =some t:=⟨_,List.getElem?_eq_getElem (by omega)⟩
  have h32:(aP t.1.b).length=32:=by rw[az,t.1.h]
  have hsu:=j5 (k:=3) ht
  have hll:(dj (l.take i) 3).length≤100000:=Nat.le_trans (kY _ _) (by rw[List.length_take];omega)
  refine aA<|ae<|ah<|aI<|ah<|aj<|hy (fun _=>aa rfl)<|hy (fun _=>aa rfl)<|hy (fun _=>cy rfl rfl Tryz.underlying90 xP hA_r rfl (by omega))<|hy (fun _=>aD rfl yR (by decide))<|hy (fun m=>aq rfl dr (dB (f:=eS) bZ (m.rd 0 rfl) ht 32 _ (uO t)))<|hy (fun _=>cn rfl rfl)<|ai<|al (ρ' :=[(16,_),(8,_),(3,_),(4,_),(2,_),(0,_)]) ⟨rfl,rfl,rfl,rfl,rfl,rfl,trivial⟩<|ae<| ?_
  refine cj rfl (fun h3=> ?_) (fun h3=> ?_)
  ·rw[if_pos h3]at hsu
   refine aj<|hy (fun _=>aa rfl)<|hy (fun _=>aa rfl)<|hy (fun _=>aa rfl)<|hy (fun _=>cy rfl rfl Tryz.underlying90 xP hA_r rfl (by omega))<|hy (fun _=>aD rfl Db (by decide))<|hy (fun m=>aQ rfl cf bL h32 (rj (m.rd 0 rfl) ht))<| ?_
   refine hx (bJ Tryz.underlying33 fC rfl rfl rfl (by simpa[Value.cells,B8]using h32) (by decide) (by decide) (fun g23=> ?_))
   have hA_b23:0<1→(some (⟨g23,0,none⟩:Addr))≠none:=fun _ h=>by cases h
   refine aF (fun w m=>m.bq 0 rfl (show _=aG 53 32 (.slice (some ⟨g23,0,none⟩) 1 1) 1 (dc [t.1.b])from rfl)) ?_
   refine hx (bp 1 rfl rfl rfl Tryz.underlying33 Tryz.underlying33 (by exact .inl rfl) fC rfl (fun m=>Src.bS (m.ord 0 rfl)) kX (by unfold maxLen;omega) (by omega) (fun u=> ?_))
   refine aB (fun m=>(m.own 0 rfl).slice) ?_
   rintro⟨A_o,c_o,rfl,hc_o⟩
   refine aB (fun m=>(m.ord 0 rfl).2.1) fun hA_o=> ?_
   refine aF (fun w m=>m.bq 0 rfl (show _=aG 53 32 (.slice A_o (k1+1) c_o) (k1+1) (dc (dj (l.take (i+1)) 3))from congrArg (aG _ _ _ _) (by rw[hsu,mw]))) ?_
   refine hy (fun _=>ab rfl)<|ai<|al (ρ' :=[(3,_),(16,_),(8,_),(4,_),(2,_),(0,_)]) ⟨rfl,rfl,rfl,rfl,rfl,rfl,trivial⟩<|ak (X' :=[_,_]) (S' :=[_]) (fun _ m=>m)<|aM<|ae<|aj<|hy (fun _=>aa rfl)<|hy (fun _=>aK rfl rfl (bs (by omega) (by omega)))<|hy (fun _=>ab rfl)<|ai<|al (ρ' :=[(4,_),(3,_),(16,_),(8,_),(2,_),(0,_)]) ⟨rfl,rfl,rfl,rfl,rfl,rfl,trivial⟩<| ?_
   refine fa (i+1) A_o (k1+1) c_o ⟨rfl,rfl,rfl,rfl,trivial⟩ [0] rfl [0] rfl (⟨by omega,by rw[hsu,List.length_append,hk1];rfl⟩) (by omega)
  ·rw[if_neg h3,List.append_nil]at hsu
   rw[←hsu]at hk1
   rw[←hsu]
   refine aA<|aM<|ae<|aj<|hy (fun _=>aa rfl)<|hy (fun _=>aK rfl rfl (bs (by omega) (by omega)))<|hy (fun _=>ab rfl)<|ai<|al (ρ' :=[(4,_),(16,_),(8,_),(3,_),(2,_),(0,_)]) ⟨rfl,rfl,rfl,rfl,rfl,rfl,trivial⟩<| ?_
   refine fa (i+1) A1 k1 c1 ⟨rfl,rfl,rfl,rfl,trivial⟩ [0] rfl [0] rfl (⟨by omega,hk1⟩) (by omega)
 ·obtain rfl:i=n:=by omega
  rw[←hl,List.take_length]at hk1
  have htl:l.take i=l:=by rw[←hl,List.take_length]
  rw[htl]
  refine bA<|ao<|ao<|aC<|ae<|ah<|aj<|hy (fun _=>aa rfl)<|hy (fun _=>ab rfl)<|ai<|al (ρ' :=[(2,_),(8,_),(3,_),(4,_),(0,_)]) ⟨rfl,rfl,rfl,rfl,rfl,trivial⟩<|ae<|aU<| ?_
  exact aZ trivial rfl rfl [0] rfl [] rfl ⟨_,_,_,rfl,rfl,rfl,hk1⟩
end Go.Proofs.YtmibdabdlgmafaaGreatDoor
end
section
set_option maxRecDepth 20000
set_option maxHeartbeats 2000000
namespace Go.Proofs.YtmibdabdlgmafaaGreatDoor
open Go.Eng Go.Hx
theorem pL{ds:List (List UInt8)}{i:Nat}(hi:i<ds.length)(nm:List UInt8):nm∈ds.take (i+1)↔nm∈ds.take i∨nm=ds.getD i []:=by
 rw[List.take_succ_eq_append_getElem hi,List.mem_append,List.mem_singleton,List.getD,List.getElem?_eq_getElem hi]
 rfl
theorem Gf{A:Option Addr}{n c:Nat}{nm:List UInt8}{ds:List (List UInt8)}(hm:nm.length=32)(hD:C7 ds)(hl:ds.length=n)(hn:n≤1000000):b6 Tryz.prog 195 [.slice A n c,.agg (aP nm).toArray] [] [cr 32 A n (dc ds)] (fun v_ X_ S_=>∃z,v_=(.int .i64 z)∧X_=[]∧S_=[]∧(0≤z↔nm∈ds)):=by
 have h32:(aP nm).length=32:=by rw[az,hm]
 refine aJ (N:=19) Tryz.func195 rfl rfl (by simp) fun b=> ?_
 refine aS (fun m=>fv (m.rd 0 rfl)) ?_
 rintro⟨hl_r,hA_r⟩
 refine ah<|aj<| ?_
 refine hx (bn rfl (fun g3=> ?_))
 refine aF (fun w m=>m.bq 0 rfl (show _=aE g3 53 (aP nm)from congrArg (aE _ _) (aR _))) ?_
 refine hy (fun _=>ab rfl)<|ai<|ak (X' :=[_]) (S' :=[_]) (fun _ m=>m)<|ae<|ah<|ah<|aj<|hy (fun _=>aa rfl)<|hy (fun _=>aW rfl Tryz.underlying33)<|hy (fun _=>aa rfl)<|ai<|al (ρ' :=[(8,_),(7,_),(4,_),(3,_),(0,_),(1,_)]) ⟨rfl,rfl,rfl,rfl,rfl,rfl,trivial⟩<|ae<|aI<| ?_
 refine cW (fun i=>n-i) (fun i=>[(8,.int .i64 (i:Nat))]) (fun i=>[]) (fun i=>[]) (fun i=>i≤n∧¬nm∈ds.take i) 0 [(7,_),(3,_),(0,_),(1,_)] ⟨rfl,rfl,rfl,rfl,trivial⟩ [] rfl [] rfl (⟨Nat.zero_le _,by simp⟩) ⟨rfl,trivial⟩ (fun i ⟨hi,hno⟩=> ?_)
 refine ah<|aj<|hy (fun _=>bu rfl rfl)<|ai<|ae<|ah<| ?_
 refine cj rfl (fun hlt=> ?_) (fun hlt=> ?_)
 ·have hil:i<ds.length:=by omega
  have hdl:=vS hD hil
  have hmt:=pL hil nm
  refine aA<|ae<|ah<|aI<|ah<|aj<|hy (fun _=>aa rfl)<|hy (fun _=>ab rfl)<|ai<|al (ρ' :=[(5,_),(9,_),(8,_),(7,_),(3,_),(0,_),(1,_)]) ⟨rfl,rfl,rfl,rfl,rfl,rfl,rfl,trivial⟩<|ae<|ah<|cq [] [(0,some 0),(1,some 0),(2,some 0),(3,some 0),(4,some 0),(5,some 0)] (by kernel_rfl) (by kernel_rfl) rfl 99<|bY (fun m=>aQ rfl cf bL h32 ((m.aN 0 rfl).aw))<|an (aa rfl)<|an (aa rfl)<|an (cy rfl rfl Tryz.underlying33 bL hA_r rfl (by omega))<|bY (fun m=>aQ rfl cf bL (by rw[az];exact hdl) ((m.rd 0 rfl).BY hD hil))<|an (qN rfl rfl hm hdl)<|bk<|al (ρ' :=[(16,_),(5,_),(9,_),(8,_),(7,_),(3,_),(0,_),(1,_)]) ⟨rfl,rfl,rfl,rfl,rfl,rfl,rfl,rfl,trivial⟩<|ae<| ?_
  refine cj rfl (fun he=> ?_) (fun he=> ?_)
  ·refine ah<|aj<|hy (fun _=>aa rfl)<|hy (fun _=>ab rfl)<|ai<|al (ρ' :=[(4,_),(16,_),(5,_),(9,_),(8,_),(7,_),(3,_),(0,_),(1,_)]) ⟨rfl,rfl,rfl,rfl,rfl,rfl,rfl,rfl,rfl,trivial⟩<|ae<|aU<|a8<|ay<|ay<|a8<|ay<| ?_
   exact aZ trivial rfl rfl [] rfl [] rfl ⟨((i:Nat):Int),rfl,rfl,rfl,⟨fun _=>by rw[he,List.getD,List.getElem?_eq_getElem hil];exact List.getElem_mem ..,fun _=>by omega⟩⟩
  ·refine aA<|aM<|ae<|aj<|hy (fun _=>aK rfl rfl (bs (by omega) (by omega)))<|hy (fun _=>aa rfl)<|ai<|al (ρ' :=[(8,_),(16,_),(5,_),(9,_),(7,_),(3,_),(0,_),(1,_)]) ⟨rfl,rfl,rfl,rfl,rfl,rfl,rfl,rfl,trivial⟩<| ?_
   refine ct (i+1) ⟨rfl,rfl,rfl,rfl,rfl,trivial⟩ [0] rfl [0] rfl (⟨by omega,fun h=>(hmt.1 h).elim hno he⟩) (by omega)
 ·obtain rfl:i=n:=by omega
  rw[←hl,List.take_length]at hno
  refine bA<|ao<|ao<|aC<|ae<|ah<|aj<|hy (fun _=>ab rfl)<|ai<|ae<|aU<| ?_
  exact aZ trivial rfl rfl [] rfl [] rfl ⟨(-1:Int),rfl,rfl,rfl,⟨fun h=>absurd h (by decide),fun h=>absurd h hno⟩⟩
theorem DP{A:Option Addr}{n c:Nat}{nm:List UInt8}{ds:List (List UInt8)}(hm:nm.length=32)(hD:C7 ds)(hl:ds.length=n)(hn:n≤1000000):b6 Tryz.prog 130 [.slice A n c,.agg (aP nm).toArray] [] [cr 32 A n (dc ds)] (fun v_ X_ S_=>v_=(.bool (decide (nm∈ds)))∧X_=[]∧S_=[]):=by
 have h32:(aP nm).length=32:=by rw[az,hm]
 refine aJ (N:=9) Tryz.func130 rfl rfl (by simp) fun b=> ?_
 refine aS (fun m=>fv (m.rd 0 rfl)) ?_
 rintro⟨hl_r,hA_r⟩
 refine ah<|aj<| ?_
 refine hx (bn rfl (fun g3=> ?_))
 refine aF (fun w m=>m.bq 0 rfl (show _=aE g3 53 (aP nm)from congrArg (aE _ _) (aR _))) ?_
 refine hy (fun _=>ab rfl)<|ai<|ak (X' :=[_]) (S' :=[_]) (fun _ m=>m)<|ae<|ah<|aj<|hy (fun _=>aa rfl)<|hy (fun m=>aQ rfl cf bL h32 ((m.aN 0 rfl).aw))<| ?_
 refine hx (au rfl Tryz.call195 (Gf hm hD hl hn) [] rfl [0] rfl ?_)
 rintro _ _ _ ⟨z,rfl,rfl,rfl,hz⟩
 rw[←decide_eq_decide.2 hz]
 refine hy (fun _=>ee rfl rfl)<|hy (fun _=>ab rfl)<|ai<|al (ρ' :=[(4,_),(3,_),(0,_),(1,_)]) ⟨rfl,rfl,rfl,rfl,trivial⟩<|ak (X' :=[_]) (S' :=[_]) (fun _ m=>m)<|ae<|aU<| ?_
 exact aZ trivial rfl rfl [] rfl [] rfl ⟨rfl,rfl,rfl⟩
theorem Dj{g gs gm kk:Nat}{st:cR}{d:RD}{q:Pn}{A:Option Addr}{c:Nat}{rs:List aX}{l:xC}{nm:Dg}(hD:DS st d kk)(hok:iA q rs l):b6 Tryz.prog 133 [.pointer (some ⟨g,0,none⟩),DK nm,.pointer (some ⟨gs,0,none⟩)] [bO g st,fT gs gm q A c rs l] [dI] (fun v_ X_ S_=>v_=(.int .i64 (cg d q (rs.map aX.l) nm.1))∧X_=[bO g st,fT gs gm q A c rs l]∧S_=[]):=by
 have h32:(aP nm.1).length=32:=by rw[az];exact nm.2
 have hfn:=hok.find nm
 refine aJ (N:=19) Tryz.func133 rfl rfl (by simp) fun b=> ?_
 refine ah<|aj<| ?_
 refine hx (bn rfl (fun g4=> ?_))
 refine aF (fun w m=>m.bq 0 rfl (show _=aE g4 53 (aP nm.1)from congrArg (aE _ _) (aR _))) ?_
 refine hy (fun _=>ab rfl)<|ai<|ak (X' :=[_,_,_]) (S' :=[_]) (fun _ m=>m)<|ae<|ah<|ah<|aj<|hy (fun _=>aa rfl)<|hy (fun m=>aQ rfl cf bL h32 ((m.aN 0 rfl).aw))<| ?_
 refine hx (au rfl Tryz.call145 (Hv hD nm.2) [1] rfl [0] rfl ?_)
 rintro _ _ _ ⟨rfl,rfl,rfl⟩
 refine ai<|al (ρ' :=[(11,_),(6,_),(4,_),(0,_),(1,_),(2,_)]) ⟨rfl,rfl,rfl,rfl,rfl,rfl,trivial⟩<|ak (X' :=[_,_,_]) (S' :=[_]) (fun _ m=>m)<|ae<| ?_
 refine cj rfl (fun he=> ?_) (fun he=> ?_)
 ·have hfr:cg d q (rs.map aX.l) nm.1=1:=by unfold cg;rw[if_pos he]
  rw[hfr]
  refine ah<|aj<|hy (fun _=>ab rfl)<|ai<|ae<|aU<|ay<| ?_
  exact aZ trivial rfl rfl [0,1] rfl [] rfl ⟨rfl,rfl,rfl⟩
 ·obtain⟨x,hxx⟩:∃x,x=(bz l nm).getD (0,0,0):=⟨_,rfl⟩
  refine aA<|ae<|ah<|ah<|aj<|hy (fun _=>aa rfl)<|hy (fun m=>yV (aQ rfl cf bL h32 ((m.aN 1 rfl).aw)) ((rfl:Value.agg _=DK nm)))<| ?_
  refine hx (au rfl Tryz.call196 (wX (nm:=nm)) [2] rfl [] rfl ?_)
  rintro _ _ _ ⟨rfl,rfl,rfl⟩
  refine hy (fun _=>aa rfl)<|hy (fun _=>aH rfl rfl)<|hy (fun _=>aH rfl rfl)<| ?_
  refine hx (bf ma (fun g7=> ?_))
  rw[←hxx]
  refine cB (a6 0 rfl rfl rfl sk rfl (rT x) rfl ?_)
  refine hy (fun _=>ab rfl)<|ai<|al (ρ' :=[(8,_),(11,_),(6,_),(4,_),(0,_),(1,_),(2,_)]) ⟨rfl,rfl,rfl,rfl,rfl,rfl,rfl,trivial⟩<|ak (X' :=[_,_,_,_]) (S' :=[_]) (fun _ m=>m)<|ae<|ah<|aj<|hy (fun _=>aa rfl)<|ai<|ae<| ?_
  refine EL rfl (fun hs=> ?_) (fun hs=> ?_)
  ·have hfr:cg d q (rs.map aX.l) nm.1=2:=by unfold cg;rw[if_neg he,←hfn,if_pos hs]
   rw[hfr]
   refine ah<|aj<|hy (fun _=>ab rfl)<|ai<|ae<|aU<|ay<| ?_
   exact aZ trivial rfl rfl [2,1] rfl [] rfl ⟨rfl,rfl,rfl⟩
  ·have hfr:cg d q (rs.map aX.l) nm.1=3:=by unfold cg;rw[if_neg he,←hfn,hs];rfl
   rw[hfr]
   refine aA<|ae<|ah<|aj<|hy (fun _=>ab rfl)<|ai<|ae<|aU<| ?_
   exact aZ trivial rfl rfl [2,1] rfl [] rfl ⟨rfl,rfl,rfl⟩
def dS(ds:List (List UInt8))(nm:List UInt8):List (List UInt8):=if nm∈ds then ds else ds++[nm]
theorem sO{ds:List (List UInt8)}{nm x:List UInt8}:x∈dS ds nm↔x∈ds∨x=nm:=by
 unfold dS
 split
 ·next h=>exact⟨.inl,fun h1=>h1.elim id (fun e=>e▸h)⟩
 ·rw[List.mem_append,List.mem_singleton]
theorem sd(ds:List (List UInt8))(nm:List UInt8):(dS ds nm).length≤ds.length+1:=by
 unfold dS
 split
 ·omega
 ·simp
theorem Ef{gq:Nat}{A:Option Addr}{n c:Nat}{t:It}{ds:List (List UInt8)}(hD:C7 ds)(hl:ds.length=n)(hn:n≤100000):b6 Tryz.prog 129 [.agg (eS t).toArray,.pointer (some ⟨gq,0,none⟩)] [aE gq 33 [.slice A n c],aG 53 32 (.slice A n c) n (dc ds)] [] (fun v_ X_ S_=>∃A1 n1 c1,v_=(.bool (decide (¬t.1.b∈ds)))∧X_=[aE gq 33 [.slice A1 n1 c1],aG 53 32 (.slice A1 n1 c1) n1 (dc (dS ds t.1.b))]∧S_=[]∧(n1=(dS ds t.1.b).length)):=by
 have h32:(aP t.1.b).length=32:=by rw[az,t.1.h]
 refine aJ (N:=13) Tryz.func129 rfl rfl (by simp) fun b=> ?_
 refine ah<|aj<| ?_
 refine hx (bn rfl (fun g2=> ?_))
 refine aF (fun w m=>m.bq 0 rfl (show _=aE g2 100 (eS t)from congrArg (aE _ _) (aR _))) ?_
 refine hy (fun _=>ab rfl)<|ai<|ak (X' :=[_,_,_]) (S' :=[]) (fun _ m=>m)<|ae<|ah<|ah<|aj<|hy (fun m=>aq rfl Fk (ax (m.aN 1 rfl) rfl))<|hy (fun _=>aD rfl fN (by decide))<|hy (fun m=>aQ rfl cf bL h32 (fun j u hu=>(m.aN 0 rfl).aw j u (hG hu)))<| ?_
 refine hx (cY rfl Tryz.call130 (DP t.1.h hD hl (by omega)) [] rfl (.x 2 rfl .own .nil) ?_)
 rintro _ _ _ ⟨rfl,rfl,rfl⟩
 refine⟨rfl, ?_⟩
 refine ai<|al (ρ' :=[(7,_),(3,_),(2,_),(0,_),(1,_)]) ⟨rfl,rfl,rfl,rfl,rfl,trivial⟩<|ak (X' :=[_,_,_]) (S' :=[]) (fun _ m=>m)<|ae<| ?_
 refine cj rfl (fun hin=> ?_) (fun hin=> ?_)
 ·have hsp:dS ds t.1.b=ds:=by unfold dS;rw[if_pos hin]
  rw[decide_eq_false (not_not_intro hin),hsp]
  refine ah<|aj<|hy (fun _=>ab rfl)<|ai<|ae<|aU<|ay<| ?_
  exact aZ trivial rfl rfl [1,1] rfl [] rfl ⟨A,n,c,rfl,rfl,rfl,hl.symm⟩
 ·have hsp:dS ds t.1.b=ds++[t.1.b]:=by unfold dS;rw[if_neg hin]
  rw[decide_eq_true hin,hsp]
  refine aA<|ae<|ah<|aj<|hy (fun m=>aq rfl Fk (ax (m.aN 1 rfl) rfl))<|hy (fun _=>aD rfl fN (by decide))<|hy (fun m=>aQ rfl cf bL h32 (fun j u hu=>(m.aN 0 rfl).aw j u (hG hu)))<| ?_
  refine hx (bJ Tryz.underlying33 fC rfl rfl rfl (by simpa[Value.cells,B8]using h32) (by decide) (by decide) (fun g11=> ?_))
  have hA_b11:0<1→(some (⟨g11,0,none⟩:Addr))≠none:=fun _ h=>by cases h
  refine aF (fun w m=>m.bq 0 rfl (show _=aG 53 32 (.slice (some ⟨g11,0,none⟩) 1 1) 1 (dc [t.1.b])from rfl)) ?_
  refine hx (bp 3 rfl rfl rfl Tryz.underlying33 Tryz.underlying33 (by exact .inl rfl) fC rfl (fun m=>Src.bS (m.ord 0 rfl)) kX (by unfold maxLen;omega) (by omega) (fun u=> ?_))
  refine aB (fun m=>(m.own 0 rfl).slice) ?_
  rintro⟨A_o,c_o,rfl,hc_o⟩
  refine aB (fun m=>(m.ord 0 rfl).2.1) fun hA_o=> ?_
  refine aF (fun w m=>m.bq 0 rfl (show _=aG 53 32 (.slice A_o (n+1) c_o) (n+1) (dc (ds++[t.1.b]))from congrArg (aG _ _ _ _) (by rw[mw]))) ?_
  refine cB (da 3 rfl rfl rfl G0 rfl (by first|exact Nat.le_of_ble_eq_true rfl|simp) ?_)
  refine ai<|al (ρ' :=[(7,_),(3,_),(2,_),(0,_),(1,_)]) ⟨rfl,rfl,rfl,rfl,rfl,trivial⟩<|ak (X' :=[_,_,_,_]) (S' :=[]) (fun _ m=>m)<|ae<|ah<|aj<|hy (fun _=>ab rfl)<|ai<|ae<|aU<| ?_
  refine ak (fun w m=>m.bq 0 rfl (show _=aE gq 33 [.slice A_o (n+1) c_o]from rfl)) ?_
  exact aZ trivial rfl rfl [0,0] rfl [] rfl ⟨A_o,(n+1),c_o,rfl,rfl,rfl,(by rw[List.length_append,hl];rfl)⟩
theorem EC{g gs gm gd ge kk:Nat}{st:cR}{d:RD}{q:Pn}{A:Option Addr}{c:Nat}{rs:List aX}{l:xC}{t:It}(hD:DS st d kk)(hok:iA q rs l):b6 Tryz.prog 132 [.agg (eS t).toArray,.pointer (some ⟨gd,0,none⟩),.pointer (some ⟨ge,0,none⟩)] [bO g st,fT gs gm q A c rs l,aE gd 35 [.pointer (some ⟨g,0,none⟩)],aE ge 83 [.pointer (some ⟨gs,0,none⟩)]] [dI] (fun v_ X_ S_=>v_=(.agg (eS (t.1,cg d q (rs.map aX.l) t.1.b)).toArray)∧X_=[bO g st,fT gs gm q A c rs l,aE gd 35 [.pointer (some ⟨g,0,none⟩)],aE ge 83 [.pointer (some ⟨gs,0,none⟩)]]∧S_=[]):=by
 have h32:(aP t.1.b).length=32:=by rw[az,t.1.h]
 refine aJ (N:=13) Tryz.func132 rfl rfl (by simp) fun b=> ?_
 refine ah<|aj<| ?_
 refine hx (bn rfl (fun g3=> ?_))
 refine aF (fun w m=>m.bq 0 rfl (show _=aE g3 100 (eS t)from congrArg (aE _ _) (aR _))) ?_
 refine hx (bf sM (fun g4=> ?_))
 refine ai<|ak (X' :=[_,_,_,_,_,_]) (S' :=[_]) (fun _ m=>m)<|ae<|ah<|cq [6,8] [(0,some 1),(1,some 1),(2,some 0),(3,some 0),(4,some 0),(5,some 0),(6,none),(7,some 1),(8,none)] (by kernel_rfl) (by kernel_rfl) rfl 1<|an (aD rfl fN (by decide))<|bY (fun m=>aQ rfl cf bL h32 (fun j u hu=>(m.aN 1 rfl).aw j u (hG hu)))<|bY (fun m=>aq rfl rb (ax (m.aN 4 rfl) rfl))<|an (aD rfl fN (by decide))<|bY (fun m=>yV (aQ rfl cf bL h32 (fun j u hu=>(m.aN 1 rfl).aw j u (hG hu))) ((rfl:Value.agg (aP t.1.b).toArray=DK (dg t))))<|bY (fun m=>aq rfl DF (ax (m.aN 5 rfl) rfl))<| ?_
 refine dq (au rfl Tryz.call133 (Dj hD hok (nm:=(dg t))) [2,2] rfl [0] rfl ?_)
 rintro _ _ _ ⟨rfl,rfl,rfl⟩
 refine⟨(fun _=>wk [2,2,0,0,0,0] [0] rfl rfl), ?_⟩
 refine an (bD sM rfl rfl (by kernel_rfl) (nv (t:=(t.1,cg d q (rs.map aX.l) t.1.b)) Cn Bc))<| ?_
 refine fS (a6 2 rfl rfl rfl kS (bZ _) (lV _) rfl ⟨(fun h=>absurd h (by decide)), ?_⟩)
 refine bk<|al (ρ' :=[(4,_),(3,_),(0,_),(1,_),(2,_)]) ⟨rfl,rfl,rfl,rfl,rfl,trivial⟩<|ak (X' :=[_,_,_,_,_,_]) (S' :=[_]) (fun _ m=>m)<|ae<|aU<| ?_
 exact ep trivial rfl rfl sB kS (bZ _) (fun m=>(m.aN 0 rfl).aw) [1,1,2,2] rfl [] rfl ⟨rfl,rfl,rfl⟩
end Go.Proofs.YtmibdabdlgmafaaGreatDoor
end
section
set_option maxRecDepth 20000
set_option maxHeartbeats 2000000
namespace Go.Proofs.YtmibdabdlgmafaaGreatDoor
open Go.Eng Go.Hx
def kJ(its:List It):List (List UInt8):=its.foldl (fun ds t=>dS ds t.1.b) []
theorem uB(its:List It)(t:It):kJ (its++[t])=dS (kJ its) t.1.b:=by simp[kJ]
theorem qg(its:List It)(nm:List UInt8):nm∈kJ its↔nm∈its.map (fun t=>t.1.b):=by
 have h:∀(its:List It) (ds:List (List UInt8)),nm∈its.foldl (fun ds t=>dS ds t.1.b) ds↔nm∈ds∨nm∈its.map (fun t=>t.1.b):=by
  intro its
  induction its with
  |nil=>intro ds;simp
  |cons t r ih=>
   intro ds
   rw[List.foldl_cons,ih,sO,List.map_cons,List.mem_cons,or_assoc]
 have:=h its []
 simpa[kJ]using this
theorem wD(its:List It):C7 (kJ its):=fun x hx=>by
 obtain⟨t,_,rfl⟩:=List.mem_map.1 ((qg its x).1 hx)
 exact t.1.h
theorem xi(its:List It):(kJ its).length≤its.length:=by
 have h:∀(its:List It) (ds:List (List UInt8)),(its.foldl (fun ds t=>dS ds t.1.b) ds).length≤ds.length+its.length:=by
  intro its
  induction its with
  |nil=>intro ds;simp
  |cons t r ih=>
   intro ds
   rw[List.foldl_cons,List.length_cons]
   have h1:=ih (dS ds t.1.b)
   have h2:=sd ds t.1.b
   omega
 have:=h its []
 simpa[kJ]using this
theorem uw{its:List It}{i:Nat}{t:It}(h:its[i]? =some t):its.take (i+1)=its.take i++[t]:=by
 obtain⟨h1,rfl⟩:=List.getElem?_eq_some_iff.1 h
 exact List.take_succ_eq_append_getElem h1
theorem Hu{g gs gm gd ge gq kk:Nat}{st:cR}{d:RD}{q:Pn}{A:Option Addr}{c:Nat}{rs:List aX}{l:xC}{I:Option Addr}{n ci:Nat}{its:List It}(hD:DS st d kk)(hok:iA q rs l)(hl:its.length=n)(hn:n≤100000):b6 Tryz.prog 131 [.slice I n ci,.func (.func 129) #[] #[.pointer (some ⟨gq,0,none⟩)],.func (.func 132) #[] #[.pointer (some ⟨gd,0,none⟩),.pointer (some ⟨ge,0,none⟩)]] [aE gq 33 [.slice none 0 0],aG 53 32 (.slice none 0 0) 0 (dc []),bO g st,fT gs gm q A c rs l,aE gd 35 [.pointer (some ⟨g,0,none⟩)],aE ge 83 [.pointer (some ⟨gs,0,none⟩)]] [cr 33 I n (iM its),dI] (fun v_ X_ S_=>∃A1 k1 c1,v_=(.slice A1 k1 c1)∧X_=[aG 101 33 (.slice A1 k1 c1) k1 (iM (gn (cg d q (rs.map aX.l)) its)),bO g st,fT gs gm q A c rs l]∧S_=[]∧(k1=(gn (cg d q (rs.map aX.l)) its).length)):=by
 refine aJ (N:=27) Tryz.func131 rfl rfl (by simp) fun b=> ?_
 refine aS (fun m=>fv (m.rd 0 rfl)) ?_
 rintro⟨hl_it,hA_it⟩
 refine ah<|aj<|hy (fun _=>ab rfl)<|ai<|ae<|ah<|aj<|hy (fun _=>ab rfl)<|ai<|ae<|ah<|ah<|aj<|hy (fun _=>aa rfl)<|hy (fun _=>aW rfl Tryz.underlying80)<|hy (fun _=>aa rfl)<|ai<|ae<|aI<| ?_
 refine bg (fun w m=>m.cI (r' :=aG 101 33 (.slice none 0 0) 0 []) (.refl _ _) (Own.nil _ _ _ _) (fun k hk=>hk.elim)) ?_
 refine DH (fun i A1 k1 c1 A2 n2 c2=>n-i) (fun i A1 k1 c1 A2 n2 c2=>[(12,.int .i64 (i:Nat)),(7,.slice A1 k1 c1)]) (fun i A1 k1 c1 A2 n2 c2=>[aG 101 33 (.slice A1 k1 c1) k1 (iM (dy (cg d q (rs.map aX.l)) its i)),aE gq 33 [.slice A2 n2 c2],aG 53 32 (.slice A2 n2 c2) n2 (dc (kJ (its.take i)))]) (fun i A1 k1 c1 A2 n2 c2=>[]) (fun i A1 k1 c1 A2 n2 c2=>i≤n∧k1=(dy (cg d q (rs.map aX.l)) its i).length∧n2=(kJ (its.take i)).length) 0 none 0 0 none 0 0 [(11,_),(10,_),(6,_),(0,_),(1,_),(2,_)] ⟨rfl,rfl,rfl,rfl,rfl,rfl,trivial⟩ [0,0,0] rfl [] rfl (⟨Nat.zero_le _,rfl,rfl⟩) ⟨rfl,rfl,trivial⟩ (fun i A1 k1 c1 A2 n2 c2 ⟨hi,hk1,hn2⟩=> ?_)
 refine ah<|aj<|hy (fun _=>bu rfl rfl)<|ai<|ae<|ah<| ?_
 refine cj rfl (fun hlt=> ?_) (fun hlt=> ?_)
 ·obtain⟨t,ht⟩:∃t,its[i]? =some t:=⟨_,List.getElem?_eq_getElem (by omega)⟩
  have hsu:=jM (fr:=cg d q (rs.map aX.l)) ht
  have hsl:=jv (fr:=cg d q (rs.map aX.l)) (its:=its) i
  have hse:=uB (its.take i) t
  rw[←uw ht]at hse
  have hsm:=qg (its.take i) t.1.b
  have hsn:=xi (its.take i)
  rw[List.length_take]at hsn
  refine aA<|ae<|ah<|aI<|ah<|aj<|hy (fun _=>cy rfl rfl Tryz.underlying80 iV hA_it rfl (by omega))<|hy (fun m=>yV (aQ rfl vg iV (bZ t) (dB (f:=eS) bZ (m.rd 0 rfl) ht)) ((rfl:_=Value.agg (eS t).toArray)))<| ?_
  refine hx (bf kR (fun g9=> ?_))
  refine cB (a6 0 rfl rfl rfl iV (bZ t) (lV t) rfl ?_)
  refine ai<|al (ρ' :=[(9,_),(13,_),(12,_),(7,_),(11,_),(10,_),(6,_),(0,_),(1,_),(2,_)]) ⟨rfl,rfl,rfl,rfl,rfl,rfl,rfl,rfl,rfl,rfl,trivial⟩<|ak (X' :=[_,_,_,_,_,_,_,_]) (S' :=[_,_]) (fun _ m=>m)<|ae<|ah<|aj<|hy (fun _=>aa rfl)<|hy (fun m=>yV (aQ rfl vg iV (bZ t) ((m.aN 0 rfl).aw)) ((rfl:_=Value.agg (eS t).toArray)))<| ?_
  refine hx (ej rfl rfl Tryz.call129 (Ef (wD _) hn2.symm (by omega) (t:=t)) [2,2] rfl [] rfl ?_)
  rintro _ _ _ ⟨A3,n3,c3,rfl,rfl,rfl,hn3⟩
  rw[←hse]at hn3
  rw[←hse]
  refine ai<|al (ρ' :=[(18,_),(9,_),(13,_),(12,_),(7,_),(11,_),(10,_),(6,_),(0,_),(1,_),(2,_)]) ⟨rfl,rfl,rfl,rfl,rfl,rfl,rfl,rfl,rfl,rfl,rfl,trivial⟩<|ak (X' :=[_,_,_,_,_,_,_,_]) (S' :=[_,_]) (fun _ m=>m)<|ae<| ?_
  refine cj rfl (fun hin=> ?_) (fun hin=> ?_)
  ·rw[if_neg (fun h=>hin (hsm.2 h))]at hsu
   refine aj<|hy (fun _=>aa rfl)<|hy (fun _=>aa rfl)<|hy (fun m=>yV (aQ rfl vg iV (bZ t) ((m.aN 2 rfl).aw)) ((rfl:_=Value.agg (eS t).toArray)))<| ?_
   refine hx (ej rfl rfl Tryz.call132 (EC hD hok (t:=t)) [4,4,4,4] rfl [1] rfl ?_)
   rintro _ _ _ ⟨rfl,rfl,rfl⟩
   refine hx (bJ Tryz.underlying78 sM rfl rfl rfl (by intro v hv;rw[List.mem_singleton.1 hv];show(eS (t.1,cg d q (rs.map aX.l) t.1.b)).toArray.size=33;rw[List.size_toArray,bZ]) (by decide) (by decide) (fun g23=> ?_))
   have hA_b23:0<1→(some (⟨g23,0,none⟩:Addr))≠none:=fun _ h=>by cases h
   refine aF (fun w m=>m.bq 0 rfl (show _=aG 101 33 (.slice (some ⟨g23,0,none⟩) 1 1) 1 (iM [(t.1,cg d q (rs.map aX.l) t.1.b)])from rfl)) ?_
   refine hx (bp 8 rfl rfl rfl Tryz.underlying78 Tryz.underlying78 (by exact .inl rfl) sM rfl (fun m=>Src.bS (m.ord 0 rfl)) jB (by unfold maxLen;omega) (by omega) (fun u=> ?_))
   refine aB (fun m=>(m.own 0 rfl).slice) ?_
   rintro⟨A_z,c_z,rfl,hc_z⟩
   refine aB (fun m=>(m.ord 0 rfl).2.1) fun hA_z=> ?_
   refine aF (fun w m=>m.bq 0 rfl (show _=aG 101 33 (.slice A_z (k1+1) c_z) (k1+1) (iM (dy (cg d q (rs.map aX.l)) its (i+1)))from congrArg (aG _ _ _ _) (by rw[hsu,eP]))) ?_
   refine hy (fun _=>ab rfl)<|ai<|al (ρ' :=[(7,_),(18,_),(9,_),(13,_),(12,_),(11,_),(10,_),(6,_),(0,_),(1,_),(2,_)]) ⟨rfl,rfl,rfl,rfl,rfl,rfl,rfl,rfl,rfl,rfl,rfl,trivial⟩<|ak (X' :=[_,_,_,_,_,_,_,_,_]) (S' :=[_,_]) (fun _ m=>m)<|aM<|ae<|aj<|hy (fun _=>aK rfl rfl (bs (by omega) (by omega)))<|hy (fun _=>aa rfl)<|ai<|al (ρ' :=[(12,_),(7,_),(18,_),(9,_),(13,_),(11,_),(10,_),(6,_),(0,_),(1,_),(2,_)]) ⟨rfl,rfl,rfl,rfl,rfl,rfl,rfl,rfl,rfl,rfl,rfl,trivial⟩<| ?_
   refine zL (i+1) A_z (k1+1) c_z A3 n3 c3 ⟨rfl,rfl,rfl,rfl,rfl,rfl,rfl,rfl,trivial⟩ [0,5,5,1,1,1,1] rfl [0,1] rfl (⟨by omega,by rw[hsu,List.length_append,hk1];rfl,hn3⟩) (by omega)
  ·rw[if_pos (hsm.1 (Decidable.not_not.1 hin))]at hsu
   rw[←hsu]at hk1
   rw[←hsu]
   refine aA<|aM<|ae<|aj<|hy (fun _=>aK rfl rfl (bs (by omega) (by omega)))<|hy (fun _=>aa rfl)<|ai<|al (ρ' :=[(12,_),(18,_),(9,_),(13,_),(7,_),(11,_),(10,_),(6,_),(0,_),(1,_),(2,_)]) ⟨rfl,rfl,rfl,rfl,rfl,rfl,rfl,rfl,rfl,rfl,rfl,trivial⟩<| ?_
   refine zL (i+1) A1 k1 c1 A3 n3 c3 ⟨rfl,rfl,rfl,rfl,rfl,rfl,rfl,rfl,trivial⟩ [3,0,0,1,1,1,1] rfl [0,1] rfl (⟨by omega,hk1,hn3⟩) (by omega)
 ·obtain rfl:i=its.length:=by omega
  refine bA<|ao<|ao<|aC<|ae<|ah<|aj<|hy (fun _=>aa rfl)<|hy (fun _=>ab rfl)<|ai<|al (ρ' :=[(6,_),(13,_),(12,_),(7,_),(11,_),(10,_),(0,_),(1,_),(2,_)]) ⟨rfl,rfl,rfl,rfl,rfl,rfl,rfl,rfl,rfl,trivial⟩<|ae<|aU<| ?_
  exact aZ trivial rfl rfl [0,2,2] rfl [] rfl ⟨A1,k1,c1,rfl,rfl,rfl,hk1⟩
theorem yt{g gs gm kk:Nat}{st:cR}{d:RD}{q:Pn}{A:Option Addr}{c:Nat}{rs:List aX}{l:xC}{u:IX}(hD:DS st d kk)(hok:iA q rs l)(hu:u.its.length≤100000):b6 Tryz.prog 42 [.pointer (some ⟨g,0,none⟩),.agg u.cs.toArray,.pointer (some ⟨gs,0,none⟩)] [bO g st,fT gs gm q A c rs l] [cr 33 u.A u.its.length (iM u.its),dI] (fun v_ X_ S_=>∃A1 k1 c1,v_=(.slice A1 k1 c1)∧X_=[aG 101 33 (.slice A1 k1 c1) k1 (iM (gn (cg d q (rs.map aX.l)) u.its)),bO g st,fT gs gm q A c rs l]∧S_=[]∧(k1=(gn (cg d q (rs.map aX.l)) u.its).length)):=by
 refine aJ (N:=15) Tryz.func42 rfl rfl (by simp) fun b=> ?_
 refine aS (fun m=>fv (m.rd 0 rfl)) ?_
 rintro⟨hl_it,hA_it⟩
 refine ah<|aj<| ?_
 refine hx (bn rfl (fun g3=> ?_))
 refine aF (fun w m=>m.bq 0 rfl (show _=aE g3 35 [.pointer (some ⟨g,0,none⟩)]from rfl)) ?_
 refine hx (bn rfl (fun g4=> ?_))
 refine aF (fun w m=>m.bq 0 rfl (show _=aE g4 88 u.cs from congrArg (aE _ _) (aR _))) ?_
 refine hx (bn rfl (fun g5=> ?_))
 refine aF (fun w m=>m.bq 0 rfl (show _=aE g5 83 [.pointer (some ⟨gs,0,none⟩)]from rfl)) ?_
 refine hy (fun _=>ab rfl)<|ai<|ak (X' :=[_,_,_,_,_]) (S' :=[_,_]) (fun _ m=>m)<|ae<|ah<|aj<| ?_
 refine hx (bf G7 (fun g7=> ?_))
 refine aF (fun w m=>m.bq 0 rfl (show _=aE g7 33 [.slice none 0 0]from rfl)) ?_
 refine aF (fun w m=>m.cI (r' :=aG 53 32 (.slice none 0 0) 0 []) (.refl _ _) (Own.nil _ _ _ _) (fun k hk=>hk.elim)) ?_
 refine ai<|ak (X' :=[_,_,_,_,_,_,_]) (S' :=[_,_]) (fun _ m=>m)<|ae<|ah<|aj<|hy (fun _=>e8 rfl rfl)<|hy (fun _=>ab rfl)<|ai<|al (ρ' :=[(8,_),(7,_),(6,_),(5,_),(4,_),(3,_),(0,_),(1,_),(2,_)]) ⟨rfl,rfl,rfl,rfl,rfl,rfl,rfl,rfl,rfl,trivial⟩<|ae<|ah<|aj<|hy (fun _=>aD rfl Dw (by decide))<|hy (fun m=>aq rfl uk (ax (m.aN 3 rfl) (i:=35) u.z6))<|hy (fun _=>aa rfl)<|hy (fun _=>e8 rfl rfl)<| ?_
 refine hx (au rfl Tryz.call131 (Hu hD hok rfl hu) [1,0,3,3,2,0] rfl [0,1] rfl ?_)
 rintro _ _ _ ⟨A1,k1,c1,rfl,rfl,rfl,hp⟩
 refine hy (fun _=>ab rfl)<|ai<|al (ρ' :=[(6,_),(8,_),(7,_),(5,_),(4,_),(3,_),(0,_),(1,_),(2,_)]) ⟨rfl,rfl,rfl,rfl,rfl,rfl,rfl,rfl,rfl,trivial⟩<|ak (X' :=[_,_,_,_]) (S' :=[_,_]) (fun _ m=>m)<|ae<|aU<| ?_
 exact aZ trivial rfl rfl [0,0,0] rfl [] rfl ⟨A1,k1,c1,rfl,rfl,rfl,hp⟩
theorem B0{gf:Nat}{k:Int}{t:It}:b6 Tryz.prog 198 [.agg (eS t).toArray,.pointer (some ⟨gf,0,none⟩)] [aE gf 3 [.int .i64 k]] [] (fun v_ X_ S_=>v_=(.bool (decide (t.2=k)))∧X_=[aE gf 3 [.int .i64 k]]∧S_=[]):=by
 refine aJ (N:=8) Tryz.func198 rfl rfl (by simp) fun b=> ?_
 refine ah<|aj<| ?_
 refine hx (bn rfl (fun g2=> ?_))
 refine aF (fun w m=>m.bq 0 rfl (show _=aE g2 101 (eS t)from congrArg (aE _ _) (aR _))) ?_
 refine hy (fun _=>ab rfl)<|ai<|ak (X' :=[_,_]) (S' :=[]) (fun _ m=>m)<|ae<|ah<|aj<|hy (fun _=>aD rfl vP (by decide))<|hy (fun m=>aq rfl dr ((m.aN 0 rfl).aw 32 _ (lO t)))<|hy (fun m=>aq rfl dr (ax (m.aN 1 rfl) rfl))<|hy (fun _=>cn rfl rfl)<|hy (fun _=>ab rfl)<|ai<|al (ρ' :=[(3,_),(2,_),(0,_),(1,_)]) ⟨rfl,rfl,rfl,rfl,trivial⟩<|ae<|aU<| ?_
 exact aZ trivial rfl rfl [1] rfl [] rfl ⟨rfl,rfl,rfl⟩
theorem Cf{t:It}:b6 Tryz.prog 199 [.agg (eS t).toArray] [] [] (fun v_ X_ S_=>v_=(.agg (aP t.1.b).toArray)∧X_=[]∧S_=[]):=by
 have h32:(aP t.1.b).length=32:=by rw[az,t.1.h]
 refine aJ (N:=5) Tryz.func199 rfl rfl (by simp) fun b=> ?_
 refine ah<|aj<| ?_
 refine hx (bn rfl (fun g1=> ?_))
 refine aF (fun w m=>m.bq 0 rfl (show _=aE g1 101 (eS t)from congrArg (aE _ _) (aR _))) ?_
 refine hx (bf fC (fun g2=> ?_))
 refine ai<|ak (X' :=[_,_]) (S' :=[]) (fun _ m=>m)<|ae<|ah<|aj<|hy (fun _=>aD rfl BX (by decide))<|hy (fun m=>aQ rfl cf bL h32 (fun j u hu=>(m.aN 1 rfl).aw j u (hG hu)))<| ?_
 refine cB (a6 0 rfl rfl rfl bL h32 bh rfl ?_)
 refine ai<|al (ρ' :=[(2,_),(1,_),(0,_)]) ⟨rfl,rfl,rfl,trivial⟩<|ak (X' :=[_,_]) (S' :=[]) (fun _ m=>m)<|ae<|aU<| ?_
 exact ep trivial rfl rfl cf bL h32 (fun m=>(m.aN 0 rfl).aw) [] rfl [] rfl ⟨rfl,rfl,rfl⟩
theorem Fx{gf:Nat}{k:Int}{S:Option Addr}{n cs:Nat}{l:List It}(hl:l.length=n)(hn:n≤100000):b6 Tryz.prog 197 [.slice S n cs,.func (.func 198) #[] #[.pointer (some ⟨gf,0,none⟩)],.func (.func 199) #[] #[]] [aE gf 3 [.int .i64 k]] [cr 33 S n (iM l)] (fun v_ X_ S_=>∃A1 k1 c1,v_=(.slice A1 k1 c1)∧X_=[aG 53 32 (.slice A1 k1 c1) k1 (dc (dj l k))]∧S_=[]∧(k1=(dj l k).length)):=by
 refine aJ (N:=27) Tryz.func197 rfl rfl (by simp) fun b=> ?_
 refine aS (fun m=>fv (m.rd 0 rfl)) ?_
 rintro⟨hl_r,hA_r⟩
 refine ah<|aj<|hy (fun _=>ab rfl)<|ai<|ae<|ah<|aj<|hy (fun _=>ab rfl)<|ai<|ae<|ah<|ah<|aj<|hy (fun _=>aa rfl)<|hy (fun _=>aW rfl Tryz.underlying78)<|hy (fun _=>aa rfl)<|ai<|ae<|aI<| ?_
 refine bg (fun w m=>m.cI (r' :=aG 53 32 (.slice none 0 0) 0 []) (.refl _ _) (Own.nil _ _ _ _) (fun k hk=>hk.elim)) ?_
 refine kZ (fun i A1 k1 c1=>n-i) (fun i A1 k1 c1=>[(12,.int .i64 (i:Nat)),(7,.slice A1 k1 c1)]) (fun i A1 k1 c1=>[aG 53 32 (.slice A1 k1 c1) k1 (dc (dj (l.take i) k))]) (fun i A1 k1 c1=>[]) (fun i A1 k1 c1=>i≤n∧k1=(dj (l.take i) k).length) 0 none 0 0 [(11,_),(10,_),(6,_),(0,_),(1,_),(2,_)] ⟨rfl,rfl,rfl,rfl,rfl,rfl,trivial⟩ [0] rfl [] rfl (⟨Nat.zero_le _,rfl⟩) ⟨rfl,rfl,trivial⟩ (fun i A1 k1 c1 ⟨hi,hk1⟩=> ?_)
 refine ah<|aj<|hy (fun _=>bu rfl rfl)<|ai<|ae<|ah<| ?_
 refine cj rfl (fun hlt=> ?_) (fun hlt=> ?_)
 ·obtain⟨t,ht⟩:∃t,l[i]? =some t:=⟨_,List.getElem?_eq_getElem (by omega)⟩
  have h32:(aP t.1.b).length=32:=by rw[az,t.1.h]
  have hsu:=j5 (k:=k) ht
  have hll:(dj (l.take i) k).length≤100000:=Nat.le_trans (kY _ _) (by rw[List.length_take];omega)
  refine aA<|ae<|ah<|aI<|ah<|aj<|hy (fun _=>cy rfl rfl Tryz.underlying78 kS hA_r rfl (by omega))<|hy (fun m=>yV (aQ rfl sB kS (bZ t) (dB (f:=eS) bZ (m.rd 0 rfl) ht)) ((rfl:_=Value.agg (eS t).toArray)))<| ?_
  refine hx (bf sM (fun g9=> ?_))
  refine cB (a6 0 rfl rfl rfl kS (bZ t) (lV t) rfl ?_)
  refine ai<|al (ρ' :=[(9,_),(13,_),(12,_),(7,_),(11,_),(10,_),(6,_),(0,_),(1,_),(2,_)]) ⟨rfl,rfl,rfl,rfl,rfl,rfl,rfl,rfl,rfl,rfl,trivial⟩<|ak (X' :=[_,_,_]) (S' :=[_]) (fun _ m=>m)<|ae<|ah<|aj<|hy (fun _=>aa rfl)<|hy (fun m=>yV (aQ rfl sB kS (bZ t) ((m.aN 0 rfl).aw)) ((rfl:_=Value.agg (eS t).toArray)))<| ?_
  refine hx (ej rfl rfl Tryz.call198 (B0 (t:=t)) [2] rfl [] rfl ?_)
  rintro _ _ _ ⟨rfl,rfl,rfl⟩
  refine ai<|al (ρ' :=[(18,_),(9,_),(13,_),(12,_),(7,_),(11,_),(10,_),(6,_),(0,_),(1,_),(2,_)]) ⟨rfl,rfl,rfl,rfl,rfl,rfl,rfl,rfl,rfl,rfl,rfl,trivial⟩<|ak (X' :=[_,_,_]) (S' :=[_]) (fun _ m=>m)<|ae<| ?_
  refine cj rfl (fun h3=> ?_) (fun h3=> ?_)
  ·rw[if_pos h3]at hsu
   refine aj<|hy (fun _=>aa rfl)<|hy (fun _=>aa rfl)<|hy (fun m=>yV (aQ rfl sB kS (bZ t) ((m.aN 1 rfl).aw)) ((rfl:_=Value.agg (eS t).toArray)))<| ?_
   refine hx (ej rfl rfl Tryz.call199 (Cf (t:=t)) [] rfl [] rfl ?_)
   rintro _ _ _ ⟨rfl,rfl,rfl⟩
   refine hx (bJ Tryz.underlying33 fC rfl rfl rfl (by simpa[Value.cells,B8]using h32) (by decide) (by decide) (fun g23=> ?_))
   have hA_b23:0<1→(some (⟨g23,0,none⟩:Addr))≠none:=fun _ h=>by cases h
   refine aF (fun w m=>m.bq 0 rfl (show _=aG 53 32 (.slice (some ⟨g23,0,none⟩) 1 1) 1 (dc [t.1.b])from rfl)) ?_
   refine hx (bp 3 rfl rfl rfl Tryz.underlying33 Tryz.underlying33 (by exact .inl rfl) fC rfl (fun m=>Src.bS (m.ord 0 rfl)) kX (by unfold maxLen;omega) (by omega) (fun u=> ?_))
   refine aB (fun m=>(m.own 0 rfl).slice) ?_
   rintro⟨A_o,c_o,rfl,hc_o⟩
   refine aB (fun m=>(m.ord 0 rfl).2.1) fun hA_o=> ?_
   refine aF (fun w m=>m.bq 0 rfl (show _=aG 53 32 (.slice A_o (k1+1) c_o) (k1+1) (dc (dj (l.take (i+1)) k))from congrArg (aG _ _ _ _) (by rw[hsu,mw]))) ?_
   refine hy (fun _=>ab rfl)<|ai<|al (ρ' :=[(7,_),(18,_),(9,_),(13,_),(12,_),(11,_),(10,_),(6,_),(0,_),(1,_),(2,_)]) ⟨rfl,rfl,rfl,rfl,rfl,rfl,rfl,rfl,rfl,rfl,rfl,trivial⟩<|ak (X' :=[_,_,_,_]) (S' :=[_]) (fun _ m=>m)<|aM<|ae<|aj<|hy (fun _=>aK rfl rfl (bs (by omega) (by omega)))<|hy (fun _=>aa rfl)<|ai<|al (ρ' :=[(12,_),(7,_),(18,_),(9,_),(13,_),(11,_),(10,_),(6,_),(0,_),(1,_),(2,_)]) ⟨rfl,rfl,rfl,rfl,rfl,rfl,rfl,rfl,rfl,rfl,rfl,trivial⟩<| ?_
   refine fa (i+1) A_o (k1+1) c_o ⟨rfl,rfl,rfl,rfl,rfl,rfl,rfl,rfl,trivial⟩ [0,1] rfl [0] rfl (⟨by omega,by rw[hsu,List.length_append,hk1];rfl⟩) (by omega)
  ·rw[if_neg h3,List.append_nil]at hsu
   rw[←hsu]at hk1
   rw[←hsu]
   refine aA<|aM<|ae<|aj<|hy (fun _=>aK rfl rfl (bs (by omega) (by omega)))<|hy (fun _=>aa rfl)<|ai<|al (ρ' :=[(12,_),(18,_),(9,_),(13,_),(7,_),(11,_),(10,_),(6,_),(0,_),(1,_),(2,_)]) ⟨rfl,rfl,rfl,rfl,rfl,rfl,rfl,rfl,rfl,rfl,rfl,trivial⟩<| ?_
   refine fa (i+1) A1 k1 c1 ⟨rfl,rfl,rfl,rfl,rfl,rfl,rfl,rfl,trivial⟩ [2,0] rfl [0] rfl (⟨by omega,hk1⟩) (by omega)
 ·obtain rfl:i=n:=by omega
  have htl:l.take i=l:=by rw[←hl,List.take_length]
  rw[htl]at hk1
  rw[htl]
  refine bA<|ao<|ao<|aC<|ae<|ah<|aj<|hy (fun _=>aa rfl)<|hy (fun _=>ab rfl)<|ai<|al (ρ' :=[(6,_),(13,_),(12,_),(7,_),(11,_),(10,_),(0,_),(1,_),(2,_)]) ⟨rfl,rfl,rfl,rfl,rfl,rfl,rfl,rfl,rfl,trivial⟩<|ae<|aU<| ?_
  exact aZ trivial rfl rfl [0] rfl [] rfl ⟨A1,k1,c1,rfl,rfl,rfl,hk1⟩
theorem vz{k:Int}{S:Option Addr}{n cs:Nat}{l:List It}(hl:l.length=n)(hn:n≤100000):b6 Tryz.prog 135 [.slice S n cs,.int .i64 k] [] [cr 33 S n (iM l)] (fun v_ X_ S_=>∃A1 k1 c1,v_=(.slice A1 k1 c1)∧X_=[aG 53 32 (.slice A1 k1 c1) k1 (dc (dj l k))]∧S_=[]∧(k1=(dj l k).length)):=by
 refine aJ (N:=8) Tryz.func135 rfl rfl (by simp) fun b=> ?_
 refine aS (fun m=>fv (m.rd 0 rfl)) ?_
 rintro⟨hl_r,hA_r⟩
 refine ah<|aj<| ?_
 refine hx (bn rfl (fun g3=> ?_))
 refine aF (fun w m=>m.bq 0 rfl (show _=aE g3 3 [.int .i64 k]from rfl)) ?_
 refine hy (fun _=>ab rfl)<|ai<|ak (X' :=[_]) (S' :=[_]) (fun _ m=>m)<|ae<|ah<|aj<|hy (fun _=>aa rfl)<|hy (fun _=>e8 rfl rfl)<| ?_
 refine hx (au rfl Tryz.call197 (Fx hl hn) [0] rfl [0] rfl ?_)
 rintro _ _ _ ⟨A1,k1,c1,rfl,rfl,rfl,hp⟩
 refine hy (fun _=>ab rfl)<|ai<|al (ρ' :=[(4,_),(3,_),(0,_),(1,_)]) ⟨rfl,rfl,rfl,rfl,trivial⟩<|ak (X' :=[_]) (S' :=[_]) (fun _ m=>m)<|ae<|aU<| ?_
 exact aZ trivial rfl rfl [0] rfl [] rfl ⟨A1,k1,c1,rfl,rfl,rfl,hp⟩
theorem wv{k:Int}{S:Option Addr}{n cs:Nat}{l:List It}(hl:l.length=n)(hn:n≤100000):b6 Tryz.prog 48 [.slice S n cs,.int .i64 k] [] [cr 33 S n (iM l)] (fun v_ X_ S_=>v_=(.int .i64 ((dj l k).length:Nat))∧X_=[]∧S_=[]):=by
 refine aJ (N:=9) Tryz.func48 rfl rfl (by simp) fun b=> ?_
 refine aS (fun m=>fv (m.rd 0 rfl)) ?_
 rintro⟨hl_r,hA_r⟩
 refine ah<|aj<|hy (fun _=>ab rfl)<|ai<|ae<|ah<|aj<|hy (fun _=>aa rfl)<|hy (fun _=>aa rfl)<| ?_
 refine hx (au rfl Tryz.call135 (vz hl hn) [] rfl [0] rfl ?_)
 rintro _ _ _ ⟨A1,k1,c1,rfl,rfl,rfl,hk1⟩
 rw[←hk1]
 refine hy (fun _=>aW rfl Tryz.underlying33)<|hy (fun _=>ab rfl)<|ai<|al (ρ' :=[(4,_),(0,_),(1,_)]) ⟨rfl,rfl,rfl,trivial⟩<|ak (X' :=[_]) (S' :=[_]) (fun _ m=>m)<|ae<|aU<| ?_
 exact aZ trivial rfl rfl [] rfl [] rfl ⟨rfl,rfl,rfl⟩
theorem vj{S:Option Addr}{n cs:Nat}{l:List It}(hl:l.length=n)(hn:n≤100000):b6 Tryz.prog 46 [.slice S n cs] [] [cr 33 S n (iM l)] (fun v_ X_ S_=>∃A1 k1 c1,v_=(.slice A1 k1 c1)∧X_=[aG 53 32 (.slice A1 k1 c1) k1 (dc (dj l 3))]∧S_=[]∧(k1=(dj l 3).length)):=by
 refine aJ (N:=5) Tryz.func46 rfl rfl (by simp) fun b=> ?_
 refine aS (fun m=>fv (m.rd 0 rfl)) ?_
 rintro⟨hl_r,hA_r⟩
 refine ah<|aj<|hy (fun _=>ab rfl)<|ai<|ae<|ah<|aj<|hy (fun _=>aa rfl)<| ?_
 refine hx (au rfl Tryz.call135 (vz hl hn (k:=3)) [] rfl [0] rfl ?_)
 rintro _ _ _ ⟨A1,k1,c1,rfl,rfl,rfl,hk1⟩
 refine hy (fun _=>ab rfl)<|ai<|al (ρ' :=[(2,_),(0,_)]) ⟨rfl,rfl,trivial⟩<|ak (X' :=[_]) (S' :=[_]) (fun _ m=>m)<|ae<|aU<| ?_
 exact aZ trivial rfl rfl [0] rfl [] rfl ⟨A1,k1,c1,rfl,rfl,rfl,hk1⟩
end Go.Proofs.YtmibdabdlgmafaaGreatDoor
end
section
set_option maxRecDepth 20000
set_option maxHeartbeats 4000000
namespace Go.Proofs.YtmibdabdlgmafaaGreatDoor
open Go.Eng Go.Hx
def pE(ga:Nat)(x:RX)(u:IX)(gs:Nat)(t o:Value):List Value:=([.pointer (some ⟨ga,0,none⟩)]++x.cs)++u.cs++[.pointer (some ⟨gs,0,none⟩),t,o]
section
variable{ga gs:Nat}{x y:RX}{u:IX}{t o t' :Value}
theorem rH:([Value.pointer (some ⟨ga,0,none⟩)]++x.cs).length=6:=rfl
theorem v7:(pE ga x u gs t o).length=45:=by
 rw[pE,List.length_append,List.length_append,rH,u.fw];rfl
theorem jX{j:Nat}:(pE ga x u gs t o)[42+j]? =[Value.pointer (some ⟨gs,0,none⟩),t,o][j]? :=by
 have h:(([Value.pointer (some ⟨ga,0,none⟩)]++x.cs)++u.cs).length=42:=by rw[List.length_append,rH,u.fw]
 rw[pE,List.getElem?_append_right (by omega),h,Nat.add_sub_cancel_left]
theorem zX:(pE ga x u gs t o).set 43 t' =pE ga x u gs t' o:=by
 have h:(([Value.pointer (some ⟨ga,0,none⟩)]++x.cs)++u.cs).length=42:=by rw[List.length_append,rH,u.fw]
 rw[pE,List.set_append_right _ _ (by omega),h]
 rfl
theorem xM:bN (pE ga x u gs t o) 1 y.cs=pE ga y u gs t o:=by
 have h:=dA (a:=[Value.pointer (some ⟨ga,0,none⟩)]) (b:=x.cs) (c:=u.cs++[.pointer (some ⟨gs,0,none⟩),t,o]) (vs:=y.cs) (o:=1) rfl rfl
 rw[←List.append_assoc,←List.append_assoc]at h
 exact h
theorem CJ{w:World}{g:Nat}{ty:TypeId}(h:eQ w g ty (pE ga x u gs t o)):∀(j:Nat) (v:Value),x.cs[j]? =some v→w.cell? ((⟨g,0,none⟩:Addr).add 1|>.add j)=some v:=by
 have h2:eQ w g ty (([Value.pointer (some ⟨ga,0,none⟩)]++x.cs)++(u.cs++[.pointer (some ⟨gs,0,none⟩),t,o])):=by rw[←List.append_assoc];exact h
 exact vC h2
theorem s6{w:World}{g:Nat}{ty:TypeId}(h:eQ w g ty (pE ga x u gs t o)):∀(j:Nat) (v:Value),u.cs[j]? =some v→w.cell? ((⟨g,0,none⟩:Addr).add 6|>.add j)=some v:=vC (a:=[Value.pointer (some ⟨ga,0,none⟩)]++x.cs) h
end
theorem Cm{P:Program}{pl:Nat→Option (Nat×Nat)}{A B:Option Addr}{x:RX}{u:IX}{o a0 s0 t0 i0:Value}{zr zx:List Value}(hr:zr.length=5)(hx:zx.length=36)(ho:o.cells.toList=[o])(p0:pl 0=some (0,1))(p1:pl 1=some (1,5))(p2:pl 2=some (6,36))(p3:pl 3=some (42,1))(p5:pl 5=some (44,1)):
  wb P pl ([a0]++zr++zx++[s0]++[t0]++[i0]) [(0,.pointer A),(1,.agg x.cs.toArray),(2,.agg u.cs.toArray),(3,.pointer B),(5,o)] (([.pointer A]++x.cs)++u.cs++[.pointer B,t0,o]):=by
 have e0:bN ([a0]++zr++zx++[s0]++[t0]++[i0]) 0 [.pointer A]=[.pointer A]++zr++(zx++[s0]++[t0]++[i0]):=by
  have:=dA (a:=[]) (b:=[a0]) (c:=zr++zx++[s0]++[t0]++[i0]) (vs:=[Value.pointer A]) (o:=0) rfl rfl
  simpa using this
 have e1:bN ([.pointer A]++zr++(zx++[s0]++[t0]++[i0])) 1 x.cs=([.pointer A]++x.cs)++zx++([s0]++[t0]++[i0]):=by
  rw[dA (a:=[Value.pointer A]) (b:=zr) (c:=zx++[s0]++[t0]++[i0]) (vs:=x.cs) (o:=1) rfl (by rw[hr];rfl)]
  simp
 have hp:([Value.pointer A]++x.cs).length=6:=rfl
 have e2:bN (([.pointer A]++x.cs)++zx++([s0]++[t0]++[i0])) 6 u.cs=(([.pointer A]++x.cs)++u.cs)++[s0]++([t0]++[i0]):=by
  rw[dA (b:=zx) (c:=[s0]++[t0]++[i0]) (vs:=u.cs) hp (by rw[hx,u.fw])]
  simp
 have hp2:(([Value.pointer A]++x.cs)++u.cs).length=42:=by rw[List.length_append,hp,u.fw]
 have e3:bN ((([.pointer A]++x.cs)++u.cs)++[s0]++([t0]++[i0])) 42 [.pointer B]=((([.pointer A]++x.cs)++u.cs)++[.pointer B,t0])++[i0]++[]:=by
  rw[dA (b:=[s0]) (c:=[t0]++[i0]) (vs:=[.pointer B]) hp2 rfl]
  simp
 have hp3:((([Value.pointer A]++x.cs)++u.cs)++[.pointer B,t0]).length=44:=by rw[List.length_append,hp2];rfl
 have e4:bN (((([.pointer A]++x.cs)++u.cs)++[.pointer B,t0])++[i0]++[]) 44 [o]=([.pointer A]++x.cs)++u.cs++[.pointer B,t0,o]:=by
  rw[dA (b:=[i0]) (c:=[]) (vs:=[o]) hp3 rfl]
  simp
 have l0:([a0]++zr++zx++[s0]++[t0]++[i0]).length=45:=by simp[hr,hx]
 refine .cons p0 (vs:=[.pointer A]) rfl rfl (by omega) ?_
 rw[e0]
 refine .cons p1 (aR _) rfl (by simp[hr,hx]) ?_
 rw[e1]
 refine .cons p2 (aR _) u.fw (by rw[List.length_append,List.length_append,hp,hx];simp) ?_
 rw[e2]
 refine .cons p3 (vs:=[.pointer B]) rfl rfl (by rw[List.length_append,List.length_append,hp2];simp) ?_
 rw[e3]
 refine .cons p5 ho rfl (by rw[List.length_append,List.length_append,hp3];simp) ?_
 rw[e4]
 exact .nil
def tO(cs:List (List UInt8))(zl:List Int)(d:RD):RD:=zl.foldl (fun d z=>(d.put (cs.getD (c5 z cs.length).toNat [])).1) d
def k9(cs:List (List UInt8))(zl:List Int):RD:=if cs=[]then RD.new 20000 else tO cs (zl.take 5) (RD.new 20000)
theorem uy{cs:List (List UInt8)}{zl:List Int}{d:RD}{i:Nat}(h:i<zl.length):tO cs (zl.take (i+1)) d=((tO cs (zl.take i) d).put (cs.getD (c5 (zl.getD i 0) cs.length).toNat [])).1:=by
 have e:zl[i]=zl.getD i 0:=by rw[List.getD,List.getElem?_eq_getElem h];rfl
 rw[List.take_succ_eq_append_getElem h,tO,List.foldl_append,e]
 rfl
def iu(img:List UInt8):List UInt8:=img.take 60
def oo(img:List UInt8)(fr:Int)(ot:List UInt8):List (List UInt8):=[(iu img).drop (c5 fr ((iu img).length+1:Nat)).toNat,ot.take 30]
theorem tk{I:Option Addr}{ni ci:Nat}{img:List UInt8}{p:Pm}{L:Option Addr}{np cp:Nat}{zl:List Int}{fr:Int}{O:Option Addr}{no co:Nat}{ot:List UInt8}(hic:ni≤ci)(hin:ni≤140737488351232)(h1:-9223372036854775808≤p.mn∧p.mn≤9223372036854775807)(h2:-9223372036854775808≤p.av∧p.av≤9223372036854775807)(h3:-9223372036854775808≤p.mx∧p.mx≤9223372036854775807)(hzl:wG zl)(hfr:-9223372036854775808≤fr∧fr≤9223372036854775807)(hoc:no≤co)(hon:no≤140737488351232):b6 Tryz.prog 41 [.slice I ni ci,.agg p.cs.toArray,.slice L np cp,.int .i64 fr,.slice O no co] [] [cr 1 I ni (aP img),cr 1 L np (ints zl),cr 1 O no (aP ot),dI] (fun v_ X_ S_=>∃gw gd st y gs gm A c rs l A2 c2 T trs AO cO,v_=(.pointer (some ⟨gw,0,none⟩))∧X_=[aE gw 86 (pE gd y (tE (iu img) (fo p) A2 c2) gs (.slice T 2 2) (.slice AO (iu img).length cO)),bO gd st,fT gs gm (fo p) A c rs l]∧S_=[fG y,cr 33 A2 (cb (iu img) (fo p)).length (iM (cb (iu img) (fo p))),cr 1 T 2 (j6 trs),dp trs,cr 1 AO (iu img).length (aP (iu img))]∧(y.d=k9 (eo (iu img) (fo p)) zl∧DS st y.d 20∧iA (fo p) rs l∧rs.map aX.l=trs.map aX.l∧trs.map aX.l=oo img fr ot∧trs.length=2∧(∀r∈trs,r.n=r.l.length∧r.n≤r.c∧r.n≤100000)∧(iu img).length≤cO)):=by
 obtain⟨q,hqe⟩:∃q,q=fo p:=⟨_,rfl⟩
 have hq:q.ok:=by rw[hqe];exact(tA p).1
 obtain⟨own,hown⟩:∃own,own=iu img:=⟨_,rfl⟩
 have hown2:img.take 60=own:=hown.symm
 rw[←hqe,←hown]
 refine aJ (N:=138) Tryz.func41 rfl rfl (by simp) fun b=> ?_
 refine aS (fun m=>dZ (m.rd 0 rfl)) ?_
 rintro⟨hl_ri,hA_ri⟩
 refine aS (fun m=>fv (m.rd 1 rfl)) ?_
 rintro⟨hl_rl,hA_rl⟩
 refine aS (fun m=>dZ (m.rd 2 rfl)) ?_
 rintro⟨hl_rt,hA_rt⟩
 refine ah<|aj<| ?_
 refine hx (bn rfl (fun g6=> ?_))
 refine aF (fun w m=>m.bq 0 rfl (show _=aE g6 75 p.cs from congrArg (aE _ _) (aR _))) ?_
 refine hy (fun _=>ab rfl)<|ai<|ak (X' :=[_]) (S' :=[_,_,_,_]) (fun _ m=>m)<|ae<|ah<|aj<| ?_
 refine hx (au rfl Tryz.call24 (HG (by decide) (by decide)) [] rfl [] rfl ?_)
 rintro _ _ _ ⟨g,gs,gl,rfl,rfl,rfl⟩
 refine hy (fun _=>aa rfl)<|hy (fun _=>aH rfl rfl)<|hy (fun _=>aH rfl rfl)<|hy (fun _=>ab rfl)<|hy (fun _=>ab rfl)<|ai<|al (ρ' :=[(12,_),(11,_),(10,_),(6,_),(0,_),(1,_),(2,_),(3,_),(4,_)]) ⟨rfl,rfl,rfl,rfl,rfl,rfl,rfl,rfl,rfl,trivial⟩<|ak (X' :=[_,_]) (S' :=[_,_,_,_]) (fun _ m=>m)<|ae<|ah<|aj<|hy (fun m=>yV (aQ rfl gC fX rfl ((m.aN 1 rfl).aw)) ((rfl:_=Value.agg p.cs.toArray)))<| ?_
 refine hx (au rfl Tryz.call125 (FX h1 h2 h3) [] rfl [] rfl ?_)
 rintro _ _ _ ⟨rfl,rfl,rfl⟩
 rw[←hqe]
 refine hx (bf yy (fun g13=> ?_))
 refine cB (a6 0 rfl rfl rfl fX rfl (Pm.one (p:=q.p)) rfl ?_)
 refine ai<|al (ρ' :=[(13,_),(12,_),(11,_),(10,_),(6,_),(0,_),(1,_),(2,_),(3,_),(4,_)]) ⟨rfl,rfl,rfl,rfl,rfl,rfl,rfl,rfl,rfl,rfl,trivial⟩<|ak (X' :=[_,_,_]) (S' :=[_,_,_,_]) (fun _ m=>m)<|ae<|ah<|aj<|hy (fun m=>yV (aQ rfl gC fX rfl ((m.aN 0 rfl).aw)) ((rfl:_=Value.agg q.p.cs.toArray)))<| ?_
 refine hx (au rfl Tryz.call126 (Ay hq (q:=q)) [] rfl [] rfl ?_)
 rintro _ _ _ ⟨g2,gm,rfl,rfl,rfl⟩
 refine hy (fun _=>aa rfl)<|hy (fun _=>aH rfl rfl)<|hy (fun _=>aH rfl rfl)<|hy (fun _=>ab rfl)<|hy (fun _=>ab rfl)<|ai<|al (ρ' :=[(15,_),(14,_),(13,_),(12,_),(11,_),(10,_),(6,_),(0,_),(1,_),(2,_),(3,_),(4,_)]) ⟨rfl,rfl,rfl,rfl,rfl,rfl,rfl,rfl,rfl,rfl,rfl,rfl,trivial⟩<|ak (X' :=[_,_,_,_]) (S' :=[_,_,_,_]) (fun _ m=>m)<|ae<|ah<|ah<|aj<|hy (fun _=>aa rfl)<|hy (fun _=>re rfl rfl (by kernel_rfl))<|hy (fun _=>aa rfl)<|cm (o:=_) rfl rfl rfl (fun _=>aa rfl)<|cm (o:=_) rfl rfl rfl (fun _=>re rfl rfl (by kernel_rfl))<|hy (fun _=>bo rfl rfl)<|hy (fun _=>aa rfl)<|cm (o:=_) rfl rfl rfl (fun _=>aa rfl)<|cm (o:=_) rfl rfl rfl (fun _=>dx rfl rfl)<|hy (fun _=>bo rfl rfl)<|hy (fun _=>aa rfl)<|cm (o:=_) rfl rfl rfl (fun _=>aa rfl)<|cm (o:=_) rfl rfl rfl (fun _=>dx rfl rfl)<|hy (fun _=>bo rfl rfl)<|ai<|al (ρ' :=[(48,_),(15,_),(14,_),(13,_),(12,_),(11,_),(10,_),(6,_),(0,_),(1,_),(2,_),(3,_),(4,_)]) ⟨rfl,rfl,rfl,rfl,rfl,rfl,rfl,rfl,rfl,rfl,rfl,rfl,rfl,trivial⟩<|ae<| ?_
 refine cZ rfl ((by decide)) ?_
 refine aA<|ae<|ah<|aj<|hy (fun _=>aa rfl)<| ?_
 refine hx (au rfl Tryz.call32 (GD hic hin (m:=60)) [] rfl [0] rfl ?_)
 rintro _ _ _ ⟨v,rfl,rfl,rfl⟩
 refine aB (fun m=>(m.own 0 rfl).slice) ?_
 rintro⟨A_x,c_x,rfl,hc_x⟩
 refine aB (fun m=>(m.ord 0 rfl).2.1) fun hA_x=> ?_
 have hol:own.length=min ni 60:=by rw[←hown2,List.length_take,hl_ri,Nat.min_comm]
 have ho60:own.length≤60:=by omega
 rw[hown2,←hol]
 have hcx:own.length≤c_x:=by omega
 refine aF (fun w m=>(m.perm (ar [0] _ [_] _ rfl)).freeze) ?_
 refine aF (fun w m=>m.fh 0 rfl .own) ?_
 refine aB (fun m=>dZ (m.rd 0 rfl)) ?_
 rintro⟨hl_xr,hA_xr⟩
 refine hy (fun _=>ab rfl)<|ai<|al (ρ' :=[(16,_),(48,_),(15,_),(14,_),(13,_),(12,_),(11,_),(10,_),(6,_),(0,_),(1,_),(2,_),(3,_),(4,_)]) ⟨rfl,rfl,rfl,rfl,rfl,rfl,rfl,rfl,rfl,rfl,rfl,rfl,rfl,rfl,trivial⟩<|ak (X' :=[_,_,_,_]) (S' :=[_,_,_,_,_,_]) (fun _ m=>m)<|ae<|ah<|cq [1,4,8] [(0,some 2),(2,some 1),(3,some 1),(5,some 2),(6,some 2),(1,none),(4,none),(7,some 2),(8,none),(9,some 3)] (by kernel_rfl) (by kernel_rfl) rfl 99<|an (aa rfl)<|an (aa rfl)<|bY (fun m=>yV (aQ rfl gC fX rfl ((m.aN 1 rfl).aw)) ((rfl:_=Value.agg q.p.cs.toArray)))<|an (aa rfl)<|an (aa rfl)<| ?_
 refine dq (au rfl Tryz.call25 (F2) [] rfl [] rfl ?_)
 rintro _ _ _ ⟨y,rfl,rfl,rfl,hy1⟩
 refine⟨(fun _=>wk [0,0,0,0] [1,2,3,4,5,6] rfl rfl), ?_⟩
 refine dq (au rfl Tryz.call127 (Dz hq rfl (by omega) hcx (q:=q)) [] rfl [1] rfl ?_)
 rintro _ _ _ ⟨A2,c2,rfl,rfl,rfl⟩
 refine⟨(fun _=>wk [0,0,0,0] [2,3,4,5,6,7] rfl rfl), ?_⟩
 refine b7 (fun m=>fv (m.rd 0 rfl)) ?_
 rintro⟨hl_z,hA_z⟩
 refine an (bD G6 rfl rfl (by kernel_rfl) (Cm rfl rfl rfl EB DE Ek ES DW))<| ?_
 refine dq (bn rfl (fun g59=>⟨(fun _=>wk [1,1,1,1] [2,3,4,5,6,7] rfl rfl), ?_⟩))
 refine dQ (fun w m=>m.bq 0 rfl (show _=aE g59 86 (pE g y (tE own q A2 c2) g2 (.slice none 0 0) (.slice A_x own.length c_x))from congrArg (aE _ _) (aR _))) ?_
 refine an (ab rfl)<|bk<|al (ρ' :=[(17,_),(16,_),(48,_),(15,_),(14,_),(13,_),(12,_),(11,_),(10,_),(6,_),(0,_),(1,_),(2,_),(3,_),(4,_)]) ⟨rfl,rfl,rfl,rfl,rfl,rfl,rfl,rfl,rfl,rfl,rfl,rfl,rfl,rfl,rfl,trivial⟩<|ak (X' :=[_,_,_,_,_]) (S' :=[_,_,_,_,_,_,_,_]) (fun _ m=>m)<|ae<|ah<|aj<|hy (fun _=>aa rfl)<|hy (fun m=>yV (aQ rfl gC fX rfl ((m.aN 2 rfl).aw)) ((rfl:_=Value.agg q.p.cs.toArray)))<| ?_
 refine hx (au rfl Tryz.call50 (sj hq rfl (by omega) hcx (q:=q)) [] rfl [2] rfl ?_)
 rintro _ _ _ ⟨A1,c1,crs,rfl,rfl,rfl,hck⟩
 obtain⟨hck,hcn⟩:=hck
 refine aB (fun m=>(show∀r∈crs,aX.n r≤aX.c r from fun r hr=>((m.Fa 0 rfl) r hr).2)) fun hcc=> ?_
 have hcr:∀r∈crs,r.n=r.l.length∧r.n≤r.c∧r.l.length≤60:=fun r hr=>⟨hcn r hr,hcc r hr,Nat.le_trans (tW (q:=q) (by rw[←hck];exact List.mem_map_of_mem hr)) ho60⟩
 rw[←hck]
 refine aF (fun w m=>(m.perm (ar [0] _ [_] _ rfl)).freeze) ?_
 refine aF (fun w m=>m.fh 0 rfl .own) ?_
 refine aB (fun m=>fv (m.rd 0 rfl)) ?_
 rintro⟨hl_or,hA_or⟩
 have hD0:DS (mf 20000 gs gl) y.d 0:=by rw[hy1];exact DS.init (by decide)
 refine aB (fun m=>(m.rd 8 rfl).1) fun hln1=> ?_
 have hln1:zl.length=np:=by rw[ints,List.length_map,Nat.mul_one]at hln1;exact hln1
 have hckl:(crs.map aX.l).length=crs.length:=List.length_map ..
 refine hy (fun _=>ab rfl)<|ai<|al (ρ' :=[(18,_),(17,_),(16,_),(48,_),(15,_),(14,_),(13,_),(12,_),(11,_),(10,_),(6,_),(0,_),(1,_),(2,_),(3,_),(4,_)]) ⟨rfl,rfl,rfl,rfl,rfl,rfl,rfl,rfl,rfl,rfl,rfl,rfl,rfl,rfl,rfl,rfl,trivial⟩<|ak (X' :=[_,_,_,_,_]) (S' :=[_,_,_,_,_,_,_,_,_,_,_]) (fun _ m=>m)<|ae<|ah<|ah<|aj<|hy (fun _=>ab rfl)<|ai<|ae<| ?_
 refine D7 (fun(st1:cR) (y1:RX)=>[]) (fun(st1:cR) (y1:RX)=>[aE g59 86 (pE g y1 (tE own q A2 c2) g2 (.slice none 0 0) (.slice A_x own.length c_x)),bO g st1]) (fun(st1:cR) (y1:RX)=>[fG y1]) (fun(st1:cR) (y1:RX)=>y1.d=k9 (crs.map aX.l) zl∧DS st1 y1.d 20) [(18,_),(17,_),(16,_),(48,_),(15,_),(14,_),(13,_),(12,_),(11,_),(10,_),(6,_),(0,_),(1,_),(2,_),(3,_),(4,_)] ⟨rfl,rfl,rfl,rfl,rfl,rfl,rfl,rfl,rfl,rfl,rfl,rfl,rfl,rfl,rfl,rfl,trivial⟩ [0,2] rfl ?_ (fun st1 y1 ⟨hE1,hD1⟩=> ?_)
 ·refine aI<| ?_
  refine gg (fun i st y=>np-i) (fun i st y=>[(19,.int .i64 (i:Nat))]) (fun i st y=>[aE g59 86 (pE g y (tE own q A2 c2) g2 (.slice none 0 0) (.slice A_x own.length c_x)),bO g st]) (fun i st y=>[fG y]) (fun i st y=>i≤np∧i≤5∧(crs.length=0→i=0)∧y.d=tO (crs.map aX.l) (zl.take i) (RD.new 20000)∧DS st y.d (4*i)) 0 (mf 20000 gs gl) y [(18,_),(17,_),(16,_),(48,_),(15,_),(14,_),(13,_),(12,_),(11,_),(10,_),(6,_),(0,_),(1,_),(2,_),(3,_),(4,_)] ⟨rfl,rfl,rfl,rfl,rfl,rfl,rfl,rfl,rfl,rfl,rfl,rfl,rfl,rfl,rfl,rfl,trivial⟩ [0,2] rfl [4] rfl (⟨Nat.zero_le _,Nat.zero_le _,fun _=>rfl,hy1,hD0⟩) ⟨rfl,trivial⟩ (fun i st y ⟨hinp,hi5,hi0,hE,hD⟩=> ?_)
  refine ah<|ah<|aj<|hy (fun _=>aa rfl)<|hy (fun _=>aa rfl)<|hy (fun _=>aW rfl Tryz.underlying44)<|hy (fun _=>bu rfl rfl)<|hy (fun _=>aa rfl)<| ?_
  refine fD 67 rfl (fun ha=> ?_) (fun ha=> ?_)
  ·refine cm (o:=_) rfl rfl rfl (fun _=>aa rfl)<|cm (o:=_) rfl rfl rfl (fun _=>bu rfl rfl)<|hy (fun _=>bT rfl rfl)<|hy (fun _=>aa rfl)<| ?_
   refine fD 71 rfl (fun hb=> ?_) (fun hb=> ?_)
   ·refine cm (o:=_) rfl rfl rfl (fun _=>aa rfl)<|cm (o:=_) rfl rfl rfl (fun _=>aW rfl Tryz.underlying84)<|cm (o:=_) rfl rfl rfl (fun _=>cG rfl rfl)<|hy (fun _=>bT rfl rfl)<|ai<|al (ρ' :=[(75,_),(19,_),(18,_),(17,_),(16,_),(48,_),(15,_),(14,_),(13,_),(12,_),(11,_),(10,_),(6,_),(0,_),(1,_),(2,_),(3,_),(4,_)]) ⟨rfl,rfl,rfl,rfl,rfl,rfl,rfl,rfl,rfl,rfl,rfl,rfl,rfl,rfl,rfl,rfl,rfl,rfl,trivial⟩<|ae<| ?_
    refine cj rfl (fun hc=> ?_) (fun hc=> ?_)
    ·obtain⟨z,hz⟩:∃z,z=zl.getD i 0:=⟨_,rfl⟩
     have hzb:=hzl.at (i:=i) (by omega)
     rw[←hz]at hzb
     have har:=dK z (crs.length:Int) (by omega)
     obtain⟨j,hj⟩:∃j:Nat,c5 z (crs.length:Int)=j:=⟨(c5 z (crs.length:Int)).toNat,by omega⟩
     obtain⟨r,hr⟩:∃r,crs[j]? =some r:=⟨_,List.getElem?_eq_getElem (by omega)⟩
     obtain⟨hrn,hrc,hrl⟩:=hcr r (List.mem_of_getElem? hr)
     have hDo:y.d.ok (4*i):=⟨st,hD⟩
     have hp32:(aP (y.d.put r.l).2.1).length=32:=by rw[az];exact Cp _ _
     have hgr:(crs.map aX.l).getD (c5 z ((crs.map aX.l).length:Int)).toNat []=r.l:=by
      rw[List.length_map,hj,Int.toNat_natCast,List.getD,List.getElem?_map,hr];rfl
     have hsu:=uy (cs:=crs.map aX.l) (zl:=zl) (d:=RD.new 20000) (i:=i) (by omega)
     rw[←hz,hgr,←hE]at hsu
     refine aA<|ae<|ah<|aI<|ah<|aj<|hy (fun _=>aa rfl)<|hy (fun _=>aa rfl)<|hy (fun _=>aa rfl)<|hy (fun _=>aO rfl rfl Tryz.underlying44 tR hA_rl rfl (by omega))<|hy (fun m=>yV (aq rfl dr ((m.rd 9 rfl).cell (xQ (by omega)))) ((show Value.int .i64 (zl.getD i 0)= .int .i64 z by rw[hz])))<|hy (fun _=>aa rfl)<|hy (fun _=>aW rfl Tryz.underlying84)<| ?_
     refine hx (au rfl Tryz.call16 (l6 hzb.1 hzb.2 (by omega) (n:=z) (m:=(crs.length:Int))) [] rfl [] rfl ?_)
     rintro _ _ _ ⟨rfl,rfl,rfl⟩
     rw[hj]
     refine aF (fun w m=>m.fh 3 rfl (View.row hr)) ?_
     refine aB (fun m=>dZ (m.rd 0 rfl)) ?_
     rintro⟨hl_rr1,hA_rr1⟩
     refine hy (fun _=>aO rfl rfl Tryz.underlying84 iQ hA_or rfl (by omega))<|hy (fun m=>aq rfl c7 ((m.rd 2 rfl).cell (show(j6 crs)[j]? =some (Value.slice r.A r.n r.c) by rw[j6,List.getElem?_map,hr];rfl)))<|hy (fun _=>ab rfl)<|ai<|al (ρ' :=[(20,_),(75,_),(19,_),(18,_),(17,_),(16,_),(48,_),(15,_),(14,_),(13,_),(12,_),(11,_),(10,_),(6,_),(0,_),(1,_),(2,_),(3,_),(4,_)]) ⟨rfl,rfl,rfl,rfl,rfl,rfl,rfl,rfl,rfl,rfl,rfl,rfl,rfl,rfl,rfl,rfl,rfl,rfl,rfl,trivial⟩<|ak (X' :=[_,_,_,_,_]) (S' :=[_,_,_,_,_,_,_,_,_,_,_,_,_]) (fun _ m=>m)<|ae<|ah<|aj<|hy (fun _=>aa rfl)<|hy (fun _=>aL rfl)<|hy (fun _=>aD rfl tU (by decide))<|hy (fun m=>yV (aQ rfl cC bV rfl (CJ (m.aN 0 rfl))) ((rfl:_=Value.agg y.cs.toArray)))<|hy (fun _=>aa rfl)<| ?_
     refine hx (au rfl Tryz.call26 (FC hDo (by omega) hrc hrn.symm (by omega)) [] rfl [1,0,12] rfl ?_)
     rintro _ _ _ ⟨y2,rfl,rfl,rfl,hyd2⟩
     refine hy (fun _=>aa rfl)<|hy (fun _=>aH rfl rfl)<|hy (fun _=>aH rfl rfl)<|hy (fun _=>aH rfl rfl)<| ?_
     refine hx (bf sG (fun g21=> ?_))
     refine hx (bf fC (fun g22=> ?_))
     refine cB (a6 1 rfl rfl rfl bV rfl cT rfl ?_)
     refine cB (a6 1 rfl rfl rfl bL hp32 bh rfl ?_)
     refine hy (fun _=>ab rfl)<|ai<|al (ρ' :=[(21,_),(20,_),(75,_),(19,_),(18,_),(17,_),(16,_),(48,_),(15,_),(14,_),(13,_),(12,_),(11,_),(10,_),(6,_),(0,_),(1,_),(2,_),(3,_),(4,_)]) ⟨rfl,rfl,rfl,rfl,rfl,rfl,rfl,rfl,rfl,rfl,rfl,rfl,rfl,rfl,rfl,rfl,rfl,rfl,rfl,rfl,trivial⟩<|ak (X' :=[_,_,_,_,_,_,_]) (S' :=[_,_,_,_,_,_,_,_,_,_,_,_,_,_]) (fun _ m=>m)<|ae<|ah<|aj<|hy (fun _=>aa rfl)<|hy (fun m=>yV (aQ rfl cC bV rfl ((m.aN 1 rfl).aw)) ((rfl:_=Value.agg y2.cs.toArray)))<|hy (fun _=>aL rfl)<|hy (fun _=>aD rfl tU (by decide))<| ?_
     refine cB (vQ 2 rfl rfl rfl bV rfl cT (by rw[v7];decide) ?_)
     refine aF (fun w m=>m.bq 0 rfl (show _=aE g59 86 (pE g y2 (tE own q A2 c2) g2 (.slice none 0 0) (.slice A_x own.length c_x))from congrArg (aE _ _) xM)) ?_
     refine ai<|al (ρ' :=[(21,_),(20,_),(75,_),(19,_),(18,_),(17,_),(16,_),(48,_),(15,_),(14,_),(13,_),(12,_),(11,_),(10,_),(6,_),(0,_),(1,_),(2,_),(3,_),(4,_)]) ⟨rfl,rfl,rfl,rfl,rfl,rfl,rfl,rfl,rfl,rfl,rfl,rfl,rfl,rfl,rfl,rfl,rfl,rfl,rfl,rfl,trivial⟩<|ak (X' :=[_,_,_,_,_,_,_]) (S' :=[_,_,_,_,_,_,_,_,_,_,_,_,_,_]) (fun _ m=>m)<|ae<|aj<|hy (fun _=>aa rfl)<|hy (fun _=>aL rfl)<|hy (fun _=>aD rfl uh (by decide))<|hy (fun m=>aq rfl rb (ax (m.aN 0 rfl) rfl))<|hy (fun _=>aa rfl)<| ?_
     refine hx (au rfl Tryz.call28 (FT hD (by omega) hrc hrn.symm (by omega)) [3] rfl [1,13] rfl ?_)
     rintro _ _ _ ⟨st1,rfl,rfl,rfl,hD2⟩
     refine ai<|al (ρ' :=[(21,_),(20,_),(75,_),(19,_),(18,_),(17,_),(16,_),(48,_),(15,_),(14,_),(13,_),(12,_),(11,_),(10,_),(6,_),(0,_),(1,_),(2,_),(3,_),(4,_)]) ⟨rfl,rfl,rfl,rfl,rfl,rfl,rfl,rfl,rfl,rfl,rfl,rfl,rfl,rfl,rfl,rfl,rfl,rfl,rfl,rfl,trivial⟩<|ak (X' :=[_,_,_,_,_,_,_]) (S' :=[_,_,_,_,_,_,_,_,_,_,_,_,_,_]) (fun _ m=>m)<|aM<|ae<|aj<|hy (fun _=>aa rfl)<|hy (fun _=>aK rfl rfl (bs (by omega) (by omega)))<|hy (fun _=>ab rfl)<|ai<|al (ρ' :=[(19,_),(21,_),(20,_),(75,_),(18,_),(17,_),(16,_),(48,_),(15,_),(14,_),(13,_),(12,_),(11,_),(10,_),(6,_),(0,_),(1,_),(2,_),(3,_),(4,_)]) ⟨rfl,rfl,rfl,rfl,rfl,rfl,rfl,rfl,rfl,rfl,rfl,rfl,rfl,rfl,rfl,rfl,rfl,rfl,rfl,rfl,trivial⟩<| ?_
     rw[←hyd2]at hD2
     refine gv (i+1) st1 y2 ⟨rfl,rfl,rfl,rfl,rfl,rfl,rfl,rfl,rfl,rfl,rfl,rfl,rfl,rfl,rfl,rfl,rfl,trivial⟩ [1,0,2,2,2] rfl [0,3,4,5,6,7,8,9,10,11,12,13] rfl (⟨by omega,by omega,by omega,by rw[hsu,hyd2],hD2⟩) (by omega)
    ·refine bA<|ao<|ao<|aC<| ?_
     have ai:y.d=k9 (crs.map aX.l) zl:=by
      unfold k9
      by_cases hc0:crs.length=0
      ·have h0:i=0:=hi0 hc0
       rw[if_pos (List.eq_nil_of_length_eq_zero (by rw[hckl];exact hc0)),hE,h0]
       rfl
      ·rw[if_neg (fun e=>hc0 (by rw[←hckl,e];rfl)),hE,mS (l:=zl) (i:=i) (n:=5) (by omega) (by omega) hi5]
     exact qU (R:=fun(st1:cR) (y1:RX)=>[]) (X1:=fun(st1:cR) (y1:RX)=>[aE g59 86 (pE g y1 (tE own q A2 c2) g2 (.slice none 0 0) (.slice A_x own.length c_x)),bO g st1]) (S1:=fun(st1:cR) (y1:RX)=>[fG y1]) (I:=fun(st1:cR) (y1:RX)=>y1.d=k9 (crs.map aX.l) zl∧DS st1 y1.d 20) st y ⟨rfl,rfl,rfl,rfl,rfl,rfl,rfl,rfl,rfl,rfl,rfl,rfl,rfl,rfl,rfl,rfl,trivial⟩ [0,0,0,0,0] rfl [0,1,2,3,4,5,6,7,8,9,10,11] rfl (⟨ai,hD.le (by omega)⟩)
   ·refine ba rfl rfl rfl (by decide)<|ba rfl rfl rfl (by decide)<|ba rfl rfl rfl (by decide)<|hy (fun _=>bo rfl rfl)<|ai<|al (ρ' :=[(75,_),(19,_),(18,_),(17,_),(16,_),(48,_),(15,_),(14,_),(13,_),(12,_),(11,_),(10,_),(6,_),(0,_),(1,_),(2,_),(3,_),(4,_)]) ⟨rfl,rfl,rfl,rfl,rfl,rfl,rfl,rfl,rfl,rfl,rfl,rfl,rfl,rfl,rfl,rfl,rfl,rfl,trivial⟩<|ae<| ?_
    refine cZ rfl (rfl) ?_
    refine bA<|ao<|ao<|aC<| ?_
    have ai:y.d=k9 (crs.map aX.l) zl:=by
     unfold k9
     by_cases hc0:crs.length=0
     ·have h0:i=0:=hi0 hc0
      rw[if_pos (List.eq_nil_of_length_eq_zero (by rw[hckl];exact hc0)),hE,h0]
      rfl
     ·rw[if_neg (fun e=>hc0 (by rw[←hckl,e];rfl)),hE,mS (l:=zl) (i:=i) (n:=5) (by omega) (by omega) hi5]
    exact qU (R:=fun(st1:cR) (y1:RX)=>[]) (X1:=fun(st1:cR) (y1:RX)=>[aE g59 86 (pE g y1 (tE own q A2 c2) g2 (.slice none 0 0) (.slice A_x own.length c_x)),bO g st1]) (S1:=fun(st1:cR) (y1:RX)=>[fG y1]) (I:=fun(st1:cR) (y1:RX)=>y1.d=k9 (crs.map aX.l) zl∧DS st1 y1.d 20) st y ⟨rfl,rfl,rfl,rfl,rfl,rfl,rfl,rfl,rfl,rfl,rfl,rfl,rfl,rfl,rfl,rfl,trivial⟩ [0,0,0,0,0] rfl [0,1,2,3,4,5,6,7,8,9,10,11] rfl (⟨ai,hD.le (by omega)⟩)
  ·refine ba rfl rfl rfl (by decide)<|ba rfl rfl rfl (by decide)<|hy (fun _=>bo rfl rfl)<|hy (fun _=>aa rfl)<|ba rfl rfl rfl (by decide)<|ba rfl rfl rfl (by decide)<|ba rfl rfl rfl (by decide)<|hy (fun _=>bo rfl rfl)<|ai<|al (ρ' :=[(75,_),(19,_),(18,_),(17,_),(16,_),(48,_),(15,_),(14,_),(13,_),(12,_),(11,_),(10,_),(6,_),(0,_),(1,_),(2,_),(3,_),(4,_)]) ⟨rfl,rfl,rfl,rfl,rfl,rfl,rfl,rfl,rfl,rfl,rfl,rfl,rfl,rfl,rfl,rfl,rfl,rfl,trivial⟩<|ae<| ?_
   refine cZ rfl (rfl) ?_
   refine bA<|ao<|ao<|aC<| ?_
   have ai:y.d=k9 (crs.map aX.l) zl:=by
    unfold k9
    by_cases hc0:crs.length=0
    ·have h0:i=0:=hi0 hc0
     rw[if_pos (List.eq_nil_of_length_eq_zero (by rw[hckl];exact hc0)),hE,h0]
     rfl
    ·rw[if_neg (fun e=>hc0 (by rw[←hckl,e];rfl)),hE,mS (l:=zl) (i:=i) (n:=5) (by omega) (by omega) hi5]
   exact qU (R:=fun(st1:cR) (y1:RX)=>[]) (X1:=fun(st1:cR) (y1:RX)=>[aE g59 86 (pE g y1 (tE own q A2 c2) g2 (.slice none 0 0) (.slice A_x own.length c_x)),bO g st1]) (S1:=fun(st1:cR) (y1:RX)=>[fG y1]) (I:=fun(st1:cR) (y1:RX)=>y1.d=k9 (crs.map aX.l) zl∧DS st1 y1.d 20) st y ⟨rfl,rfl,rfl,rfl,rfl,rfl,rfl,rfl,rfl,rfl,rfl,rfl,rfl,rfl,rfl,rfl,trivial⟩ [0,0,0,0,0] rfl [0,1,2,3,4,5,6,7,8,9,10,11] rfl (⟨ai,hD.le (by omega)⟩)
 ·have har:=dK fr ((own.length:Int)+1) (by omega)
  obtain⟨k,hk⟩:∃k:Nat,c5 fr ((own.length:Int)+1)=k:=⟨(c5 fr ((own.length:Int)+1)).toNat,by omega⟩
  have htexts:oo img fr ot=[own.drop k,ot.take 30]:=by
   unfold oo
   rw[←hown,show(((own.length+1:Nat)):Int)=(own.length:Int)+1 from rfl,hk,Int.toNat_natCast]
  refine ae<|ah<|cq [6,9,10,13] [(0,some 3),(1,some 2),(2,some 0),(3,some 3),(4,some 0),(5,some 0),(8,some 1),(6,none),(7,some 2),(9,none),(10,none),(11,some 3),(12,some 3),(13,none)] (by kernel_rfl) (by kernel_rfl) rfl 3<|an (aa rfl)<|an (aa rfl)<|an (aa rfl)<|an (aa rfl)<|an (aW rfl Tryz.underlying27)<|an (aK rfl rfl (bs (by omega) (by omega)))<|an (aa rfl)<| ?_
  refine dq (au rfl Tryz.call16 (l6 hfr.1 hfr.2 (by omega) (n:=fr) (m:=((own.length:Int)+1))) [] rfl [] rfl ?_)
  rintro _ _ _ ⟨rfl,rfl,rfl⟩
  refine⟨(fun _=>wk [0,0,0,0,0] [0,1,2,3,4,5,6,7,8,9,10,11] rfl rfl), ?_⟩
  rw[hk]
  refine an (dX rfl rfl Tryz.underlying27 dF rfl (by omega))<| ?_
  refine dq (au rfl Tryz.call32 (GD hoc hon (m:=30)) [] rfl [10] rfl ?_)
  rintro _ _ _ ⟨v2,rfl,rfl,rfl⟩
  refine⟨(fun _=>wk [1,1,1,1,1] [0,1,2,3,4,5,6,7,8,9,10,11] rfl rfl), ?_⟩
  refine b7 (fun m=>(m.own 0 rfl).slice) ?_
  rintro⟨A_x2,c_x2,rfl,hc_x2⟩
  refine b7 (fun m=>(m.ord 0 rfl).2.1) fun hA_x2=> ?_
  refine dq (bJ Tryz.underlying84 jT rfl rfl rfl (by simp[Value.cells,B8]) (by decide) (by decide) (fun g118=>⟨(fun _=>wk [2,2,2,2,2] [0,1,2,3,4,5,6,7,8,9,10,11] rfl rfl), ?_⟩))
  have hA_b118:0<2→(some (⟨g118,0,none⟩:Addr))≠none:=fun _ h=>by cases h
  obtain⟨r0,hr0⟩:∃r:aX,r=⟨if c_x=k then A_x else A_x.map (·.add (k*1)),own.length-k,c_x-k,own.drop k⟩:=⟨_,rfl⟩
  obtain⟨r1,hr1⟩:∃r:aX,r=⟨A_x2,min no 30,c_x2,ot.take 30⟩:=⟨_,rfl⟩
  refine dQ (fun w m=>m.bq 0 rfl (show _=aG 27 1 (.slice (some ⟨g118,0,none⟩) 2 2) 2 (j6 [r0,r1])from(by rw[hr0,hr1];rfl))) ?_
  refine an (aL rfl)<|an (aD rfl rF (by decide))<| ?_
  refine fS (bX 2 rfl rfl rfl Fe rfl (by(rw[v7];try dsimp only);omega) ⟨(fun h=>absurd h (by decide)), ?_⟩)
  refine bk<|al (ρ' :=[(18,_),(17,_),(16,_),(48,_),(15,_),(14,_),(13,_),(12,_),(11,_),(10,_),(6,_),(0,_),(1,_),(2,_),(3,_),(4,_)]) ⟨rfl,rfl,rfl,rfl,rfl,rfl,rfl,rfl,rfl,rfl,rfl,rfl,rfl,rfl,rfl,rfl,trivial⟩<|ak (X' :=[_,_,_,_,_,_,_]) (S' :=[_,_,_,_,_,_,_,_,_,_,_,_]) (fun _ m=>m)<|ae<|ah<| ?_
  refine bg (fun w m=>m.bq 0 rfl (show _=aE g59 86 (pE g y1 (tE own q A2 c2) g2 (.slice (some ⟨g118,0,none⟩) 2 2) (.slice A_x own.length c_x))from congrArg (aE _ _) zX)) ?_
  refine bg (fun w m=>(m.perm (ar [1] _ [_] _ rfl)).freeze) ?_
  refine bg (fun w m=>m.fh 0 rfl .own) ?_
  refine aS (fun m=>fv (m.rd 0 rfl)) ?_
  rintro⟨hl_b118r,hA_b118r⟩
  refine bg (fun w m=>(m.perm (ar [1] _ [_] _ rfl)).freeze) ?_
  refine bg (fun w m=>m.fh 0 rfl .own) ?_
  refine bg (fun w m=>m.fh 10 rfl (View.drop (k:=k) hcx (by omega))) ?_
  refine aS (fun m=>dZ (m.rd 0 rfl)) ?_
  rintro⟨hl_v0,hA_v0⟩
  refine bg (S' :=fz []::_) (fun w m=>m.oQ [] rfl) ?_
  refine bg (fun w m=>m.fh 0 rfl View.y6) ?_
  refine bg (S' :=fz [dp [],cr 1 (if c_x=k then A_x else A_x.map (·.add (k*1))) (own.length-k) (aP (own.drop k))]::_) (fun w m=>m.oQ [0,2] rfl) ?_
  refine bg (fun w m=>m.fh 0 rfl (View.jO (rs:=[]) (r:=⟨if c_x=k then A_x else A_x.map (·.add (k*1)),own.length-k,c_x-k,own.drop k⟩) (by show own.length-k≤c_x-k;omega))) ?_
  refine bg (S' :=fz [dp [⟨if c_x=k then A_x else A_x.map (·.add (k*1)),own.length-k,c_x-k,own.drop k⟩],cr 1 A_x2 (min no 30) (aP (ot.take 30))]::_) (fun w m=>m.oQ [0,5] rfl) ?_
  refine bg (fun w m=>m.fh 0 rfl (View.jO (rs:=[⟨if c_x=k then A_x else A_x.map (·.add (k*1)),own.length-k,c_x-k,own.drop k⟩]) (r:=⟨A_x2,min no 30,c_x2,ot.take 30⟩) (by show min no 30≤c_x2;omega))) ?_
  refine aj<|hy (fun _=>aa rfl)<|hy (fun _=>aa rfl)<|hy (fun _=>aL rfl)<|hy (fun _=>aD rfl rF (by decide))<|hy (fun m=>aq rfl x5 ((m.aN 0 rfl).aw 43 _ (jX (j:=1))))<|hy (fun _=>aO rfl rfl Tryz.underlying84 iQ hA_b118r (show((0:Nat):Int)=0 from rfl) (by omega))<|hy (fun m=>aq rfl c7 ((m.rd 9 rfl).cell (show(j6 [r0,r1])[0]? =some (Value.slice (if c_x=k then A_x else A_x.map (·.add (k*1))) (own.length-k) (c_x-k)) by rw[hr0];rfl)))<| ?_
  refine hx (au rfl Tryz.call128 (sH hq (iA.nil q) (by rw[List.length_drop]) (by omega) (by simp) (tx:=(own.drop k))) [2] rfl [6,22] rfl ?_)
  rintro _ _ _ ⟨A3,c3,rA,l1,rfl,rfl,rfl,hs1⟩
  obtain⟨hsA,hlA⟩:=hs1
  refine ai<|al (ρ' :=[(18,_),(17,_),(16,_),(48,_),(15,_),(14,_),(13,_),(12,_),(11,_),(10,_),(6,_),(0,_),(1,_),(2,_),(3,_),(4,_)]) ⟨rfl,rfl,rfl,rfl,rfl,rfl,rfl,rfl,rfl,rfl,rfl,rfl,rfl,rfl,rfl,rfl,trivial⟩<|ak (X' :=[_,_,_,_,_]) (S' :=[_,_,_,_,_,_,_,_,_,_,_,_,_,_,_,_,_,_,_,_,_,_,_]) (fun _ m=>m)<|ae<|ah<|aj<|hy (fun _=>aa rfl)<|hy (fun _=>aa rfl)<|hy (fun _=>aL rfl)<|hy (fun _=>aD rfl rF (by decide))<|hy (fun m=>aq rfl x5 ((m.aN 1 rfl).aw 43 _ (jX (j:=1))))<|hy (fun _=>aO rfl rfl Tryz.underlying84 iQ hA_b118r (show((1:Nat):Int)=1 from rfl) (by omega))<|hy (fun m=>aq rfl c7 ((m.rd 9 rfl).cell (show(j6 [r0,r1])[1]? =some (Value.slice A_x2 (min no 30) c_x2) by rw[hr1];rfl)))<| ?_
  refine hx (au rfl Tryz.call128 (sH hq hsA (by rw[List.length_take,hl_rt,Nat.min_comm]) (by omega) (by simp) (tx:=(ot.take 30))) [0] rfl [7,22] rfl ?_)
  rintro _ _ _ ⟨A4,c4,rB,l2,rfl,rfl,rfl,hs2⟩
  refine ai<|al (ρ' :=[(18,_),(17,_),(16,_),(48,_),(15,_),(14,_),(13,_),(12,_),(11,_),(10,_),(6,_),(0,_),(1,_),(2,_),(3,_),(4,_)]) ⟨rfl,rfl,rfl,rfl,rfl,rfl,rfl,rfl,rfl,rfl,rfl,rfl,rfl,rfl,rfl,rfl,trivial⟩<|ak (X' :=[_,_,_,_,_]) (S' :=[_,_,_,_,_,_,_,_,_,_,_,_,_,_,_,_,_,_,_,_,_,_,_]) (fun _ m=>m)<|ae<|ah<|aj<|hy (fun _=>aa rfl)<|hy (fun _=>ab rfl)<|ai<|al (ρ' :=[(10,_),(18,_),(17,_),(16,_),(48,_),(15,_),(14,_),(13,_),(12,_),(11,_),(6,_),(0,_),(1,_),(2,_),(3,_),(4,_)]) ⟨rfl,rfl,rfl,rfl,rfl,rfl,rfl,rfl,rfl,rfl,rfl,rfl,rfl,rfl,rfl,rfl,trivial⟩<|ae<|aU<| ?_
  obtain⟨hsB,hlB⟩:=hs2
  have hok0:r0.n=r0.l.length∧r0.n≤r0.c∧r0.n≤100000:=by
   rw[hr0]
   exact⟨by show own.length-k=(own.drop k).length;rw[List.length_drop],by show own.length-k≤c_x-k;omega,by show own.length-k≤100000;omega⟩
  have hok1:r1.n=r1.l.length∧r1.n≤r1.c∧r1.n≤100000:=by
   rw[hr1]
   exact⟨by show min no 30=(ot.take 30).length;rw[List.length_take,hl_rt,Nat.min_comm],by show min no 30≤c_x2;omega,by show min no 30≤100000;omega⟩
  have hl0:r0.l=own.drop k:=by rw[hr0]
  have hl1:r1.l=ot.take 30:=by rw[hr1]
  rw[htexts]
  rw[←hr0,←hr1]
  have hoks:∀r∈ [r0,r1],r.n=r.l.length∧r.n≤r.c∧r.n≤100000:=fun r hr=>by
   rcases List.mem_cons.1 hr with rfl|hr
   ·exact hok0
   ·rw[List.mem_singleton.1 hr];exact hok1
  exact aZ trivial rfl rfl [1,1,0] rfl [11,15,9,0,17] rfl ⟨g59,g,st1,y1,g2,gm,A4,c4,([]++[rA]++[rB]),l2,A2,c2,some ⟨g118,0,none⟩,[r0,r1],A_x,c_x,rfl,rfl,rfl,⟨hE1,hD1,hsB,by simp[hlA,hlB,hl0,hl1],by simp[hl0,hl1],rfl,hoks,hcx⟩⟩
end Go.Proofs.YtmibdabdlgmafaaGreatDoor
end
section
set_option maxRecDepth 100000
namespace Go.Hx
def Hl:List UInt32:=[2054848512,0,0,0,0,0,0,0,0,0,0,0,0,0,0,16,2054848512,655360,270445778,1073742468,2214022567,16951296,1330105446,2071642123,532037560,1211676980,405595174,3483758812,4019481642,2509104064,1462406960,489633397,1495300361,2738993129,328826285,2831584293,1427066711,643395021,1684437551,1813612341,85832476,3312818198,222100383,4145366621,3826746586,3478384474,437666230,3029790180,2991995450,1663170194,3798308262,3393185983,1656179136,381296077,1834242528,3224949950,1580794161,439224757,1824648827,1748212868,492697611,4186724706,2178264625,2819880860]
def Hn:List (List UInt32):=[[1988298829,1779033703,3144134277,1013904242,323117730,1359893119,2600822924,528734635],[888048463,1988298829,1779033703,3144134277,3815738539,323117730,1359893119,2600822924],[2503672134,888048463,1988298829,1779033703,2896686088,3815738539,323117730,1359893119],[1453803797,2503672134,888048463,1988298829,1216787024,2896686088,3815738539,323117730],[3587256143,1453803797,2503672134,888048463,3078487088,1216787024,2896686088,3815738539],[3783733788,3587256143,1453803797,2503672134,1963645463,3078487088,1216787024,2896686088],[2694956762,3783733788,3587256143,1453803797,2886134219,1963645463,3078487088,1216787024],[993505436,2694956762,3783733788,3587256143,2524427545,2886134219,1963645463,3078487088],[1776035538,993505436,2694956762,3783733788,1226268175,2524427545,2886134219,1963645463],[2839353572,1776035538,993505436,2694956762,2224002356,1226268175,2524427545,2886134219],[1480501187,2839353572,1776035538,993505436,3063521364,2224002356,1226268175,2524427545],[1232551184,1480501187,2839353572,1776035538,149447045,3063521364,2224002356,1226268175],[8581469,1232551184,1480501187,2839353572,4210300055,149447045,3063521364,2224002356],[3535482551,8581469,1232551184,1480501187,1924384264,4210300055,149447045,3063521364],[888350764,3535482551,8581469,1232551184,3738440092,1924384264,4210300055,149447045],[4191002941,888350764,3535482551,8581469,2979256527,3738440092,1924384264,4210300055],[1302964646,4191002941,888350764,3535482551,471408897,2979256527,3738440092,1924384264],[1425853591,1302964646,4191002941,888350764,818918416,471408897,2979256527,3738440092],[3583141768,1425853591,1302964646,4191002941,1776295021,818918416,471408897,2979256527],[2834514066,3583141768,1425853591,1302964646,206298658,1776295021,818918416,471408897],[2835066875,2834514066,3583141768,1425853591,3188144114,206298658,1776295021,818918416],[632147561,2835066875,2834514066,3583141768,1448800486,3188144114,206298658,1776295021],[316632740,632147561,2835066875,2834514066,2992245967,1448800486,3188144114,206298658],[3565579178,316632740,632147561,2835066875,1347149882,2992245967,1448800486,3188144114],[1589254609,3565579178,316632740,632147561,21808537,1347149882,2992245967,1448800486],[843690353,1589254609,3565579178,316632740,2417352028,21808537,1347149882,2992245967],[3330174534,843690353,1589254609,3565579178,2700437537,2417352028,21808537,1347149882],[3908560670,3330174534,843690353,1589254609,754148860,2700437537,2417352028,21808537],[3742535924,3908560670,3330174534,843690353,4260756884,754148860,2700437537,2417352028],[208392570,3742535924,3908560670,3330174534,1981615296,4260756884,754148860,2700437537],[2268459190,208392570,3742535924,3908560670,3652259405,1981615296,4260756884,754148860],[2079066416,2268459190,208392570,3742535924,3790897082,3652259405,1981615296,4260756884],[875868000,2079066416,2268459190,208392570,477975135,3790897082,3652259405,1981615296],[4002368837,875868000,2079066416,2268459190,521497314,477975135,3790897082,3652259405],[1096602954,4002368837,875868000,2079066416,489490447,521497314,477975135,3790897082],[1405644100,1096602954,4002368837,875868000,575115907,489490447,521497314,477975135],[369260087,1405644100,1096602954,4002368837,2802140150,575115907,489490447,521497314],[3994575861,369260087,1405644100,1096602954,192825902,2802140150,575115907,489490447],[3302278898,3994575861,369260087,1405644100,2860676417,192825902,2802140150,575115907],[3142174017,3302278898,3994575861,369260087,1934159749,2860676417,192825902,2802140150],[206652124,3142174017,3302278898,3994575861,3492823855,1934159749,2860676417,192825902],[2474449308,206652124,3142174017,3302278898,2755949749,3492823855,1934159749,2860676417],[1726643361,2474449308,206652124,3142174017,1946702325,2755949749,3492823855,1934159749],[3775773623,1726643361,2474449308,206652124,2157640316,1946702325,2755949749,3492823855],[2442542790,3775773623,1726643361,2474449308,2808581865,2157640316,1946702325,2755949749],[3470959541,2442542790,3775773623,1726643361,1982293348,2808581865,2157640316,1946702325],[4260370276,3470959541,2442542790,3775773623,3199979403,1982293348,2808581865,2157640316],[560430426,4260370276,3470959541,2442542790,3766257535,3199979403,1982293348,2808581865],[1161603101,560430426,4260370276,3470959541,3916624519,3766257535,3199979403,1982293348],[756396479,1161603101,560430426,4260370276,3011420450,3916624519,3766257535,3199979403],[4049090682,756396479,1161603101,560430426,3113721417,3011420450,3916624519,3766257535],[2038398248,4049090682,756396479,1161603101,376034089,3113721417,3011420450,3916624519],[2956388496,2038398248,4049090682,756396479,1898816031,376034089,3113721417,3011420450],[4285633937,2956388496,2038398248,4049090682,2279495109,1898816031,376034089,3113721417],[3820581800,4285633937,2956388496,2038398248,3331577213,2279495109,1898816031,376034089],[997295916,3820581800,4285633937,2956388496,2169974805,3331577213,2279495109,1898816031],[3067190091,997295916,3820581800,4285633937,2046157193,2169974805,3331577213,2279495109],[3048715921,3067190091,997295916,3820581800,2410855029,2046157193,2169974805,3331577213],[3272704094,3048715921,3067190091,997295916,3885979182,2410855029,2046157193,2169974805],[1945285113,3272704094,3048715921,3067190091,60793651,3885979182,2410855029,2046157193],[724963306,1945285113,3272704094,3048715921,3563267128,60793651,3885979182,2410855029],[937297014,724963306,1945285113,3272704094,1556071975,3563267128,60793651,3885979182],[2421831168,937297014,724963306,1945285113,1226688818,1556071975,3563267128,60793651],[3763788054,2421831168,937297014,724963306,606173085,1226688818,1556071975,3563267128]]
def GU:List UInt8:=[74,96,191,125,75,193,228,133,116,76,247,232,208,134,5,36,117,47,202,28,228,35,49,190,124,67,159,210,48,67,241,81]
theorem xU:bw [122,122]=GU:=(rN (m:=[122,122,128,0,0,0,0,0,0,0,0,0,0,0,0,0,0,0,0,0,0,0,0,0,0,0,0,0,0,0,0,0,0,0,0,0,0,0,0,0,0,0,0,0,0,0,0,0,0,0,0,0,0,0,0,0,0,0,0,0,0,0,0,16]) (w:=Hl) (t:=Hn) (by decide+kernel) rfl rfl rfl (by decide+kernel) (by decide+kernel)).trans (by decide+kernel)
def E8:List UInt32:=[1633772160,0,0,0,0,0,0,0,0,0,0,0,0,0,0,24,1633772160,983040,2634572996,1610613702,1054711612,25426944,2088120298,3806446222,3525733438,1983281696,1538014866,824661887,2584840620,3184682828,145562809,2782273773,3311626407,3014102398,668440457,1236728612,891273620,4255289291,2893836319,3143125713,211285158,3935344578,3619783650,3884440052,2692719170,3061227957,823166091,3292487821,186174800,3676732107,2379011416,3136145349,125334337,3233317804,1328489748,3366404324,460414623,2154383420,445434772,4128881331,868591611,557500486,1005762625,2935325738]
def F0:List (List UInt32):=[[1567222477,1779033703,3144134277,1013904242,4197008674,1359893119,2600822924,528734635],[1055034233,1567222477,1779033703,3144134277,1498147741,4197008674,1359893119,2600822924],[1758861786,1055034233,1567222477,1779033703,125250753,1498147741,4197008674,1359893119],[3844022234,1758861786,1055034233,1567222477,3318010115,125250753,1498147741,4197008674],[3332111562,3844022234,1758861786,1055034233,2067810083,3318010115,125250753,1498147741],[3740884683,3332111562,3844022234,1758861786,20507507,2067810083,3318010115,125250753],[1220767109,3740884683,3332111562,3844022234,107125138,20507507,2067810083,3318010115],[933204837,1220767109,3740884683,3332111562,439791131,107125138,20507507,2067810083],[305035725,933204837,1220767109,3740884683,3513469399,439791131,107125138,20507507],[1066270522,305035725,933204837,1220767109,3639847160,3513469399,439791131,107125138],[4228268457,1066270522,305035725,933204837,3412805730,3639847160,3513469399,439791131],[600733777,4228268457,1066270522,305035725,2987833957,3412805730,3639847160,3513469399],[3545897291,600733777,4228268457,1066270522,4066268407,2987833957,3412805730,3639847160],[3445770707,3545897291,600733777,4228268457,3266624501,4066268407,2987833957,3412805730],[1165553213,3445770707,3545897291,600733777,1230184512,3266624501,4066268407,2987833957],[2400360033,1165553213,3445770707,3545897291,710533114,1230184512,3266624501,4066268407],[2757246063,2400360033,1165553213,3445770707,263072793,710533114,1230184512,3266624501],[483894141,2757246063,2400360033,1165553213,4198931352,263072793,710533114,1230184512],[3264986754,483894141,2757246063,2400360033,2037447745,4198931352,263072793,710533114],[303077852,3264986754,483894141,2757246063,4059857239,2037447745,4198931352,263072793],[502823825,303077852,3264986754,483894141,666449257,4059857239,2037447745,4198931352],[571080131,502823825,303077852,3264986754,2989502560,666449257,4059857239,2037447745],[1625332644,571080131,502823825,303077852,267844766,2989502560,666449257,4059857239],[3874493497,1625332644,571080131,502823825,2426536486,267844766,2989502560,666449257],[3211142389,3874493497,1625332644,571080131,1650077136,2426536486,267844766,2989502560],[1822082660,3211142389,3874493497,1625332644,3604810369,1650077136,2426536486,267844766],[3390284912,1822082660,3211142389,3874493497,4175820450,3604810369,1650077136,2426536486],[3471826545,3390284912,1822082660,3211142389,1748620173,4175820450,3604810369,1650077136],[687723256,3471826545,3390284912,1822082660,3665553828,1748620173,4175820450,3604810369],[2731603891,687723256,3471826545,3390284912,3652588468,3665553828,1748620173,4175820450],[1099115018,2731603891,687723256,3471826545,1235292585,3652588468,3665553828,1748620173],[740843164,1099115018,2731603891,687723256,229333686,1235292585,3652588468,3665553828],[2075604582,740843164,1099115018,2731603891,631473263,229333686,1235292585,3652588468],[1148627423,2075604582,740843164,1099115018,2359089590,631473263,229333686,1235292585],[407832768,1148627423,2075604582,740843164,2824535833,2359089590,631473263,229333686],[3051835849,407832768,1148627423,2075604582,224954230,2824535833,2359089590,631473263],[1581036634,3051835849,407832768,1148627423,1192854360,224954230,2824535833,2359089590],[415589118,1581036634,3051835849,407832768,2034255498,1192854360,224954230,2824535833],[360447969,415589118,1581036634,3051835849,2358980816,2034255498,1192854360,224954230],[773251491,360447969,415589118,1581036634,1909877760,2358980816,2034255498,1192854360],[594874040,773251491,360447969,415589118,3359611592,1909877760,2358980816,2034255498],[2266280655,594874040,773251491,360447969,3476778401,3359611592,1909877760,2358980816],[451014547,2266280655,594874040,773251491,3822527167,3476778401,3359611592,1909877760],[1895651634,451014547,2266280655,594874040,1577036730,3822527167,3476778401,3359611592],[332479563,1895651634,451014547,2266280655,2206742283,1577036730,3822527167,3476778401],[1054836794,332479563,1895651634,451014547,1352974370,2206742283,1577036730,3822527167],[3646796636,1054836794,332479563,1895651634,287018668,1352974370,2206742283,1577036730],[2743469782,3646796636,1054836794,332479563,505991759,287018668,1352974370,2206742283],[2633224930,2743469782,3646796636,1054836794,1855309252,505991759,287018668,1352974370],[3860727076,2633224930,2743469782,3646796636,2344771891,1855309252,505991759,287018668],[4254252976,3860727076,2633224930,2743469782,3349563909,2344771891,1855309252,505991759],[3264127931,4254252976,3860727076,2633224930,3781464674,3349563909,2344771891,1855309252],[2935174069,3264127931,4254252976,3860727076,2371160918,3781464674,3349563909,2344771891],[588073142,2935174069,3264127931,4254252976,3753454682,2371160918,3781464674,3349563909],[4149922135,588073142,2935174069,3264127931,1510855301,3753454682,2371160918,3781464674],[3093635581,4149922135,588073142,2935174069,4148962467,1510855301,3753454682,2371160918],[3733276247,3093635581,4149922135,588073142,3837243998,4148962467,1510855301,3753454682],[280484849,3733276247,3093635581,4149922135,1702422667,3837243998,4148962467,1510855301],[1301593689,280484849,3733276247,3093635581,1736412347,1702422667,3837243998,4148962467],[1967713523,1301593689,280484849,3733276247,3720481434,1736412347,1702422667,3837243998],[3606092690,1967713523,1301593689,280484849,3328607818,3720481434,1736412347,1702422667],[3799463215,3606092690,1967713523,1301593689,4061755410,3328607818,3720481434,1736412347],[4211030625,3799463215,3606092690,1967713523,3303856524,4061755410,3328607818,3720481434],[3463194692,4211030625,3799463215,3606092690,4284758922,3303856524,4061755410,3328607818]]
def Gp:List UInt8:=[56,118,14,171,182,102,232,230,30,230,40,161,124,64,144,204,80,114,142,9,95,242,66,24,17,157,81,189,34,71,83,99]
theorem BQ:bw [97,97,98]=Gp:=(rN (m:=[97,97,98,128,0,0,0,0,0,0,0,0,0,0,0,0,0,0,0,0,0,0,0,0,0,0,0,0,0,0,0,0,0,0,0,0,0,0,0,0,0,0,0,0,0,0,0,0,0,0,0,0,0,0,0,0,0,0,0,0,0,0,0,24]) (w:=E8) (t:=F0) (by decide+kernel) rfl rfl rfl (by decide+kernel) (by decide+kernel)).trans (by decide+kernel)
def Hr:List UInt32:=[1650622464,0,0,0,0,0,0,0,0,0,0,0,0,0,0,16,1650622464,655360,270050781,1073742468,1179724838,16951296,3011936185,1667416075,4027649580,1211411274,3874481357,120556636,264870995,3945449546,2164708487,3652222486,3683381346,2840470196,2641696470,876562213,87360721,3363725241,1523790501,661762801,1337217553,1392281669,444939906,2727719024,1266786748,1579160283,3061099938,1466235909,3869735878,2693605697,802400516,2499427292,40879100,1726646860,1440081435,1652352204,3808980258,3128721053,2207850535,1866567534,544381429,587330707,2013314720,1328068330]
def Ho:List (List UInt32):=[[1584072781,1779033703,3144134277,1013904242,4213858978,1359893119,2600822924,528734635],[1619638428,1584072781,1779033703,3144134277,1757149591,4213858978,1359893119,2600822924],[1624555175,1619638428,1584072781,1779033703,3088034039,1757149591,4213858978,1359893119],[1316080225,1624555175,1619638428,1584072781,3619505068,3088034039,1757149591,4213858978],[763883861,1316080225,1624555175,1619638428,1667349198,3619505068,3088034039,1757149591],[3109837683,763883861,1316080225,1624555175,3473036494,1667349198,3619505068,3088034039],[869842003,3109837683,763883861,1316080225,581995694,3473036494,1667349198,3619505068],[3248460530,869842003,3109837683,763883861,2308269794,581995694,3473036494,1667349198],[710299200,3248460530,869842003,3109837683,1279754716,2308269794,581995694,3473036494],[3141506399,710299200,3248460530,869842003,789549301,1279754716,2308269794,581995694],[2261939969,3141506399,710299200,3248460530,1428445883,789549301,1279754716,2308269794],[1320674158,2261939969,3141506399,710299200,3583799767,1428445883,789549301,1279754716],[3484157267,1320674158,2261939969,3141506399,335030246,3583799767,1428445883,789549301],[3594503089,3484157267,1320674158,2261939969,1500036803,335030246,3583799767,1428445883],[1310589237,3594503089,3484157267,1320674158,1864445561,1500036803,335030246,3583799767],[2610828803,1310589237,3594503089,3484157267,4193178299,1864445561,1500036803,335030246],[550073819,2610828803,1310589237,3594503089,3820232927,4193178299,1864445561,1500036803],[1125329867,550073819,2610828803,1310589237,3413680811,3820232927,4193178299,1864445561],[2391077476,1125329867,550073819,2610828803,383106151,3413680811,3820232927,4193178299],[1638016482,2391077476,1125329867,550073819,1467084182,383106151,3413680811,3820232927],[3440917524,1638016482,2391077476,1125329867,1785954334,1467084182,383106151,3413680811],[840598629,3440917524,1638016482,2391077476,4103947996,1785954334,1467084182,383106151],[3628523852,840598629,3440917524,1638016482,4294117959,4103947996,1785954334,1467084182],[3572611031,3628523852,840598629,3440917524,914813040,4294117959,4103947996,1785954334],[3568505820,3572611031,3628523852,840598629,1142625664,914813040,4294117959,4103947996],[2649802761,3568505820,3572611031,3628523852,2475853397,1142625664,914813040,4294117959],[3384683852,2649802761,3568505820,3572611031,3909254856,2475853397,1142625664,914813040],[2082492515,3384683852,2649802761,3568505820,3533900138,3909254856,2475853397,1142625664],[1852734083,2082492515,3384683852,2649802761,2283719980,3533900138,3909254856,2475853397],[1893229348,1852734083,2082492515,3384683852,3962557056,2283719980,3533900138,3909254856],[816348348,1893229348,1852734083,2082492515,426059804,3962557056,2283719980,3533900138],[3276869986,816348348,1893229348,1852734083,2253356147,426059804,3962557056,2283719980],[1275037569,3276869986,816348348,1893229348,3389897475,2253356147,426059804,3962557056],[2507675164,1275037569,3276869986,816348348,829139053,3389897475,2253356147,426059804],[3492303199,2507675164,1275037569,3276869986,3346324233,829139053,3389897475,2253356147],[3299029820,3492303199,2507675164,1275037569,3603579692,3346324233,829139053,3389897475],[3350835840,3299029820,3492303199,2507675164,462359585,3603579692,3346324233,829139053],[384157940,3350835840,3299029820,3492303199,2761054593,462359585,3603579692,3346324233],[305841412,384157940,3350835840,3299029820,1183272551,2761054593,462359585,3603579692],[2667731577,305841412,384157940,3350835840,2234621010,1183272551,2761054593,462359585],[1587097338,2667731577,305841412,384157940,1389006870,2234621010,1183272551,2761054593],[2237809476,1587097338,2667731577,305841412,4183713715,1389006870,2234621010,1183272551],[1608593575,2237809476,1587097338,2667731577,547881309,4183713715,1389006870,2234621010],[2726665298,1608593575,2237809476,1587097338,195470726,547881309,4183713715,1389006870],[3233469535,2726665298,1608593575,2237809476,992852321,195470726,547881309,4183713715],[4093045175,3233469535,2726665298,1608593575,4248160481,992852321,195470726,547881309],[1436379579,4093045175,3233469535,2726665298,1742914550,4248160481,992852321,195470726],[95472850,1436379579,4093045175,3233469535,3915146130,1742914550,4248160481,992852321],[3274282493,95472850,1436379579,4093045175,157297157,3915146130,1742914550,4248160481],[3481028991,3274282493,95472850,1436379579,71686652,157297157,3915146130,1742914550],[2786186409,3481028991,3274282493,95472850,3950107109,71686652,157297157,3915146130],[438004969,2786186409,3481028991,3274282493,3438706818,3950107109,71686652,157297157],[1209980630,438004969,2786186409,3481028991,816935009,3438706818,3950107109,71686652],[3227581657,1209980630,438004969,2786186409,634569996,816935009,3438706818,3950107109],[1531615800,3227581657,1209980630,438004969,2753304280,634569996,816935009,3438706818],[3114685828,1531615800,3227581657,1209980630,2650686942,2753304280,634569996,816935009],[1600763431,3114685828,1531615800,3227581657,3003868592,2650686942,2753304280,634569996],[4213060976,1600763431,3114685828,1531615800,2682032236,3003868592,2650686942,2753304280],[2047901638,4213060976,1600763431,3114685828,3969339033,2682032236,3003868592,2650686942],[3576465825,2047901638,4213060976,1600763431,4067545381,3969339033,2682032236,3003868592],[1660462503,3576465825,2047901638,4213060976,1021514134,4067545381,3969339033,2682032236],[4239228159,1660462503,3576465825,2047901638,1853841825,1021514134,4067545381,3969339033],[267262174,4239228159,1660462503,3576465825,3895108951,1853841825,1021514134,4067545381],[3512399150,267262174,4239228159,1660462503,976404568,3895108951,1853841825,1021514134]]
def HI:List UInt8:=[59,100,219,149,203,85,199,99,57,28,112,113,8,72,154,225,139,65,18,215,131,48,13,227,142,3,59,76,152,195,222,175]
theorem DL:bw [98,98]=HI:=(rN (m:=[98,98,128,0,0,0,0,0,0,0,0,0,0,0,0,0,0,0,0,0,0,0,0,0,0,0,0,0,0,0,0,0,0,0,0,0,0,0,0,0,0,0,0,0,0,0,0,0,0,0,0,0,0,0,0,0,0,0,0,0,0,0,0,16]) (w:=Hr) (t:=Ho) (by decide+kernel) rfl rfl rfl (by decide+kernel) (by decide+kernel)).trans (by decide+kernel)
end Go.Hx
end
section
namespace Go.Proofs.YtmibdabdlgmafaaGreatDoor
open Go.Eng Go.Hx
theorem ua:eo [97,97,98,98] ⟨2,3,3⟩=[[97,97,98],[98]]:=by decide+kernel
theorem tI:eo [98,98] ⟨2,3,3⟩=[[98,98]]:=by decide+kernel
theorem DI:bw [122,122]≠bw [97,97,98]:=by rw[xU,BQ];decide+kernel
theorem E4:bw [122,122]≠bw [98,98]:=by rw[xU,DL];decide+kernel
theorem ue:k9 (eo [97,97,98,98] ⟨2,3,3⟩) [0]=((RD.new 20000).put [97,97,98]).1:=by
 rw[ua]
 rfl
theorem uE:(k9 (eo [97,97,98,98] ⟨2,3,3⟩) [0]).gu (bw [122,122])=4:=by
 have hs:=(o8 [97,97,98]).2
 obtain⟨d',e,hd⟩:=(SD.new 20000).put (b:=[97,97,98]) (by decide) rfl (by simp at hs ⊢;omega)
 rw[ue,e]
 refine u7 hd.at_ ?_
 unfold Dd AB
 rw[if_neg (fun h=>DI (tY (bx _) (bx _) h)),if_neg (nV _ _),if_neg (nV _ _)]
theorem uW:eg ⟨2,3,3⟩ [[98,98],[]] 0 (bw [122,122])=none:=by
 have h1:cb [98,98] ⟨2,3,3⟩=[dz [98,98]]:=by rw[cb,tI];rfl
 have h2:cb [] ⟨2,3,3⟩=[]:=rfl
 rw[eg,h1,cX,if_neg (show¬(dz [98,98]).1.b=bw [122,122]from fun h=>E4 h.symm),cX]
 show eg _ [[]] 1 _=none
 rw[eg,h2,cX]
 rfl
theorem uX:cg (k9 (eo [97,97,98,98] ⟨2,3,3⟩) [0]) ⟨2,3,3⟩ [[98,98],[]] (bw [122,122])=3:=by
 unfold cg
 rw[if_neg (by rw[uE];decide),uW]
 rfl
theorem sZ:oo [97,97,98,98] 2 []=[[98,98],[]]:=rfl
end Go.Proofs.YtmibdabdlgmafaaGreatDoor
end
section
set_option maxRecDepth 20000
set_option maxHeartbeats 4000000
namespace Go.Proofs.YtmibdabdlgmafaaGreatDoor
open Go.Eng Go.Hx
theorem C1{u:IX}{j:Nat}{v:Value}(h:[Value.int .i64 u.mn,.int .i64 u.av,.int .i64 u.mx][j]? =some v):u.cs[j]? =some v:=by
 have hj:=(List.getElem?_eq_some_iff.1 h).1
 unfold IX.cs
 rw[List.append_assoc,List.getElem?_append_left hj]
 exact h
theorem BD{u:IX}{j:Nat}{v:Value}(h:(aP u.img.b)[j]? =some v):u.cs[3+j]? =some v:=by
 have hj:=(List.getElem?_eq_some_iff.1 h).1
 have hi:(aP u.img.b).length=32:=by rw[az,u.img.h]
 unfold IX.cs
 rw[List.getElem?_append_left (by rw[List.length_append];show 3+j<3+_;omega),List.getElem?_append_right (by show 3≤3+j;omega)]
 show(aP u.img.b)[3+j-3]? =_
 rw[Nat.add_sub_cancel_left]
 exact h
theorem Fu{gw ga gs:Nat}{x:RX}{u:IX}{t o:Value}:b6 Tryz.prog 43 [.pointer (some ⟨gw,0,none⟩)] [aE gw 86 (pE ga x u gs t o)] [] (fun v_ X_ S_=>v_=(.agg u.cs.toArray)∧X_=[aE gw 86 (pE ga x u gs t o)]∧S_=[]):=by
 have hi:(aP u.img.b).length=32:=by rw[az,u.img.h]
 refine aJ (N:=19) Tryz.func43 rfl rfl (by simp) fun b=> ?_
 refine ah<|aj<| ?_
 refine hx (bf Et (fun g2=> ?_))
 refine ai<|ak (X' :=[_,_]) (S' :=[]) (fun _ m=>m)<|ae<|ah<|cq [16] [(0,some 0),(1,some 0),(2,some 0),(3,some 0),(4,some 0),(5,some 0),(6,some 0),(7,some 0),(8,some 0),(9,some 0),(10,some 0),(11,some 0),(12,some 0),(13,some 0),(14,some 0),(15,some 0),(16,none)] (by kernel_rfl) (by kernel_rfl) rfl 0<|an (aa rfl)<|an (aL rfl)<|an (aD rfl oY (by decide))<|an (aD rfl x4 (by decide))<|bY (fun m=>aQ rfl gC fX rfl (fun j v hv=>s6 (m.aN 1 rfl) j v (C1 hv)))<|an (aa rfl)<|an (aL rfl)<|an (aD rfl oY (by decide))<|an (aD rfl ED (by decide))<|bY (fun m=>aQ rfl cf bL hi (fun j v hv=>by have:=s6 (m.aN 1 rfl) (3+j) v (BD hv);rw[add_add]at this ⊢;rw[add_add];exact this))<|an (aa rfl)<|an (aL rfl)<|an (aD rfl oY (by decide))<|an (aD rfl rK (by decide))<|bY (fun m=>aq rfl uk (s6 (m.aN 1 rfl) 35 _ u.z6))<|an (bD Et rfl rfl (by kernel_rfl) (FD (x:=u) zP Eu zI))<| ?_
 refine fS (a6 0 rfl rfl rfl Gt u.fw u.cT rfl ⟨(fun h=>absurd h (by decide)), ?_⟩)
 refine bk<|al (ρ' :=[(2,_),(0,_)]) ⟨rfl,rfl,trivial⟩<|ak (X' :=[_,_]) (S' :=[]) (fun _ m=>m)<|ae<|aU<| ?_
 exact ep trivial rfl rfl Ht Gt u.fw (fun m=>(m.aN 0 rfl).aw) [1] rfl [] rfl ⟨rfl,rfl,rfl⟩
theorem BA{t:It}(h1:-9223372036854775808≤t.2)(h2:t.2≤9223372036854775807):∃ls,Tryz.prog.keyLits 3 96 (eS t)=some ls:=by
 have hd:(aP t.1.b).length=32:=by rw[az,t.1.h]
 refine⟨[(t.1.b.map fun b=>Lit.int .u8 (b.toNat:Int)),[Lit.int .i64 t.2]].flatten, ?_⟩
 refine qc (d:=2) Tryz.underlying96 (by rw[bZ];kernel_rfl) (by kernel_rfl) (mapM_some ?_)
 have c1:Tryz.prog.cellsOf 53=32:=by kernel_rfl
 have c2:Tryz.prog.cellsOf 3=1:=by kernel_rfl
 simp only[List.map_cons,List.map_nil,c1,c2]
 have e1:((eS t).drop 0).take 32=aP t.1.b:=by rw[eS,List.drop_zero,List.take_append_of_le_length (by omega),List.take_of_length_le (by omega)]
 have e2:((eS t).drop 32).take 1=[.int .i64 t.2]:=by rw[eS,List.drop_append,List.drop_of_length_le (by omega),hd];rfl
 rw[e1,e2,tB t.1.h,qZ (d:=1) Tryz.underlying3 h1 h2]
theorem zw{N:Nat}{D:List Deferred}{ρ:Env}{w:World}{ty t' :TypeId}{x y:Operand}{t:It}(hx:ev ρ x=some (.agg (eS t).toArray))(hy:ev ρ y=some (.agg (eS t).toArray))(h1:-9223372036854775808≤t.2)(h2:t.2≤9223372036854775807):
  Yl Tryz.prog N D ρ w (.binOp .neq 96 x y t') ty (.bool (decide (¬True))):=by
 obtain⟨ls,hls⟩:=BA h1 h2
 exact CN (m:=6) hx hy (by decide) (by kernel_rfl) (by kernel_rfl) FA (by rw[bZ];kernel_rfl) (by rw[bZ];kernel_rfl) hls hls ⟨fun _=>trivial,fun _=>rfl⟩
theorem BS(d:RD)(q:Pn)(ts:List (List UInt8))(nm:List UInt8):1≤cg d q ts nm∧cg d q ts nm≤3:=by
 unfold cg
 split
 ·omega
 ·split <;> omega
theorem lM{fr:List UInt8→Int}(hf:∀nm,1≤fr nm∧fr nm≤3){its:List It}:∀(i:Nat),∀t∈dy fr its i,1≤t.2∧t.2≤3
 |0,t,h=>by rw[dy]at h;exact absurd h List.not_mem_nil
 |i+1,t,h=>by
  rw[dy]at h
  split at h
  ·split at h
   ·exact lM hf i t h
   ·rcases List.mem_append.1 h with h|h
    ·exact lM hf i t h
    ·rw[List.mem_singleton.1 h];exact hf _
  ·exact lM hf i t h
theorem BZ{A B:Option Addr}{n c c2:Nat}{l:List It}(hl:l.length=n)(hn:n≤1000000)(hb:∀t∈l,1≤t.2∧t.2≤3):b6 Tryz.prog 45 [.slice A n c,.slice B n c2] [] [cr 33 A n (iM l),cr 33 B n (iM l)] (fun v_ X_ S_=>v_=(.bool true)∧X_=[]∧S_=[]):=by
 refine aJ (N:=26) Tryz.func45 rfl rfl (by simp) fun b=> ?_
 refine aS (fun m=>fv (m.rd 0 rfl)) ?_
 rintro⟨hl_r,hA_r⟩
 refine aS (fun m=>fv (m.rd 1 rfl)) ?_
 rintro⟨hl_q,hA_q⟩
 refine ah<|aj<|hy (fun _=>ab rfl)<|ai<|ae<|ah<|ah<|aj<|hy (fun _=>aa rfl)<|hy (fun _=>aW rfl Tryz.underlying78)<|hy (fun _=>aa rfl)<|hy (fun _=>aW rfl Tryz.underlying90)<|hy (fun _=>dx rfl rfl)<|ai<|al (ρ' :=[(10,_),(4,_),(0,_),(1,_)]) ⟨rfl,rfl,rfl,rfl,trivial⟩<|ae<| ?_
 refine cZ rfl ((decide_eq_false (fun h=>h rfl))) ?_
 refine aA<|ae<|ah<|ah<|aj<|hy (fun _=>ab rfl)<|ai<|ae<|aI<| ?_
 refine cW (fun i=>n-i) (fun i=>[(5,.int .i64 (i:Nat))]) (fun i=>[]) (fun i=>[]) (fun i=>i≤n) 0 [(10,_),(0,_),(1,_)] ⟨rfl,rfl,rfl,trivial⟩ [] rfl [] rfl (Nat.zero_le _) ⟨rfl,trivial⟩ (fun i hi=> ?_)
 refine ah<|ah<|aj<|hy (fun _=>aa rfl)<|hy (fun _=>aa rfl)<|hy (fun _=>aW rfl Tryz.underlying78)<|hy (fun _=>bu rfl rfl)<|ai<|al (ρ' :=[(14,_),(5,_),(10,_),(0,_),(1,_)]) ⟨rfl,rfl,rfl,rfl,rfl,trivial⟩<|ae<| ?_
 refine cj rfl (fun hlt=> ?_) (fun hlt=> ?_)
 ·obtain⟨t,ht⟩:∃t,l[i]? =some t:=⟨_,List.getElem?_eq_getElem (by omega)⟩
  have htb:=hb t (List.mem_of_getElem? ht)
  refine aA<|ae<|ah<|aI<|ah<|cq [] [(0,some 0),(1,some 0),(2,some 0),(3,some 0),(4,some 0),(5,some 0),(6,some 0),(7,some 0),(8,some 0)] (by kernel_rfl) (by kernel_rfl) rfl 99<|an (aa rfl)<|an (aa rfl)<|an (cy rfl rfl Tryz.underlying78 kS hA_r rfl (by omega))<|bY (fun m=>yV (aQ rfl sB kS (bZ t) (dB (f:=eS) bZ (m.rd 0 rfl) ht)) ((rfl:_=Value.agg (eS t).toArray)))<|an (aa rfl)<|an (aa rfl)<|an (cy rfl rfl Tryz.underlying90 xP hA_q rfl (by omega))<|bY (fun m=>yV (aQ rfl FA xP (bZ t) (dB (f:=eS) bZ (m.rd 1 rfl) ht)) ((rfl:_=Value.agg (eS t).toArray)))<|an ((zw rfl rfl (by omega) (by omega)))<|bk<|al (ρ' :=[(25,_),(14,_),(5,_),(10,_),(0,_),(1,_)]) ⟨rfl,rfl,rfl,rfl,rfl,rfl,trivial⟩<|ae<| ?_
  refine cZ rfl ((decide_eq_false (fun h=>h trivial))) ?_
  refine aA<|aM<|ae<|aj<|hy (fun _=>aa rfl)<|hy (fun _=>aK rfl rfl (bs (by omega) (by omega)))<|hy (fun _=>ab rfl)<|ai<|al (ρ' :=[(5,_),(25,_),(14,_),(10,_),(0,_),(1,_)]) ⟨rfl,rfl,rfl,rfl,rfl,rfl,trivial⟩<| ?_
  refine ct (i+1) ⟨rfl,rfl,rfl,rfl,trivial⟩ [] rfl [0,1] rfl (by omega) (by omega)
 ·refine bA<|ao<|ao<|aC<|ae<|ah<|aj<|hy (fun _=>ab rfl)<|ai<|ae<|aU<| ?_
  exact aZ trivial rfl rfl [] rfl [] rfl ⟨rfl,rfl,rfl⟩
end Go.Proofs.YtmibdabdlgmafaaGreatDoor
end
section
set_option maxRecDepth 20000
set_option maxHeartbeats 4000000
namespace Go.Proofs.YtmibdabdlgmafaaGreatDoor
open Go.Eng Go.Hx
def GN(a b c:Int)(its:List It)(A:Option Addr)(k:Nat):IX:=⟨a,b,c,jY,its,A,k⟩
theorem GY{P:Program}{pl:Nat→Option (Nat×Nat)}{a b c:Int}{its:List It}{A:Option Addr}{n k:Nat}(hn:n=its.length)(h0:pl 0=some (0,3))(h2:pl 2=some (35,1)):wb P pl GK.cs [(0,.agg [Value.int .i64 a,.int .i64 b,.int .i64 c].toArray),(2,.slice A n k)] (GN a b c its A k).cs:=by
 subst hn
 have hz:(aP jY.b).length=32:=by rw[az,jY.h]
 have e1:bN GK.cs 0 [Value.int .i64 a,.int .i64 b,.int .i64 c]=[Value.int .i64 a,.int .i64 b,.int .i64 c]++aP jY.b++[.slice none 0 0]:=rfl
 have e3:bN ([Value.int .i64 a,.int .i64 b,.int .i64 c]++aP jY.b++[.slice none 0 0]) 35 [.slice A its.length k]=(GN a b c its A k).cs:=by
  have:=dA (a:=[Value.int .i64 a,.int .i64 b,.int .i64 c]++aP jY.b) (b:=[Value.slice none 0 0]) (c:=[]) (vs:=[.slice A its.length k]) (o:=35) (by simp[hz]) rfl
  rw[List.append_nil,List.append_nil]at this
  exact this
 exact .cons h0 (aR _) rfl (by rw[IX.fw];decide) (by rw[e1];exact .cons h2 rfl rfl (by simp[hz]) (by rw[show(Value.slice A its.length k).cells.toList=[Value.slice A its.length k]from rfl,e3];exact .nil))
theorem Ew{P:Program}{pl:Nat→Option (Nat×Nat)}{t:It}{n:Int}(hn:t.2=n)(h0:pl 0=some (0,32))(h1:pl 1=some (32,1)):wb P pl (eS (jY,0)) [(0,.agg (aP t.1.b).toArray),(1,.int .i64 n)] (eS t):=by
 subst hn
 exact nv h0 h1
theorem zj:b6 Tryz.prog 49 [] [] [dI] (fun v_ X_ S_=>v_=(.bool true)∧X_=[]∧S_=[]):=by
 refine aJ (N:=45) Tryz.func49 rfl rfl (by simp) fun b=> ?_
 refine ah<|aj<|hy (fun _=>ab rfl)<|ai<|ae<|ah<|aj<| ?_
 refine hx (bJ Tryz.underlying27 eT rfl rfl rfl (by simp[Value.cells,B8]) (by decide) (by decide) (fun g3=> ?_))
 have hA_b3:0<4→(some (⟨g3,0,none⟩:Addr))≠none:=fun _ h=>by cases h
 refine hx (zY 0 rfl rfl Tryz.underlying27 Tryz.underlying5 ?_)
 refine hy (fun _=>bD yy rfl rfl (by kernel_rfl) (.cons (o:=0) (sz:=1) (by kernel_rfl) rfl rfl (Nat.le_of_ble_eq_true rfl) (.cons (o:=1) (sz:=1) (by kernel_rfl) rfl rfl (Nat.le_of_ble_eq_true rfl) (.cons (o:=2) (sz:=1) (by kernel_rfl) rfl rfl (Nat.le_of_ble_eq_true rfl) .nil))))<| ?_
 refine hx (bJ Tryz.underlying44 EY rfl rfl rfl (by simp[Value.cells,B8]) (by decide) (by decide) (fun g6=> ?_))
 have hA_b6:0<1→(some (⟨g6,0,none⟩:Addr))≠none:=fun _ h=>by cases h
 refine aF (fun w m=>m.bq 1 rfl (show _=aG 5 1 (.slice (some ⟨g3,0,none⟩) 4 4) 4 (aP [97,97,98,98])from rfl)) ?_
 refine aF (fun w m=>(m.perm (ar [0] _ [_] _ rfl)).freeze) ?_
 refine aF (fun w m=>m.fh 0 rfl .own) ?_
 refine aB (fun m=>dZ (m.rd 0 rfl)) ?_
 rintro⟨hl_b3r,hA_b3r⟩
 refine aF (fun w m=>m.bq 0 rfl (show _=aG 3 1 (.slice (some ⟨g6,0,none⟩) 1 1) 1 (ints [0])from rfl)) ?_
 refine aF (fun w m=>(m.perm (ar [0] _ [_] _ rfl)).freeze) ?_
 refine aF (fun w m=>m.fh 0 rfl .own) ?_
 refine aB (fun m=>fv (m.rd 0 rfl)) ?_
 rintro⟨hl_b6r,hA_b6r⟩
 refine aF (fun w m=>m.pF (r' :=cr 1 none 0 []) (.refl _ _) (Rd.nil _ _ _) (fun k hk=>absurd rfl hk.1)) ?_
 have hA_z1:0<0→(none:Option Addr)≠none:=fun h=>absurd h (by decide)
 refine hx (au rfl Tryz.call41 (tk (Nat.le_refl _) (by decide) (by decide) (by decide) (by decide) (by intro z hz;rw[List.mem_singleton.1 hz];decide) (by decide) (Nat.le_refl 0) (by decide) (img:=[97,97,98,98]) (ot:=[]) (zl:=[0]) (p:=⟨1,1,0⟩)) [] rfl [3,1,0,5] rfl ?_)
 rintro _ _ _ ⟨gw,gd,st,y,gs,gm,A,c,rs,l,A2,c2,T,trs,AO,cO,rfl,rfl,rfl,hbg⟩
 refine aB (fun m=>fv (m.rd 1 rfl)) ?_
 rintro⟨hl_z,hA_z⟩
 refine aB (fun m=>fv (m.rd 2 rfl)) ?_
 rintro⟨hl_tr,hA_tr⟩
 refine aB (fun m=>dZ (m.rd 4 rfl)) ?_
 rintro⟨hl_xo,hA_xo⟩
 refine hy (fun _=>ab rfl)<|ai<|al (ρ' :=[(1,_),(0,_)]) ⟨rfl,rfl,trivial⟩<|ak (X' :=[_,_,_]) (S' :=[_,_,_,_,_,_,_,_,_,_,_]) (fun _ m=>m)<|ae<|ah<|ah<|aj<|hy (fun _=>aa rfl)<|hy (fun _=>re rfl rfl (by kernel_rfl))<|ai<|al (ρ' :=[(9,_),(1,_),(0,_)]) ⟨rfl,rfl,rfl,trivial⟩<|ae<| ?_
 obtain⟨hyd,hD,hok,hrs,hxts,htl,htr,hcO⟩:=hbg
 refine cZ rfl (rfl) ?_
 refine aA<|ae<|ah<|qx [0] [0,1,2,3,4,5,6,7,8,9,10] rfl rfl [5,6,7,9,15] [(0,some 4),(1,some 4),(2,some 4),(3,some 4),(4,some 4),(11,some 4),(12,some 4),(13,some 4),(14,some 4),(5,none),(6,none),(7,none),(8,some 3),(9,none),(10,some 4),(15,none),(16,some 5)] (by kernel_rfl) (by kernel_rfl) rfl 99<|an (aa rfl)<|an (aL rfl)<|an (aD rfl uh (by decide))<|bY (fun m=>aq rfl rb (ax (m.aN 0 rfl) (i:=0) rfl))<|an (bD yy rfl rfl (by kernel_rfl) (.cons (o:=0) (sz:=1) (by kernel_rfl) rfl rfl (Nat.le_of_ble_eq_true rfl) (.cons (o:=1) (sz:=1) (by kernel_rfl) rfl rfl (Nat.le_of_ble_eq_true rfl) (.cons (o:=2) (sz:=1) (by kernel_rfl) rfl rfl (Nat.le_of_ble_eq_true rfl) .nil))))<|an (aa rfl)<|an (aL rfl)<|an (aD rfl zH (by decide))<|bY (fun m=>aq rfl DF ((m.aN 0 rfl).aw 42 _ (jX (j:=0))))<| ?_
 refine dq (bJ Tryz.underlying27 eT rfl rfl rfl (by simp[Value.cells,B8]) (by decide) (by decide) (fun g15=>⟨(fun _=>wk [1] [0,1,2,3,4,5,6,7,8,9,10] rfl rfl), ?_⟩))
 have hA_b15:0<2→(some (⟨g15,0,none⟩:Addr))≠none:=fun _ h=>by cases h
 refine dq (zY 0 rfl rfl Tryz.underlying27 Tryz.underlying5 ⟨(fun _=>wk [1] [0,1,2,3,4,5,6,7,8,9,10] rfl rfl), ?_⟩)
 refine dQ (fun w m=>m.bq 0 rfl (show _=aG 5 1 (.slice (some ⟨g15,0,none⟩) 2 2) 2 (aP [122,122])from rfl)) ?_
 refine dQ (fun w m=>(m.perm (ar [0] _ [_] _ rfl)).freeze) ?_
 refine dQ (fun w m=>m.fh 0 rfl .own) ?_
 refine b7 (fun m=>dZ (m.rd 0 rfl)) ?_
 rintro⟨hl_b15r,hA_b15r⟩
 obtain⟨tz,htz⟩:∃tz:It,tz=(⟨bw [122,122],bx _⟩,2):=⟨_,rfl⟩
 refine dq (au rfl Tryz.call56 (jV (by decide) (l:=[122,122])) [] rfl [0] rfl ?_)
 rintro _ _ _ ⟨rfl,rfl,rfl⟩
 refine⟨(fun _=>wk [0] [2,3,4,5,6,7,8,9,10,11,12] rfl rfl), ?_⟩
 have hta:Value.agg (aP (bw [122,122])).toArray= .agg (aP tz.1.b).toArray:=by rw[htz]
 rw[hta]
 refine an (bD kR rfl rfl (by kernel_rfl) (Ew (t:=tz) (n:=2) (by rw[htz]) rD qM))<| ?_
 refine dq (bJ Tryz.underlying80 kR rfl rfl rfl (by intro v hv;rw[List.mem_singleton.1 hv];show(eS tz).toArray.size=33;rw[List.size_toArray,bZ]) (by decide) (by decide) (fun g19=>⟨(fun _=>wk [1] [2,3,4,5,6,7,8,9,10,11,12] rfl rfl), ?_⟩))
 have hA_b19:0<1→(some (⟨g19,0,none⟩:Addr))≠none:=fun _ h=>by cases h
 refine dQ (fun w m=>m.bq 0 rfl (show _=aG 100 33 (.slice (some ⟨g19,0,none⟩) 1 1) 1 (iM [tz])from rfl)) ?_
 refine dQ (fun w m=>(m.perm (ar [0] _ [_] _ rfl)).freeze) ?_
 refine dQ (fun w m=>m.fh 0 rfl .own) ?_
 refine b7 (fun m=>fv (m.rd 0 rfl)) ?_
 rintro⟨hl_b19r,hA_b19r⟩
 refine an (bD Et rfl rfl (by kernel_rfl) (GY (its:=[tz]) rfl zP zI))<| ?_
 refine dq (au rfl Tryz.call42 (yt hD hok (by show 1≤100000;decide) (u:=(GN 1 1 9 [tz] (some ⟨g19,0,none⟩) 1))) [1,1] rfl [0,14] rfl ?_)
 rintro _ _ _ ⟨A1,k1,c1,rfl,rfl,rfl,hk1⟩
 refine⟨(fun _=>wk [3] [4,5,6,7,8,9,10,11,12,13,14] rfl rfl), ?_⟩
 refine an (ab rfl)<|bk<|al (ρ' :=[(2,_),(9,_),(1,_),(0,_)]) ⟨rfl,rfl,rfl,rfl,trivial⟩<|ak (X' :=[_,_,_,_]) (S' :=[_,_,_,_,_,_,_,_,_,_,_,_,_,_,_]) (fun _ m=>m)<|ae<|ah<|ah<|aj<|hy (fun _=>aa rfl)<|hy (fun _=>aW rfl Tryz.underlying78)<|hy (fun _=>dx rfl rfl)<|ai<|al (ρ' :=[(28,_),(2,_),(9,_),(1,_),(0,_)]) ⟨rfl,rfl,rfl,rfl,rfl,trivial⟩<|ae<| ?_
 have hst:gn (cg y.d (fo ⟨1,1,0⟩) (rs.map aX.l)) [tz]=[(tz.1,3)]:=by
  have e1:tz.1.b=bw [122,122]:=by rw[htz]
  have e2:y.d=k9 (eo [97,97,98,98] ⟨2,3,3⟩) [0]:=hyd
  have hfr:=uX
  rw[←e2,←sZ,←hxts,←hrs,←e1]at hfr
  have hfr2:cg y.d (fo ⟨1,1,0⟩) (rs.map aX.l) tz.1.b=3:=hfr
  show dy _ [tz] (0+1)=_
  rw[jM (t:=tz) rfl,if_neg (by simp),hfr2]
  rfl
 replace hk1:k1=(gn (cg y.d (fo ⟨1,1,0⟩) (rs.map aX.l)) [tz]).length:=hk1
 rw[hst]at hk1
 have hst2:gn (cg y.d (fo ⟨1,1,0⟩) (rs.map aX.l)) (GN 1 1 9 [tz] (some ⟨g19,0,none⟩) 1).its=[(tz.1,3)]:=hst
 rw[hst2]
 replace hk1:k1=1:=hk1
 subst hk1
 refine bg (fun w m=>(m.perm (ar [0] _ [_] _ rfl)).freeze) ?_
 refine bg (fun w m=>m.fh 0 rfl .own) ?_
 refine aS (fun m=>fv (m.rd 0 rfl)) ?_
 rintro⟨hl_z2r,hA_z2r⟩
 refine cZ rfl (rfl) ?_
 refine aA<|ae<|ah<|aj<|hy (fun _=>aa rfl)<|hy (fun _=>cy rfl rfl Tryz.underlying78 kS hA_z2r (show((0:Nat):Int)=0 from rfl) (by omega))<|hy (fun _=>aD rfl vP (by decide))<|hy (fun m=>aq rfl dr (dB (f:=eS) bZ (m.rd 0 rfl) (i:=0) (x:=(tz.1,3)) rfl 32 _ (uO _)))<|hy (fun _=>cn rfl rfl)<|hy (fun _=>yT (aa rfl) (rfl))<|cm (o:=_) rfl rfl rfl (fun _=>aa rfl)<| ?_
 refine C8 (o:=_) rfl rfl rfl (au rfl Tryz.call48 (wv rfl (by decide) (k:=3) (l:=[(tz.1,3)])) [] rfl [0] rfl ?_)
 rintro _ _ _ ⟨rfl,rfl,rfl⟩
 refine cm (o:=_) rfl rfl rfl (fun _=>cn rfl rfl)<|hy (fun _=>bT rfl rfl)<|hy (fun _=>aa rfl)<|cm (o:=_) rfl rfl rfl (fun _=>aa rfl)<| ?_
 refine C8 (o:=_) rfl rfl rfl (au rfl Tryz.call46 (vj rfl (by decide) (l:=[(tz.1,3)])) [] rfl [0] rfl ?_)
 rintro _ _ _ ⟨A12,k12,c12,rfl,rfl,rfl,hk2⟩
 replace hk2:k12=1:=hk2
 subst hk2
 refine cm (o:=_) rfl rfl rfl (fun _=>aW rfl Tryz.underlying33)<|cm (o:=_) rfl rfl rfl (fun _=>cn rfl rfl)<|hy (fun _=>bT rfl rfl)<|hy (fun _=>ab rfl)<|ai<|al (ρ' :=[(0,_),(28,_),(2,_),(9,_),(1,_)]) ⟨rfl,rfl,rfl,rfl,rfl,trivial⟩<|ak (X' :=[_,_,_,_]) (S' :=[_,_,_,_,_,_,_,_,_,_,_,_,_,_,_,_,_]) (fun _ m=>m)<|ae<|aU<| ?_
 exact aZ trivial rfl rfl [] rfl [] rfl ⟨rfl,rfl,rfl⟩
end Go.Proofs.YtmibdabdlgmafaaGreatDoor
end
section
set_option maxRecDepth 20000
set_option maxHeartbeats 4000000
namespace Go.Proofs.YtmibdabdlgmafaaGreatDoor
open Go.Eng Go.Hx
theorem DS.HW{st:cR}{d:RD}{k:Nat}(h:DS st d k)(p:List UInt8):(d.cA p).length≤10000000:=by
 have:=h.uH p
 omega
end Go.Proofs.YtmibdabdlgmafaaGreatDoor
end
section
set_option maxRecDepth 20000
set_option maxHeartbeats 4000000
namespace Go.Proofs.YtmibdabdlgmafaaGreatDoor
open Go.Eng Go.Hx
theorem wC(img:List UInt8):(iu img).length≤60:=by
 unfold iu
 rw[List.length_take]
 omega
theorem wz(l:List UInt8)(q:Pn):(cb l q).length≤l.length:=by
 rw[cb,List.length_map]
 exact ka l q
theorem ud{I:Option Addr}{ni ci:Nat}{img:List UInt8}{p:Pm}{L:Option Addr}{np cp:Nat}{zl:List Int}{fr:Int}{O:Option Addr}{no co:Nat}{ot:List UInt8}(hic:ni≤ci)(hin:ni≤140737488351232)(h1:-9223372036854775808≤p.mn∧p.mn≤9223372036854775807)(h2:-9223372036854775808≤p.av∧p.av≤9223372036854775807)(h3:-9223372036854775808≤p.mx∧p.mx≤9223372036854775807)(hzl:wG zl)(hfr:-9223372036854775808≤fr∧fr≤9223372036854775807)(hoc:no≤co)(hon:no≤140737488351232):b6 Tryz.prog 5 [.slice I ni ci,.agg p.cs.toArray,.slice L np cp,.int .i64 fr,.slice O no co] [] [cr 1 I ni (aP img),cr 1 L np (ints zl),cr 1 O no (aP ot),dI] (fun v_ X_ S_=>v_=(.bool true)∧X_=[]∧S_=[]):=by
 obtain⟨q,hqe⟩:∃q,q=fo p:=⟨_,rfl⟩
 have hq:q.ok:=by rw[hqe];exact(tA p).1
 obtain⟨own,hown⟩:∃own,own=iu img:=⟨_,rfl⟩
 have hol:own.length≤60:=by rw[hown];exact wC img
 obtain⟨its,hits⟩:∃its,its=cb own q:=⟨_,rfl⟩
 have hil:its.length≤60:=by rw[hits];exact Nat.le_trans (wz own q) hol
 refine aJ (N:=91) Tryz.func5 rfl rfl (by simp) fun b=> ?_
 refine aS (fun m=>dZ (m.rd 0 rfl)) ?_
 rintro⟨hl_ri,hA_ri⟩
 refine aS (fun m=>fv (m.rd 1 rfl)) ?_
 rintro⟨hl_rl,hA_rl⟩
 refine aS (fun m=>dZ (m.rd 2 rfl)) ?_
 rintro⟨hl_rt,hA_rt⟩
 refine ah<|aj<| ?_
 refine hx (bn rfl (fun g6=> ?_))
 refine aF (fun w m=>m.bq 0 rfl (show _=aE g6 75 p.cs from congrArg (aE _ _) (aR _))) ?_
 refine hy (fun _=>ab rfl)<|ai<|ak (X' :=[_]) (S' :=[_,_,_,_]) (fun _ m=>m)<|ae<|ah<|aj<|hy (fun _=>aa rfl)<|hy (fun m=>yV (aQ rfl gC fX rfl ((m.aN 0 rfl).aw)) ((rfl:_=Value.agg p.cs.toArray)))<|hy (fun _=>aa rfl)<|hy (fun _=>aa rfl)<|hy (fun _=>aa rfl)<| ?_
 refine hx (au rfl Tryz.call41 (tk hic hin h1 h2 h3 hzl hfr hoc hon (p:=p)) [] rfl [0,1,2,3] rfl ?_)
 rintro _ _ _ ⟨gw,gd,st,y,gs,gm,A,c,rs,l,A2,c2,T,trs,AO,cO,rfl,rfl,rfl,hbg⟩
 refine aB (fun m=>fv (m.rd 1 rfl)) ?_
 rintro⟨hl_z,hA_z⟩
 refine aB (fun m=>fv (m.rd 2 rfl)) ?_
 rintro⟨hl_tr,hA_tr⟩
 refine aB (fun m=>dZ (m.rd 4 rfl)) ?_
 rintro⟨hl_xo,hA_xo⟩
 refine hy (fun _=>ab rfl)<|ai<|al (ρ' :=[(11,_),(10,_),(6,_),(0,_),(1,_),(2,_),(3,_),(4,_)]) ⟨rfl,rfl,rfl,rfl,rfl,rfl,rfl,rfl,trivial⟩<|ak (X' :=[_,_,_,_]) (S' :=[_,_,_,_,_,_,_,_,_]) (fun _ m=>m)<|ae<|ah<|ah<|aj<|hy (fun _=>aa rfl)<| ?_
 rw[←hqe,←hown]
 obtain⟨hyd,hD,hok,hrs,hxts,htl,htr,hcO⟩:=hbg
 rw[←hqe]at hok
 refine hy (fun _=>re rfl rfl (by kernel_rfl))<|ai<|al (ρ' :=[(24,_),(11,_),(10,_),(6,_),(0,_),(1,_),(2,_),(3,_),(4,_)]) ⟨rfl,rfl,rfl,rfl,rfl,rfl,rfl,rfl,rfl,trivial⟩<|ae<| ?_
 refine cZ rfl (rfl) ?_
 refine aA<|ae<|ah<|qx [0,2] [0,1,2,3,4,5,6,7,8] rfl rfl [5,10] [(0,some 1),(1,some 1),(2,some 1),(3,some 1),(4,some 0),(6,some 1),(7,some 1),(8,some 1),(9,some 1),(5,none),(10,none),(11,some 2)] (by kernel_rfl) (by kernel_rfl) rfl 99<|an (aa rfl)<|an (aL rfl)<|an (aD rfl uh (by decide))<|bY (fun m=>aq rfl rb (ax (m.aN 0 rfl) (i:=0) rfl))<|an (aa rfl)<|an (aa rfl)<|an (aL rfl)<|an (aD rfl zH (by decide))<|bY (fun m=>aq rfl DF ((m.aN 0 rfl).aw 42 _ (jX (j:=0))))<| ?_
 refine dq (au rfl Tryz.call43 (Fu (u:=(tE own q A2 c2))) [0] rfl [] rfl ?_)
 rintro _ _ _ ⟨rfl,rfl,rfl⟩
 refine⟨(fun _=>wk [0,2] [0,1,2,3,4,5,6,7,8] rfl rfl), ?_⟩
 refine dq (au rfl Tryz.call42 (yt hD hok (by show(cb own q).length≤100000;rw[←hits];omega) (u:=(tE own q A2 c2))) [1,1] rfl [1,8] rfl ?_)
 rintro _ _ _ ⟨A1,k1,c1,rfl,rfl,rfl,hk1⟩
 refine⟨(fun _=>wk [3,3] [0,1,2,3,4,5,6,7,8] rfl rfl), ?_⟩
 refine an (ab rfl)<|bk<|al (ρ' :=[(12,_),(24,_),(11,_),(10,_),(6,_),(0,_),(1,_),(2,_),(3,_),(4,_)]) ⟨rfl,rfl,rfl,rfl,rfl,rfl,rfl,rfl,rfl,rfl,trivial⟩<|ak (X' :=[_,_,_,_,_]) (S' :=[_,_,_,_,_,_,_,_,_]) (fun _ m=>m)<|ae<|ah<|cq [17] [(0,some 0),(1,some 0),(2,some 0),(3,some 0),(4,some 0),(5,some 0),(6,some 0),(7,some 0),(8,some 0),(9,some 0),(10,some 0),(11,some 0),(12,some 1),(13,some 0),(14,some 0),(15,some 0),(16,some 0),(17,none),(18,some 1)] (by kernel_rfl) (by kernel_rfl) rfl 99<| ?_
 obtain⟨sl,hsl⟩:∃sl,sl=gn (cg y.d q (rs.map aX.l)) its:=⟨_,rfl⟩
 have hsl1:gn (cg y.d q (rs.map aX.l)) (tE own q A2 c2).its=sl:=by rw[hsl,hits];rfl
 have hsl2:gn (cg y.d q (trs.map aX.l)) (tE own q A2 c2).its=sl:=by rw[←hrs];exact hsl1
 have hsll:sl.length≤60:=by rw[hsl];exact Nat.le_trans (jv _) hil
 have hsb:∀t∈sl,1≤t.2∧t.2≤3:=by rw[hsl];exact fun t ht=>lM (fun nm=>BS _ _ _ nm) _ t ht
 rw[hsl1]at hk1 ⊢
 subst hk1
 refine an (aa rfl)<|an (aL rfl)<|an (aD rfl tU (by decide))<|bY (fun m=>yV (aQ rfl cC bV rfl (CJ (m.aN 3 rfl))) ((rfl:_=Value.agg y.cs.toArray)))<|an (aa rfl)<|an (aL rfl)<|an (aD rfl oY (by decide))<|bY (fun m=>aQ rfl E2 EW (IX.fw _) (s6 (m.aN 3 rfl)))<|an (aa rfl)<|an (aL rfl)<|an (aD rfl rF (by decide))<|bY (fun m=>aq rfl x5 ((m.aN 3 rfl).aw 43 _ (jX (j:=1))))<|an (aa rfl)<|an (aL rfl)<|an (aD rfl oY (by decide))<|an (aD rfl x4 (by decide))<|bY (fun m=>yV (aQ rfl gC fX rfl (fun j v hv=>s6 (m.aN 3 rfl) j v (C1 (u:=tE own q A2 c2) hv))) ((rfl:_=Value.agg q.p.cs.toArray)))<| ?_
 refine dq (au rfl Tryz.call44 (zG hD.Ez (by omega) hD.HW hq htl (fun r hr=>⟨(htr r hr).1,(htr r hr).2.1,by have:=(htr r hr).2.2;omega⟩) (by decide) (by show(cb own q).length≤100000;rw[←hits];omega) (q:=q) (u:=(tE own q A2 c2))) [] rfl [0,1,2,3,8] rfl ?_)
 rintro _ _ _ ⟨A12,k,c12,rfl,rfl,rfl,hk2⟩
 refine⟨(fun _=>wk [1,1,1,1,1] [0,1,2,3,4,5,6,7,8] rfl rfl), ?_⟩
 refine an (ab rfl)<|bk<|al (ρ' :=[(13,_),(12,_),(24,_),(11,_),(10,_),(6,_),(0,_),(1,_),(2,_),(3,_),(4,_)]) ⟨rfl,rfl,rfl,rfl,rfl,rfl,rfl,rfl,rfl,rfl,rfl,trivial⟩<|ak (X' :=[_,_,_,_,_,_]) (S' :=[_,_,_,_,_,_,_,_,_]) (fun _ m=>m)<|ae<|ah<|ah<|aj<| ?_
 rw[hsl2]at hk2 ⊢
 subst hk2
 refine aF (fun w m=>(m.perm (ar [1] _ [_] _ rfl)).freeze) ?_
 refine aF (fun w m=>m.fh 0 rfl .own) ?_
 refine aB (fun m=>fv (m.rd 0 rfl)) ?_
 rintro⟨hl_z2r,hA_z2r⟩
 refine aF (fun w m=>(m.perm (ar [0] _ [_] _ rfl)).freeze) ?_
 refine aF (fun w m=>m.fh 0 rfl .own) ?_
 refine aB (fun m=>fv (m.rd 0 rfl)) ?_
 rintro⟨hl_or,hA_or⟩
 have hnl:=kY sl 3
 refine hy (fun _=>aa rfl)<|hy (fun _=>aa rfl)<| ?_
 refine hx (au rfl Tryz.call45 (BZ rfl (by omega) hsb (l:=sl)) [] rfl [2,0] rfl ?_)
 rintro _ _ _ ⟨rfl,rfl,rfl⟩
 refine hy (fun _=>(kO rfl))<|hy (fun _=>yF (aa rfl) (rfl))<|cm (o:=_) rfl rfl rfl (fun _=>aa rfl)<| ?_
 refine C8 (o:=_) rfl rfl rfl (au rfl Tryz.call46 (vj rfl (by omega) (l:=sl)) [] rfl [2] rfl ?_)
 rintro _ _ _ ⟨A13,k12,c13,rfl,rfl,rfl,hk3⟩
 refine cm (o:=_) rfl rfl rfl (fun _=>aa rfl)<| ?_
 refine C8 (o:=_) rfl rfl rfl (au rfl Tryz.call47 (wR rfl (by omega) (l:=sl)) [] rfl [0] rfl ?_)
 rintro _ _ _ ⟨A14,k2,c14,rfl,rfl,rfl,hk4⟩
 subst hk3
 subst hk4
 refine aF (fun w m=>(m.perm (ar [1] _ [_] _ rfl)).freeze) ?_
 refine aF (fun w m=>m.fh 0 rfl .own) ?_
 refine aF (fun w m=>(m.perm (ar [0] _ [_] _ rfl)).freeze) ?_
 refine aF (fun w m=>m.fh 0 rfl .own) ?_
 refine C8 (o:=_) rfl rfl rfl (au rfl Tryz.call19 (uA (ur sl 3) (by omega)) [] rfl [2,0] rfl ?_)
 rintro _ _ _ ⟨rfl,rfl,rfl⟩
 refine cm (o:=_) rfl rfl rfl (fun _=>(kO rfl))<|hy (fun _=>bo rfl rfl)<|ai<|al (ρ' :=[(65,_),(13,_),(12,_),(24,_),(11,_),(10,_),(6,_),(0,_),(1,_),(2,_),(3,_),(4,_)]) ⟨rfl,rfl,rfl,rfl,rfl,rfl,rfl,rfl,rfl,rfl,rfl,rfl,trivial⟩<|ak (X' :=[_,_,_,_]) (S' :=[_,_,_,_,_,_,_,_,_,_,_,_,_,_,_,_,_]) (fun _ m=>m)<|ae<| ?_
 refine cZ rfl (rfl) ?_
 refine aA<|ae<|ah<|ah<|aj<|hy (fun _=>ab rfl)<|ai<|ae<|aI<| ?_
 refine cW (fun j=>6-j) (fun j=>[(14,.int .i64 ((j:Nat)-1:Int))]) (fun j=>[]) (fun j=>[]) (fun j=>j≤6) 0 [(65,_),(13,_),(12,_),(24,_),(11,_),(6,_),(0,_),(1,_),(2,_),(3,_),(4,_)] ⟨rfl,rfl,rfl,rfl,rfl,rfl,rfl,rfl,rfl,rfl,rfl,trivial⟩ [] rfl [] rfl (Nat.zero_le _) ⟨rfl,trivial⟩ (fun j hj=> ?_)
 refine ah<|ah<|aj<|hy (fun _=>aa rfl)<|hy (fun _=>bu rfl rfl)<|ai<|al (ρ' :=[(67,_),(14,_),(65,_),(13,_),(12,_),(24,_),(11,_),(6,_),(0,_),(1,_),(2,_),(3,_),(4,_)]) ⟨rfl,rfl,rfl,rfl,rfl,rfl,rfl,rfl,rfl,rfl,rfl,rfl,rfl,trivial⟩<|ae<| ?_
 refine cj rfl (fun hlt=> ?_) (fun hlt=> ?_)
 ·refine aA<|ae<|ah<|aI<|ah<|aj<|hy (fun _=>ab rfl)<|ai<|ae<|ah<|ah<|aj<|hy (fun _=>ab rfl)<|ai<|ae<|aI<| ?_
  refine jU (fun i s=>sl.length-i) (fun i s=>[(15,.int .i64 (s:Nat)),(16,.int .i64 (i:Nat))]) (fun i s=>[]) (fun i s=>[]) (fun i s=>i≤sl.length∧s=(dj (sl.take i) ((j:Int)-1)).length∧s≤i) 0 0 [(67,_),(14,_),(65,_),(13,_),(12,_),(24,_),(11,_),(6,_),(0,_),(1,_),(2,_),(3,_),(4,_)] ⟨rfl,rfl,rfl,rfl,rfl,rfl,rfl,rfl,rfl,rfl,rfl,rfl,rfl,trivial⟩ [] rfl [] rfl (⟨Nat.zero_le _,rfl,Nat.le_refl _⟩) ⟨rfl,rfl,trivial⟩ (fun i s ⟨hi,hs,hsi⟩=> ?_)
  refine ah<|ah<|aj<|hy (fun _=>aa rfl)<|hy (fun _=>aa rfl)<|hy (fun _=>aW rfl Tryz.underlying90)<|hy (fun _=>bu rfl rfl)<|ai<|al (ρ' :=[(73,_),(15,_),(16,_),(67,_),(14,_),(65,_),(13,_),(12,_),(24,_),(11,_),(6,_),(0,_),(1,_),(2,_),(3,_),(4,_)]) ⟨rfl,rfl,rfl,rfl,rfl,rfl,rfl,rfl,rfl,rfl,rfl,rfl,rfl,rfl,rfl,rfl,trivial⟩<|ae<| ?_
  refine cj rfl (fun hlt2=> ?_) (fun hlt2=> ?_)
  ·obtain⟨t,ht⟩:∃t,sl[i]? =some t:=⟨_,List.getElem?_eq_getElem (by omega)⟩
   have hsn:=j5 (k:=(j:Int)-1) ht
   refine aA<|ae<|ah<|aI<|ah<|aj<|hy (fun _=>aa rfl)<|hy (fun _=>aa rfl)<|hy (fun _=>cy rfl rfl Tryz.underlying90 xP hA_or rfl (by omega))<|hy (fun _=>aD rfl yR (by decide))<|hy (fun m=>aq rfl dr (dB (f:=eS) bZ (m.rd 4 rfl) ht 32 _ (uO t)))<|hy (fun _=>aa rfl)<|hy (fun _=>cn rfl rfl)<|ai<|al (ρ' :=[(82,_),(73,_),(15,_),(16,_),(67,_),(14,_),(65,_),(13,_),(12,_),(24,_),(11,_),(6,_),(0,_),(1,_),(2,_),(3,_),(4,_)]) ⟨rfl,rfl,rfl,rfl,rfl,rfl,rfl,rfl,rfl,rfl,rfl,rfl,rfl,rfl,rfl,rfl,rfl,trivial⟩<|ae<| ?_
   by_cases he:t.2=(j:Int)-1
   ·rw[if_pos he]at hsn
    refine gj rfl ((decide_eq_true he)) ?_
    refine aj<|hy (fun _=>aa rfl)<|hy (fun _=>aK rfl rfl (bs (by omega) (by omega)))<|hy (fun _=>ab rfl)<|ai<|al (ρ' :=[(15,_),(82,_),(73,_),(16,_),(67,_),(14,_),(65,_),(13,_),(12,_),(24,_),(11,_),(6,_),(0,_),(1,_),(2,_),(3,_),(4,_)]) ⟨rfl,rfl,rfl,rfl,rfl,rfl,rfl,rfl,rfl,rfl,rfl,rfl,rfl,rfl,rfl,rfl,rfl,trivial⟩<|aM<|ae<|aj<|hy (fun _=>aa rfl)<|hy (fun _=>aK rfl rfl (bs (by omega) (by omega)))<|hy (fun _=>ab rfl)<|ai<|al (ρ' :=[(16,_),(15,_),(82,_),(73,_),(67,_),(14,_),(65,_),(13,_),(12,_),(24,_),(11,_),(6,_),(0,_),(1,_),(2,_),(3,_),(4,_)]) ⟨rfl,rfl,rfl,rfl,rfl,rfl,rfl,rfl,rfl,rfl,rfl,rfl,rfl,rfl,rfl,rfl,rfl,trivial⟩<| ?_
    refine gk (i+1) (s+1) ⟨rfl,rfl,rfl,rfl,rfl,rfl,rfl,rfl,rfl,rfl,rfl,rfl,rfl,rfl,rfl,trivial⟩ [0,0,0,0] rfl [0,1,2,3,4,5,6,7,8,9,10,11,12,13,14,15,16] rfl (⟨by omega,by rw[hsn,List.length_append,←hs];rfl,by omega⟩) (by omega)
   ·rw[if_neg he,List.append_nil]at hsn
    refine cZ rfl ((decide_eq_false he)) ?_
    refine aA<|aM<|ae<|aj<|hy (fun _=>aa rfl)<|hy (fun _=>aK rfl rfl (bs (by omega) (by omega)))<|hy (fun _=>ab rfl)<|ai<|al (ρ' :=[(16,_),(82,_),(73,_),(15,_),(67,_),(14,_),(65,_),(13,_),(12,_),(24,_),(11,_),(6,_),(0,_),(1,_),(2,_),(3,_),(4,_)]) ⟨rfl,rfl,rfl,rfl,rfl,rfl,rfl,rfl,rfl,rfl,rfl,rfl,rfl,rfl,rfl,rfl,rfl,trivial⟩<| ?_
    refine gk (i+1) s ⟨rfl,rfl,rfl,rfl,rfl,rfl,rfl,rfl,rfl,rfl,rfl,rfl,rfl,rfl,rfl,trivial⟩ [0,0,0,0] rfl [0,1,2,3,4,5,6,7,8,9,10,11,12,13,14,15,16] rfl (⟨by omega,by rw[hsn];exact hs,by omega⟩) (by omega)
  ·have hie:i=sl.length:=by omega
   rw[hie,List.take_length]at hs
   refine bA<|ao<|ao<|aC<|ae<|ah<|aj<|hy (fun _=>aa rfl)<|hy (fun _=>aa rfl)<| ?_
   refine hx (au rfl Tryz.call48 (wv rfl (by omega) (k:=((j:Int)-1)) (l:=sl)) [] rfl [6] rfl ?_)
   rintro _ _ _ ⟨rfl,rfl,rfl⟩
   refine hy (fun _=>aa rfl)<|hy (fun _=>dx rfl rfl)<|ai<|al (ρ' :=[(89,_),(73,_),(15,_),(16,_),(67,_),(14,_),(65,_),(13,_),(12,_),(24,_),(11,_),(6,_),(0,_),(1,_),(2,_),(3,_),(4,_)]) ⟨rfl,rfl,rfl,rfl,rfl,rfl,rfl,rfl,rfl,rfl,rfl,rfl,rfl,rfl,rfl,rfl,rfl,trivial⟩<|ak (X' :=[_,_,_,_]) (S' :=[_,_,_,_,_,_,_,_,_,_,_,_,_,_,_,_,_]) (fun _ m=>m)<|ae<| ?_
   refine cZ rfl ((decide_eq_false (by rw[←hs];exact not_not_intro rfl))) ?_
   refine aA<|aM<|ae<|aj<|hy (fun _=>aa rfl)<|hy (fun _=>yV (aK rfl rfl (bs (by omega) (by omega))) ((show Value.int .i64 ((j:Int)-1+1)= .int .i64 (((j+1:Nat):Int)-1)from by congr 1;omega)))<|hy (fun _=>ab rfl)<|ai<|al (ρ' :=[(14,_),(89,_),(73,_),(15,_),(16,_),(67,_),(65,_),(13,_),(12,_),(24,_),(11,_),(6,_),(0,_),(1,_),(2,_),(3,_),(4,_)]) ⟨rfl,rfl,rfl,rfl,rfl,rfl,rfl,rfl,rfl,rfl,rfl,rfl,rfl,rfl,rfl,rfl,rfl,trivial⟩<| ?_
   refine ct (j+1) ⟨rfl,rfl,rfl,rfl,rfl,rfl,rfl,rfl,rfl,rfl,rfl,rfl,trivial⟩ [0,0,0,0] rfl [0,1,2,3,4,5,6,7,8,9,10,11,12,13,14,15,16] rfl (by omega) (by omega)
 ·refine bA<|ao<|ao<|aC<|ae<|ah<|aj<| ?_
  refine hx (au rfl Tryz.call49 (zj) [] rfl [16] rfl ?_)
  rintro _ _ _ ⟨rfl,rfl,rfl⟩
  refine hy (fun _=>ab rfl)<|ai<|al (ρ' :=[(10,_),(67,_),(14,_),(65,_),(13,_),(12,_),(24,_),(11,_),(6,_),(0,_),(1,_),(2,_),(3,_),(4,_)]) ⟨rfl,rfl,rfl,rfl,rfl,rfl,rfl,rfl,rfl,rfl,rfl,rfl,rfl,rfl,trivial⟩<|ak (X' :=[_,_,_,_]) (S' :=[_,_,_,_,_,_,_,_,_,_,_,_,_,_,_,_,_]) (fun _ m=>m)<|ae<|aU<| ?_
  exact aZ trivial rfl rfl [] rfl [] rfl ⟨rfl,rfl,rfl⟩
theorem FJ{α:Type}{xs:List α}{a c d:Nat}(h:xs.length=a+c+d):xs=(xs.drop 0).take a++(xs.drop a).take c++(xs.drop (a+c)).take d:=by
 rw[List.drop_zero,←List.take_add,←List.take_add,List.take_of_length_le (by omega)]
theorem Gq{xs:List Cell}(h:Ty Tryz.prog 75 xs):∃p:Pm,xs.map Cell.val=p.cs∧(-9223372036854775808≤p.mn∧p.mn≤9223372036854775807)∧(-9223372036854775808≤p.av∧p.av≤9223372036854775807)∧(-9223372036854775808≤p.mx∧p.mx≤9223372036854775807):=by
 obtain⟨hl,hf⟩:=xr Tryz.underlying75 h
 have hl3:xs.length=1+1+1:=hl.trans (by kernel_rfl)
 obtain⟨a,e0,ha⟩:=rq Tryz.underlying3 (hf 0 _ rfl)
 obtain⟨z,e1,hz⟩:=rq Tryz.underlying3 (hf 1 _ rfl)
 obtain⟨c,e2,hc⟩:=rq Tryz.underlying3 (hf 2 _ rfl)
 refine⟨⟨a,z,c⟩, ?_,ha,hz,hc⟩
 have d0:(xs.drop 0).take 1=[.v (.int .i64 a)]:=e0
 have d1:(xs.drop 1).take 1=[.v (.int .i64 z)]:=e1
 have d2:(xs.drop (1+1)).take 1=[.v (.int .i64 c)]:=e2
 rw[FJ hl3,List.map_append,List.map_append,d0,d1,d2]
 rfl
theorem j9(I:Option Addr)(ni ci:Nat)(img:List UInt8)(xs:List Cell)(L:Option Addr)(np cp:Nat)(ys:List Cell)(fr:Int)(O:Option Addr)(no co:Nat)(ot:List UInt8)(W:World)(h1:Rd W 1 I ni (aP img))(hc1:ni≤ci)(hn1:ni≤140737488351232)(_:gz W xs)(hT:Ty Tryz.prog 75 xs)(h3:(wi (.s 1 L np cp ys)).holds W)(hT3:Ty Tryz.prog 44 [.s 1 L np cp ys])(hfr:-9223372036854775808≤fr∧fr≤9223372036854775807)(h5:Rd W 1 O no (aP ot))(hc5:no≤co)(hn5:no≤140737488351232)(hro:dI.holds W):
  Calls Tryz.prog 5 #[.slice I ni ci,.agg (xs.map Cell.val).toArray,.slice L np cp,.int .i64 fr,.slice O no co] W fun e w' =>e= .returned (.bool true)∧Fr No W w' :=by
 obtain⟨p,e,p1,p2,p3⟩:=Gq hT
 rw[e]
 obtain⟨_,_,_,_,l3,e3,hv3,hz3⟩:=Cb hT3
 cases e3
 have r3:=(View.rowOf (n:=np) (c:=cp) (A:=L) hv3).ok.1 W h3
 exact xc (ud hc1 hn1 p1 p2 p3 hz3 hfr hc5 hn5) (by
  intro s hs
  simp only[List.mem_cons,List.not_mem_nil,or_false]at hs
  rcases hs with rfl|rfl|rfl|rfl
  ·exact h1
  ·exact r3
  ·exact h5
  ·exact hro)
end Go.Proofs.YtmibdabdlgmafaaGreatDoor
end
