/- Part. -/
import Derived.Test.YtmibdabdlgmafaaGreatDoorPLB5
set_option linter.all false
section
set_option maxRecDepth 20000
set_option maxHeartbeats 2000000
namespace Go.Proofs.YtmibdabdlgmafaaGreatDoor
open Go.Eng Go.Hx
abbrev D0:=Nat×Int×Int
def Hr(x:D0):List Value:=[.int .i64 (x.1:Int),.int .i64 x.2.1,.int .i64 x.2.2]
def xX(x:D0):Value:=.agg (Hr x).toArray
theorem rr(x:D0):∀u∈Hr x,u.oneCell' =true:=by
 intro u hu
 simp only[Hr,List.mem_cons,List.not_mem_nil,or_false]at hu
 rcases hu with rfl|rfl|rfl <;> rfl
structure HG(x:D0):Prop where
 i:x.1≤1000000
 o0:0≤x.2.1
 o1:x.2.1≤1000000
 s0:1≤x.2.2
 s1:x.2.2≤1000000
abbrev x8:=List (Dg×D0)
def yb(l:x8):List (Dg×Value):=l.map fun x=>(x.1,xX x.2)
theorem oZ:∀(l:x8) (p:Dg),bF (yb l) p=(bF l p).map xX
 | [],p=>rfl
 |(k,r)::q,p=>by
  have:=oZ q p
  simp only[yb,List.map_cons,bF]at this ⊢
  split <;> simp_all
theorem wU:∀(l:x8) (p:Dg) (x:D0),cC (yb l) p (xX x)=yb (cC l p x)
 | [],p,x=>rfl
 |(k,r)::q,p,x=>by
  have:=wU q p x
  simp only[yb,List.map_cons,cC]at this ⊢
  split
  ·simp
  ·simp[this]
def Fj(q:Pn)(A:Option Addr)(n c gm:Nat):List Value:=q.p.cs++[.slice A n c,.map (some gm)]
theorem Gg{q:Pn}{A:Option Addr}{n c gm j:Nat}{u:Value}(h:q.p.cs[j]? =some u):(Fj q A n c gm)[j]? =some u:=by
 rw[Fj,List.getElem?_append_left (List.getElem?_eq_some_iff.1 h).1];exact h
abbrev gA(g gm:Nat)(q:Pn)(A:Option Addr)(c:Nat)(rs:List bh)(l:x8):bg:=eD [aE g 267 (Fj q A rs.length c gm),aI 27 1 (.slice A rs.length c) rs.length (lf rs),dC DK gm (yb l),dI rs]
structure jc(q:Pn)(rs:List bh)(l:x8):Prop where
 find:∀nm:Dg,bF l nm=hG q (rs.map bh.l) 0 nm.1
 rows:∀r∈rs,r.n=r.l.length∧r.n≤r.c∧r.n≤100000
 Iq:∀(nm:Dg) x,bF l nm=some x→HG x
theorem jc.nil(q:Pn):jc q [] []:=⟨fun _=>rfl,fun r h=>absurd h List.not_mem_nil,fun _ _ h=>by cases h⟩
def dg(t:It):Dg:=⟨t.1.b,t.1.h⟩
theorem gR{t:It}{j:Nat}{u:Value}(h:(aT t.1.b)[j]? =some u):(fK t)[j]? =some u:=by
 rw[fK,List.getElem?_append_left (List.getElem?_eq_some_iff.1 h).1];exact h
theorem kr(t:It):(fK t)[32]? =some (Value.int .i64 t.2):=by
 rw[fK,List.getElem?_append_right (by rw[aA,t.1.h];exact Nat.le_refl _),aA,t.1.h];rfl
theorem ox{nm:List UInt8}{t:It}:∀(a:List It) (off:Int),dK (a++[t]) off nm=(dK a off nm).or (if t.1.b=nm then some (off+(a.map (·.2)).sum,t.2)else none)
 | [],off=>by simp[dK]
 |x::r,off=>by
  rw[List.cons_append,dK,dK]
  split
  ·rfl
  ·rw[ox r (off+x.2)]
   congr 1
   split
   ·simp;omega
   ·rfl
theorem pU{q:Pn}{nm tx:List UInt8}:∀(ts:List (List UInt8)) (i0:Nat),hG q (ts++[tx]) i0 nm=(hG q ts i0 nm).or ((dK (cn tx q) 0 nm).map fun x=>(i0+ts.length,x.1,x.2))
 | [],i0=>by
  rw[List.nil_append,hG,hG]
  rcases dK (cn tx q) 0 nm with _|⟨o,s⟩ <;> simp[hG]
 |l::r,i0=>by
  rw[List.cons_append,hG,hG,pU r (i0+1)]
  rcases dK (cn l q) 0 nm with _|⟨o,s⟩
  ·simp[Nat.add_assoc,Nat.add_comm 1]
  ·rfl
theorem sH{w:List UInt32}{q:Pn}(hq:q.ok):∀{f:Nat} {b c:List UInt8},c∈jd w q f b→1≤c.length
 |0,_,_,h=>by rw[jd]at h;exact absurd h List.not_mem_nil
 |f+1,b,c,h=>by
  rw[jd]at h
  split at h
  ·exact absurd h List.not_mem_nil
  ·next hb=>
   rcases List.mem_cons.1 h with h|h
   ·have hb1:1≤b.length:=Nat.pos_of_ne_zero fun h0=>hb (List.length_eq_zero_iff.1 h0)
    have:=jR (w:=w) hq hb1
    rw[h,List.length_take];omega
   ·exact sH hq h
theorem vv{q:Pn}(hq:q.ok){l:List UInt8}{k:Nat}{t:It}(h:(cn l q)[k]? =some t):1≤t.2∧t.2≤l.length:=by
 have hm:=List.mem_of_getElem? h
 obtain⟨c,hc,rfl⟩:=List.mem_map.1 hm
 have h1:=sH (w:=bu) hq (f:=l.length) (b:=l) hc
 have h2:=my (w:=bu) (q:=q) (f:=l.length) (b:=l) hc
 show 1≤((c.length:Nat):Int)∧((c.length:Nat):Int)≤_
 omega
theorem C6{a b c:Int}(ha:-9223372036854775808≤a∧a≤9223372036854775807)(hb:-9223372036854775808≤b∧b≤9223372036854775807)(hc:-9223372036854775808≤c∧c≤9223372036854775807):
  Tryz.prog.keyLits 2 271 [.int .i64 a,.int .i64 b,.int .i64 c]=some [Lit.int .i64 a,Lit.int .i64 b,Lit.int .i64 c]:=by
 have e:[Lit.int .i64 a,Lit.int .i64 b,Lit.int .i64 c]=[[Lit.int .i64 a],[Lit.int .i64 b],[Lit.int .i64 c]].flatten:=rfl
 rw[e]
 refine xA (d:=1) Tryz.underlying271 (show 3=_ by kernel_rfl) (by kernel_rfl) (mapM_some ?_)
 have c2:Tryz.prog.cellsOf 3=1:=by kernel_rfl
 simp only[List.map_cons,List.map_nil,c2]
 show [Tryz.prog.keyLits 1 3 [.int .i64 a],Tryz.prog.keyLits 1 3 [.int .i64 b],Tryz.prog.keyLits 1 3 [.int .i64 c]]=_
 rw[vj (d:=0) Tryz.underlying3 ha.1 ha.2,vj (d:=0) Tryz.underlying3 hb.1 hb.2,vj (d:=0) Tryz.underlying3 hc.1 hc.2]
theorem zW{N:Nat}{D:List Deferred}{ρ:Env}{w:World}{ty t' :TypeId}{x y:Operand}{a:D0}(hx:ev ρ x=some (xX a))(hy:ev ρ y=some (xX (0,0,0)))(ha:a.1≤1000000)(h1:0≤a.2.1∧a.2.1≤1000000)(h2:0≤a.2.2∧a.2.2≤1000000):
  Yl Tryz.prog N D ρ w (.binOp .eql 271 x y t') ty (.bool (decide ((a.1:Int)=0∧a.2.1=0∧a.2.2=0))):=
 CW (m:=5) hx hy (by decide) (by kernel_rfl) (by kernel_rfl) y9 (show 3=_ by kernel_rfl) (show 3=_ by kernel_rfl) (C6 (by omega) (by omega) (by omega)) (C6 (a:=((0:Nat):Int)) (by decide) (by decide) (by decide)) (by simp)
theorem yU{l lj:x8}{its:List It}{k j:Nat}{t:It}(ht:its[j]? =some t)(h:∀nm:Dg,bF lj nm=(bF l nm).or ((dK (its.take j) 0 nm.1).map fun x=>(k,x.1,x.2))):
  (bF lj (dg t)=none→∀nm:Dg,bF (cC lj (dg t) (k,j1 its j,t.2)) nm=(bF l nm).or ((dK (its.take (j+1)) 0 nm.1).map fun x=>(k,x.1,x.2)))∧
  ((bF lj (dg t)).isSome=true→∀nm:Dg,bF lj nm=(bF l nm).or ((dK (its.take (j+1)) 0 nm.1).map fun x=>(k,x.1,x.2))):=by
 have e:∀nm,dK (its.take (j+1)) 0 nm=(dK (its.take j) 0 nm).or (if t.1.b=nm then some (j1 its j,t.2)else none):=fun nm=>by
  obtain⟨h1,rfl⟩:=List.getElem?_eq_some_iff.1 ht
  rw[List.take_succ_eq_append_getElem h1,ox,Int.zero_add]
  rfl
 refine⟨fun hn nm=> ?_,fun hs nm=> ?_⟩
 ·rw[kS,e]
  by_cases hd:dg t=nm
  ·subst hd
   have h0:=h (dg t)
   rw[hn]at h0
   rw[if_pos rfl,if_pos (show t.1.b=(dg t).1 from rfl)]
   rcases h1:bF l (dg t)with _|y
   ·rw[h1]at h0
    rcases h2:dK (its.take j) 0 (dg t).1 with _|z
    ·rfl
    ·rw[h2]at h0;simp at h0
   ·rw[h1]at h0;simp at h0
  ·have hd2:¬t.1.b=nm.1:=fun e=>hd (Subtype.ext e)
   rw[if_neg hd,if_neg hd2,h nm,Option.or_none]
 ·rw[e]
  by_cases hd:t.1.b=nm.1
  ·obtain rfl:dg t=nm:=Subtype.ext hd
   have h0:=h (dg t)
   rw[h0]at hs ⊢
   rcases h1:bF l (dg t)with _|y
   ·rw[h1]at hs
    rcases h2:dK (its.take j) 0 (dg t).1 with _|z
    ·rw[h2]at hs;simp at hs
    ·simp
   ·simp
  ·rw[if_neg hd,Option.or_none,h nm]
theorem yM{q:Pn}(hq:q.ok):cf Tryz.prog 126 [.agg q.p.cs.toArray] [] [] (fun v_ X_ S_=>∃g gm,v_=(.tuple #[.pointer (some ⟨g,0,none⟩),.int .i64 0])∧X_=[gA g gm q none 0 [] []]∧S_=[]):=by
 refine aK (N:=11) Tryz.func126 rfl rfl (by simp) fun b=> ?_
 refine ae<|ah<| ?_
 refine hx (br rfl (fun g1=> ?_))
 refine aH (fun w m=>m.bw 0 rfl (show _=aE g1 75 q.p.cs from congrArg (aE _ _) (aV _))) ?_
 refine aG rfl<|aG rfl<|ag<|aY rfl rfl<|aa<|ae<|ae<|ah<|hy (fun m=>yV (aP rfl gK gg rfl ((m.aN 0 rfl).aw)) ((rfl:_=Value.agg q.p.cs.toArray)))<| ?_
 refine hx (an rfl Tryz.call192 (oW (p:=q.p)) [] rfl [] rfl ?_)
 rintro _ _ _ ⟨rfl,rfl,rfl⟩
 refine hy (fun _=>eu rfl)<|ag<|az [6,3,2,1,0] rfl<|aY rfl rfl<|aa<| ?_
 refine dm rfl ((decide_eq_false (fun h=>h hq.may))) ?_
 refine aB<|aa<|ae<|ah<|hy (fun m=>yV (aP rfl gK gg rfl ((m.aN 0 rfl).aw)) ((rfl:_=Value.agg q.p.cs.toArray)))<| ?_
 refine hx (mH DK (fun g8=> ?_))
 refine hy (fun _=>yV (b6 GI rfl rfl (by kernel_rfl) (.cons (o:=0) (sz:=3) (by kernel_rfl) rfl rfl (Nat.le_of_ble_eq_true rfl) (.cons (o:=4) (sz:=1) (by kernel_rfl) rfl rfl (Nat.le_of_ble_eq_true rfl) .nil))) ((rfl:_=Value.agg (Fj q none 0 0 g8).toArray)))<| ?_
 refine hx (br rfl (fun g10=> ?_))
 refine aG rfl<|aG rfl<|ag<|az [3,2,6,1,0] rfl<|aY rfl rfl<|aa<|aR<| ?_
 refine bd (fun w m=>m.bw 0 rfl (show _=aE g10 267 (Fj q none ([]:List bh).length 0 g8)from congrArg (aE _ _) (aV _))) ?_
 refine bd (fun w m=>m.yD) ?_
 refine bd (fun w m=>m.cL (r' :=aI 27 1 (.slice none 0 0) 0 []) (.refl _ _) (Own.nil _ _ _ _) (fun k hk=>hk.elim)) ?_
 refine bd (X' :=gA g10 g8 q none 0 [] []::_) (fun w m=>(m.perm (ao [2,0,1,0] _ [_,_,_,_] _ rfl)).pack) ?_
 exact cQ trivial rfl rfl rfl [0] rfl [] rfl ⟨g10,g8,rfl,rfl,rfl⟩
theorem uc{g gm:Nat}{q:Pn}{A:Option Addr}{c:Nat}{rs:List bh}{l:x8}{B:Option Addr}{n k:Nat}{tx:List UInt8}(hq:q.ok)(hok:jc q rs l)(hl:tx.length=n)(hn:n≤100000)(hrs:rs.length≤1000):cf Tryz.prog 128 [.pointer (some ⟨g,0,none⟩),.slice B n k] [gA g gm q A c rs l] [cz 1 B n (aT tx),dF] (fun v_ X_ S_=>∃A1 c1 r l1,v_=(.int .i64 (rs.length:Nat))∧X_=[gA g gm q A1 c1 (rs++[r]) l1]∧S_=[]∧(jc q (rs++[r]) l1∧r.l=tx)):=by
 refine aK (N:=68) Tryz.func128 rfl rfl (by simp) fun b=> ?_
 refine aQ (fun m=>ek (m.rd 0 rfl)) ?_
 rintro⟨hl_rb,hA_rb⟩
 refine a8 (fun w m=>(m.perm (ao [0] _ [_] _ rfl)).unpack) ?_
 refine ae<|ah<|aG rfl<|ag<|aa<|ae<|ah<|au rfl<|hy (fun _=>aL rfl)<|hy (fun _=>ax rfl rk (by decide))<|hy (fun m=>ak rfl CE (ar (m.aN 0 rfl) rfl))<|hy (fun _=>a6 rfl Tryz.underlying84)<|aG rfl<|ag<|az [5,4,0,1] rfl<|aa<|ae<|cA [6,7,8,11] [(0,some 3),(1,some 2),(2,some 2),(3,some 2),(4,some 2),(5,some 0),(6,none),(7,none),(8,none),(9,some 3),(10,some 3),(11,none)] (by kernel_rfl) (by kernel_rfl) rfl 2<|aj (ai rfl)<|aj (ai rfl)<|aj (aL rfl)<|aj (ax rfl rk (by decide))<|bV (fun m=>ak rfl CE (ar (m.aN 0 rfl) rfl))<|aj (ai rfl)<| ?_
 refine dk (an rfl Tryz.call117 (nh (by omega)) [] rfl [0] rfl ?_)
 rintro _ _ _ ⟨v,rfl,rfl,rfl⟩
 refine⟨(fun _=>wk [1,1,1,1] [0,1] rfl rfl), ?_⟩
 refine bU (fun m=>(m.own 0 rfl).slice) ?_
 rintro⟨A_x,c_x,rfl,hc_x⟩
 refine bU (fun m=>(m.ord 0 rfl).2.1) fun hA_x=> ?_
 refine dk (b5 Tryz.underlying84 ku rfl rfl rfl (by simp[Value.cells,B8]) (by decide) (by decide) (fun g23=>⟨(fun _=>wk [2,2,2,2] [0,1] rfl rfl), ?_⟩))
 have hA_b23:0<1→(some (⟨g23,0,none⟩:Addr))≠none:=fun _ h=>by cases h
 refine dU (fun w m=>m.bw 0 rfl (show _=aI 27 1 (.slice (some ⟨g23,0,none⟩) 1 1) 1 (lf [⟨A_x,n,c_x,tx⟩])from rfl)) ?_
 refine dk (bC 3 rfl rfl rfl Tryz.underlying84 Tryz.underlying84 (by exact .inl rfl) ku rfl (fun m=>Src.b9 (m.ord 0 rfl)) oP (by unfold maxLen;omega) (by omega) (fun u=>⟨(fun h=>absurd h (by decide)), ?_⟩))
 refine bU (fun m=>(m.own 0 rfl).slice) ?_
 rintro⟨A_d1,c_d1,rfl,hc_d1⟩
 refine bU (fun m=>(m.ord 0 rfl).2.1) fun hA_d1=> ?_
 refine aj (aL rfl)<|aj (ax rfl rk (by decide))<| ?_
 refine gi (bZ 3 rfl rfl rfl GC rfl (by first|exact Nat.le_of_ble_eq_true rfl|simp) ⟨(fun h=>absurd h (by decide)), ?_⟩)
 refine bp<|az [5,4,0,1] rfl<|aY rfl rfl<|aa<|ae<| ?_
 obtain⟨r,hr⟩:∃r:bh,r=⟨A_x,n,c_x,tx⟩:=⟨_,rfl⟩
 have hlr:(rs++[r]).length=rs.length+1:=by simp
 refine a8 (fun w m=>m.bw 1 rfl (show _=aI 27 1 (.slice A_d1 (rs++[r]).length c_d1) (rs++[r]).length (lf (rs++[r]))from(by rw[hlr,jI,hr]))) ?_
 refine a8 (fun w m=>m.bw 1 rfl (show _=aE g 267 (Fj q A_d1 (rs++[r]).length c_d1 gm)from(by rw[hlr];rfl))) ?_
 refine a8 (X' :=dI (rs++[r])::_) (fun w m=>(m.perm (ao [5,3] _ [_,_] _ rfl)).zR (fun y hy=>(List.mem_append.1 hy).imp id (fun h=>(List.mem_singleton.1 h).trans hr))) ?_
 refine ah<|au rfl<|au rfl<|hy (fun _=>aL rfl)<|hy (fun _=>ax rfl Bx (by decide))<|hy (fun m=>yV (aP rfl gK gg rfl (fun j u hu=>(m.aN 1 rfl).aw j u (Gg hu))) ((rfl:_=Value.agg q.p.cs.toArray)))<| ?_
 refine hx (an rfl Tryz.call194 (Cl hq hl (by omega) (q:=q)) [] rfl [0,1] rfl ?_)
 rintro _ _ _ ⟨A2,c2,rfl,rfl,rfl⟩
 refine au rfl<|hy (fun _=>aF rfl rfl)<|hy (fun _=>aF rfl rfl)<|aG rfl<|aG rfl<|ag<|az [6,5,4,0,1] rfl<|aY rfl rfl<|aa<|ae<|ah<|aG rfl<|ag<|aa<|ae<|ae<|ah<|au rfl<|hy (fun _=>a6 rfl Tryz.underlying80)<|au rfl<|ag<|aa<|aM<| ?_
 obtain⟨its,hits⟩:∃its,its=cn tx q:=⟨_,rfl⟩
 have hitl:its.length≤n:=by rw[hits,cn,List.length_map,←hl];exact kM tx q
 rw[←hits]
 refine aQ (fun m=>(m.ord 0 rfl).2.1) fun hA_z=> ?_
 refine kv (fun j lj=>its.length-j) (fun j lj=>[(38,.int .i64 (j:Nat)),(8,.int .i64 (j1 its j))]) (fun j lj=>[dC DK gm (yb lj)]) (fun j lj=>[]) (fun j lj=>j≤its.length∧(∀nm:Dg,bF lj nm=(bF l nm).or ((dK (its.take j) 0 nm.1).map fun x=>(rs.length,x.1,x.2)))∧(∀(nm:Dg) x,bF lj nm=some x→HG x)) 0 l [(37,_),(36,_),(6,_),(5,_),(4,_),(0,_),(1,_)] ⟨rfl,rfl,rfl,rfl,rfl,rfl,rfl,trivial⟩ [5] rfl [] rfl (⟨Nat.zero_le _,fun nm=>by simp[dK],hok.Iq⟩) ⟨rfl,rfl,trivial⟩ (fun j lj ⟨hj,hfj,hoj0⟩=> ?_)
 refine ae<|ah<|hy (fun _=>bx rfl rfl)<|ag<|aa<|ae<| ?_
 refine cu rfl (fun hlt=> ?_) (fun hlt=> ?_)
 ·obtain⟨t,ht⟩:∃t,its[j]? =some t:=⟨_,List.getElem?_eq_getElem (by omega)⟩
  have h32:(aT t.1.b).length=32:=by rw[aA,t.1.h]
  have B5:=vv hq (hits▸ht)
  have hoi:=sy (l:=tx) hq j
  rw[←hits]at hoi
  have htk:its.take (j+1)=its.take j++[t]:=by
   obtain⟨h1,rfl⟩:=List.getElem?_eq_some_iff.1 ht
   exact List.take_succ_eq_append_getElem h1
  refine aB<|aa<|ae<|aM<|ae<|ah<|hy (fun _=>ck rfl rfl Tryz.underlying80 dO hA_z rfl (by omega))<|hy (fun m=>yV (aP rfl nY dO (bL t) (cm (f:=fK) bL (m.ord 1 rfl) ht)) ((rfl:_=Value.agg (fK t).toArray)))<| ?_
  refine hx (ba jv (fun g10=> ?_))
  refine cF (a7 0 rfl rfl rfl dO (bL t) (gS t) rfl ?_)
  refine ag<|az [10,39,38,8,37,36,6,5,4,0,1] rfl<|aY rfl rfl<|aa<|ae<|ae<| ?_
  obtain⟨hput,hkeep⟩:=yU ht hfj
  rcases hg:bF lj (dg t)with _|x
  ·refine cA [] [(0,some 0),(1,some 0),(2,some 0),(3,some 0),(4,some 0),(5,some 0),(6,some 0),(7,some 0),(8,some 0)] (by kernel_rfl) (by kernel_rfl) rfl 99<|aj (ai rfl)<|aj (aL rfl)<|aj (ax rfl oI (by decide))<|bV (fun m=>ak rfl wj (ar (m.aN 4 rfl) rfl))<|aj (ax rfl gW (by decide))<|bV (fun m=>yV (aP rfl cB b7 h32 (fun j u hu=>(m.aN 0 rfl).aw j u (gR hu))) ((rfl:Value.agg (aT t.1.b).toArray=DK (dg t))))<|bV (fun m=>yV (gn (enc:=DK) (k:=(dg t)) rfl rfl Tryz.underlying265 mG (sf rfl Tryz.underlying53 Tryz.underlying5 (by kernel_rfl) (by kernel_rfl) (by kernel_rfl)) (m.mr 1 rfl)) ((show ff false _ (bF (yb lj) (dg t))=xX (0,0,0) by rw[oZ,hg];rfl)))<|aj (yV (ej mG rfl (by kernel_rfl)) ((rfl:_=xX (0,0,0))))<|aj ((zW (a:=(0,0,0)) rfl rfl (by decide) (by decide) (by decide)))<|bp<|az [50,10,39,38,8,37,36,6,5,4,0,1] rfl<|aa<| ?_
   refine fx rfl ((decide_eq_true ⟨rfl,rfl,rfl⟩)) ?_
   refine cA [11] [(0,some 0),(1,some 0),(2,some 0),(3,some 0),(4,some 0),(5,some 0),(6,some 0),(7,some 0),(8,some 0),(9,some 0),(10,some 0),(11,none)] (by kernel_rfl) (by kernel_rfl) rfl 0<|aj (ai rfl)<|aj (aL rfl)<|aj (ax rfl oI (by decide))<|bV (fun m=>ak rfl wj (ar (m.aN 4 rfl) rfl))<|aj (ax rfl gW (by decide))<|bV (fun m=>yV (aP rfl cB b7 h32 (fun j u hu=>(m.aN 0 rfl).aw j u (gR hu))) ((rfl:Value.agg (aT t.1.b).toArray=DK (dg t))))<|aj (ai rfl)<|aj (ai rfl)<|aj (ax rfl gx (by decide))<|bV (fun m=>ak rfl cY ((m.aN 0 rfl).aw 32 _ (kr t)))<|aj (yV (b6 mG rfl rfl (by kernel_rfl) (.cons (o:=0) (sz:=1) (by kernel_rfl) rfl rfl (Nat.le_of_ble_eq_true rfl) (.cons (o:=1) (sz:=1) (by kernel_rfl) rfl rfl (Nat.le_of_ble_eq_true rfl) (.cons (o:=2) (sz:=1) (by kernel_rfl) rfl rfl (Nat.le_of_ble_eq_true rfl) .nil)))) ((rfl:_=xX (rs.length,j1 its j,t.2))))<| ?_
   refine gi (pd (enc:=DK) (k:=(dg t)) 1 rfl rfl rfl rfl Tryz.underlying265 (sf rfl Tryz.underlying53 Tryz.underlying5 (by kernel_rfl) (by kernel_rfl) (by kernel_rfl)) ⟨(fun h=>absurd h (by decide)), ?_⟩)
   refine bp<|az [50,10,39,38,8,37,36,6,5,4,0,1] rfl<|aY rfl rfl<|aa<| ?_
   refine a8 (fun w m=>m.bw 0 rfl (show _=dC DK gm (yb (cC lj (dg t) (rs.length,j1 its j,t.2)))from congrArg (dC DK gm) (wU _ _ _))) ?_
   have hoj:=sy (l:=tx) hq (j+1)
   refine ah<|au rfl<|hy (fun _=>ax rfl gx (by decide))<|hy (fun m=>ak rfl cY ((m.aN 1 rfl).aw 32 _ (kr t)))<|hy (fun _=>yV (aO rfl rfl (bE (by omega) (by omega))) ((show Value.int .i64 (j1 its j+t.2)= .int .i64 (j1 its (j+1)) by rw[qH ht])))<|aG rfl<|ag<|az [8,50,10,39,38,37,36,6,5,4,0,1] rfl<|aW<|aa<|ah<|hy (fun _=>aO rfl rfl (bE (by omega) (by omega)))<|au rfl<|ag<|az [38,8,50,10,39,37,36,6,5,4,0,1] rfl<| ?_
   have hnew:∀(nm:Dg) x,bF (cC lj (dg t) (rs.length,j1 its j,t.2)) nm=some x→HG x:=fun nm x h=>by
    rw[kS]at h
    split at h
    ·cases h;exact⟨by show rs.length≤_;omega,hoi.1,by show j1 its j≤_;omega,B5.1,by show t.2≤_;omega⟩
    ·exact hoj0 nm x h
   refine hC (j+1) (cC lj (dg t) (rs.length,j1 its j,t.2)) ⟨rfl,rfl,rfl,rfl,rfl,rfl,rfl,rfl,rfl,trivial⟩ [0,1,1,1,1,1] rfl [0,1] rfl (⟨by omega,hput hg,hnew⟩) (by omega)
  ·have hx:=hoj0 _ _ hg
   have cF:=hx.s0
   refine cA [] [(0,some 0),(1,some 0),(2,some 0),(3,some 0),(4,some 0),(5,some 0),(6,some 0),(7,some 0),(8,some 0)] (by kernel_rfl) (by kernel_rfl) rfl 99<|aj (ai rfl)<|aj (aL rfl)<|aj (ax rfl oI (by decide))<|bV (fun m=>ak rfl wj (ar (m.aN 4 rfl) rfl))<|aj (ax rfl gW (by decide))<|bV (fun m=>yV (aP rfl cB b7 h32 (fun j u hu=>(m.aN 0 rfl).aw j u (gR hu))) ((rfl:Value.agg (aT t.1.b).toArray=DK (dg t))))<|bV (fun m=>yV (gn (enc:=DK) (k:=(dg t)) rfl rfl Tryz.underlying265 mG (sf rfl Tryz.underlying53 Tryz.underlying5 (by kernel_rfl) (by kernel_rfl) (by kernel_rfl)) (m.mr 1 rfl)) ((show ff false _ (bF (yb lj) (dg t))=xX x by rw[oZ,hg];rfl)))<|aj (yV (ej mG rfl (by kernel_rfl)) ((rfl:_=xX (0,0,0))))<|aj ((zW (a:=x) rfl rfl hx.i ⟨hx.o0,hx.o1⟩ ⟨by omega,hx.s1⟩))<|bp<|az [50,10,39,38,8,37,36,6,5,4,0,1] rfl<|aa<| ?_
   refine dm rfl ((decide_eq_false (fun h=>by have:=h.2.2;omega))) ?_
   have hoj:=sy (l:=tx) hq (j+1)
   refine aB<|aa<|ah<|au rfl<|hy (fun _=>ax rfl gx (by decide))<|hy (fun m=>ak rfl cY ((m.aN 0 rfl).aw 32 _ (kr t)))<|hy (fun _=>yV (aO rfl rfl (bE (by omega) (by omega))) ((show Value.int .i64 (j1 its j+t.2)= .int .i64 (j1 its (j+1)) by rw[qH ht])))<|aG rfl<|ag<|az [8,50,10,39,38,37,36,6,5,4,0,1] rfl<|aW<|aa<|ah<|hy (fun _=>aO rfl rfl (bE (by omega) (by omega)))<|au rfl<|ag<|az [38,8,50,10,39,37,36,6,5,4,0,1] rfl<| ?_
   refine hC (j+1) lj ⟨rfl,rfl,rfl,rfl,rfl,rfl,rfl,rfl,rfl,trivial⟩ [1,1,1,1,1,1] rfl [0,1] rfl (⟨by omega,hkeep (by rw[hg];rfl),hoj0⟩) (by omega)
 ·obtain rfl:j=its.length:=by omega
  rw[List.take_length]at hfj
  refine bH<|al<|al<|aD<|aa<|ae<|ah<|au rfl<|aG rfl<|ag<|az [4,39,38,8,37,36,6,5,0,1] rfl<|aa<|aR<| ?_
  refine bd (X' :=gA g gm q A_d1 c_d1 (rs++[r]) lj::_) (fun w m=>(m.perm (ao [3,3,0,1] _ [_,_,_,_] _ rfl)).pack) ?_
  have hrl:r.l=tx:=by rw[hr]
  have hfind:∀nm:Dg,bF lj nm=hG q ((rs++[r]).map bh.l) 0 nm.1:=fun nm=>by
   rw[List.map_append,List.map_cons,List.map_nil,hrl,pU,←hits,List.length_map,Nat.zero_add,←hok.find nm]
   exact hfj nm
  have hrows:∀y∈rs++[r],y.n=y.l.length∧y.n≤y.c∧y.n≤100000:=fun y hy=>by
   rcases List.mem_append.1 hy with h|h
   ·exact hok.rows y h
   ·rw[List.mem_singleton.1 h,hr]
    exact⟨hl.symm,by show n≤c_x;omega,hn⟩
  exact bc trivial rfl rfl [0] rfl [] rfl ⟨A_d1,c_d1,r,lj,rfl,rfl,rfl,⟨⟨hfind,hrows,hoj0⟩,hrl⟩⟩
end Go.Proofs.YtmibdabdlgmafaaGreatDoor
end
section
set_option maxRecDepth 20000
set_option maxHeartbeats 2000000
namespace Go.Proofs.YtmibdabdlgmafaaGreatDoor
open Go.Eng Go.Hx
theorem xZ{g gm:Nat}{q:Pn}{A:Option Addr}{c:Nat}{rs:List bh}{l:x8}{nm:Dg}:cf Tryz.prog 196 [.pointer (some ⟨g,0,none⟩),DK nm] [gA g gm q A c rs l] [] (fun v_ X_ S_=>v_=(.tuple #[xX ((bF l nm).getD (0,0,0)),.bool (bF l nm).isSome])∧X_=[gA g gm q A c rs l]∧S_=[]):=by
 refine aK (N:=19) Tryz.func196 rfl rfl (by simp) fun b=> ?_
 refine a8 (fun w m=>(m.perm (ao [0] _ [_] _ rfl)).unpack) ?_
 refine ae<|ah<| ?_
 refine hx (br rfl (fun g3=> ?_))
 refine aH (fun w m=>m.bw 0 rfl (show _=aE g3 53 (aT nm.1)from congrArg (aE _ _) (aV _))) ?_
 obtain⟨x,hxx⟩:∃x,x=(bF l nm).getD (0,0,0):=⟨_,rfl⟩
 rw[←hxx]
 refine hx (ba mG (fun g4=> ?_))
 refine aG rfl<|ag<|aY rfl rfl<|aa<|ae<|cA [9,10] [(0,some 1),(1,some 1),(2,some 1),(3,some 1),(4,some 1),(5,some 1),(6,some 1),(7,some 1),(8,some 2),(9,none),(10,none),(11,some 2)] (by kernel_rfl) (by kernel_rfl) rfl 1<|aj (ai rfl)<|aj (aL rfl)<|aj (ax rfl oI (by decide))<|bV (fun m=>ak rfl wj (ar (m.aN 2 rfl) rfl))<|bV (fun m=>yV (aP rfl cB b7 (by rw[aA];exact nm.2) ((m.aN 1 rfl).aw)) ((rfl:Value.agg _=DK nm)))<|bV (fun m=>yV (gn (enc:=DK) (k:=nm) rfl rfl Tryz.underlying265 mG (sf rfl Tryz.underlying53 Tryz.underlying5 (by kernel_rfl) (by kernel_rfl) (by kernel_rfl)) (m.mr 4 rfl)) ((show ff true _ (bF (yb l) nm)=Value.tuple #[xX x,.bool (bF l nm).isSome] by rw[oZ,hxx];cases bF l nm <;> rfl)))<|aj (ai rfl)<|aj (aF rfl rfl)<|aj (aF rfl rfl)<| ?_
 refine dk (ba mG (fun g6=>⟨(fun _=>wk [1,1,1,1,1,1] [] rfl rfl), ?_⟩))
 refine gi (a7 0 rfl rfl rfl tR rfl (rr x) rfl ⟨(fun h=>absurd h (by decide)), ?_⟩)
 refine aj (ay rfl)<|bp<|az [7,6,5,4,3,0,1] rfl<|aY rfl rfl<|aa<|ae<|ah<|hy (fun m=>yV (aP rfl y9 tR rfl ((m.aN 0 rfl).aw)) ((rfl:_=xX x)))<|au rfl<| ?_
 refine cF (a7 1 rfl rfl rfl tR rfl (rr x) rfl ?_)
 refine aG rfl<|ag<|az [5,7,6,4,3,0,1] rfl<|aY rfl rfl<|aa<|aR<| ?_
 refine bd (X' :=gA g gm q A c rs l::_) (fun w m=>(m.perm (ao [3,3,3,3] _ [_,_,_,_] _ rfl)).pack) ?_
 exact eo trivial rfl rfl rfl y9 tR rfl (fun m=>(m.aN 1 rfl).aw) [0] rfl [] rfl ⟨rfl,rfl,rfl⟩
end Go.Proofs.YtmibdabdlgmafaaGreatDoor
end
section
set_option maxRecDepth 20000
set_option maxHeartbeats 4000000
namespace Go.Proofs.YtmibdabdlgmafaaGreatDoor
open Go.Eng Go.Hx
def dY(d:RD)(q:Pn)(ts:List (List UInt8))(nm:List UInt8):Int:=if d.fu nm=0 then 1 else if(hG q ts 0 nm).isSome then 2 else 3
def fz(fr:List UInt8→Int)(its:List It):Nat→List It
 |0=>[]
 |i+1=>match its[i]? with
  |some t=>if t.1.b∈(its.take i).map (fun t=>t.1.b)then fz fr its i else fz fr its i++[(t.1,fr t.1.b)]
  |none=>fz fr its i
theorem ou{fr:List UInt8→Int}{its:List It}{i:Nat}{t:It}(h:its[i]? =some t):fz fr its (i+1)=if t.1.b∈(its.take i).map (fun t=>t.1.b)then fz fr its i else fz fr its i++[(t.1,fr t.1.b)]:=by
 rw[fz,h]
theorem pJ{fr:List UInt8→Int}{its:List It}:∀(i:Nat),(fz fr its i).length≤i
 |0=>Nat.le_refl _
 |i+1=>by
  have:=pJ (fr:=fr) (its:=its) i
  rw[fz]
  split
  ·split
   ·omega
   ·rw[List.length_append,List.length_singleton];omega
  ·omega
def lL(fr:List UInt8→Int)(its:List It):List It:=fz fr its its.length
end Go.Proofs.YtmibdabdlgmafaaGreatDoor
end
section
set_option maxRecDepth 20000
set_option maxHeartbeats 4000000
namespace Go.Proofs.YtmibdabdlgmafaaGreatDoor
open Go.Eng Go.Hx
def eR(l:List It)(k:Int):List (List UInt8):=(l.filter fun t=>decide (t.2=k)).map fun t=>t.1.b
theorem tZ{l:List It}{k:Int}{i:Nat}{t:It}(h:l[i]? =some t):eR (l.take (i+1)) k=eR (l.take i) k++(if t.2=k then [t.1.b]else []):=by
 obtain⟨h1,rfl⟩:=List.getElem?_eq_some_iff.1 h
 unfold eR
 rw[List.take_succ_eq_append_getElem h1,List.filter_append,List.map_append]
 congr 1
 by_cases e:(l[i]).2=k
 ·rw[if_pos e];simp only[List.filter_cons,List.filter_nil,e,decide_true,if_true,List.map_cons,List.map_nil]
 ·rw[if_neg e];simp only[List.filter_cons,List.filter_nil,e,decide_false,Bool.false_eq_true,if_false,List.map_nil]
theorem uJ(l:List It)(k:Int):(eR l k).length≤l.length:=by
 unfold eR
 rw[List.length_map]
 exact List.length_filter_le _ _
theorem nk(t:It):(fK t)[32]? =some (Value.int .i64 t.2):=by
 have h:(aT t.1.b).length=32:=by rw[aA,t.1.h]
 rw[fK,List.getElem?_append_right (by omega),h]
 rfl
def fW(d:RD):List It→List UInt8→List UInt8×Int
 | [],out=>(out,0)
 |t::r,out=>if d.fu t.1.b≠0 then([],d.fu t.1.b)else if(((d.ik t.1.b).length:Nat):Int)≠t.2 then([],7)else fW d r (out++d.ik t.1.b)
def eI(d:RD)(u:IX):List UInt8×Int:=
 if(fW d u.its []).2≠0 then([],(fW d u.its []).2)else if bA (fW d u.its []).1≠u.img.b then([],7)else((fW d u.its []).1,0)
theorem qI{x:RX}{kk:Nat}{u:IX}(ok:yJ x.d kk)(hkk:kk≤100000)(hrd:∀p,(x.d.cJ p).length≤10000000)(hgb:∀nm,(x.d.ik nm).length≤10000000)(hu:u.its.length≤100000):cf Tryz.prog 54 [.agg x.cs.toArray,.agg u.cs.toArray] [] [eg x,cz 33 u.A u.its.length (fe u.its),dF] (fun v_ X_ S_=>v_=(.tuple #[.string (strOf (eI x.d u).1),.int .i64 (eI x.d u).2])∧X_=[]∧S_=[]):=by
 have himg:(aT u.img.b).length=32:=by rw[aA,u.img.h]
 refine aK (N:=50) Tryz.func54 rfl rfl (by simp) fun b=> ?_
 refine aQ (fun m=>eU (m.rd 1 rfl)) ?_
 rintro⟨hl_it,hA_it⟩
 refine ae<|ah<| ?_
 refine hx (br rfl (fun g2=> ?_))
 refine aH (fun w m=>m.bw 0 rfl (show _=aE g2 39 x.cs from congrArg (aE _ _) (aV _))) ?_
 refine hx (br rfl (fun g3=> ?_))
 refine aH (fun w m=>m.bw 0 rfl (show _=aE g3 82 u.cs from congrArg (aE _ _) (aV _))) ?_
 refine aG rfl<|aG rfl<|ag<|aY rfl rfl<|aa<|ae<|ah<|aG rfl<|ag<|aa<|ae<|ae<|ah<|aG rfl<|ag<|aa<|aM<| ?_
 refine kv (fun i out=>u.its.length-i) (fun i out=>[(7,.int .i64 (i:Nat)),(6,.string (strOf out))]) (fun i out=>[]) (fun i out=>[]) (fun i out=>i≤u.its.length∧out.length≤i*10000000∧fW x.d (u.its.drop i) out=fW x.d u.its []) 0 [] [(3,_),(2,_),(0,_),(1,_)] ⟨rfl,rfl,rfl,rfl,trivial⟩ [] rfl [] rfl (⟨Nat.zero_le _,Nat.zero_le _,rfl⟩) ⟨rfl,rfl,trivial⟩ (fun i out ⟨hi,hol,hf⟩=> ?_)
 refine ae<|ae<|ah<|au rfl<|hy (fun _=>ax rfl dE (by decide))<|hy (fun m=>ak rfl gD (ar (m.aN 0 rfl) (i:=35) u.ko))<|hy (fun _=>a6 rfl Tryz.underlying80)<|hy (fun _=>bx rfl rfl)<|ag<|az [14,7,6,3,2,0,1] rfl<|aa<| ?_
 refine cu rfl (fun hlt=> ?_) (fun hlt=> ?_)
 ·obtain⟨t,ht⟩:∃t,u.its[i]? =some t:=⟨_,List.getElem?_eq_getElem (by omega)⟩
  have h32:(aT t.1.b).length=32:=by rw[aA,t.1.h]
  have hdt:u.its.drop i=t::u.its.drop (i+1):=by
   obtain⟨h1,rfl⟩:=List.getElem?_eq_some_iff.1 ht
   exact List.drop_eq_getElem_cons h1
  have hgl:=hgb t.1.b
  rw[hdt,fW]at hf
  refine aB<|aa<|ae<|aM<|ae<|cA [7] [(0,some 0),(1,some 1),(2,some 0),(3,some 0),(4,some 0),(5,some 0),(6,some 0),(7,none),(8,some 1),(9,some 1),(10,some 1),(11,some 1),(12,some 1)] (by kernel_rfl) (by kernel_rfl) rfl 99<|bV (fun m=>yV (aP rfl cK bT rfl ((m.aN 1 rfl).aw)) ((rfl:_=Value.agg x.cs.toArray)))<|aj (ax rfl dE (by decide))<|bV (fun m=>ak rfl gD (ar (m.aN 0 rfl) (i:=35) u.ko))<|aj (ai rfl)<|aj (ck rfl rfl Tryz.underlying80 dO hA_it rfl (by omega))<|aj (ax rfl gW (by decide))<|bV (fun m=>aP rfl cB b7 h32 (Ei (m.rd 1 rfl) ht))<| ?_
  refine dk (an rfl Tryz.call74 (Dp ok hkk t.1.h (hrd _)) [] rfl [0,2] rfl ?_)
  rintro _ _ _ ⟨rfl,rfl,rfl⟩
  refine⟨(fun _=>wk [0,0] [0,1,2] rfl rfl), ?_⟩
  refine aj (ai rfl)<|aj (aF rfl rfl)<|aj (aF rfl rfl)<|aj (ay rfl)<|aj (ay rfl)<|bp<|az [9,8,14,7,6,3,2,0,1] rfl<|aY rfl rfl<|aa<|ae<|ae<|ah<|au rfl<|hy (fun _=>de rfl rfl)<|ag<|az [29,9,8,14,7,6,3,2,0,1] rfl<|aa<| ?_
  refine cu rfl (fun he=> ?_) (fun he=> ?_)
  ·rw[if_pos he]at hf
   have hb:eI x.d u=([],x.d.fu t.1.b):=by unfold eI;rw[←hf,if_pos (by exact he)]
   rw[hb]
   refine ae<|ah<|au rfl<|aG rfl<|aG rfl<|ag<|az [5,4,29,9,8,14,7,6,3,2,0,1] rfl<|aa<|aR<|aq<|aU<|aq<|aq<|aU<|aq<| ?_
   exact cQ trivial rfl rfl rfl [] rfl [] rfl ⟨rfl,rfl,rfl⟩
  ·rw[if_neg he]at hf
   refine aB<|aa<|ae<|ae<|ah<|au rfl<|hy (fun _=>fa rfl Tryz.underlying9)<|hy (fun _=>ax rfl dE (by decide))<|hy (fun m=>ak rfl gD (ar (m.aN 0 rfl) (i:=35) u.ko))<|au rfl<|hy (fun _=>ck rfl rfl Tryz.underlying80 dO hA_it rfl (by omega))<|hy (fun _=>ax rfl gx (by decide))<|hy (fun m=>ak rfl cY (cm (f:=fK) bL (m.rd 1 rfl) ht 32 _ (nk t)))<|hy (fun _=>de rfl rfl)<|ag<|az [39,29,9,8,14,7,6,3,2,0,1] rfl<|aa<| ?_
   refine cu rfl (fun hs=> ?_) (fun hs=> ?_)
   ·have hs:(((x.d.ik t.1.b).length:Nat):Int)≠t.2:=by rw[da]at hs;exact hs
    rw[if_pos hs]at hf
    have hb:eI x.d u=([],7):=by unfold eI;rw[←hf,if_pos (by decide)]
    rw[hb]
    refine ae<|ah<|aG rfl<|aG rfl<|ag<|aa<|aR<|aq<|aU<|aq<|aq<|aU<|aq<| ?_
    exact cQ trivial rfl rfl rfl [] rfl [] rfl ⟨rfl,rfl,rfl⟩
   ·have hs:¬(((x.d.ik t.1.b).length:Nat):Int)≠t.2:=by rw[da]at hs;exact hs
    rw[if_neg hs]at hf
    refine aB<|aa<|ah<|au rfl<|au rfl<|hy (fun _=>yV (iB rfl rfl (by rw[da,da];omega)) ((show Value.string (strOf out++strOf (x.d.ik t.1.b))= .string (strOf (out++x.d.ik t.1.b))from by rw[cX])))<|aG rfl<|ag<|az [6,39,29,9,8,14,7,3,2,0,1] rfl<|aW<|aa<|ah<|au rfl<|hy (fun _=>aO rfl rfl (bE (by omega) (by omega)))<|aG rfl<|ag<|az [7,6,39,29,9,8,14,3,2,0,1] rfl<| ?_
    refine hC (i+1) (out++x.d.ik t.1.b) ⟨rfl,rfl,rfl,rfl,rfl,rfl,trivial⟩ [0,0] rfl [0,1,2] rfl (⟨by omega,by rw[List.length_append];omega,hf⟩) (by omega)
 ·obtain rfl:i=u.its.length:=by omega
  rw[List.drop_length,fW]at hf
  have hbl:eI x.d u=if bA out≠u.img.b then([],7)else(out,0):=by unfold eI;rw[←hf,if_neg (fun h=>h rfl)]
  rw[hbl]
  refine bH<|al<|al<|aD<|aa<|ae<|ae<|cA [1,2] [(0,some 0),(3,some 2),(4,some 2),(1,none),(2,none),(5,some 2)] (by kernel_rfl) (by kernel_rfl) rfl 99<|aj (ai rfl)<|aj (ax rfl o5 (by decide))<|bV (fun m=>aP rfl cB b7 himg (oQ (a:=[Value.int .i64 u.mn,.int .i64 u.av,.int .i64 u.mx]) (c:=[.slice u.A u.its.length u.c]) (m.aN 0 rfl)))<| ?_
  refine dk (yh rfl Tryz.underlying9 Tryz.underlying27 Tryz.underlying5 (show out.length≤maxLen by unfold maxLen;omega) (fun v44=>⟨(fun _=>wk [1,1] [0,1,2] rfl rfl), ?_⟩))
  refine bU (fun m=>(m.own 0 rfl).slice) ?_
  rintro⟨A_b44,c_b44,rfl,hc_b44⟩
  refine bU (fun m=>(m.ord 0 rfl).2.1) fun hA_b44=> ?_
  rw[qi]
  refine dk (cS rfl Tryz.call56 (jq (by omega) (l:=out)) [] rfl (.x 0 rfl .own .nil) ?_)
  rintro _ _ _ ⟨rfl,rfl,rfl⟩
  refine⟨rfl, ?_⟩
  refine⟨(fun _=>wk [1,1] [0,1,2] rfl rfl), ?_⟩
  refine aj (oR rfl rfl (bq _) u.img.h)<|bp<|az [48,14,7,6,3,2,0,1] rfl<|aY rfl rfl<|aa<| ?_
  refine cu rfl (fun hi2=> ?_) (fun hi2=> ?_)
  ·rw[if_pos hi2]
   refine ae<|ah<|aG rfl<|aG rfl<|ag<|aa<|aR<|aq<| ?_
   exact cQ trivial rfl rfl rfl [] rfl [] rfl ⟨rfl,rfl,rfl⟩
  ·rw[if_neg hi2]
   refine aB<|aa<|ae<|ah<|au rfl<|aG rfl<|aG rfl<|ag<|az [5,4,48,14,7,6,3,2,0,1] rfl<|aa<|aR<| ?_
   exact cQ trivial rfl rfl rfl [] rfl [] rfl ⟨rfl,rfl,rfl⟩
end Go.Proofs.YtmibdabdlgmafaaGreatDoor
end
section
set_option maxRecDepth 20000
set_option maxHeartbeats 2000000
namespace Go.Proofs.YtmibdabdlgmafaaGreatDoor
open Go.Eng Go.Hx
theorem ql{ds:List (List UInt8)}{i:Nat}(hi:i<ds.length)(nm:List UInt8):nm∈ds.take (i+1)↔nm∈ds.take i∨nm=ds.getD i []:=by
 rw[List.take_succ_eq_append_getElem hi,List.mem_append,List.mem_singleton,List.getD,List.getElem?_eq_getElem hi]
 rfl
theorem Gv{A:Option Addr}{n c:Nat}{nm:List UInt8}{ds:List (List UInt8)}(hm:nm.length=32)(hD:G9 ds)(hl:ds.length=n)(hn:n≤1000000):cf Tryz.prog 195 [.slice A n c,.agg (aT nm).toArray] [] [cz 32 A n (dc ds)] (fun v_ X_ S_=>∃z,v_=(.int .i64 z)∧X_=[]∧S_=[]∧(0≤z↔nm∈ds)):=by
 have h32:(aT nm).length=32:=by rw[aA,hm]
 refine aK (N:=19) Tryz.func195 rfl rfl (by simp) fun b=> ?_
 refine aQ (fun m=>eU (m.rd 0 rfl)) ?_
 rintro⟨hl_r,hA_r⟩
 refine ae<|ah<| ?_
 refine hx (br rfl (fun g3=> ?_))
 refine aH (fun w m=>m.bw 0 rfl (show _=aE g3 53 (aT nm)from congrArg (aE _ _) (aV _))) ?_
 refine aG rfl<|ag<|aY rfl rfl<|aa<|ae<|ae<|ah<|au rfl<|hy (fun _=>a6 rfl Tryz.underlying33)<|au rfl<|ag<|az [8,7,4,3,0,1] rfl<|aa<|aM<| ?_
 refine dD (fun i=>n-i) (fun i=>[(8,.int .i64 (i:Nat))]) (fun i=>[]) (fun i=>[]) (fun i=>i≤n∧¬nm∈ds.take i) 0 [(7,_),(3,_),(0,_),(1,_)] ⟨rfl,rfl,rfl,rfl,trivial⟩ [] rfl [] rfl (⟨Nat.zero_le _,by simp⟩) ⟨rfl,trivial⟩ (fun i ⟨hi,hno⟩=> ?_)
 refine ae<|ah<|hy (fun _=>bx rfl rfl)<|ag<|aa<|ae<| ?_
 refine cu rfl (fun hlt=> ?_) (fun hlt=> ?_)
 ·have hil:i<ds.length:=by omega
  have hdl:=BD hD hil
  have hmt:=ql hil nm
  refine aB<|aa<|ae<|aM<|ae<|ah<|au rfl<|aG rfl<|ag<|az [5,9,8,7,3,0,1] rfl<|aa<|ae<|cA [] [(0,some 0),(1,some 0),(2,some 0),(3,some 0),(4,some 0),(5,some 0)] (by kernel_rfl) (by kernel_rfl) rfl 99<|bV (fun m=>aP rfl cB b7 h32 ((m.aN 0 rfl).aw))<|aj (ai rfl)<|aj (ai rfl)<|aj (ck rfl rfl Tryz.underlying33 b7 hA_r rfl (by omega))<|bV (fun m=>aP rfl cB b7 (by rw[aA];exact hdl) ((m.rd 0 rfl).Eu hD hil))<|aj (CD rfl rfl hm hdl)<|bp<|az [16,5,9,8,7,3,0,1] rfl<|aa<| ?_
  refine cu rfl (fun he=> ?_) (fun he=> ?_)
  ·refine ae<|ah<|au rfl<|aG rfl<|ag<|az [4,16,5,9,8,7,3,0,1] rfl<|aa<|aR<|aU<|aq<|aq<|aU<|aq<| ?_
   exact bc trivial rfl rfl [] rfl [] rfl ⟨((i:Nat):Int),rfl,rfl,rfl,⟨fun _=>by rw[he,List.getD,List.getElem?_eq_getElem hil];exact List.getElem_mem ..,fun _=>by omega⟩⟩
  ·refine aB<|aW<|aa<|ah<|hy (fun _=>aO rfl rfl (bE (by omega) (by omega)))<|au rfl<|ag<|az [8,16,5,9,7,3,0,1] rfl<| ?_
   refine cH (i+1) ⟨rfl,rfl,rfl,rfl,rfl,trivial⟩ [0] rfl [0] rfl (⟨by omega,fun h=>(hmt.1 h).elim hno he⟩) (by omega)
 ·obtain rfl:i=n:=by omega
  rw[←hl,List.take_length]at hno
  refine bH<|al<|al<|aD<|aa<|ae<|ah<|aG rfl<|ag<|aa<|aR<| ?_
  exact bc trivial rfl rfl [] rfl [] rfl ⟨(-1:Int),rfl,rfl,rfl,⟨fun h=>absurd h (by decide),fun h=>absurd h hno⟩⟩
theorem DE{A:Option Addr}{n c:Nat}{nm:List UInt8}{ds:List (List UInt8)}(hm:nm.length=32)(hD:G9 ds)(hl:ds.length=n)(hn:n≤1000000):cf Tryz.prog 130 [.slice A n c,.agg (aT nm).toArray] [] [cz 32 A n (dc ds)] (fun v_ X_ S_=>v_=(.bool (decide (nm∈ds)))∧X_=[]∧S_=[]):=by
 have h32:(aT nm).length=32:=by rw[aA,hm]
 refine aK (N:=9) Tryz.func130 rfl rfl (by simp) fun b=> ?_
 refine aQ (fun m=>eU (m.rd 0 rfl)) ?_
 rintro⟨hl_r,hA_r⟩
 refine ae<|ah<| ?_
 refine hx (br rfl (fun g3=> ?_))
 refine aH (fun w m=>m.bw 0 rfl (show _=aE g3 53 (aT nm)from congrArg (aE _ _) (aV _))) ?_
 refine aG rfl<|ag<|aY rfl rfl<|aa<|ae<|ah<|au rfl<|hy (fun m=>aP rfl cB b7 h32 ((m.aN 0 rfl).aw))<| ?_
 refine hx (an rfl Tryz.call195 (Gv hm hD hl hn) [] rfl [0] rfl ?_)
 rintro _ _ _ ⟨z,rfl,rfl,rfl,hz⟩
 rw[←decide_eq_decide.2 hz]
 refine hy (fun _=>eO rfl rfl)<|aG rfl<|ag<|az [4,3,0,1] rfl<|aY rfl rfl<|aa<|aR<| ?_
 exact bc trivial rfl rfl [] rfl [] rfl ⟨rfl,rfl,rfl⟩
theorem DW{g gs gm kk:Nat}{st:cU}{d:RD}{q:Pn}{A:Option Addr}{c:Nat}{rs:List bh}{l:x8}{nm:Dg}(hD:DS st d kk)(hok:jc q rs l):cf Tryz.prog 133 [.pointer (some ⟨g,0,none⟩),DK nm,.pointer (some ⟨gs,0,none⟩)] [bG g st,gA gs gm q A c rs l] [dF] (fun v_ X_ S_=>v_=(.int .i64 (dY d q (rs.map bh.l) nm.1))∧X_=[bG g st,gA gs gm q A c rs l]∧S_=[]):=by
 have h32:(aT nm.1).length=32:=by rw[aA];exact nm.2
 have hfn:=hok.find nm
 refine aK (N:=19) Tryz.func133 rfl rfl (by simp) fun b=> ?_
 refine ae<|ah<| ?_
 refine hx (br rfl (fun g4=> ?_))
 refine aH (fun w m=>m.bw 0 rfl (show _=aE g4 53 (aT nm.1)from congrArg (aE _ _) (aV _))) ?_
 refine aG rfl<|ag<|aY rfl rfl<|aa<|ae<|ae<|ah<|au rfl<|hy (fun m=>aP rfl cB b7 h32 ((m.aN 0 rfl).aw))<| ?_
 refine hx (an rfl Tryz.call145 (Hw hD nm.2) [1] rfl [0] rfl ?_)
 rintro _ _ _ ⟨rfl,rfl,rfl⟩
 refine ag<|az [11,6,4,0,1,2] rfl<|aY rfl rfl<|aa<| ?_
 refine cu rfl (fun he=> ?_) (fun he=> ?_)
 ·have hfr:dY d q (rs.map bh.l) nm.1=1:=by unfold dY;rw[if_pos he]
  rw[hfr]
  refine ae<|ah<|aG rfl<|ag<|aa<|aR<|aq<| ?_
  exact bc trivial rfl rfl [0,1] rfl [] rfl ⟨rfl,rfl,rfl⟩
 ·obtain⟨x,hxx⟩:∃x,x=(bF l nm).getD (0,0,0):=⟨_,rfl⟩
  refine aB<|aa<|ae<|ae<|ah<|au rfl<|hy (fun m=>yV (aP rfl cB b7 h32 ((m.aN 1 rfl).aw)) ((rfl:Value.agg _=DK nm)))<| ?_
  refine hx (an rfl Tryz.call196 (xZ (nm:=nm)) [2] rfl [] rfl ?_)
  rintro _ _ _ ⟨rfl,rfl,rfl⟩
  refine au rfl<|hy (fun _=>aF rfl rfl)<|hy (fun _=>aF rfl rfl)<| ?_
  refine hx (ba mG (fun g7=> ?_))
  rw[←hxx]
  refine cF (a7 0 rfl rfl rfl tR rfl (rr x) rfl ?_)
  refine aG rfl<|ag<|az [8,11,6,4,0,1,2] rfl<|aY rfl rfl<|aa<|ae<|ah<|au rfl<|ag<|aa<| ?_
  refine ES rfl (fun hs=> ?_) (fun hs=> ?_)
  ·have hfr:dY d q (rs.map bh.l) nm.1=2:=by unfold dY;rw[if_neg he,←hfn,if_pos hs]
   rw[hfr]
   refine ae<|ah<|aG rfl<|ag<|aa<|aR<|aq<| ?_
   exact bc trivial rfl rfl [2,1] rfl [] rfl ⟨rfl,rfl,rfl⟩
  ·have hfr:dY d q (rs.map bh.l) nm.1=3:=by unfold dY;rw[if_neg he,←hfn,hs];rfl
   rw[hfr]
   refine aB<|aa<|ae<|ah<|aG rfl<|ag<|aa<|aR<| ?_
   exact bc trivial rfl rfl [2,1] rfl [] rfl ⟨rfl,rfl,rfl⟩
def ec(ds:List (List UInt8))(nm:List UInt8):List (List UInt8):=if nm∈ds then ds else ds++[nm]
theorem sT{ds:List (List UInt8)}{nm x:List UInt8}:x∈ec ds nm↔x∈ds∨x=nm:=by
 unfold ec
 split
 ·next h=>exact⟨.inl,fun h1=>h1.elim id (fun e=>e▸h)⟩
 ·rw[List.mem_append,List.mem_singleton]
theorem tk(ds:List (List UInt8))(nm:List UInt8):(ec ds nm).length≤ds.length+1:=by
 unfold ec
 split
 ·omega
 ·simp
theorem EX{gq:Nat}{A:Option Addr}{n c:Nat}{t:It}{ds:List (List UInt8)}(hD:G9 ds)(hl:ds.length=n)(hn:n≤100000):cf Tryz.prog 129 [.agg (fK t).toArray,.pointer (some ⟨gq,0,none⟩)] [aE gq 33 [.slice A n c],aI 53 32 (.slice A n c) n (dc ds)] [] (fun v_ X_ S_=>∃A1 n1 c1,v_=(.bool (decide (¬t.1.b∈ds)))∧X_=[aE gq 33 [.slice A1 n1 c1],aI 53 32 (.slice A1 n1 c1) n1 (dc (ec ds t.1.b))]∧S_=[]∧(n1=(ec ds t.1.b).length)):=by
 have h32:(aT t.1.b).length=32:=by rw[aA,t.1.h]
 refine aK (N:=13) Tryz.func129 rfl rfl (by simp) fun b=> ?_
 refine ae<|ah<| ?_
 refine hx (br rfl (fun g2=> ?_))
 refine aH (fun w m=>m.bw 0 rfl (show _=aE g2 100 (fK t)from congrArg (aE _ _) (aV _))) ?_
 refine aG rfl<|ag<|aY rfl rfl<|aa<|ae<|ae<|ah<|hy (fun m=>ak rfl FT (ar (m.aN 1 rfl) rfl))<|hy (fun _=>ax rfl gW (by decide))<|hy (fun m=>aP rfl cB b7 h32 (fun j u hu=>(m.aN 0 rfl).aw j u (gR hu)))<| ?_
 refine hx (cS rfl Tryz.call130 (DE t.1.h hD hl (by omega)) [] rfl (.x 2 rfl .own .nil) ?_)
 rintro _ _ _ ⟨rfl,rfl,rfl⟩
 refine⟨rfl, ?_⟩
 refine ag<|az [7,3,2,0,1] rfl<|aY rfl rfl<|aa<| ?_
 refine cu rfl (fun hin=> ?_) (fun hin=> ?_)
 ·have hsp:ec ds t.1.b=ds:=by unfold ec;rw[if_pos hin]
  rw[decide_eq_false (not_not_intro hin),hsp]
  refine ae<|ah<|aG rfl<|ag<|aa<|aR<|aq<| ?_
  exact bc trivial rfl rfl [1,1] rfl [] rfl ⟨A,n,c,rfl,rfl,rfl,hl.symm⟩
 ·have hsp:ec ds t.1.b=ds++[t.1.b]:=by unfold ec;rw[if_neg hin]
  rw[decide_eq_true hin,hsp]
  refine aB<|aa<|ae<|ah<|hy (fun m=>ak rfl FT (ar (m.aN 1 rfl) rfl))<|hy (fun _=>ax rfl gW (by decide))<|hy (fun m=>aP rfl cB b7 h32 (fun j u hu=>(m.aN 0 rfl).aw j u (gR hu)))<| ?_
  refine hx (b5 Tryz.underlying33 fw rfl rfl rfl (by simpa[Value.cells,B8]using h32) (by decide) (by decide) (fun g11=> ?_))
  have hA_b11:0<1→(some (⟨g11,0,none⟩:Addr))≠none:=fun _ h=>by cases h
  refine aH (fun w m=>m.bw 0 rfl (show _=aI 53 32 (.slice (some ⟨g11,0,none⟩) 1 1) 1 (dc [t.1.b])from rfl)) ?_
  refine hx (bC 3 rfl rfl rfl Tryz.underlying33 Tryz.underlying33 (by exact .inl rfl) fw rfl (fun m=>Src.b9 (m.ord 0 rfl)) pz (by unfold maxLen;omega) (by omega) (fun u=> ?_))
  refine aC (fun m=>(m.own 0 rfl).slice) ?_
  rintro⟨A_o,c_o,rfl,hc_o⟩
  refine aC (fun m=>(m.ord 0 rfl).2.1) fun hA_o=> ?_
  refine aH (fun w m=>m.bw 0 rfl (show _=aI 53 32 (.slice A_o (n+1) c_o) (n+1) (dc (ds++[t.1.b]))from congrArg (aI _ _ _ _) (by rw[qT]))) ?_
  refine cF (dw 3 rfl rfl rfl H2 rfl (by first|exact Nat.le_of_ble_eq_true rfl|simp) ?_)
  refine ag<|az [7,3,2,0,1] rfl<|aY rfl rfl<|aa<|ae<|ah<|aG rfl<|ag<|aa<|aR<| ?_
  refine bd (fun w m=>m.bw 0 rfl (show _=aE gq 33 [.slice A_o (n+1) c_o]from rfl)) ?_
  exact bc trivial rfl rfl [0,0] rfl [] rfl ⟨A_o,(n+1),c_o,rfl,rfl,rfl,(by rw[List.length_append,hl];rfl)⟩
theorem DD{g gs gm gd ge kk:Nat}{st:cU}{d:RD}{q:Pn}{A:Option Addr}{c:Nat}{rs:List bh}{l:x8}{t:It}(hD:DS st d kk)(hok:jc q rs l):cf Tryz.prog 132 [.agg (fK t).toArray,.pointer (some ⟨gd,0,none⟩),.pointer (some ⟨ge,0,none⟩)] [bG g st,gA gs gm q A c rs l,aE gd 35 [.pointer (some ⟨g,0,none⟩)],aE ge 83 [.pointer (some ⟨gs,0,none⟩)]] [dF] (fun v_ X_ S_=>v_=(.agg (fK (t.1,dY d q (rs.map bh.l) t.1.b)).toArray)∧X_=[bG g st,gA gs gm q A c rs l,aE gd 35 [.pointer (some ⟨g,0,none⟩)],aE ge 83 [.pointer (some ⟨gs,0,none⟩)]]∧S_=[]):=by
 have h32:(aT t.1.b).length=32:=by rw[aA,t.1.h]
 refine aK (N:=13) Tryz.func132 rfl rfl (by simp) fun b=> ?_
 refine ae<|ah<| ?_
 refine hx (br rfl (fun g3=> ?_))
 refine aH (fun w m=>m.bw 0 rfl (show _=aE g3 100 (fK t)from congrArg (aE _ _) (aV _))) ?_
 refine hx (ba sR (fun g4=> ?_))
 refine ag<|aY rfl rfl<|aa<|ae<|cA [6,8] [(0,some 1),(1,some 1),(2,some 0),(3,some 0),(4,some 0),(5,some 0),(6,none),(7,some 1),(8,none)] (by kernel_rfl) (by kernel_rfl) rfl 1<|aj (ax rfl gW (by decide))<|bV (fun m=>aP rfl cB b7 h32 (fun j u hu=>(m.aN 1 rfl).aw j u (gR hu)))<|bV (fun m=>ak rfl pj (ar (m.aN 4 rfl) rfl))<|aj (ax rfl gW (by decide))<|bV (fun m=>yV (aP rfl cB b7 h32 (fun j u hu=>(m.aN 1 rfl).aw j u (gR hu))) ((rfl:Value.agg (aT t.1.b).toArray=DK (dg t))))<|bV (fun m=>ak rfl Gr (ar (m.aN 5 rfl) rfl))<| ?_
 refine dk (an rfl Tryz.call133 (DW hD hok (nm:=(dg t))) [2,2] rfl [0] rfl ?_)
 rintro _ _ _ ⟨rfl,rfl,rfl⟩
 refine⟨(fun _=>wk [2,2,0,0,0,0] [0] rfl rfl), ?_⟩
 refine aj (b6 sR rfl rfl (by kernel_rfl) (vZ (t:=(t.1,dY d q (rs.map bh.l) t.1.b)) Bp Cx))<| ?_
 refine gi (a7 2 rfl rfl rfl nO (bL _) (gS _) rfl ⟨(fun h=>absurd h (by decide)), ?_⟩)
 refine bp<|az [4,3,0,1,2] rfl<|aY rfl rfl<|aa<|aR<| ?_
 exact eZ trivial rfl rfl vH nO (bL _) (fun m=>(m.aN 0 rfl).aw) [1,1,2,2] rfl [] rfl ⟨rfl,rfl,rfl⟩
end Go.Proofs.YtmibdabdlgmafaaGreatDoor
end
section
set_option maxRecDepth 20000
set_option maxHeartbeats 2000000
namespace Go.Proofs.YtmibdabdlgmafaaGreatDoor
open Go.Eng Go.Hx
def ll(its:List It):List (List UInt8):=its.foldl (fun ds t=>ec ds t.1.b) []
theorem vm(its:List It)(t:It):ll (its++[t])=ec (ll its) t.1.b:=by simp[ll]
theorem qL(its:List It)(nm:List UInt8):nm∈ll its↔nm∈its.map (fun t=>t.1.b):=by
 have h:∀(its:List It) (ds:List (List UInt8)),nm∈its.foldl (fun ds t=>ec ds t.1.b) ds↔nm∈ds∨nm∈its.map (fun t=>t.1.b):=by
  intro its
  induction its with
  |nil=>intro ds;simp
  |cons t r ih=>
   intro ds
   rw[List.foldl_cons,ih,sT,List.map_cons,List.mem_cons,or_assoc]
 have:=h its []
 simpa[ll]using this
theorem xo(its:List It):G9 (ll its):=fun x hx=>by
 obtain⟨t,_,rfl⟩:=List.mem_map.1 ((qL its x).1 hx)
 exact t.1.h
theorem xk(its:List It):(ll its).length≤its.length:=by
 have h:∀(its:List It) (ds:List (List UInt8)),(its.foldl (fun ds t=>ec ds t.1.b) ds).length≤ds.length+its.length:=by
  intro its
  induction its with
  |nil=>intro ds;simp
  |cons t r ih=>
   intro ds
   rw[List.foldl_cons,List.length_cons]
   have h1:=ih (ec ds t.1.b)
   have h2:=tk ds t.1.b
   omega
 have:=h its []
 simpa[ll]using this
theorem vc{its:List It}{i:Nat}{t:It}(h:its[i]? =some t):its.take (i+1)=its.take i++[t]:=by
 obtain⟨h1,rfl⟩:=List.getElem?_eq_some_iff.1 h
 exact List.take_succ_eq_append_getElem h1
theorem HU{g gs gm gd ge gq kk:Nat}{st:cU}{d:RD}{q:Pn}{A:Option Addr}{c:Nat}{rs:List bh}{l:x8}{I:Option Addr}{n ci:Nat}{its:List It}(hD:DS st d kk)(hok:jc q rs l)(hl:its.length=n)(hn:n≤100000):cf Tryz.prog 131 [.slice I n ci,.func (.func 129) #[] #[.pointer (some ⟨gq,0,none⟩)],.func (.func 132) #[] #[.pointer (some ⟨gd,0,none⟩),.pointer (some ⟨ge,0,none⟩)]] [aE gq 33 [.slice none 0 0],aI 53 32 (.slice none 0 0) 0 (dc []),bG g st,gA gs gm q A c rs l,aE gd 35 [.pointer (some ⟨g,0,none⟩)],aE ge 83 [.pointer (some ⟨gs,0,none⟩)]] [cz 33 I n (fe its),dF] (fun v_ X_ S_=>∃A1 k1 c1,v_=(.slice A1 k1 c1)∧X_=[aI 101 33 (.slice A1 k1 c1) k1 (fe (lL (dY d q (rs.map bh.l)) its)),bG g st,gA gs gm q A c rs l]∧S_=[]∧(k1=(lL (dY d q (rs.map bh.l)) its).length)):=by
 refine aK (N:=27) Tryz.func131 rfl rfl (by simp) fun b=> ?_
 refine aQ (fun m=>eU (m.rd 0 rfl)) ?_
 rintro⟨hl_it,hA_it⟩
 refine ae<|ah<|aG rfl<|ag<|aa<|ae<|ah<|aG rfl<|ag<|aa<|ae<|ae<|ah<|au rfl<|hy (fun _=>a6 rfl Tryz.underlying80)<|au rfl<|ag<|aa<|aM<| ?_
 refine a8 (fun w m=>m.cL (r' :=aI 101 33 (.slice none 0 0) 0 []) (.refl _ _) (Own.nil _ _ _ _) (fun k hk=>hk.elim)) ?_
 refine Ew (fun i A1 k1 c1 A2 n2 c2=>n-i) (fun i A1 k1 c1 A2 n2 c2=>[(12,.int .i64 (i:Nat)),(7,.slice A1 k1 c1)]) (fun i A1 k1 c1 A2 n2 c2=>[aI 101 33 (.slice A1 k1 c1) k1 (fe (fz (dY d q (rs.map bh.l)) its i)),aE gq 33 [.slice A2 n2 c2],aI 53 32 (.slice A2 n2 c2) n2 (dc (ll (its.take i)))]) (fun i A1 k1 c1 A2 n2 c2=>[]) (fun i A1 k1 c1 A2 n2 c2=>i≤n∧k1=(fz (dY d q (rs.map bh.l)) its i).length∧n2=(ll (its.take i)).length) 0 none 0 0 none 0 0 [(11,_),(10,_),(6,_),(0,_),(1,_),(2,_)] ⟨rfl,rfl,rfl,rfl,rfl,rfl,trivial⟩ [0,0,0] rfl [] rfl (⟨Nat.zero_le _,rfl,rfl⟩) ⟨rfl,rfl,trivial⟩ (fun i A1 k1 c1 A2 n2 c2 ⟨hi,hk1,hn2⟩=> ?_)
 refine ae<|ah<|hy (fun _=>bx rfl rfl)<|ag<|aa<|ae<| ?_
 refine cu rfl (fun hlt=> ?_) (fun hlt=> ?_)
 ·obtain⟨t,ht⟩:∃t,its[i]? =some t:=⟨_,List.getElem?_eq_getElem (by omega)⟩
  have hsu:=ou (fr:=dY d q (rs.map bh.l)) ht
  have hsl:=pJ (fr:=dY d q (rs.map bh.l)) (its:=its) i
  have hse:=vm (its.take i) t
  rw[←vc ht]at hse
  have hsm:=qL (its.take i) t.1.b
  have hsn:=xk (its.take i)
  rw[List.length_take]at hsn
  refine aB<|aa<|ae<|aM<|ae<|ah<|hy (fun _=>ck rfl rfl Tryz.underlying80 dO hA_it rfl (by omega))<|hy (fun m=>yV (aP rfl nY dO (bL t) (cm (f:=fK) bL (m.rd 0 rfl) ht)) ((rfl:_=Value.agg (fK t).toArray)))<| ?_
  refine hx (ba jv (fun g9=> ?_))
  refine cF (a7 0 rfl rfl rfl dO (bL t) (gS t) rfl ?_)
  refine ag<|az [9,13,12,7,11,10,6,0,1,2] rfl<|aY rfl rfl<|aa<|ae<|ah<|au rfl<|hy (fun m=>yV (aP rfl nY dO (bL t) ((m.aN 0 rfl).aw)) ((rfl:_=Value.agg (fK t).toArray)))<| ?_
  refine hx (eG rfl rfl Tryz.call129 (EX (xo _) hn2.symm (by omega) (t:=t)) [2,2] rfl [] rfl ?_)
  rintro _ _ _ ⟨A3,n3,c3,rfl,rfl,rfl,hn3⟩
  rw[←hse]at hn3
  rw[←hse]
  refine ag<|az [18,9,13,12,7,11,10,6,0,1,2] rfl<|aY rfl rfl<|aa<| ?_
  refine cu rfl (fun hin=> ?_) (fun hin=> ?_)
  ·rw[if_neg (fun h=>hin (hsm.2 h))]at hsu
   refine ah<|au rfl<|au rfl<|hy (fun m=>yV (aP rfl nY dO (bL t) ((m.aN 2 rfl).aw)) ((rfl:_=Value.agg (fK t).toArray)))<| ?_
   refine hx (eG rfl rfl Tryz.call132 (DD hD hok (t:=t)) [4,4,4,4] rfl [1] rfl ?_)
   rintro _ _ _ ⟨rfl,rfl,rfl⟩
   refine hx (b5 Tryz.underlying78 sR rfl rfl rfl (by intro v hv;rw[List.mem_singleton.1 hv];show(fK (t.1,dY d q (rs.map bh.l) t.1.b)).toArray.size=33;rw[List.size_toArray,bL]) (by decide) (by decide) (fun g23=> ?_))
   have hA_b23:0<1→(some (⟨g23,0,none⟩:Addr))≠none:=fun _ h=>by cases h
   refine aH (fun w m=>m.bw 0 rfl (show _=aI 101 33 (.slice (some ⟨g23,0,none⟩) 1 1) 1 (fe [(t.1,dY d q (rs.map bh.l) t.1.b)])from rfl)) ?_
   refine hx (bC 8 rfl rfl rfl Tryz.underlying78 Tryz.underlying78 (by exact .inl rfl) sR rfl (fun m=>Src.b9 (m.ord 0 rfl)) oJ (by unfold maxLen;omega) (by omega) (fun u=> ?_))
   refine aC (fun m=>(m.own 0 rfl).slice) ?_
   rintro⟨A_z,c_z,rfl,hc_z⟩
   refine aC (fun m=>(m.ord 0 rfl).2.1) fun hA_z=> ?_
   refine aH (fun w m=>m.bw 0 rfl (show _=aI 101 33 (.slice A_z (k1+1) c_z) (k1+1) (fe (fz (dY d q (rs.map bh.l)) its (i+1)))from congrArg (aI _ _ _ _) (by rw[hsu,fY]))) ?_
   refine aG rfl<|ag<|az [7,18,9,13,12,11,10,6,0,1,2] rfl<|aY rfl rfl<|aW<|aa<|ah<|hy (fun _=>aO rfl rfl (bE (by omega) (by omega)))<|au rfl<|ag<|az [12,7,18,9,13,11,10,6,0,1,2] rfl<| ?_
   refine zE (i+1) A_z (k1+1) c_z A3 n3 c3 ⟨rfl,rfl,rfl,rfl,rfl,rfl,rfl,rfl,trivial⟩ [0,5,5,1,1,1,1] rfl [0,1] rfl (⟨by omega,by rw[hsu,List.length_append,hk1];rfl,hn3⟩) (by omega)
  ·rw[if_pos (hsm.1 (Decidable.not_not.1 hin))]at hsu
   rw[←hsu]at hk1
   rw[←hsu]
   refine aB<|aW<|aa<|ah<|hy (fun _=>aO rfl rfl (bE (by omega) (by omega)))<|au rfl<|ag<|az [12,18,9,13,7,11,10,6,0,1,2] rfl<| ?_
   refine zE (i+1) A1 k1 c1 A3 n3 c3 ⟨rfl,rfl,rfl,rfl,rfl,rfl,rfl,rfl,trivial⟩ [3,0,0,1,1,1,1] rfl [0,1] rfl (⟨by omega,hk1,hn3⟩) (by omega)
 ·obtain rfl:i=its.length:=by omega
  refine bH<|al<|al<|aD<|aa<|ae<|ah<|au rfl<|aG rfl<|ag<|az [6,13,12,7,11,10,0,1,2] rfl<|aa<|aR<| ?_
  exact bc trivial rfl rfl [0,2,2] rfl [] rfl ⟨A1,k1,c1,rfl,rfl,rfl,hk1⟩
theorem Fa{g gs gm kk:Nat}{st:cU}{d:RD}{q:Pn}{A:Option Addr}{c:Nat}{rs:List bh}{l:x8}{u:IX}(hD:DS st d kk)(hok:jc q rs l)(hu:u.its.length≤100000):cf Tryz.prog 42 [.pointer (some ⟨g,0,none⟩),.agg u.cs.toArray,.pointer (some ⟨gs,0,none⟩)] [bG g st,gA gs gm q A c rs l] [cz 33 u.A u.its.length (fe u.its),dF] (fun v_ X_ S_=>∃A1 k1 c1,v_=(.slice A1 k1 c1)∧X_=[aI 101 33 (.slice A1 k1 c1) k1 (fe (lL (dY d q (rs.map bh.l)) u.its)),bG g st,gA gs gm q A c rs l]∧S_=[]∧(k1=(lL (dY d q (rs.map bh.l)) u.its).length)):=by
 refine aK (N:=15) Tryz.func42 rfl rfl (by simp) fun b=> ?_
 refine aQ (fun m=>eU (m.rd 0 rfl)) ?_
 rintro⟨hl_it,hA_it⟩
 refine ae<|ah<| ?_
 refine hx (br rfl (fun g3=> ?_))
 refine aH (fun w m=>m.bw 0 rfl (show _=aE g3 35 [.pointer (some ⟨g,0,none⟩)]from rfl)) ?_
 refine hx (br rfl (fun g4=> ?_))
 refine aH (fun w m=>m.bw 0 rfl (show _=aE g4 88 u.cs from congrArg (aE _ _) (aV _))) ?_
 refine hx (br rfl (fun g5=> ?_))
 refine aH (fun w m=>m.bw 0 rfl (show _=aE g5 83 [.pointer (some ⟨gs,0,none⟩)]from rfl)) ?_
 refine aG rfl<|ag<|aY rfl rfl<|aa<|ae<|ah<| ?_
 refine hx (ba HD (fun g7=> ?_))
 refine aH (fun w m=>m.bw 0 rfl (show _=aE g7 33 [.slice none 0 0]from rfl)) ?_
 refine aH (fun w m=>m.cL (r' :=aI 53 32 (.slice none 0 0) 0 []) (.refl _ _) (Own.nil _ _ _ _) (fun k hk=>hk.elim)) ?_
 refine ag<|aY rfl rfl<|aa<|ae<|ah<|hy (fun _=>fD rfl rfl)<|aG rfl<|ag<|az [8,7,6,5,4,3,0,1,2] rfl<|aa<|ae<|ah<|hy (fun _=>ax rfl AN (by decide))<|hy (fun m=>ak rfl gD (ar (m.aN 3 rfl) (i:=35) u.ko))<|au rfl<|hy (fun _=>fD rfl rfl)<| ?_
 refine hx (an rfl Tryz.call131 (HU hD hok rfl hu) [1,0,3,3,2,0] rfl [0,1] rfl ?_)
 rintro _ _ _ ⟨A1,k1,c1,rfl,rfl,rfl,hp⟩
 refine aG rfl<|ag<|az [6,8,7,5,4,3,0,1,2] rfl<|aY rfl rfl<|aa<|aR<| ?_
 exact bc trivial rfl rfl [0,0,0] rfl [] rfl ⟨A1,k1,c1,rfl,rfl,rfl,hp⟩
theorem BH{gf:Nat}{k:Int}{t:It}:cf Tryz.prog 198 [.agg (fK t).toArray,.pointer (some ⟨gf,0,none⟩)] [aE gf 3 [.int .i64 k]] [] (fun v_ X_ S_=>v_=(.bool (decide (t.2=k)))∧X_=[aE gf 3 [.int .i64 k]]∧S_=[]):=by
 refine aK (N:=8) Tryz.func198 rfl rfl (by simp) fun b=> ?_
 refine ae<|ah<| ?_
 refine hx (br rfl (fun g2=> ?_))
 refine aH (fun w m=>m.bw 0 rfl (show _=aE g2 101 (fK t)from congrArg (aE _ _) (aV _))) ?_
 refine aG rfl<|ag<|aY rfl rfl<|aa<|ae<|ah<|hy (fun _=>ax rfl wS (by decide))<|hy (fun m=>ak rfl cY ((m.aN 0 rfl).aw 32 _ (kr t)))<|hy (fun m=>ak rfl cY (ar (m.aN 1 rfl) rfl))<|hy (fun _=>cD rfl rfl)<|aG rfl<|ag<|az [3,2,0,1] rfl<|aa<|aR<| ?_
 exact bc trivial rfl rfl [1] rfl [] rfl ⟨rfl,rfl,rfl⟩
theorem Cz{t:It}:cf Tryz.prog 199 [.agg (fK t).toArray] [] [] (fun v_ X_ S_=>v_=(.agg (aT t.1.b).toArray)∧X_=[]∧S_=[]):=by
 have h32:(aT t.1.b).length=32:=by rw[aA,t.1.h]
 refine aK (N:=5) Tryz.func199 rfl rfl (by simp) fun b=> ?_
 refine ae<|ah<| ?_
 refine hx (br rfl (fun g1=> ?_))
 refine aH (fun w m=>m.bw 0 rfl (show _=aE g1 101 (fK t)from congrArg (aE _ _) (aV _))) ?_
 refine hx (ba fw (fun g2=> ?_))
 refine ag<|aY rfl rfl<|aa<|ae<|ah<|hy (fun _=>ax rfl Bd (by decide))<|hy (fun m=>aP rfl cB b7 h32 (fun j u hu=>(m.aN 1 rfl).aw j u (gR hu)))<| ?_
 refine cF (a7 0 rfl rfl rfl b7 h32 bl rfl ?_)
 refine ag<|az [2,1,0] rfl<|aY rfl rfl<|aa<|aR<| ?_
 exact eZ trivial rfl rfl cB b7 h32 (fun m=>(m.aN 0 rfl).aw) [] rfl [] rfl ⟨rfl,rfl,rfl⟩
theorem FM{gf:Nat}{k:Int}{S:Option Addr}{n cs:Nat}{l:List It}(hl:l.length=n)(hn:n≤100000):cf Tryz.prog 197 [.slice S n cs,.func (.func 198) #[] #[.pointer (some ⟨gf,0,none⟩)],.func (.func 199) #[] #[]] [aE gf 3 [.int .i64 k]] [cz 33 S n (fe l)] (fun v_ X_ S_=>∃A1 k1 c1,v_=(.slice A1 k1 c1)∧X_=[aI 53 32 (.slice A1 k1 c1) k1 (dc (eR l k))]∧S_=[]∧(k1=(eR l k).length)):=by
 refine aK (N:=27) Tryz.func197 rfl rfl (by simp) fun b=> ?_
 refine aQ (fun m=>eU (m.rd 0 rfl)) ?_
 rintro⟨hl_r,hA_r⟩
 refine ae<|ah<|aG rfl<|ag<|aa<|ae<|ah<|aG rfl<|ag<|aa<|ae<|ae<|ah<|au rfl<|hy (fun _=>a6 rfl Tryz.underlying78)<|au rfl<|ag<|aa<|aM<| ?_
 refine a8 (fun w m=>m.cL (r' :=aI 53 32 (.slice none 0 0) 0 []) (.refl _ _) (Own.nil _ _ _ _) (fun k hk=>hk.elim)) ?_
 refine nD (fun i A1 k1 c1=>n-i) (fun i A1 k1 c1=>[(12,.int .i64 (i:Nat)),(7,.slice A1 k1 c1)]) (fun i A1 k1 c1=>[aI 53 32 (.slice A1 k1 c1) k1 (dc (eR (l.take i) k))]) (fun i A1 k1 c1=>[]) (fun i A1 k1 c1=>i≤n∧k1=(eR (l.take i) k).length) 0 none 0 0 [(11,_),(10,_),(6,_),(0,_),(1,_),(2,_)] ⟨rfl,rfl,rfl,rfl,rfl,rfl,trivial⟩ [0] rfl [] rfl (⟨Nat.zero_le _,rfl⟩) ⟨rfl,rfl,trivial⟩ (fun i A1 k1 c1 ⟨hi,hk1⟩=> ?_)
 refine ae<|ah<|hy (fun _=>bx rfl rfl)<|ag<|aa<|ae<| ?_
 refine cu rfl (fun hlt=> ?_) (fun hlt=> ?_)
 ·obtain⟨t,ht⟩:∃t,l[i]? =some t:=⟨_,List.getElem?_eq_getElem (by omega)⟩
  have h32:(aT t.1.b).length=32:=by rw[aA,t.1.h]
  have hsu:=tZ (k:=k) ht
  have hll:(eR (l.take i) k).length≤100000:=Nat.le_trans (uJ _ _) (by rw[List.length_take];omega)
  refine aB<|aa<|ae<|aM<|ae<|ah<|hy (fun _=>ck rfl rfl Tryz.underlying78 nO hA_r rfl (by omega))<|hy (fun m=>yV (aP rfl vH nO (bL t) (cm (f:=fK) bL (m.rd 0 rfl) ht)) ((rfl:_=Value.agg (fK t).toArray)))<| ?_
  refine hx (ba sR (fun g9=> ?_))
  refine cF (a7 0 rfl rfl rfl nO (bL t) (gS t) rfl ?_)
  refine ag<|az [9,13,12,7,11,10,6,0,1,2] rfl<|aY rfl rfl<|aa<|ae<|ah<|au rfl<|hy (fun m=>yV (aP rfl vH nO (bL t) ((m.aN 0 rfl).aw)) ((rfl:_=Value.agg (fK t).toArray)))<| ?_
  refine hx (eG rfl rfl Tryz.call198 (BH (t:=t)) [2] rfl [] rfl ?_)
  rintro _ _ _ ⟨rfl,rfl,rfl⟩
  refine ag<|az [18,9,13,12,7,11,10,6,0,1,2] rfl<|aY rfl rfl<|aa<| ?_
  refine cu rfl (fun h3=> ?_) (fun h3=> ?_)
  ·rw[if_pos h3]at hsu
   refine ah<|au rfl<|au rfl<|hy (fun m=>yV (aP rfl vH nO (bL t) ((m.aN 1 rfl).aw)) ((rfl:_=Value.agg (fK t).toArray)))<| ?_
   refine hx (eG rfl rfl Tryz.call199 (Cz (t:=t)) [] rfl [] rfl ?_)
   rintro _ _ _ ⟨rfl,rfl,rfl⟩
   refine hx (b5 Tryz.underlying33 fw rfl rfl rfl (by simpa[Value.cells,B8]using h32) (by decide) (by decide) (fun g23=> ?_))
   have hA_b23:0<1→(some (⟨g23,0,none⟩:Addr))≠none:=fun _ h=>by cases h
   refine aH (fun w m=>m.bw 0 rfl (show _=aI 53 32 (.slice (some ⟨g23,0,none⟩) 1 1) 1 (dc [t.1.b])from rfl)) ?_
   refine hx (bC 3 rfl rfl rfl Tryz.underlying33 Tryz.underlying33 (by exact .inl rfl) fw rfl (fun m=>Src.b9 (m.ord 0 rfl)) pz (by unfold maxLen;omega) (by omega) (fun u=> ?_))
   refine aC (fun m=>(m.own 0 rfl).slice) ?_
   rintro⟨A_o,c_o,rfl,hc_o⟩
   refine aC (fun m=>(m.ord 0 rfl).2.1) fun hA_o=> ?_
   refine aH (fun w m=>m.bw 0 rfl (show _=aI 53 32 (.slice A_o (k1+1) c_o) (k1+1) (dc (eR (l.take (i+1)) k))from congrArg (aI _ _ _ _) (by rw[hsu,qT]))) ?_
   refine aG rfl<|ag<|az [7,18,9,13,12,11,10,6,0,1,2] rfl<|aY rfl rfl<|aW<|aa<|ah<|hy (fun _=>aO rfl rfl (bE (by omega) (by omega)))<|au rfl<|ag<|az [12,7,18,9,13,11,10,6,0,1,2] rfl<| ?_
   refine kx (i+1) A_o (k1+1) c_o ⟨rfl,rfl,rfl,rfl,rfl,rfl,rfl,rfl,trivial⟩ [0,1] rfl [0] rfl (⟨by omega,by rw[hsu,List.length_append,hk1];rfl⟩) (by omega)
  ·rw[if_neg h3,List.append_nil]at hsu
   rw[←hsu]at hk1
   rw[←hsu]
   refine aB<|aW<|aa<|ah<|hy (fun _=>aO rfl rfl (bE (by omega) (by omega)))<|au rfl<|ag<|az [12,18,9,13,7,11,10,6,0,1,2] rfl<| ?_
   refine kx (i+1) A1 k1 c1 ⟨rfl,rfl,rfl,rfl,rfl,rfl,rfl,rfl,trivial⟩ [2,0] rfl [0] rfl (⟨by omega,hk1⟩) (by omega)
 ·obtain rfl:i=n:=by omega
  have htl:l.take i=l:=by rw[←hl,List.take_length]
  rw[htl]at hk1
  rw[htl]
  refine bH<|al<|al<|aD<|aa<|ae<|ah<|au rfl<|aG rfl<|ag<|az [6,13,12,7,11,10,0,1,2] rfl<|aa<|aR<| ?_
  exact bc trivial rfl rfl [0] rfl [] rfl ⟨A1,k1,c1,rfl,rfl,rfl,hk1⟩
theorem wg{k:Int}{S:Option Addr}{n cs:Nat}{l:List It}(hl:l.length=n)(hn:n≤100000):cf Tryz.prog 135 [.slice S n cs,.int .i64 k] [] [cz 33 S n (fe l)] (fun v_ X_ S_=>∃A1 k1 c1,v_=(.slice A1 k1 c1)∧X_=[aI 53 32 (.slice A1 k1 c1) k1 (dc (eR l k))]∧S_=[]∧(k1=(eR l k).length)):=by
 refine aK (N:=8) Tryz.func135 rfl rfl (by simp) fun b=> ?_
 refine aQ (fun m=>eU (m.rd 0 rfl)) ?_
 rintro⟨hl_r,hA_r⟩
 refine ae<|ah<| ?_
 refine hx (br rfl (fun g3=> ?_))
 refine aH (fun w m=>m.bw 0 rfl (show _=aE g3 3 [.int .i64 k]from rfl)) ?_
 refine aG rfl<|ag<|aY rfl rfl<|aa<|ae<|ah<|au rfl<|hy (fun _=>fD rfl rfl)<| ?_
 refine hx (an rfl Tryz.call197 (FM hl hn) [0] rfl [0] rfl ?_)
 rintro _ _ _ ⟨A1,k1,c1,rfl,rfl,rfl,hp⟩
 refine aG rfl<|ag<|az [4,3,0,1] rfl<|aY rfl rfl<|aa<|aR<| ?_
 exact bc trivial rfl rfl [0] rfl [] rfl ⟨A1,k1,c1,rfl,rfl,rfl,hp⟩
theorem A9{k:Int}{S:Option Addr}{n cs:Nat}{l:List It}(hl:l.length=n)(hn:n≤100000):cf Tryz.prog 48 [.slice S n cs,.int .i64 k] [] [cz 33 S n (fe l)] (fun v_ X_ S_=>v_=(.int .i64 ((eR l k).length:Nat))∧X_=[]∧S_=[]):=by
 refine aK (N:=9) Tryz.func48 rfl rfl (by simp) fun b=> ?_
 refine aQ (fun m=>eU (m.rd 0 rfl)) ?_
 rintro⟨hl_r,hA_r⟩
 refine ae<|ah<|aG rfl<|ag<|aa<|ae<|ah<|au rfl<|au rfl<| ?_
 refine hx (an rfl Tryz.call135 (wg hl hn) [] rfl [0] rfl ?_)
 rintro _ _ _ ⟨A1,k1,c1,rfl,rfl,rfl,hk1⟩
 rw[←hk1]
 refine hy (fun _=>a6 rfl Tryz.underlying33)<|aG rfl<|ag<|az [4,0,1] rfl<|aY rfl rfl<|aa<|aR<| ?_
 exact bc trivial rfl rfl [] rfl [] rfl ⟨rfl,rfl,rfl⟩
theorem Bw{S:Option Addr}{n cs:Nat}{l:List It}(hl:l.length=n)(hn:n≤100000):cf Tryz.prog 46 [.slice S n cs] [] [cz 33 S n (fe l)] (fun v_ X_ S_=>∃A1 k1 c1,v_=(.slice A1 k1 c1)∧X_=[aI 53 32 (.slice A1 k1 c1) k1 (dc (eR l 3))]∧S_=[]∧(k1=(eR l 3).length)):=by
 refine aK (N:=5) Tryz.func46 rfl rfl (by simp) fun b=> ?_
 refine aQ (fun m=>eU (m.rd 0 rfl)) ?_
 rintro⟨hl_r,hA_r⟩
 refine ae<|ah<|aG rfl<|ag<|aa<|ae<|ah<|au rfl<| ?_
 refine hx (an rfl Tryz.call135 (wg hl hn (k:=3)) [] rfl [0] rfl ?_)
 rintro _ _ _ ⟨A1,k1,c1,rfl,rfl,rfl,hk1⟩
 refine aG rfl<|ag<|az [2,0] rfl<|aY rfl rfl<|aa<|aR<| ?_
 exact bc trivial rfl rfl [0] rfl [] rfl ⟨A1,k1,c1,rfl,rfl,rfl,hk1⟩
end Go.Proofs.YtmibdabdlgmafaaGreatDoor
end
section
set_option maxRecDepth 20000
set_option maxHeartbeats 2000000
namespace Go.Proofs.YtmibdabdlgmafaaGreatDoor
open Go.Eng Go.Hx
theorem wG{u:IX}{B:Option Addr}{n c:Nat}{b:List UInt8}(hn:n≤140737488351232):cf Tryz.prog 139 [.agg u.cs.toArray,.slice B n c] [] [cz 1 B n (aT b),dF] (fun v_ X_ S_=>v_=(.int .i64 (if bA b≠u.img.b then 7 else 0))∧X_=[]∧S_=[]):=by
 have himg:(aT u.img.b).length=32:=by rw[aA,u.img.h]
 refine aK (N:=10) Tryz.func139 rfl rfl (by simp) fun b=> ?_
 refine aQ (fun m=>ek (m.rd 0 rfl)) ?_
 rintro⟨hl_r,hA_r⟩
 refine ae<|ah<| ?_
 refine hx (br rfl (fun g2=> ?_))
 refine aH (fun w m=>m.bw 0 rfl (show _=aE g2 88 u.cs from congrArg (aE _ _) (aV _))) ?_
 refine aG rfl<|ag<|aY rfl rfl<|aa<|ae<|ae<|cA [1] [(0,some 0),(2,some 1),(3,some 1),(1,none),(4,some 1)] (by kernel_rfl) (by kernel_rfl) rfl 99<|aj (ai rfl)<|aj (ax rfl DP (by decide))<|bV (fun m=>aP rfl cB b7 himg (oQ (a:=[Value.int .i64 u.mn,.int .i64 u.av,.int .i64 u.mx]) (c:=[.slice u.A u.its.length u.c]) (m.aN 0 rfl)))<| ?_
 refine dk (an rfl Tryz.call102 (oN hn) [] rfl [0,1] rfl ?_)
 rintro _ _ _ ⟨rfl,rfl,rfl⟩
 refine⟨(fun _=>wk [0] [0,1] rfl rfl), ?_⟩
 refine aj (oR rfl rfl (bq _) u.img.h)<|bp<|az [9,4,2,0,1] rfl<|aY rfl rfl<|aa<| ?_
 refine cu rfl (fun hi2=> ?_) (fun hi2=> ?_)
 ·rw[if_pos hi2]
  refine ae<|ah<|aG rfl<|ag<|aa<|aR<|aq<| ?_
  exact bc trivial rfl rfl [] rfl [] rfl ⟨rfl,rfl,rfl⟩
 ·rw[if_neg hi2]
  refine aB<|aa<|ae<|ah<|aG rfl<|ag<|aa<|aR<| ?_
  exact bc trivial rfl rfl [] rfl [] rfl ⟨rfl,rfl,rfl⟩
theorem wD{g kk:Nat}{st:cU}{d:RD}{u:IX}(hD:DS st d kk)(hgb:∀nm,(d.ik nm).length≤10000000)(hu:u.its.length≤100000):cf Tryz.prog 53 [.pointer (some ⟨g,0,none⟩),.agg u.cs.toArray] [bG g st] [cz 33 u.A u.its.length (fe u.its),dF] (fun v_ X_ S_=>∃v,v_=(.tuple #[v,.int .i64 (eI d u).2])∧X_=[bG g st,aI 5 1 v (eI d u).1.length (aT (eI d u).1)]∧S_=[]):=by
 refine aK (N:=45) Tryz.func53 rfl rfl (by simp) fun b=> ?_
 refine aQ (fun m=>eU (m.rd 0 rfl)) ?_
 rintro⟨hl_it,hA_it⟩
 refine ae<|ah<| ?_
 refine hx (br rfl (fun g3=> ?_))
 refine aH (fun w m=>m.bw 0 rfl (show _=aE g3 88 u.cs from congrArg (aE _ _) (aV _))) ?_
 refine aG rfl<|aG rfl<|ag<|aY rfl rfl<|aa<|ae<|ah<|aG rfl<|ag<|aa<|ae<|ae<|ah<|hy (fun _=>ax rfl AN (by decide))<|hy (fun m=>ak rfl gD (ar (m.aN 0 rfl) (i:=35) u.ko))<|hy (fun _=>a6 rfl Tryz.underlying80)<|au rfl<|ag<|az [15,14,13,6,5,4,3,0,1] rfl<|aa<|aM<| ?_
 refine a8 (fun w m=>m.cL (r' :=aI 5 1 (.slice none 0 0) 0 []) (.refl _ _) (Own.nil _ _ _ _) (fun k hk=>hk.elim)) ?_
 refine nD (fun i out Ao co=>u.its.length-i) (fun i out Ao co=>[(15,.int .i64 (i:Nat)),(6,.slice Ao (List.length out) co)]) (fun i out Ao co=>[aI 5 1 (.slice Ao (List.length out) co) (List.length out) (aT out)]) (fun i out Ao co=>[]) (fun i out Ao co=>i≤u.its.length∧out.length≤i*10000000∧fW d (u.its.drop i) out=fW d u.its []) 0 [] none 0 [(14,_),(13,_),(3,_),(0,_),(1,_)] ⟨rfl,rfl,rfl,rfl,rfl,trivial⟩ [0] rfl [] rfl (⟨Nat.zero_le _,Nat.zero_le _,rfl⟩) ⟨rfl,rfl,trivial⟩ (fun i out Ao co ⟨hi,hol,hf⟩=> ?_)
 refine ae<|ah<|hy (fun _=>bx rfl rfl)<|ag<|aa<|ae<| ?_
 refine cu rfl (fun hlt=> ?_) (fun hlt=> ?_)
 ·obtain⟨t,ht⟩:∃t,u.its[i]? =some t:=⟨_,List.getElem?_eq_getElem (by omega)⟩
  have h32:(aT t.1.b).length=32:=by rw[aA,t.1.h]
  have hdt:u.its.drop i=t::u.its.drop (i+1):=by
   obtain⟨h1,rfl⟩:=List.getElem?_eq_some_iff.1 ht
   exact List.drop_eq_getElem_cons h1
  have hgl:=hgb t.1.b
  rw[hdt,fW]at hf
  refine aB<|aa<|ae<|aM<|ae<|ah<|hy (fun _=>ck rfl rfl Tryz.underlying80 dO hA_it rfl (by omega))<|hy (fun m=>yV (aP rfl nY dO (bL t) (cm (f:=fK) bL (m.rd 0 rfl) ht)) ((rfl:_=Value.agg (fK t).toArray)))<| ?_
  refine hx (ba jv (fun g8=> ?_))
  refine cF (a7 0 rfl rfl rfl dO (bL t) (gS t) rfl ?_)
  refine ag<|az [8,16,15,6,14,13,3,0,1] rfl<|aY rfl rfl<|aa<|ae<|ah<|au rfl<|hy (fun _=>ax rfl gW (by decide))<|hy (fun m=>aP rfl cB b7 h32 (fun j u hu=>(m.aN 0 rfl).aw j u (gR hu)))<| ?_
  refine hx (an rfl Tryz.call73 (Dv hD t.1.h) [3] rfl [1] rfl ?_)
  rintro _ _ _ ⟨v,rfl,rfl,rfl⟩
  refine aC (fun m=>(m.own 1 rfl).slice) ?_
  rintro⟨A_x,c_x,rfl,hc_x⟩
  refine aC (fun m=>(m.ord 1 rfl).2.1) fun hA_x=> ?_
  refine au rfl<|hy (fun _=>aF rfl rfl)<|hy (fun _=>aF rfl rfl)<|aG rfl<|aG rfl<|ag<|az [10,9,8,16,15,6,14,13,3,0,1] rfl<|aY rfl rfl<|aa<|ae<|ae<|ah<|au rfl<|hy (fun _=>de rfl rfl)<|ag<|az [27,10,9,8,16,15,6,14,13,3,0,1] rfl<|aa<| ?_
  refine cu rfl (fun he=> ?_) (fun he=> ?_)
  ·rw[if_pos he]at hf
   have hb:eI d u=([],d.fu t.1.b):=by unfold eI;rw[←hf,if_pos (by exact he)]
   rw[hb]
   refine ae<|ah<|au rfl<|aG rfl<|aG rfl<|ag<|az [5,4,27,10,9,8,16,15,6,14,13,3,0,1] rfl<|aa<|aR<|aq<|aU<|aq<|aq<|aU<|aq<| ?_
   refine bd (fun w m=>m.cL (r' :=aI 5 1 (.slice none 0 0) 0 []) (.refl _ _) (Own.nil _ _ _ _) (fun k hk=>hk.elim)) ?_
   exact cQ trivial rfl rfl rfl [1,0] rfl [] rfl ⟨_,rfl,rfl,rfl⟩
  ·rw[if_neg he]at hf
   refine aB<|aa<|ae<|ae<|ah<|au rfl<|hy (fun _=>a6 rfl Tryz.underlying27)<|hy (fun _=>ax rfl gx (by decide))<|hy (fun m=>ak rfl cY ((m.aN 2 rfl).aw 32 _ (kr t)))<|hy (fun _=>de rfl rfl)<|ag<|az [33,27,10,9,8,16,15,6,14,13,3,0,1] rfl<|aa<| ?_
   refine cu rfl (fun hs=> ?_) (fun hs=> ?_)
   ·rw[if_pos hs]at hf
    have hb:eI d u=([],7):=by unfold eI;rw[←hf,if_pos (by decide)]
    rw[hb]
    refine ae<|ah<|aG rfl<|aG rfl<|ag<|aa<|aR<|aq<|aU<|aq<|aq<|aU<|aq<| ?_
    refine bd (fun w m=>m.cL (r' :=aI 5 1 (.slice none 0 0) 0 []) (.refl _ _) (Own.nil _ _ _ _) (fun k hk=>hk.elim)) ?_
    exact cQ trivial rfl rfl rfl [1,0] rfl [] rfl ⟨_,rfl,rfl,rfl⟩
   ·rw[if_neg hs]at hf
    refine aB<|aa<|ah<|au rfl<|au rfl<| ?_
    refine hx (bC 3 rfl rfl rfl Tryz.underlying27 Tryz.underlying27 (by exact .inl rfl) fh rfl (fun m=>Src.b9 (m.ord 1 rfl)) bl (by unfold maxLen;omega) (by omega) (fun u2=> ?_))
    refine aC (fun m=>(m.own 0 rfl).slice) ?_
    rintro⟨A_o,c_o,rfl,hc_o⟩
    refine aC (fun m=>(m.ord 0 rfl).2.1) fun hA_o=> ?_
    have hal:(out++d.ik t.1.b).length=out.length+(d.ik t.1.b).length:=List.length_append
    refine aH (fun w m=>m.bw 0 rfl (show _=aI 5 1 (.slice A_o (List.length (out++d.ik t.1.b)) c_o) (List.length (out++d.ik t.1.b)) (aT (out++d.ik t.1.b))from(by rw[hal];simp[aT]))) ?_
    rw[←hal]
    refine aG rfl<|ag<|az [6,33,27,10,9,8,16,15,14,13,3,0,1] rfl<|aY rfl rfl<|aW<|aa<|ah<|hy (fun _=>aO rfl rfl (bE (by omega) (by omega)))<|au rfl<|ag<|az [15,6,33,27,10,9,8,16,14,13,3,0,1] rfl<| ?_
    refine kx (i+1) (out++d.ik t.1.b) A_o c_o ⟨rfl,rfl,rfl,rfl,rfl,rfl,rfl,trivial⟩ [0,3,0] rfl [0,1] rfl (⟨by omega,by omega,hf⟩) (by omega)
 ·obtain rfl:i=u.its.length:=by omega
  rw[List.drop_length,fW]at hf
  have hbl:eI d u=if bA out≠u.img.b then([],7)else(out,0):=by unfold eI;rw[←hf,if_neg (fun h=>h rfl)]
  rw[hbl]
  by_cases hc:bA out≠u.img.b
  ·rw[if_pos hc]
   refine bH<|al<|al<|aD<|aa<|ae<|ae<|ah<|hy (fun m=>yV (aP rfl F3 FD u.cd ((m.aN 1 rfl).aw)) ((rfl:_=Value.agg u.cs.toArray)))<|au rfl<| ?_
   refine hx (cS rfl Tryz.call139 (wG (by omega) (u:=u)) [] rfl (.x 0 rfl .own (.s 1 rfl .nil)) ?_)
   rintro _ _ _ ⟨rfl,rfl,rfl⟩
   refine⟨rfl, ?_⟩
   rw[if_pos hc]
   refine aG rfl<|ag<|az [11,16,15,6,14,13,3,0,1] rfl<|aY rfl rfl<|aa<|ae<|ah<|au rfl<|hy (fun _=>de rfl rfl)<|ag<|az [42,11,16,15,6,14,13,3,0,1] rfl<|aa<| ?_
   refine fx rfl ((by decide)) ?_
   refine ae<|ah<|au rfl<|aG rfl<|aG rfl<|ag<|az [5,4,42,11,16,15,6,14,13,3,0,1] rfl<|aa<|aR<|aq<| ?_
   refine bd (fun w m=>m.cL (r' :=aI 5 1 (.slice none 0 0) 0 []) (.refl _ _) (Own.nil _ _ _ _) (fun k hk=>hk.elim)) ?_
   exact cQ trivial rfl rfl rfl [3,0] rfl [] rfl ⟨_,rfl,rfl,rfl⟩
  ·rw[if_neg hc]
   refine bH<|al<|al<|aD<|aa<|ae<|ae<|ah<|hy (fun m=>yV (aP rfl F3 FD u.cd ((m.aN 1 rfl).aw)) ((rfl:_=Value.agg u.cs.toArray)))<|au rfl<| ?_
   refine hx (cS rfl Tryz.call139 (wG (by omega) (u:=u)) [] rfl (.x 0 rfl .own (.s 1 rfl .nil)) ?_)
   rintro _ _ _ ⟨rfl,rfl,rfl⟩
   refine⟨rfl, ?_⟩
   rw[if_neg hc]
   refine aG rfl<|ag<|az [11,16,15,6,14,13,3,0,1] rfl<|aY rfl rfl<|aa<|ae<|ah<|au rfl<|hy (fun _=>de rfl rfl)<|ag<|az [42,11,16,15,6,14,13,3,0,1] rfl<|aa<| ?_
   refine dm rfl ((by decide)) ?_
   refine aB<|aa<|ae<|ah<|au rfl<|aG rfl<|aG rfl<|ag<|az [5,4,42,11,16,15,6,14,13,3,0,1] rfl<|aa<|aR<| ?_
   exact cQ trivial rfl rfl rfl [2,0] rfl [] rfl ⟨_,rfl,rfl,rfl⟩
end Go.Proofs.YtmibdabdlgmafaaGreatDoor
end
section
set_option maxRecDepth 20000
set_option maxHeartbeats 4000000
namespace Go.Proofs.YtmibdabdlgmafaaGreatDoor
open Go.Eng Go.Hx
def oF(ga:Nat)(x:RX)(u:IX)(gs:Nat)(t o:Value):List Value:=([.pointer (some ⟨ga,0,none⟩)]++x.cs)++u.cs++[.pointer (some ⟨gs,0,none⟩),t,o]
section
variable{ga gs:Nat}{x y:RX}{u:IX}{t o t' :Value}
theorem rn:([Value.pointer (some ⟨ga,0,none⟩)]++x.cs).length=6:=rfl
theorem rQ:(oF ga x u gs t o).length=45:=by
 rw[oF,List.length_append,List.length_append,rn,u.cd];rfl
theorem lT{j:Nat}:(oF ga x u gs t o)[42+j]? =[Value.pointer (some ⟨gs,0,none⟩),t,o][j]? :=by
 have h:(([Value.pointer (some ⟨ga,0,none⟩)]++x.cs)++u.cs).length=42:=by rw[List.length_append,rn,u.cd]
 rw[oF,List.getElem?_append_right (by omega),h,Nat.add_sub_cancel_left]
theorem yN:(oF ga x u gs t o).set 43 t' =oF ga x u gs t' o:=by
 have h:(([Value.pointer (some ⟨ga,0,none⟩)]++x.cs)++u.cs).length=42:=by rw[List.length_append,rn,u.cd]
 rw[oF,List.set_append_right _ _ (by omega),h]
 rfl
theorem sF:bD (oF ga x u gs t o) 1 y.cs=oF ga y u gs t o:=by
 have h:=dr (a:=[Value.pointer (some ⟨ga,0,none⟩)]) (b:=x.cs) (c:=u.cs++[.pointer (some ⟨gs,0,none⟩),t,o]) (vs:=y.cs) (o:=1) rfl rfl
 rw[←List.append_assoc,←List.append_assoc]at h
 exact h
theorem wI{w:World}{g:Nat}{ty:TypeId}(h:e8 w g ty (oF ga x u gs t o)):∀(j:Nat) (v:Value),x.cs[j]? =some v→w.cell? ((⟨g,0,none⟩:Addr).add 1|>.add j)=some v:=by
 have h2:e8 w g ty (([Value.pointer (some ⟨ga,0,none⟩)]++x.cs)++(u.cs++[.pointer (some ⟨gs,0,none⟩),t,o])):=by rw[←List.append_assoc];exact h
 exact oQ h2
theorem qA{w:World}{g:Nat}{ty:TypeId}(h:e8 w g ty (oF ga x u gs t o)):∀(j:Nat) (v:Value),u.cs[j]? =some v→w.cell? ((⟨g,0,none⟩:Addr).add 6|>.add j)=some v:=oQ (a:=[Value.pointer (some ⟨ga,0,none⟩)]++x.cs) h
end
theorem A8{P:Program}{pl:Nat→Option (Nat×Nat)}{A B:Option Addr}{x:RX}{u:IX}{o a0 s0 t0 i0:Value}{zr zx:List Value}(hr:zr.length=5)(hx:zx.length=36)(ho:o.cells.toList=[o])(p0:pl 0=some (0,1))(p1:pl 1=some (1,5))(p2:pl 2=some (6,36))(p3:pl 3=some (42,1))(p5:pl 5=some (44,1)):
  wq P pl ([a0]++zr++zx++[s0]++[t0]++[i0]) [(0,.pointer A),(1,.agg x.cs.toArray),(2,.agg u.cs.toArray),(3,.pointer B),(5,o)] (([.pointer A]++x.cs)++u.cs++[.pointer B,t0,o]):=by
 have e0:bD ([a0]++zr++zx++[s0]++[t0]++[i0]) 0 [.pointer A]=[.pointer A]++zr++(zx++[s0]++[t0]++[i0]):=by
  have:=dr (a:=[]) (b:=[a0]) (c:=zr++zx++[s0]++[t0]++[i0]) (vs:=[Value.pointer A]) (o:=0) rfl rfl
  simpa using this
 have e1:bD ([.pointer A]++zr++(zx++[s0]++[t0]++[i0])) 1 x.cs=([.pointer A]++x.cs)++zx++([s0]++[t0]++[i0]):=by
  rw[dr (a:=[Value.pointer A]) (b:=zr) (c:=zx++[s0]++[t0]++[i0]) (vs:=x.cs) (o:=1) rfl (by rw[hr];rfl)]
  simp
 have hp:([Value.pointer A]++x.cs).length=6:=rfl
 have e2:bD (([.pointer A]++x.cs)++zx++([s0]++[t0]++[i0])) 6 u.cs=(([.pointer A]++x.cs)++u.cs)++[s0]++([t0]++[i0]):=by
  rw[dr (b:=zx) (c:=[s0]++[t0]++[i0]) (vs:=u.cs) hp (by rw[hx,u.cd])]
  simp
 have hp2:(([Value.pointer A]++x.cs)++u.cs).length=42:=by rw[List.length_append,hp,u.cd]
 have e3:bD ((([.pointer A]++x.cs)++u.cs)++[s0]++([t0]++[i0])) 42 [.pointer B]=((([.pointer A]++x.cs)++u.cs)++[.pointer B,t0])++[i0]++[]:=by
  rw[dr (b:=[s0]) (c:=[t0]++[i0]) (vs:=[.pointer B]) hp2 rfl]
  simp
 have hp3:((([Value.pointer A]++x.cs)++u.cs)++[.pointer B,t0]).length=44:=by rw[List.length_append,hp2];rfl
 have e4:bD (((([.pointer A]++x.cs)++u.cs)++[.pointer B,t0])++[i0]++[]) 44 [o]=([.pointer A]++x.cs)++u.cs++[.pointer B,t0,o]:=by
  rw[dr (b:=[i0]) (c:=[]) (vs:=[o]) hp3 rfl]
  simp
 have l0:([a0]++zr++zx++[s0]++[t0]++[i0]).length=45:=by simp[hr,hx]
 refine .cons p0 (vs:=[.pointer A]) rfl rfl (by omega) ?_
 rw[e0]
 refine .cons p1 (aV _) rfl (by simp[hr,hx]) ?_
 rw[e1]
 refine .cons p2 (aV _) u.cd (by rw[List.length_append,List.length_append,hp,hx];simp) ?_
 rw[e2]
 refine .cons p3 (vs:=[.pointer B]) rfl rfl (by rw[List.length_append,List.length_append,hp2];simp) ?_
 rw[e3]
 refine .cons p5 ho rfl (by rw[List.length_append,List.length_append,hp3];simp) ?_
 rw[e4]
 exact .nil
def tS(cs:List (List UInt8))(zl:List Int)(d:RD):RD:=zl.foldl (fun d z=>(d.put (cs.getD (cN z cs.length).toNat [])).1) d
def lF(cs:List (List UInt8))(zl:List Int):RD:=if cs=[]then RD.new 20000 else tS cs (zl.take 5) (RD.new 20000)
theorem vn{cs:List (List UInt8)}{zl:List Int}{d:RD}{i:Nat}(h:i<zl.length):tS cs (zl.take (i+1)) d=((tS cs (zl.take i) d).put (cs.getD (cN (zl.getD i 0) cs.length).toNat [])).1:=by
 have e:zl[i]=zl.getD i 0:=by rw[List.getD,List.getElem?_eq_getElem h];rfl
 rw[List.take_succ_eq_append_getElem h,tS,List.foldl_append,e]
 rfl
def ic(img:List UInt8):List UInt8:=img.take 60
def oU(img:List UInt8)(fr:Int)(ot:List UInt8):List (List UInt8):=[(ic img).drop (cN fr ((ic img).length+1:Nat)).toNat,ot.take 30]
theorem tj{I:Option Addr}{ni ci:Nat}{img:List UInt8}{p:Pm}{L:Option Addr}{np cp:Nat}{zl:List Int}{fr:Int}{O:Option Addr}{no co:Nat}{ot:List UInt8}(hic:ni≤ci)(hin:ni≤140737488351232)(h1:-9223372036854775808≤p.mn∧p.mn≤9223372036854775807)(h2:-9223372036854775808≤p.av∧p.av≤9223372036854775807)(h3:-9223372036854775808≤p.mx∧p.mx≤9223372036854775807)(hzl:xG zl)(hfr:-9223372036854775808≤fr∧fr≤9223372036854775807)(hoc:no≤co)(hon:no≤140737488351232):cf Tryz.prog 41 [.slice I ni ci,.agg p.cs.toArray,.slice L np cp,.int .i64 fr,.slice O no co] [] [cz 1 I ni (aT img),cz 1 L np (ints zl),cz 1 O no (aT ot),dF] (fun v_ X_ S_=>∃gw gd st y gs gm A c rs l A2 c2 T trs AO cO,v_=(.pointer (some ⟨gw,0,none⟩))∧X_=[aE gw 86 (oF gd y (lR (ic img) (fE p) A2 c2) gs (.slice T 2 2) (.slice AO (ic img).length cO)),bG gd st,gA gs gm (fE p) A c rs l]∧S_=[eg y,cz 33 A2 (cn (ic img) (fE p)).length (fe (cn (ic img) (fE p))),cz 1 T 2 (lf trs),dI trs,cz 1 AO (ic img).length (aT (ic img))]∧(y.d=lF (eJ (ic img) (fE p)) zl∧DS st y.d 20∧jc (fE p) rs l∧rs.map bh.l=trs.map bh.l∧trs.map bh.l=oU img fr ot∧trs.length=2∧(∀r∈trs,r.n=r.l.length∧r.n≤r.c∧r.n≤100000)∧(ic img).length≤cO∧(cn (ic img) (fE p)).length≤c2)):=by
 obtain⟨q,hqe⟩:∃q,q=fE p:=⟨_,rfl⟩
 have hq:q.ok:=by rw[hqe];exact(sZ p).1
 obtain⟨own,hown⟩:∃own,own=ic img:=⟨_,rfl⟩
 have hown2:img.take 60=own:=hown.symm
 rw[←hqe,←hown]
 refine aK (N:=138) Tryz.func41 rfl rfl (by simp) fun b=> ?_
 refine aQ (fun m=>ek (m.rd 0 rfl)) ?_
 rintro⟨hl_ri,hA_ri⟩
 refine aQ (fun m=>eU (m.rd 1 rfl)) ?_
 rintro⟨hl_rl,hA_rl⟩
 refine aQ (fun m=>ek (m.rd 2 rfl)) ?_
 rintro⟨hl_rt,hA_rt⟩
 refine ae<|ah<| ?_
 refine hx (br rfl (fun g6=> ?_))
 refine aH (fun w m=>m.bw 0 rfl (show _=aE g6 75 p.cs from congrArg (aE _ _) (aV _))) ?_
 refine aG rfl<|ag<|aY rfl rfl<|aa<|ae<|ah<| ?_
 refine hx (an rfl Tryz.call24 (Hb (by decide) (by decide)) [] rfl [] rfl ?_)
 rintro _ _ _ ⟨g,gs,gl,rfl,rfl,rfl⟩
 refine au rfl<|hy (fun _=>aF rfl rfl)<|hy (fun _=>aF rfl rfl)<|aG rfl<|aG rfl<|ag<|az [12,11,10,6,0,1,2,3,4] rfl<|aY rfl rfl<|aa<|ae<|ah<|hy (fun m=>yV (aP rfl gK gg rfl ((m.aN 1 rfl).aw)) ((rfl:_=Value.agg p.cs.toArray)))<| ?_
 refine hx (an rfl Tryz.call125 (Fw h1 h2 h3) [] rfl [] rfl ?_)
 rintro _ _ _ ⟨rfl,rfl,rfl⟩
 rw[←hqe]
 refine hx (ba y5 (fun g13=> ?_))
 refine cF (a7 0 rfl rfl rfl gg rfl (Pm.one (p:=q.p)) rfl ?_)
 refine ag<|az [13,12,11,10,6,0,1,2,3,4] rfl<|aY rfl rfl<|aa<|ae<|ah<|hy (fun m=>yV (aP rfl gK gg rfl ((m.aN 0 rfl).aw)) ((rfl:_=Value.agg q.p.cs.toArray)))<| ?_
 refine hx (an rfl Tryz.call126 (yM hq (q:=q)) [] rfl [] rfl ?_)
 rintro _ _ _ ⟨g2,gm,rfl,rfl,rfl⟩
 refine au rfl<|hy (fun _=>aF rfl rfl)<|hy (fun _=>aF rfl rfl)<|aG rfl<|aG rfl<|ag<|az [15,14,13,12,11,10,6,0,1,2,3,4] rfl<|aY rfl rfl<|aa<|ae<|ae<|ah<|au rfl<|hy (fun _=>so rfl rfl (by kernel_rfl))<|au rfl<|bQ (o:=_) rfl rfl rfl (fun _=>ai rfl)<|bQ (o:=_) rfl rfl rfl (fun _=>so rfl rfl (by kernel_rfl))<|hy (fun _=>bn rfl rfl)<|au rfl<|bQ (o:=_) rfl rfl rfl (fun _=>ai rfl)<|bQ (o:=_) rfl rfl rfl (fun _=>de rfl rfl)<|hy (fun _=>bn rfl rfl)<|au rfl<|bQ (o:=_) rfl rfl rfl (fun _=>ai rfl)<|bQ (o:=_) rfl rfl rfl (fun _=>de rfl rfl)<|hy (fun _=>bn rfl rfl)<|ag<|az [48,15,14,13,12,11,10,6,0,1,2,3,4] rfl<|aa<| ?_
 refine dm rfl ((by decide)) ?_
 refine aB<|aa<|ae<|ah<|au rfl<| ?_
 refine hx (an rfl Tryz.call32 (FR hic hin (m:=60)) [] rfl [0] rfl ?_)
 rintro _ _ _ ⟨v,rfl,rfl,rfl⟩
 refine aC (fun m=>(m.own 0 rfl).slice) ?_
 rintro⟨A_x,c_x,rfl,hc_x⟩
 refine aC (fun m=>(m.ord 0 rfl).2.1) fun hA_x=> ?_
 have hol:own.length=min ni 60:=by rw[←hown2,List.length_take,hl_ri,Nat.min_comm]
 have ho60:own.length≤60:=by omega
 rw[hown2,←hol]
 have hcx:own.length≤c_x:=by omega
 refine aH (fun w m=>(m.perm (ao [0] _ [_] _ rfl)).freeze) ?_
 refine aH (fun w m=>m.ew 0 rfl .own) ?_
 refine aC (fun m=>ek (m.rd 0 rfl)) ?_
 rintro⟨hl_xr,hA_xr⟩
 refine aG rfl<|ag<|az [16,48,15,14,13,12,11,10,6,0,1,2,3,4] rfl<|aY rfl rfl<|aa<|ae<|cA [1,4,8] [(0,some 2),(2,some 1),(3,some 1),(5,some 2),(6,some 2),(1,none),(4,none),(7,some 2),(8,none),(9,some 3)] (by kernel_rfl) (by kernel_rfl) rfl 99<|aj (ai rfl)<|aj (ai rfl)<|bV (fun m=>yV (aP rfl gK gg rfl ((m.aN 1 rfl).aw)) ((rfl:_=Value.agg q.p.cs.toArray)))<|aj (ai rfl)<|aj (ai rfl)<| ?_
 refine dk (an rfl Tryz.call25 (G3) [] rfl [] rfl ?_)
 rintro _ _ _ ⟨y,rfl,rfl,rfl,hy1⟩
 refine⟨(fun _=>wk [0,0,0,0] [1,2,3,4,5,6] rfl rfl), ?_⟩
 refine dk (an rfl Tryz.call127 (EV hq rfl (by omega) hcx (q:=q)) [] rfl [1] rfl ?_)
 rintro _ _ _ ⟨A2,c2,rfl,rfl,rfl,hcI⟩
 refine⟨(fun _=>wk [0,0,0,0] [2,3,4,5,6,7] rfl rfl), ?_⟩
 refine bU (fun m=>eU (m.rd 0 rfl)) ?_
 rintro⟨hl_z,hA_z⟩
 refine aj (b6 Hk rfl rfl (by kernel_rfl) (A8 rfl rfl rfl D7 Ea DR Dt Dx))<| ?_
 refine dk (br rfl (fun g59=>⟨(fun _=>wk [1,1,1,1] [2,3,4,5,6,7] rfl rfl), ?_⟩))
 refine dU (fun w m=>m.bw 0 rfl (show _=aE g59 86 (oF g y (lR own q A2 c2) g2 (.slice none 0 0) (.slice A_x own.length c_x))from congrArg (aE _ _) (aV _))) ?_
 refine aj (ay rfl)<|bp<|az [17,16,48,15,14,13,12,11,10,6,0,1,2,3,4] rfl<|aY rfl rfl<|aa<|ae<|ah<|au rfl<|hy (fun m=>yV (aP rfl gK gg rfl ((m.aN 2 rfl).aw)) ((rfl:_=Value.agg q.p.cs.toArray)))<| ?_
 refine hx (an rfl Tryz.call50 (pL hq rfl (by omega) hcx (q:=q)) [] rfl [2] rfl ?_)
 rintro _ _ _ ⟨A1,c1,crs,rfl,rfl,rfl,hck⟩
 obtain⟨hck,hcn⟩:=hck
 refine aC (fun m=>(show∀r∈crs,bh.n r≤bh.c r from fun r hr=>((m.Ec 0 rfl) r hr).2)) fun hcc=> ?_
 have hcr:∀r∈crs,r.n=r.l.length∧r.n≤r.c∧r.l.length≤60:=fun r hr=>⟨hcn r hr,hcc r hr,Nat.le_trans (sn (q:=q) (by rw[←hck];exact List.mem_map_of_mem hr)) ho60⟩
 rw[←hck]
 refine aH (fun w m=>(m.perm (ao [0] _ [_] _ rfl)).freeze) ?_
 refine aH (fun w m=>m.ew 0 rfl .own) ?_
 refine aC (fun m=>eU (m.rd 0 rfl)) ?_
 rintro⟨hl_or,hA_or⟩
 have hD0:DS (lQ 20000 gs gl) y.d 0:=by rw[hy1];exact DS.init (by decide)
 refine aC (fun m=>(m.rd 8 rfl).1) fun hln1=> ?_
 have hln1:zl.length=np:=by rw[ints,List.length_map,Nat.mul_one]at hln1;exact hln1
 have hckl:(crs.map bh.l).length=crs.length:=List.length_map ..
 refine aG rfl<|ag<|az [18,17,16,48,15,14,13,12,11,10,6,0,1,2,3,4] rfl<|aY rfl rfl<|aa<|ae<|ae<|ah<|aG rfl<|ag<|aa<| ?_
 refine uB (fun(st1:cU) (y1:RX)=>[]) (fun(st1:cU) (y1:RX)=>[aE g59 86 (oF g y1 (lR own q A2 c2) g2 (.slice none 0 0) (.slice A_x own.length c_x)),bG g st1]) (fun(st1:cU) (y1:RX)=>[eg y1]) (fun(st1:cU) (y1:RX)=>y1.d=lF (crs.map bh.l) zl∧DS st1 y1.d 20) [(18,_),(17,_),(16,_),(48,_),(15,_),(14,_),(13,_),(12,_),(11,_),(10,_),(6,_),(0,_),(1,_),(2,_),(3,_),(4,_)] ⟨rfl,rfl,rfl,rfl,rfl,rfl,rfl,rfl,rfl,rfl,rfl,rfl,rfl,rfl,rfl,rfl,trivial⟩ [0,2] rfl ?_ (fun st1 y1 ⟨hE1,hD1⟩=> ?_)
 ·refine aM<| ?_
  refine gh (fun i st y=>np-i) (fun i st y=>[(19,.int .i64 (i:Nat))]) (fun i st y=>[aE g59 86 (oF g y (lR own q A2 c2) g2 (.slice none 0 0) (.slice A_x own.length c_x)),bG g st]) (fun i st y=>[eg y]) (fun i st y=>i≤np∧i≤5∧(crs.length=0→i=0)∧y.d=tS (crs.map bh.l) (zl.take i) (RD.new 20000)∧DS st y.d (4*i)) 0 (lQ 20000 gs gl) y [(18,_),(17,_),(16,_),(48,_),(15,_),(14,_),(13,_),(12,_),(11,_),(10,_),(6,_),(0,_),(1,_),(2,_),(3,_),(4,_)] ⟨rfl,rfl,rfl,rfl,rfl,rfl,rfl,rfl,rfl,rfl,rfl,rfl,rfl,rfl,rfl,rfl,trivial⟩ [0,2] rfl [4] rfl (⟨Nat.zero_le _,Nat.zero_le _,fun _=>rfl,hy1,hD0⟩) ⟨rfl,trivial⟩ (fun i st y ⟨hinp,hi5,hi0,hE,hD⟩=> ?_)
  refine ae<|ae<|ah<|au rfl<|au rfl<|hy (fun _=>a6 rfl Tryz.underlying44)<|hy (fun _=>bx rfl rfl)<|au rfl<| ?_
  refine fH 67 rfl (fun ha=> ?_) (fun ha=> ?_)
  ·refine bQ (o:=_) rfl rfl rfl (fun _=>ai rfl)<|bQ (o:=_) rfl rfl rfl (fun _=>bx rfl rfl)<|hy (fun _=>bz rfl rfl)<|au rfl<| ?_
   refine fH 71 rfl (fun hb=> ?_) (fun hb=> ?_)
   ·refine bQ (o:=_) rfl rfl rfl (fun _=>ai rfl)<|bQ (o:=_) rfl rfl rfl (fun _=>a6 rfl Tryz.underlying84)<|bQ (o:=_) rfl rfl rfl (fun _=>cw rfl rfl)<|hy (fun _=>bz rfl rfl)<|ag<|az [75,19,18,17,16,48,15,14,13,12,11,10,6,0,1,2,3,4] rfl<|aa<| ?_
    refine cu rfl (fun hc=> ?_) (fun hc=> ?_)
    ·obtain⟨z,hz⟩:∃z,z=zl.getD i 0:=⟨_,rfl⟩
     have hzb:=hzl.at (i:=i) (by omega)
     rw[←hz]at hzb
     have har:=dp z (crs.length:Int) (by omega)
     obtain⟨j,hj⟩:∃j:Nat,cN z (crs.length:Int)=j:=⟨(cN z (crs.length:Int)).toNat,by omega⟩
     obtain⟨r,hr⟩:∃r,crs[j]? =some r:=⟨_,List.getElem?_eq_getElem (by omega)⟩
     obtain⟨hrn,hrc,hrl⟩:=hcr r (List.mem_of_getElem? hr)
     have hDo:y.d.ok (4*i):=⟨st,hD⟩
     have hp32:(aT (y.d.put r.l).2.1).length=32:=by rw[aA];exact vy _ _
     have hgr:(crs.map bh.l).getD (cN z ((crs.map bh.l).length:Int)).toNat []=r.l:=by
      rw[List.length_map,hj,Int.toNat_natCast,List.getD,List.getElem?_map,hr];rfl
     have hsu:=vn (cs:=crs.map bh.l) (zl:=zl) (d:=RD.new 20000) (i:=i) (by omega)
     rw[←hz,hgr,←hE]at hsu
     refine aB<|aa<|ae<|aM<|ae<|ah<|au rfl<|au rfl<|au rfl<|hy (fun _=>aS rfl rfl Tryz.underlying44 tA hA_rl rfl (by omega))<|hy (fun m=>yV (ak rfl cY ((m.rd 9 rfl).cell (Ab (by omega)))) ((show Value.int .i64 (zl.getD i 0)= .int .i64 z by rw[hz])))<|au rfl<|hy (fun _=>a6 rfl Tryz.underlying84)<| ?_
     refine hx (an rfl Tryz.call16 (iN hzb.1 hzb.2 (by omega) (n:=z) (m:=(crs.length:Int))) [] rfl [] rfl ?_)
     rintro _ _ _ ⟨rfl,rfl,rfl⟩
     rw[hj]
     refine aH (fun w m=>m.ew 3 rfl (View.row hr)) ?_
     refine aC (fun m=>ek (m.rd 0 rfl)) ?_
     rintro⟨hl_rr1,hA_rr1⟩
     refine hy (fun _=>aS rfl rfl Tryz.underlying84 je hA_or rfl (by omega))<|hy (fun m=>ak rfl di ((m.rd 2 rfl).cell (show(lf crs)[j]? =some (Value.slice r.A r.n r.c) by rw[lf,List.getElem?_map,hr];rfl)))<|aG rfl<|ag<|az [20,75,19,18,17,16,48,15,14,13,12,11,10,6,0,1,2,3,4] rfl<|aY rfl rfl<|aa<|ae<|ah<|au rfl<|hy (fun _=>aL rfl)<|hy (fun _=>ax rfl nc (by decide))<|hy (fun m=>yV (aP rfl cK bT rfl (wI (m.aN 0 rfl))) ((rfl:_=Value.agg y.cs.toArray)))<|au rfl<| ?_
     refine hx (an rfl Tryz.call26 (rh hDo (by omega) hrc hrn.symm (by omega)) [] rfl [1,0,12] rfl ?_)
     rintro _ _ _ ⟨y2,rfl,rfl,rfl,hyd2⟩
     refine au rfl<|hy (fun _=>aF rfl rfl)<|hy (fun _=>aF rfl rfl)<|hy (fun _=>aF rfl rfl)<| ?_
     refine hx (ba mR (fun g21=> ?_))
     refine hx (ba fw (fun g22=> ?_))
     refine cF (a7 1 rfl rfl rfl bT rfl cx rfl ?_)
     refine cF (a7 1 rfl rfl rfl b7 hp32 bl rfl ?_)
     refine aG rfl<|ag<|az [21,20,75,19,18,17,16,48,15,14,13,12,11,10,6,0,1,2,3,4] rfl<|aY rfl rfl<|aa<|ae<|ah<|au rfl<|hy (fun m=>yV (aP rfl cK bT rfl ((m.aN 1 rfl).aw)) ((rfl:_=Value.agg y2.cs.toArray)))<|hy (fun _=>aL rfl)<|hy (fun _=>ax rfl nc (by decide))<| ?_
     refine cF (sb 2 rfl rfl rfl bT rfl cx (by rw[rQ];decide) ?_)
     refine aH (fun w m=>m.bw 0 rfl (show _=aE g59 86 (oF g y2 (lR own q A2 c2) g2 (.slice none 0 0) (.slice A_x own.length c_x))from congrArg (aE _ _) sF)) ?_
     refine ag<|az [21,20,75,19,18,17,16,48,15,14,13,12,11,10,6,0,1,2,3,4] rfl<|aY rfl rfl<|aa<|ah<|au rfl<|hy (fun _=>aL rfl)<|hy (fun _=>ax rfl pk (by decide))<|hy (fun m=>ak rfl pj (ar (m.aN 0 rfl) rfl))<|au rfl<| ?_
     refine hx (an rfl Tryz.call28 (C8 hD (by omega) hrc hrn.symm (by omega)) [3] rfl [1,13] rfl ?_)
     rintro _ _ _ ⟨st1,rfl,rfl,rfl,hD2⟩
     refine ag<|az [21,20,75,19,18,17,16,48,15,14,13,12,11,10,6,0,1,2,3,4] rfl<|aY rfl rfl<|aW<|aa<|ah<|au rfl<|hy (fun _=>aO rfl rfl (bE (by omega) (by omega)))<|aG rfl<|ag<|az [19,21,20,75,18,17,16,48,15,14,13,12,11,10,6,0,1,2,3,4] rfl<| ?_
     rw[←hyd2]at hD2
     refine gj (i+1) st1 y2 ⟨rfl,rfl,rfl,rfl,rfl,rfl,rfl,rfl,rfl,rfl,rfl,rfl,rfl,rfl,rfl,rfl,rfl,trivial⟩ [1,0,2,2,2] rfl [0,3,4,5,6,7,8,9,10,11,12,13] rfl (⟨by omega,by omega,by omega,by rw[hsu,hyd2],hD2⟩) (by omega)
    ·refine bH<|al<|al<|aD<| ?_
     have ag:y.d=lF (crs.map bh.l) zl:=by
      unfold lF
      by_cases hc0:crs.length=0
      ·have h0:i=0:=hi0 hc0
       rw[if_pos (List.eq_nil_of_length_eq_zero (by rw[hckl];exact hc0)),hE,h0]
       rfl
      ·rw[if_neg (fun e=>hc0 (by rw[←hckl,e];rfl)),hE,mV (l:=zl) (i:=i) (n:=5) (by omega) (by omega) hi5]
     exact fC (R:=fun(st1:cU) (y1:RX)=>[]) (X1:=fun(st1:cU) (y1:RX)=>[aE g59 86 (oF g y1 (lR own q A2 c2) g2 (.slice none 0 0) (.slice A_x own.length c_x)),bG g st1]) (S1:=fun(st1:cU) (y1:RX)=>[eg y1]) (I:=fun(st1:cU) (y1:RX)=>y1.d=lF (crs.map bh.l) zl∧DS st1 y1.d 20) st y ⟨rfl,rfl,rfl,rfl,rfl,rfl,rfl,rfl,rfl,rfl,rfl,rfl,rfl,rfl,rfl,rfl,trivial⟩ [0,0,0,0,0] rfl [0,1,2,3,4,5,6,7,8,9,10,11] rfl (⟨ag,hD.le (by omega)⟩)
   ·refine aJ rfl rfl rfl (by decide)<|aJ rfl rfl rfl (by decide)<|aJ rfl rfl rfl (by decide)<|hy (fun _=>bn rfl rfl)<|ag<|az [75,19,18,17,16,48,15,14,13,12,11,10,6,0,1,2,3,4] rfl<|aa<| ?_
    refine dm rfl (rfl) ?_
    refine bH<|al<|al<|aD<| ?_
    have ag:y.d=lF (crs.map bh.l) zl:=by
     unfold lF
     by_cases hc0:crs.length=0
     ·have h0:i=0:=hi0 hc0
      rw[if_pos (List.eq_nil_of_length_eq_zero (by rw[hckl];exact hc0)),hE,h0]
      rfl
     ·rw[if_neg (fun e=>hc0 (by rw[←hckl,e];rfl)),hE,mV (l:=zl) (i:=i) (n:=5) (by omega) (by omega) hi5]
    exact fC (R:=fun(st1:cU) (y1:RX)=>[]) (X1:=fun(st1:cU) (y1:RX)=>[aE g59 86 (oF g y1 (lR own q A2 c2) g2 (.slice none 0 0) (.slice A_x own.length c_x)),bG g st1]) (S1:=fun(st1:cU) (y1:RX)=>[eg y1]) (I:=fun(st1:cU) (y1:RX)=>y1.d=lF (crs.map bh.l) zl∧DS st1 y1.d 20) st y ⟨rfl,rfl,rfl,rfl,rfl,rfl,rfl,rfl,rfl,rfl,rfl,rfl,rfl,rfl,rfl,rfl,trivial⟩ [0,0,0,0,0] rfl [0,1,2,3,4,5,6,7,8,9,10,11] rfl (⟨ag,hD.le (by omega)⟩)
  ·refine aJ rfl rfl rfl (by decide)<|aJ rfl rfl rfl (by decide)<|hy (fun _=>bn rfl rfl)<|au rfl<|aJ rfl rfl rfl (by decide)<|aJ rfl rfl rfl (by decide)<|aJ rfl rfl rfl (by decide)<|hy (fun _=>bn rfl rfl)<|ag<|az [75,19,18,17,16,48,15,14,13,12,11,10,6,0,1,2,3,4] rfl<|aa<| ?_
   refine dm rfl (rfl) ?_
   refine bH<|al<|al<|aD<| ?_
   have ag:y.d=lF (crs.map bh.l) zl:=by
    unfold lF
    by_cases hc0:crs.length=0
    ·have h0:i=0:=hi0 hc0
     rw[if_pos (List.eq_nil_of_length_eq_zero (by rw[hckl];exact hc0)),hE,h0]
     rfl
    ·rw[if_neg (fun e=>hc0 (by rw[←hckl,e];rfl)),hE,mV (l:=zl) (i:=i) (n:=5) (by omega) (by omega) hi5]
   exact fC (R:=fun(st1:cU) (y1:RX)=>[]) (X1:=fun(st1:cU) (y1:RX)=>[aE g59 86 (oF g y1 (lR own q A2 c2) g2 (.slice none 0 0) (.slice A_x own.length c_x)),bG g st1]) (S1:=fun(st1:cU) (y1:RX)=>[eg y1]) (I:=fun(st1:cU) (y1:RX)=>y1.d=lF (crs.map bh.l) zl∧DS st1 y1.d 20) st y ⟨rfl,rfl,rfl,rfl,rfl,rfl,rfl,rfl,rfl,rfl,rfl,rfl,rfl,rfl,rfl,rfl,trivial⟩ [0,0,0,0,0] rfl [0,1,2,3,4,5,6,7,8,9,10,11] rfl (⟨ag,hD.le (by omega)⟩)
 ·have har:=dp fr ((own.length:Int)+1) (by omega)
  obtain⟨k,hk⟩:∃k:Nat,cN fr ((own.length:Int)+1)=k:=⟨(cN fr ((own.length:Int)+1)).toNat,by omega⟩
  have htexts:oU img fr ot=[own.drop k,ot.take 30]:=by
   unfold oU
   rw[←hown,show(((own.length+1:Nat)):Int)=(own.length:Int)+1 from rfl,hk,Int.toNat_natCast]
  refine aa<|ae<|cA [6,9,10,13] [(0,some 3),(1,some 2),(2,some 0),(3,some 3),(4,some 0),(5,some 0),(8,some 1),(6,none),(7,some 2),(9,none),(10,none),(11,some 3),(12,some 3),(13,none)] (by kernel_rfl) (by kernel_rfl) rfl 3<|aj (ai rfl)<|aj (ai rfl)<|aj (ai rfl)<|aj (ai rfl)<|aj (a6 rfl Tryz.underlying27)<|aj (aO rfl rfl (bE (by omega) (by omega)))<|aj (ai rfl)<| ?_
  refine dk (an rfl Tryz.call16 (iN hfr.1 hfr.2 (by omega) (n:=fr) (m:=((own.length:Int)+1))) [] rfl [] rfl ?_)
  rintro _ _ _ ⟨rfl,rfl,rfl⟩
  refine⟨(fun _=>wk [0,0,0,0,0] [0,1,2,3,4,5,6,7,8,9,10,11] rfl rfl), ?_⟩
  rw[hk]
  refine aj (ef rfl rfl Tryz.underlying27 dJ rfl (by omega))<| ?_
  refine dk (an rfl Tryz.call32 (FR hoc hon (m:=30)) [] rfl [10] rfl ?_)
  rintro _ _ _ ⟨v2,rfl,rfl,rfl⟩
  refine⟨(fun _=>wk [1,1,1,1,1] [0,1,2,3,4,5,6,7,8,9,10,11] rfl rfl), ?_⟩
  refine bU (fun m=>(m.own 0 rfl).slice) ?_
  rintro⟨A_x2,c_x2,rfl,hc_x2⟩
  refine bU (fun m=>(m.ord 0 rfl).2.1) fun hA_x2=> ?_
  refine dk (b5 Tryz.underlying84 ku rfl rfl rfl (by simp[Value.cells,B8]) (by decide) (by decide) (fun g118=>⟨(fun _=>wk [2,2,2,2,2] [0,1,2,3,4,5,6,7,8,9,10,11] rfl rfl), ?_⟩))
  have hA_b118:0<2→(some (⟨g118,0,none⟩:Addr))≠none:=fun _ h=>by cases h
  obtain⟨r0,hr0⟩:∃r:bh,r=⟨if c_x=k then A_x else A_x.map (·.add (k*1)),own.length-k,c_x-k,own.drop k⟩:=⟨_,rfl⟩
  obtain⟨r1,hr1⟩:∃r:bh,r=⟨A_x2,min no 30,c_x2,ot.take 30⟩:=⟨_,rfl⟩
  refine dU (fun w m=>m.bw 0 rfl (show _=aI 27 1 (.slice (some ⟨g118,0,none⟩) 2 2) 2 (lf [r0,r1])from(by rw[hr0,hr1];rfl))) ?_
  refine aj (aL rfl)<|aj (ax rfl uI (by decide))<| ?_
  refine gi (bZ 2 rfl rfl rfl GC rfl (by(rw[rQ];try dsimp only);omega) ⟨(fun h=>absurd h (by decide)), ?_⟩)
  refine bp<|az [18,17,16,48,15,14,13,12,11,10,6,0,1,2,3,4] rfl<|aY rfl rfl<|aa<|ae<| ?_
  refine a8 (fun w m=>m.bw 0 rfl (show _=aE g59 86 (oF g y1 (lR own q A2 c2) g2 (.slice (some ⟨g118,0,none⟩) 2 2) (.slice A_x own.length c_x))from congrArg (aE _ _) yN)) ?_
  refine a8 (fun w m=>(m.perm (ao [1] _ [_] _ rfl)).freeze) ?_
  refine a8 (fun w m=>m.ew 0 rfl .own) ?_
  refine aQ (fun m=>eU (m.rd 0 rfl)) ?_
  rintro⟨hl_b118r,hA_b118r⟩
  refine a8 (fun w m=>(m.perm (ao [1] _ [_] _ rfl)).freeze) ?_
  refine a8 (fun w m=>m.ew 0 rfl .own) ?_
  refine a8 (fun w m=>m.ew 10 rfl (View.drop (k:=k) hcx (by omega))) ?_
  refine aQ (fun m=>ek (m.rd 0 rfl)) ?_
  rintro⟨hl_v0,hA_v0⟩
  refine a8 (S' :=fB []::_) (fun w m=>m.nA [] rfl) ?_
  refine a8 (fun w m=>m.ew 0 rfl View.Aw) ?_
  refine a8 (S' :=fB [dI [],cz 1 (if c_x=k then A_x else A_x.map (·.add (k*1))) (own.length-k) (aT (own.drop k))]::_) (fun w m=>m.nA [0,2] rfl) ?_
  refine a8 (fun w m=>m.ew 0 rfl (View.kB (rs:=[]) (r:=⟨if c_x=k then A_x else A_x.map (·.add (k*1)),own.length-k,c_x-k,own.drop k⟩) (by show own.length-k≤c_x-k;omega))) ?_
  refine a8 (S' :=fB [dI [⟨if c_x=k then A_x else A_x.map (·.add (k*1)),own.length-k,c_x-k,own.drop k⟩],cz 1 A_x2 (min no 30) (aT (ot.take 30))]::_) (fun w m=>m.nA [0,5] rfl) ?_
  refine a8 (fun w m=>m.ew 0 rfl (View.kB (rs:=[⟨if c_x=k then A_x else A_x.map (·.add (k*1)),own.length-k,c_x-k,own.drop k⟩]) (r:=⟨A_x2,min no 30,c_x2,ot.take 30⟩) (by show min no 30≤c_x2;omega))) ?_
  refine ah<|au rfl<|au rfl<|hy (fun _=>aL rfl)<|hy (fun _=>ax rfl uI (by decide))<|hy (fun m=>ak rfl CE ((m.aN 0 rfl).aw 43 _ (lT (j:=1))))<|hy (fun _=>aS rfl rfl Tryz.underlying84 je hA_b118r (show((0:Nat):Int)=0 from rfl) (by omega))<|hy (fun m=>ak rfl di ((m.rd 9 rfl).cell (show(lf [r0,r1])[0]? =some (Value.slice (if c_x=k then A_x else A_x.map (·.add (k*1))) (own.length-k) (c_x-k)) by rw[hr0];rfl)))<| ?_
  refine hx (an rfl Tryz.call128 (uc hq (jc.nil q) (by rw[List.length_drop]) (by omega) (by simp) (tx:=(own.drop k))) [2] rfl [6,22] rfl ?_)
  rintro _ _ _ ⟨A3,c3,rA,l1,rfl,rfl,rfl,hs1⟩
  obtain⟨hsA,hlA⟩:=hs1
  refine ag<|az [18,17,16,48,15,14,13,12,11,10,6,0,1,2,3,4] rfl<|aY rfl rfl<|aa<|ae<|ah<|au rfl<|au rfl<|hy (fun _=>aL rfl)<|hy (fun _=>ax rfl uI (by decide))<|hy (fun m=>ak rfl CE ((m.aN 1 rfl).aw 43 _ (lT (j:=1))))<|hy (fun _=>aS rfl rfl Tryz.underlying84 je hA_b118r (show((1:Nat):Int)=1 from rfl) (by omega))<|hy (fun m=>ak rfl di ((m.rd 9 rfl).cell (show(lf [r0,r1])[1]? =some (Value.slice A_x2 (min no 30) c_x2) by rw[hr1];rfl)))<| ?_
  refine hx (an rfl Tryz.call128 (uc hq hsA (by rw[List.length_take,hl_rt,Nat.min_comm]) (by omega) (by simp) (tx:=(ot.take 30))) [0] rfl [7,22] rfl ?_)
  rintro _ _ _ ⟨A4,c4,rB,l2,rfl,rfl,rfl,hs2⟩
  refine ag<|az [18,17,16,48,15,14,13,12,11,10,6,0,1,2,3,4] rfl<|aY rfl rfl<|aa<|ae<|ah<|au rfl<|aG rfl<|ag<|az [10,18,17,16,48,15,14,13,12,11,6,0,1,2,3,4] rfl<|aa<|aR<| ?_
  obtain⟨hsB,hlB⟩:=hs2
  have hok0:r0.n=r0.l.length∧r0.n≤r0.c∧r0.n≤100000:=by
   rw[hr0]
   exact⟨by show own.length-k=(own.drop k).length;rw[List.length_drop],by show own.length-k≤c_x-k;omega,by show own.length-k≤100000;omega⟩
  have hok1:r1.n=r1.l.length∧r1.n≤r1.c∧r1.n≤100000:=by
   rw[hr1]
   exact⟨by show min no 30=(ot.take 30).length;rw[List.length_take,hl_rt,Nat.min_comm],by show min no 30≤c_x2;omega,by show min no 30≤100000;omega⟩
  have hl0:r0.l=own.drop k:=by rw[hr0]
  have hl1:r1.l=ot.take 30:=by rw[hr1]
  rw[htexts]
  rw[←hr0,←hr1]
  have hoks:∀r∈ [r0,r1],r.n=r.l.length∧r.n≤r.c∧r.n≤100000:=fun r hr=>by
   rcases List.mem_cons.1 hr with rfl|hr
   ·exact hok0
   ·rw[List.mem_singleton.1 hr];exact hok1
  exact bc trivial rfl rfl [1,1,0] rfl [11,15,9,0,17] rfl ⟨g59,g,st1,y1,g2,gm,A4,c4,([]++[rA]++[rB]),l2,A2,c2,some ⟨g118,0,none⟩,[r0,r1],A_x,c_x,rfl,rfl,rfl,⟨hE1,hD1,hsB,by simp[hlA,hlB,hl0,hl1],by simp[hl0,hl1],rfl,hoks,hcx,hcI⟩⟩
end Go.Proofs.YtmibdabdlgmafaaGreatDoor
end
section
set_option maxRecDepth 100000
namespace Go.Hx
def H3:List UInt32:=[2054848512,0,0,0,0,0,0,0,0,0,0,0,0,0,0,16,2054848512,655360,270445778,1073742468,2214022567,16951296,1330105446,2071642123,532037560,1211676980,405595174,3483758812,4019481642,2509104064,1462406960,489633397,1495300361,2738993129,328826285,2831584293,1427066711,643395021,1684437551,1813612341,85832476,3312818198,222100383,4145366621,3826746586,3478384474,437666230,3029790180,2991995450,1663170194,3798308262,3393185983,1656179136,381296077,1834242528,3224949950,1580794161,439224757,1824648827,1748212868,492697611,4186724706,2178264625,2819880860]
def HW:List (List UInt32):=[[1988298829,1779033703,3144134277,1013904242,323117730,1359893119,2600822924,528734635],[888048463,1988298829,1779033703,3144134277,3815738539,323117730,1359893119,2600822924],[2503672134,888048463,1988298829,1779033703,2896686088,3815738539,323117730,1359893119],[1453803797,2503672134,888048463,1988298829,1216787024,2896686088,3815738539,323117730],[3587256143,1453803797,2503672134,888048463,3078487088,1216787024,2896686088,3815738539],[3783733788,3587256143,1453803797,2503672134,1963645463,3078487088,1216787024,2896686088],[2694956762,3783733788,3587256143,1453803797,2886134219,1963645463,3078487088,1216787024],[993505436,2694956762,3783733788,3587256143,2524427545,2886134219,1963645463,3078487088],[1776035538,993505436,2694956762,3783733788,1226268175,2524427545,2886134219,1963645463],[2839353572,1776035538,993505436,2694956762,2224002356,1226268175,2524427545,2886134219],[1480501187,2839353572,1776035538,993505436,3063521364,2224002356,1226268175,2524427545],[1232551184,1480501187,2839353572,1776035538,149447045,3063521364,2224002356,1226268175],[8581469,1232551184,1480501187,2839353572,4210300055,149447045,3063521364,2224002356],[3535482551,8581469,1232551184,1480501187,1924384264,4210300055,149447045,3063521364],[888350764,3535482551,8581469,1232551184,3738440092,1924384264,4210300055,149447045],[4191002941,888350764,3535482551,8581469,2979256527,3738440092,1924384264,4210300055],[1302964646,4191002941,888350764,3535482551,471408897,2979256527,3738440092,1924384264],[1425853591,1302964646,4191002941,888350764,818918416,471408897,2979256527,3738440092],[3583141768,1425853591,1302964646,4191002941,1776295021,818918416,471408897,2979256527],[2834514066,3583141768,1425853591,1302964646,206298658,1776295021,818918416,471408897],[2835066875,2834514066,3583141768,1425853591,3188144114,206298658,1776295021,818918416],[632147561,2835066875,2834514066,3583141768,1448800486,3188144114,206298658,1776295021],[316632740,632147561,2835066875,2834514066,2992245967,1448800486,3188144114,206298658],[3565579178,316632740,632147561,2835066875,1347149882,2992245967,1448800486,3188144114],[1589254609,3565579178,316632740,632147561,21808537,1347149882,2992245967,1448800486],[843690353,1589254609,3565579178,316632740,2417352028,21808537,1347149882,2992245967],[3330174534,843690353,1589254609,3565579178,2700437537,2417352028,21808537,1347149882],[3908560670,3330174534,843690353,1589254609,754148860,2700437537,2417352028,21808537],[3742535924,3908560670,3330174534,843690353,4260756884,754148860,2700437537,2417352028],[208392570,3742535924,3908560670,3330174534,1981615296,4260756884,754148860,2700437537],[2268459190,208392570,3742535924,3908560670,3652259405,1981615296,4260756884,754148860],[2079066416,2268459190,208392570,3742535924,3790897082,3652259405,1981615296,4260756884],[875868000,2079066416,2268459190,208392570,477975135,3790897082,3652259405,1981615296],[4002368837,875868000,2079066416,2268459190,521497314,477975135,3790897082,3652259405],[1096602954,4002368837,875868000,2079066416,489490447,521497314,477975135,3790897082],[1405644100,1096602954,4002368837,875868000,575115907,489490447,521497314,477975135],[369260087,1405644100,1096602954,4002368837,2802140150,575115907,489490447,521497314],[3994575861,369260087,1405644100,1096602954,192825902,2802140150,575115907,489490447],[3302278898,3994575861,369260087,1405644100,2860676417,192825902,2802140150,575115907],[3142174017,3302278898,3994575861,369260087,1934159749,2860676417,192825902,2802140150],[206652124,3142174017,3302278898,3994575861,3492823855,1934159749,2860676417,192825902],[2474449308,206652124,3142174017,3302278898,2755949749,3492823855,1934159749,2860676417],[1726643361,2474449308,206652124,3142174017,1946702325,2755949749,3492823855,1934159749],[3775773623,1726643361,2474449308,206652124,2157640316,1946702325,2755949749,3492823855],[2442542790,3775773623,1726643361,2474449308,2808581865,2157640316,1946702325,2755949749],[3470959541,2442542790,3775773623,1726643361,1982293348,2808581865,2157640316,1946702325],[4260370276,3470959541,2442542790,3775773623,3199979403,1982293348,2808581865,2157640316],[560430426,4260370276,3470959541,2442542790,3766257535,3199979403,1982293348,2808581865],[1161603101,560430426,4260370276,3470959541,3916624519,3766257535,3199979403,1982293348],[756396479,1161603101,560430426,4260370276,3011420450,3916624519,3766257535,3199979403],[4049090682,756396479,1161603101,560430426,3113721417,3011420450,3916624519,3766257535],[2038398248,4049090682,756396479,1161603101,376034089,3113721417,3011420450,3916624519],[2956388496,2038398248,4049090682,756396479,1898816031,376034089,3113721417,3011420450],[4285633937,2956388496,2038398248,4049090682,2279495109,1898816031,376034089,3113721417],[3820581800,4285633937,2956388496,2038398248,3331577213,2279495109,1898816031,376034089],[997295916,3820581800,4285633937,2956388496,2169974805,3331577213,2279495109,1898816031],[3067190091,997295916,3820581800,4285633937,2046157193,2169974805,3331577213,2279495109],[3048715921,3067190091,997295916,3820581800,2410855029,2046157193,2169974805,3331577213],[3272704094,3048715921,3067190091,997295916,3885979182,2410855029,2046157193,2169974805],[1945285113,3272704094,3048715921,3067190091,60793651,3885979182,2410855029,2046157193],[724963306,1945285113,3272704094,3048715921,3563267128,60793651,3885979182,2410855029],[937297014,724963306,1945285113,3272704094,1556071975,3563267128,60793651,3885979182],[2421831168,937297014,724963306,1945285113,1226688818,1556071975,3563267128,60793651],[3763788054,2421831168,937297014,724963306,606173085,1226688818,1556071975,3563267128]]
def Hp:List UInt8:=[74,96,191,125,75,193,228,133,116,76,247,232,208,134,5,36,117,47,202,28,228,35,49,190,124,67,159,210,48,67,241,81]
theorem yu:bA [122,122]=Hp:=(sv (m:=[122,122,128,0,0,0,0,0,0,0,0,0,0,0,0,0,0,0,0,0,0,0,0,0,0,0,0,0,0,0,0,0,0,0,0,0,0,0,0,0,0,0,0,0,0,0,0,0,0,0,0,0,0,0,0,0,0,0,0,0,0,0,0,16]) (w:=H3) (t:=HW) (by decide+kernel) rfl rfl rfl (by decide+kernel) (by decide+kernel)).trans (by decide+kernel)
def Ft:List UInt32:=[1633772160,0,0,0,0,0,0,0,0,0,0,0,0,0,0,24,1633772160,983040,2634572996,1610613702,1054711612,25426944,2088120298,3806446222,3525733438,1983281696,1538014866,824661887,2584840620,3184682828,145562809,2782273773,3311626407,3014102398,668440457,1236728612,891273620,4255289291,2893836319,3143125713,211285158,3935344578,3619783650,3884440052,2692719170,3061227957,823166091,3292487821,186174800,3676732107,2379011416,3136145349,125334337,3233317804,1328489748,3366404324,460414623,2154383420,445434772,4128881331,868591611,557500486,1005762625,2935325738]
def FI:List (List UInt32):=[[1567222477,1779033703,3144134277,1013904242,4197008674,1359893119,2600822924,528734635],[1055034233,1567222477,1779033703,3144134277,1498147741,4197008674,1359893119,2600822924],[1758861786,1055034233,1567222477,1779033703,125250753,1498147741,4197008674,1359893119],[3844022234,1758861786,1055034233,1567222477,3318010115,125250753,1498147741,4197008674],[3332111562,3844022234,1758861786,1055034233,2067810083,3318010115,125250753,1498147741],[3740884683,3332111562,3844022234,1758861786,20507507,2067810083,3318010115,125250753],[1220767109,3740884683,3332111562,3844022234,107125138,20507507,2067810083,3318010115],[933204837,1220767109,3740884683,3332111562,439791131,107125138,20507507,2067810083],[305035725,933204837,1220767109,3740884683,3513469399,439791131,107125138,20507507],[1066270522,305035725,933204837,1220767109,3639847160,3513469399,439791131,107125138],[4228268457,1066270522,305035725,933204837,3412805730,3639847160,3513469399,439791131],[600733777,4228268457,1066270522,305035725,2987833957,3412805730,3639847160,3513469399],[3545897291,600733777,4228268457,1066270522,4066268407,2987833957,3412805730,3639847160],[3445770707,3545897291,600733777,4228268457,3266624501,4066268407,2987833957,3412805730],[1165553213,3445770707,3545897291,600733777,1230184512,3266624501,4066268407,2987833957],[2400360033,1165553213,3445770707,3545897291,710533114,1230184512,3266624501,4066268407],[2757246063,2400360033,1165553213,3445770707,263072793,710533114,1230184512,3266624501],[483894141,2757246063,2400360033,1165553213,4198931352,263072793,710533114,1230184512],[3264986754,483894141,2757246063,2400360033,2037447745,4198931352,263072793,710533114],[303077852,3264986754,483894141,2757246063,4059857239,2037447745,4198931352,263072793],[502823825,303077852,3264986754,483894141,666449257,4059857239,2037447745,4198931352],[571080131,502823825,303077852,3264986754,2989502560,666449257,4059857239,2037447745],[1625332644,571080131,502823825,303077852,267844766,2989502560,666449257,4059857239],[3874493497,1625332644,571080131,502823825,2426536486,267844766,2989502560,666449257],[3211142389,3874493497,1625332644,571080131,1650077136,2426536486,267844766,2989502560],[1822082660,3211142389,3874493497,1625332644,3604810369,1650077136,2426536486,267844766],[3390284912,1822082660,3211142389,3874493497,4175820450,3604810369,1650077136,2426536486],[3471826545,3390284912,1822082660,3211142389,1748620173,4175820450,3604810369,1650077136],[687723256,3471826545,3390284912,1822082660,3665553828,1748620173,4175820450,3604810369],[2731603891,687723256,3471826545,3390284912,3652588468,3665553828,1748620173,4175820450],[1099115018,2731603891,687723256,3471826545,1235292585,3652588468,3665553828,1748620173],[740843164,1099115018,2731603891,687723256,229333686,1235292585,3652588468,3665553828],[2075604582,740843164,1099115018,2731603891,631473263,229333686,1235292585,3652588468],[1148627423,2075604582,740843164,1099115018,2359089590,631473263,229333686,1235292585],[407832768,1148627423,2075604582,740843164,2824535833,2359089590,631473263,229333686],[3051835849,407832768,1148627423,2075604582,224954230,2824535833,2359089590,631473263],[1581036634,3051835849,407832768,1148627423,1192854360,224954230,2824535833,2359089590],[415589118,1581036634,3051835849,407832768,2034255498,1192854360,224954230,2824535833],[360447969,415589118,1581036634,3051835849,2358980816,2034255498,1192854360,224954230],[773251491,360447969,415589118,1581036634,1909877760,2358980816,2034255498,1192854360],[594874040,773251491,360447969,415589118,3359611592,1909877760,2358980816,2034255498],[2266280655,594874040,773251491,360447969,3476778401,3359611592,1909877760,2358980816],[451014547,2266280655,594874040,773251491,3822527167,3476778401,3359611592,1909877760],[1895651634,451014547,2266280655,594874040,1577036730,3822527167,3476778401,3359611592],[332479563,1895651634,451014547,2266280655,2206742283,1577036730,3822527167,3476778401],[1054836794,332479563,1895651634,451014547,1352974370,2206742283,1577036730,3822527167],[3646796636,1054836794,332479563,1895651634,287018668,1352974370,2206742283,1577036730],[2743469782,3646796636,1054836794,332479563,505991759,287018668,1352974370,2206742283],[2633224930,2743469782,3646796636,1054836794,1855309252,505991759,287018668,1352974370],[3860727076,2633224930,2743469782,3646796636,2344771891,1855309252,505991759,287018668],[4254252976,3860727076,2633224930,2743469782,3349563909,2344771891,1855309252,505991759],[3264127931,4254252976,3860727076,2633224930,3781464674,3349563909,2344771891,1855309252],[2935174069,3264127931,4254252976,3860727076,2371160918,3781464674,3349563909,2344771891],[588073142,2935174069,3264127931,4254252976,3753454682,2371160918,3781464674,3349563909],[4149922135,588073142,2935174069,3264127931,1510855301,3753454682,2371160918,3781464674],[3093635581,4149922135,588073142,2935174069,4148962467,1510855301,3753454682,2371160918],[3733276247,3093635581,4149922135,588073142,3837243998,4148962467,1510855301,3753454682],[280484849,3733276247,3093635581,4149922135,1702422667,3837243998,4148962467,1510855301],[1301593689,280484849,3733276247,3093635581,1736412347,1702422667,3837243998,4148962467],[1967713523,1301593689,280484849,3733276247,3720481434,1736412347,1702422667,3837243998],[3606092690,1967713523,1301593689,280484849,3328607818,3720481434,1736412347,1702422667],[3799463215,3606092690,1967713523,1301593689,4061755410,3328607818,3720481434,1736412347],[4211030625,3799463215,3606092690,1967713523,3303856524,4061755410,3328607818,3720481434],[3463194692,4211030625,3799463215,3606092690,4284758922,3303856524,4061755410,3328607818]]
def FH:List UInt8:=[56,118,14,171,182,102,232,230,30,230,40,161,124,64,144,204,80,114,142,9,95,242,66,24,17,157,81,189,34,71,83,99]
theorem Cc:bA [97,97,98]=FH:=(sv (m:=[97,97,98,128,0,0,0,0,0,0,0,0,0,0,0,0,0,0,0,0,0,0,0,0,0,0,0,0,0,0,0,0,0,0,0,0,0,0,0,0,0,0,0,0,0,0,0,0,0,0,0,0,0,0,0,0,0,0,0,0,0,0,0,24]) (w:=Ft) (t:=FI) (by decide+kernel) rfl rfl rfl (by decide+kernel) (by decide+kernel)).trans (by decide+kernel)
def Hd:List UInt32:=[1650622464,0,0,0,0,0,0,0,0,0,0,0,0,0,0,16,1650622464,655360,270050781,1073742468,1179724838,16951296,3011936185,1667416075,4027649580,1211411274,3874481357,120556636,264870995,3945449546,2164708487,3652222486,3683381346,2840470196,2641696470,876562213,87360721,3363725241,1523790501,661762801,1337217553,1392281669,444939906,2727719024,1266786748,1579160283,3061099938,1466235909,3869735878,2693605697,802400516,2499427292,40879100,1726646860,1440081435,1652352204,3808980258,3128721053,2207850535,1866567534,544381429,587330707,2013314720,1328068330]
def HS:List (List UInt32):=[[1584072781,1779033703,3144134277,1013904242,4213858978,1359893119,2600822924,528734635],[1619638428,1584072781,1779033703,3144134277,1757149591,4213858978,1359893119,2600822924],[1624555175,1619638428,1584072781,1779033703,3088034039,1757149591,4213858978,1359893119],[1316080225,1624555175,1619638428,1584072781,3619505068,3088034039,1757149591,4213858978],[763883861,1316080225,1624555175,1619638428,1667349198,3619505068,3088034039,1757149591],[3109837683,763883861,1316080225,1624555175,3473036494,1667349198,3619505068,3088034039],[869842003,3109837683,763883861,1316080225,581995694,3473036494,1667349198,3619505068],[3248460530,869842003,3109837683,763883861,2308269794,581995694,3473036494,1667349198],[710299200,3248460530,869842003,3109837683,1279754716,2308269794,581995694,3473036494],[3141506399,710299200,3248460530,869842003,789549301,1279754716,2308269794,581995694],[2261939969,3141506399,710299200,3248460530,1428445883,789549301,1279754716,2308269794],[1320674158,2261939969,3141506399,710299200,3583799767,1428445883,789549301,1279754716],[3484157267,1320674158,2261939969,3141506399,335030246,3583799767,1428445883,789549301],[3594503089,3484157267,1320674158,2261939969,1500036803,335030246,3583799767,1428445883],[1310589237,3594503089,3484157267,1320674158,1864445561,1500036803,335030246,3583799767],[2610828803,1310589237,3594503089,3484157267,4193178299,1864445561,1500036803,335030246],[550073819,2610828803,1310589237,3594503089,3820232927,4193178299,1864445561,1500036803],[1125329867,550073819,2610828803,1310589237,3413680811,3820232927,4193178299,1864445561],[2391077476,1125329867,550073819,2610828803,383106151,3413680811,3820232927,4193178299],[1638016482,2391077476,1125329867,550073819,1467084182,383106151,3413680811,3820232927],[3440917524,1638016482,2391077476,1125329867,1785954334,1467084182,383106151,3413680811],[840598629,3440917524,1638016482,2391077476,4103947996,1785954334,1467084182,383106151],[3628523852,840598629,3440917524,1638016482,4294117959,4103947996,1785954334,1467084182],[3572611031,3628523852,840598629,3440917524,914813040,4294117959,4103947996,1785954334],[3568505820,3572611031,3628523852,840598629,1142625664,914813040,4294117959,4103947996],[2649802761,3568505820,3572611031,3628523852,2475853397,1142625664,914813040,4294117959],[3384683852,2649802761,3568505820,3572611031,3909254856,2475853397,1142625664,914813040],[2082492515,3384683852,2649802761,3568505820,3533900138,3909254856,2475853397,1142625664],[1852734083,2082492515,3384683852,2649802761,2283719980,3533900138,3909254856,2475853397],[1893229348,1852734083,2082492515,3384683852,3962557056,2283719980,3533900138,3909254856],[816348348,1893229348,1852734083,2082492515,426059804,3962557056,2283719980,3533900138],[3276869986,816348348,1893229348,1852734083,2253356147,426059804,3962557056,2283719980],[1275037569,3276869986,816348348,1893229348,3389897475,2253356147,426059804,3962557056],[2507675164,1275037569,3276869986,816348348,829139053,3389897475,2253356147,426059804],[3492303199,2507675164,1275037569,3276869986,3346324233,829139053,3389897475,2253356147],[3299029820,3492303199,2507675164,1275037569,3603579692,3346324233,829139053,3389897475],[3350835840,3299029820,3492303199,2507675164,462359585,3603579692,3346324233,829139053],[384157940,3350835840,3299029820,3492303199,2761054593,462359585,3603579692,3346324233],[305841412,384157940,3350835840,3299029820,1183272551,2761054593,462359585,3603579692],[2667731577,305841412,384157940,3350835840,2234621010,1183272551,2761054593,462359585],[1587097338,2667731577,305841412,384157940,1389006870,2234621010,1183272551,2761054593],[2237809476,1587097338,2667731577,305841412,4183713715,1389006870,2234621010,1183272551],[1608593575,2237809476,1587097338,2667731577,547881309,4183713715,1389006870,2234621010],[2726665298,1608593575,2237809476,1587097338,195470726,547881309,4183713715,1389006870],[3233469535,2726665298,1608593575,2237809476,992852321,195470726,547881309,4183713715],[4093045175,3233469535,2726665298,1608593575,4248160481,992852321,195470726,547881309],[1436379579,4093045175,3233469535,2726665298,1742914550,4248160481,992852321,195470726],[95472850,1436379579,4093045175,3233469535,3915146130,1742914550,4248160481,992852321],[3274282493,95472850,1436379579,4093045175,157297157,3915146130,1742914550,4248160481],[3481028991,3274282493,95472850,1436379579,71686652,157297157,3915146130,1742914550],[2786186409,3481028991,3274282493,95472850,3950107109,71686652,157297157,3915146130],[438004969,2786186409,3481028991,3274282493,3438706818,3950107109,71686652,157297157],[1209980630,438004969,2786186409,3481028991,816935009,3438706818,3950107109,71686652],[3227581657,1209980630,438004969,2786186409,634569996,816935009,3438706818,3950107109],[1531615800,3227581657,1209980630,438004969,2753304280,634569996,816935009,3438706818],[3114685828,1531615800,3227581657,1209980630,2650686942,2753304280,634569996,816935009],[1600763431,3114685828,1531615800,3227581657,3003868592,2650686942,2753304280,634569996],[4213060976,1600763431,3114685828,1531615800,2682032236,3003868592,2650686942,2753304280],[2047901638,4213060976,1600763431,3114685828,3969339033,2682032236,3003868592,2650686942],[3576465825,2047901638,4213060976,1600763431,4067545381,3969339033,2682032236,3003868592],[1660462503,3576465825,2047901638,4213060976,1021514134,4067545381,3969339033,2682032236],[4239228159,1660462503,3576465825,2047901638,1853841825,1021514134,4067545381,3969339033],[267262174,4239228159,1660462503,3576465825,3895108951,1853841825,1021514134,4067545381],[3512399150,267262174,4239228159,1660462503,976404568,3895108951,1853841825,1021514134]]
def Hn:List UInt8:=[59,100,219,149,203,85,199,99,57,28,112,113,8,72,154,225,139,65,18,215,131,48,13,227,142,3,59,76,152,195,222,175]
theorem DA:bA [98,98]=Hn:=(sv (m:=[98,98,128,0,0,0,0,0,0,0,0,0,0,0,0,0,0,0,0,0,0,0,0,0,0,0,0,0,0,0,0,0,0,0,0,0,0,0,0,0,0,0,0,0,0,0,0,0,0,0,0,0,0,0,0,0,0,0,0,0,0,0,0,16]) (w:=Hd) (t:=HS) (by decide+kernel) rfl rfl rfl (by decide+kernel) (by decide+kernel)).trans (by decide+kernel)
end Go.Hx
end
section
namespace Go.Proofs.YtmibdabdlgmafaaGreatDoor
open Go.Eng Go.Hx
theorem uH:eJ [97,97,98,98] ⟨2,3,3⟩=[[97,97,98],[98]]:=by decide+kernel
theorem uq:eJ [98,98] ⟨2,3,3⟩=[[98,98]]:=by decide+kernel
theorem Ez:bA [122,122]≠bA [97,97,98]:=by rw[yu,Cc];decide+kernel
theorem GB:bA [122,122]≠bA [98,98]:=by rw[yu,DA];decide+kernel
theorem uE:lF (eJ [97,97,98,98] ⟨2,3,3⟩) [0]=((RD.new 20000).put [97,97,98]).1:=by
 rw[uH]
 rfl
theorem uV:(lF (eJ [97,97,98,98] ⟨2,3,3⟩) [0]).fu (bA [122,122])=4:=by
 have hs:=(pX [97,97,98]).2
 obtain⟨d',e,hd⟩:=(SD.new 20000).put (b:=[97,97,98]) (by decide) rfl (by simp at hs ⊢;omega)
 rw[uE,e]
 refine w6 hd.at_ ?_
 unfold Dw AW
 rw[if_neg (fun h=>Ez (vd (bq _) (bq _) h)),if_neg (ob _ _),if_neg (ob _ _)]
theorem u7:hG ⟨2,3,3⟩ [[98,98],[]] 0 (bA [122,122])=none:=by
 have h1:cn [98,98] ⟨2,3,3⟩=[dG [98,98]]:=by rw[cn,uq];rfl
 have h2:cn [] ⟨2,3,3⟩=[]:=rfl
 rw[hG,h1,dK,if_neg (show¬(dG [98,98]).1.b=bA [122,122]from fun h=>GB h.symm),dK]
 show hG _ [[]] 1 _=none
 rw[hG,h2,dK]
 rfl
theorem u5:dY (lF (eJ [97,97,98,98] ⟨2,3,3⟩) [0]) ⟨2,3,3⟩ [[98,98],[]] (bA [122,122])=3:=by
 unfold dY
 rw[if_neg (by rw[uV];decide),u7]
 rfl
theorem tn:oU [97,97,98,98] 2 []=[[98,98],[]]:=rfl
end Go.Proofs.YtmibdabdlgmafaaGreatDoor
end
section
set_option maxRecDepth 20000
set_option maxHeartbeats 4000000
namespace Go.Proofs.YtmibdabdlgmafaaGreatDoor
open Go.Eng Go.Hx
theorem Dc{u:IX}{j:Nat}{v:Value}(h:[Value.int .i64 u.mn,.int .i64 u.av,.int .i64 u.mx][j]? =some v):u.cs[j]? =some v:=by
 have hj:=(List.getElem?_eq_some_iff.1 h).1
 unfold IX.cs
 rw[List.append_assoc,List.getElem?_append_left hj]
 exact h
theorem vI{u:IX}{j:Nat}{v:Value}(h:(aT u.img.b)[j]? =some v):u.cs[3+j]? =some v:=by
 have hj:=(List.getElem?_eq_some_iff.1 h).1
 have hi:(aT u.img.b).length=32:=by rw[aA,u.img.h]
 unfold IX.cs
 rw[List.getElem?_append_left (by rw[List.length_append];show 3+j<3+_;omega),List.getElem?_append_right (by show 3≤3+j;omega)]
 show(aT u.img.b)[3+j-3]? =_
 rw[Nat.add_sub_cancel_left]
 exact h
end Go.Proofs.YtmibdabdlgmafaaGreatDoor
end
section
set_option maxRecDepth 20000
set_option maxHeartbeats 4000000
namespace Go.Proofs.YtmibdabdlgmafaaGreatDoor
open Go.Eng Go.Hx
def G4(a b c:Int)(its:List It)(A:Option Addr)(k:Nat):IX:=⟨a,b,c,kq,its,A,k⟩
theorem HM{P:Program}{pl:Nat→Option (Nat×Nat)}{a b c:Int}{its:List It}{A:Option Addr}{n k:Nat}(hn:n=its.length)(h0:pl 0=some (0,3))(h2:pl 2=some (35,1)):wq P pl G7.cs [(0,.agg [Value.int .i64 a,.int .i64 b,.int .i64 c].toArray),(2,.slice A n k)] (G4 a b c its A k).cs:=by
 subst hn
 have hz:(aT kq.b).length=32:=by rw[aA,kq.h]
 have e1:bD G7.cs 0 [Value.int .i64 a,.int .i64 b,.int .i64 c]=[Value.int .i64 a,.int .i64 b,.int .i64 c]++aT kq.b++[.slice none 0 0]:=rfl
 have e3:bD ([Value.int .i64 a,.int .i64 b,.int .i64 c]++aT kq.b++[.slice none 0 0]) 35 [.slice A its.length k]=(G4 a b c its A k).cs:=by
  have:=dr (a:=[Value.int .i64 a,.int .i64 b,.int .i64 c]++aT kq.b) (b:=[Value.slice none 0 0]) (c:=[]) (vs:=[.slice A its.length k]) (o:=35) (by simp[hz]) rfl
  rw[List.append_nil,List.append_nil]at this
  exact this
 exact .cons h0 (aV _) rfl (by rw[IX.cd];decide) (by rw[e1];exact .cons h2 rfl rfl (by simp[hz]) (by rw[show(Value.slice A its.length k).cells.toList=[Value.slice A its.length k]from rfl,e3];exact .nil))
theorem DN{P:Program}{pl:Nat→Option (Nat×Nat)}{t:It}{n:Int}(hn:t.2=n)(h0:pl 0=some (0,32))(h1:pl 1=some (32,1)):wq P pl (fK (kq,0)) [(0,.agg (aT t.1.b).toArray),(1,.int .i64 n)] (fK t):=by
 subst hn
 exact vZ h0 h1
theorem tc:cf Tryz.prog 49 [] [] [dF] (fun v_ X_ S_=>v_=(.bool true)∧X_=[]∧S_=[]):=by
 refine aK (N:=45) Tryz.func49 rfl rfl (by simp) fun b=> ?_
 refine ae<|ah<|aG rfl<|ag<|aa<|ae<|ah<| ?_
 refine hx (b5 Tryz.underlying27 fh rfl rfl rfl (by simp[Value.cells,B8]) (by decide) (by decide) (fun g3=> ?_))
 have hA_b3:0<4→(some (⟨g3,0,none⟩:Addr))≠none:=fun _ h=>by cases h
 refine hx (yj 0 rfl rfl Tryz.underlying27 Tryz.underlying5 ?_)
 refine hy (fun _=>b6 y5 rfl rfl (by kernel_rfl) (.cons (o:=0) (sz:=1) (by kernel_rfl) rfl rfl (Nat.le_of_ble_eq_true rfl) (.cons (o:=1) (sz:=1) (by kernel_rfl) rfl rfl (Nat.le_of_ble_eq_true rfl) (.cons (o:=2) (sz:=1) (by kernel_rfl) rfl rfl (Nat.le_of_ble_eq_true rfl) .nil))))<| ?_
 refine hx (b5 Tryz.underlying44 Fi rfl rfl rfl (by simp[Value.cells,B8]) (by decide) (by decide) (fun g6=> ?_))
 have hA_b6:0<1→(some (⟨g6,0,none⟩:Addr))≠none:=fun _ h=>by cases h
 refine aH (fun w m=>m.bw 1 rfl (show _=aI 5 1 (.slice (some ⟨g3,0,none⟩) 4 4) 4 (aT [97,97,98,98])from rfl)) ?_
 refine aH (fun w m=>(m.perm (ao [0] _ [_] _ rfl)).freeze) ?_
 refine aH (fun w m=>m.ew 0 rfl .own) ?_
 refine aC (fun m=>ek (m.rd 0 rfl)) ?_
 rintro⟨hl_b3r,hA_b3r⟩
 refine aH (fun w m=>m.bw 0 rfl (show _=aI 3 1 (.slice (some ⟨g6,0,none⟩) 1 1) 1 (ints [0])from rfl)) ?_
 refine aH (fun w m=>(m.perm (ao [0] _ [_] _ rfl)).freeze) ?_
 refine aH (fun w m=>m.ew 0 rfl .own) ?_
 refine aC (fun m=>eU (m.rd 0 rfl)) ?_
 rintro⟨hl_b6r,hA_b6r⟩
 refine aH (fun w m=>m.o7 (r' :=cz 1 none 0 []) (.refl _ _) (Rd.nil _ _ _) (fun k hk=>absurd rfl hk.1)) ?_
 have hA_z1:0<0→(none:Option Addr)≠none:=fun h=>absurd h (by decide)
 refine hx (an rfl Tryz.call41 (tj (Nat.le_refl _) (by decide) (by decide) (by decide) (by decide) (by intro z hz;rw[List.mem_singleton.1 hz];decide) (by decide) (Nat.le_refl 0) (by decide) (img:=[97,97,98,98]) (ot:=[]) (zl:=[0]) (p:=⟨1,1,0⟩)) [] rfl [3,1,0,5] rfl ?_)
 rintro _ _ _ ⟨gw,gd,st,y,gs,gm,A,c,rs,l,A2,c2,T,trs,AO,cO,rfl,rfl,rfl,hbg⟩
 refine aC (fun m=>eU (m.rd 1 rfl)) ?_
 rintro⟨hl_z,hA_z⟩
 refine aC (fun m=>eU (m.rd 2 rfl)) ?_
 rintro⟨hl_tr,hA_tr⟩
 refine aC (fun m=>ek (m.rd 4 rfl)) ?_
 rintro⟨hl_xo,hA_xo⟩
 refine aG rfl<|ag<|az [1,0] rfl<|aY rfl rfl<|aa<|ae<|ae<|ah<|au rfl<|hy (fun _=>so rfl rfl (by kernel_rfl))<|ag<|az [9,1,0] rfl<|aa<| ?_
 obtain⟨hyd,hD,hok,hrs,hxts,htl,htr,hcO⟩:=hbg
 refine dm rfl (rfl) ?_
 refine aB<|aa<|ae<|kD [0] [0,1,2,3,4,5,6,7,8,9,10] rfl rfl [5,6,7,9,15] [(0,some 4),(1,some 4),(2,some 4),(3,some 4),(4,some 4),(11,some 4),(12,some 4),(13,some 4),(14,some 4),(5,none),(6,none),(7,none),(8,some 3),(9,none),(10,some 4),(15,none),(16,some 5)] (by kernel_rfl) (by kernel_rfl) rfl 99<|aj (ai rfl)<|aj (aL rfl)<|aj (ax rfl pk (by decide))<|bV (fun m=>ak rfl pj (ar (m.aN 0 rfl) (i:=0) rfl))<|aj (b6 y5 rfl rfl (by kernel_rfl) (.cons (o:=0) (sz:=1) (by kernel_rfl) rfl rfl (Nat.le_of_ble_eq_true rfl) (.cons (o:=1) (sz:=1) (by kernel_rfl) rfl rfl (Nat.le_of_ble_eq_true rfl) (.cons (o:=2) (sz:=1) (by kernel_rfl) rfl rfl (Nat.le_of_ble_eq_true rfl) .nil))))<|aj (ai rfl)<|aj (aL rfl)<|aj (ax rfl EA (by decide))<|bV (fun m=>ak rfl Gr ((m.aN 0 rfl).aw 42 _ (lT (j:=0))))<| ?_
 refine dk (b5 Tryz.underlying27 fh rfl rfl rfl (by simp[Value.cells,B8]) (by decide) (by decide) (fun g15=>⟨(fun _=>wk [1] [0,1,2,3,4,5,6,7,8,9,10] rfl rfl), ?_⟩))
 have hA_b15:0<2→(some (⟨g15,0,none⟩:Addr))≠none:=fun _ h=>by cases h
 refine dk (yj 0 rfl rfl Tryz.underlying27 Tryz.underlying5 ⟨(fun _=>wk [1] [0,1,2,3,4,5,6,7,8,9,10] rfl rfl), ?_⟩)
 refine dU (fun w m=>m.bw 0 rfl (show _=aI 5 1 (.slice (some ⟨g15,0,none⟩) 2 2) 2 (aT [122,122])from rfl)) ?_
 refine dU (fun w m=>(m.perm (ao [0] _ [_] _ rfl)).freeze) ?_
 refine dU (fun w m=>m.ew 0 rfl .own) ?_
 refine bU (fun m=>ek (m.rd 0 rfl)) ?_
 rintro⟨hl_b15r,hA_b15r⟩
 obtain⟨tz,htz⟩:∃tz:It,tz=(⟨bA [122,122],bq _⟩,2):=⟨_,rfl⟩
 refine dk (an rfl Tryz.call56 (jq (by decide) (l:=[122,122])) [] rfl [0] rfl ?_)
 rintro _ _ _ ⟨rfl,rfl,rfl⟩
 refine⟨(fun _=>wk [0] [2,3,4,5,6,7,8,9,10,11,12] rfl rfl), ?_⟩
 have hta:Value.agg (aT (bA [122,122])).toArray= .agg (aT tz.1.b).toArray:=by rw[htz]
 rw[hta]
 refine aj (b6 jv rfl rfl (by kernel_rfl) (DN (t:=tz) (n:=2) (by rw[htz]) rI rE))<| ?_
 refine dk (b5 Tryz.underlying80 jv rfl rfl rfl (by intro v hv;rw[List.mem_singleton.1 hv];show(fK tz).toArray.size=33;rw[List.size_toArray,bL]) (by decide) (by decide) (fun g19=>⟨(fun _=>wk [1] [2,3,4,5,6,7,8,9,10,11,12] rfl rfl), ?_⟩))
 have hA_b19:0<1→(some (⟨g19,0,none⟩:Addr))≠none:=fun _ h=>by cases h
 refine dU (fun w m=>m.bw 0 rfl (show _=aI 100 33 (.slice (some ⟨g19,0,none⟩) 1 1) 1 (fe [tz])from rfl)) ?_
 refine dU (fun w m=>(m.perm (ao [0] _ [_] _ rfl)).freeze) ?_
 refine dU (fun w m=>m.ew 0 rfl .own) ?_
 refine bU (fun m=>eU (m.rd 0 rfl)) ?_
 rintro⟨hl_b19r,hA_b19r⟩
 refine aj (b6 E2 rfl rfl (by kernel_rfl) (HM (its:=[tz]) rfl vp vb))<| ?_
 refine dk (an rfl Tryz.call42 (Fa hD hok (by show 1≤100000;decide) (u:=(G4 1 1 9 [tz] (some ⟨g19,0,none⟩) 1))) [1,1] rfl [0,14] rfl ?_)
 rintro _ _ _ ⟨A1,k1,c1,rfl,rfl,rfl,hk1⟩
 refine⟨(fun _=>wk [3] [4,5,6,7,8,9,10,11,12,13,14] rfl rfl), ?_⟩
 refine aj (ay rfl)<|bp<|az [2,9,1,0] rfl<|aY rfl rfl<|aa<|ae<|ae<|ah<|au rfl<|hy (fun _=>a6 rfl Tryz.underlying78)<|hy (fun _=>de rfl rfl)<|ag<|az [28,2,9,1,0] rfl<|aa<| ?_
 have hst:lL (dY y.d (fE ⟨1,1,0⟩) (rs.map bh.l)) [tz]=[(tz.1,3)]:=by
  have e1:tz.1.b=bA [122,122]:=by rw[htz]
  have e2:y.d=lF (eJ [97,97,98,98] ⟨2,3,3⟩) [0]:=hyd
  have hfr:=u5
  rw[←e2,←tn,←hxts,←hrs,←e1]at hfr
  have hfr2:dY y.d (fE ⟨1,1,0⟩) (rs.map bh.l) tz.1.b=3:=hfr
  show fz _ [tz] (0+1)=_
  rw[ou (t:=tz) rfl,if_neg (by simp),hfr2]
  rfl
 replace hk1:k1=(lL (dY y.d (fE ⟨1,1,0⟩) (rs.map bh.l)) [tz]).length:=hk1
 rw[hst]at hk1
 have hst2:lL (dY y.d (fE ⟨1,1,0⟩) (rs.map bh.l)) (G4 1 1 9 [tz] (some ⟨g19,0,none⟩) 1).its=[(tz.1,3)]:=hst
 rw[hst2]
 replace hk1:k1=1:=hk1
 subst hk1
 refine a8 (fun w m=>(m.perm (ao [0] _ [_] _ rfl)).freeze) ?_
 refine a8 (fun w m=>m.ew 0 rfl .own) ?_
 refine aQ (fun m=>eU (m.rd 0 rfl)) ?_
 rintro⟨hl_z2r,hA_z2r⟩
 refine dm rfl (rfl) ?_
 refine aB<|aa<|ae<|ah<|au rfl<|hy (fun _=>ck rfl rfl Tryz.underlying78 nO hA_z2r (show((0:Nat):Int)=0 from rfl) (by omega))<|hy (fun _=>ax rfl wS (by decide))<|hy (fun m=>ak rfl cY (cm (f:=fK) bL (m.rd 0 rfl) (i:=0) (x:=(tz.1,3)) rfl 32 _ (nk _)))<|hy (fun _=>cD rfl rfl)<|hy (fun _=>yT (ai rfl) (rfl))<|bQ (o:=_) rfl rfl rfl (fun _=>ai rfl)<| ?_
 refine G6 (o:=_) rfl rfl rfl (an rfl Tryz.call48 (A9 rfl (by decide) (k:=3) (l:=[(tz.1,3)])) [] rfl [0] rfl ?_)
 rintro _ _ _ ⟨rfl,rfl,rfl⟩
 refine bQ (o:=_) rfl rfl rfl (fun _=>cD rfl rfl)<|hy (fun _=>bz rfl rfl)<|au rfl<|bQ (o:=_) rfl rfl rfl (fun _=>ai rfl)<| ?_
 refine G6 (o:=_) rfl rfl rfl (an rfl Tryz.call46 (Bw rfl (by decide) (l:=[(tz.1,3)])) [] rfl [0] rfl ?_)
 rintro _ _ _ ⟨A12,k12,c12,rfl,rfl,rfl,hk2⟩
 replace hk2:k12=1:=hk2
 subst hk2
 refine bQ (o:=_) rfl rfl rfl (fun _=>a6 rfl Tryz.underlying33)<|bQ (o:=_) rfl rfl rfl (fun _=>cD rfl rfl)<|hy (fun _=>bz rfl rfl)<|aG rfl<|ag<|az [0,28,2,9,1] rfl<|aY rfl rfl<|aa<|aR<| ?_
 exact bc trivial rfl rfl [] rfl [] rfl ⟨rfl,rfl,rfl⟩
end Go.Proofs.YtmibdabdlgmafaaGreatDoor
end
section
set_option maxRecDepth 20000
set_option maxHeartbeats 4000000
namespace Go.Proofs.YtmibdabdlgmafaaGreatDoor
open Go.Eng Go.Hx
theorem DS.H7{st:cU}{d:RD}{k:Nat}(h:DS st d k)(p:List UInt8):(d.cJ p).length≤10000000:=by
 have:=h.u9 p
 omega
end Go.Proofs.YtmibdabdlgmafaaGreatDoor
end
section
set_option maxRecDepth 20000
set_option maxHeartbeats 4000000
namespace Go.Proofs.YtmibdabdlgmafaaGreatDoor
open Go.Eng Go.Hx
theorem xB(img:List UInt8):(ic img).length≤60:=by
 unfold ic
 rw[List.length_take]
 omega
theorem xR(l:List UInt8)(q:Pn):(cn l q).length≤l.length:=by
 rw[cn,List.length_map]
 exact kM l q
theorem GZ{α:Type}{xs:List α}{a c d:Nat}(h:xs.length=a+c+d):xs=(xs.drop 0).take a++(xs.drop a).take c++(xs.drop (a+c)).take d:=by
 rw[List.drop_zero,←List.take_add,←List.take_add,List.take_of_length_le (by omega)]
theorem Fq{xs:List Cell}(h:Ty Tryz.prog 75 xs):∃p:Pm,xs.map Cell.val=p.cs∧(-9223372036854775808≤p.mn∧p.mn≤9223372036854775807)∧(-9223372036854775808≤p.av∧p.av≤9223372036854775807)∧(-9223372036854775808≤p.mx∧p.mx≤9223372036854775807):=by
 obtain⟨hl,hf⟩:=xJ Tryz.underlying75 h
 have hl3:xs.length=1+1+1:=hl.trans (by kernel_rfl)
 obtain⟨a,e0,ha⟩:=sk Tryz.underlying3 (hf 0 _ rfl)
 obtain⟨z,e1,hz⟩:=sk Tryz.underlying3 (hf 1 _ rfl)
 obtain⟨c,e2,hc⟩:=sk Tryz.underlying3 (hf 2 _ rfl)
 refine⟨⟨a,z,c⟩, ?_,ha,hz,hc⟩
 have d0:(xs.drop 0).take 1=[.v (.int .i64 a)]:=e0
 have d1:(xs.drop 1).take 1=[.v (.int .i64 z)]:=e1
 have d2:(xs.drop (1+1)).take 1=[.v (.int .i64 c)]:=e2
 rw[GZ hl3,List.map_append,List.map_append,d0,d1,d2]
 rfl
end Go.Proofs.YtmibdabdlgmafaaGreatDoor
end
section
set_option maxRecDepth 20000
set_option maxHeartbeats 4000000
namespace Go.Proofs.YtmibdabdlgmafaaGreatDoor
open Go.Eng Go.Hx
theorem wL{w:World}{g:Nat}{ty:TypeId}{u:IX}(h:e8 w g ty u.cs):∀(j:Nat) (v:Value),[Value.int .i64 u.mn,.int .i64 u.av,.int .i64 u.mx][j]? =some v→w.cell? ((⟨g,0,none⟩:Addr).add 0|>.add j)=some v:=
 Cq (a:=[Value.int .i64 u.mn,.int .i64 u.av,.int .i64 u.mx]) (b:=aT u.img.b++[.slice u.A u.its.length u.c]) (by rw[IX.cs,List.append_assoc]at h;exact h)
theorem vY{u:IX}:cf Tryz.prog 52 [.agg u.cs.toArray] [] [cz 33 u.A u.its.length (fe u.its)] (fun v_ X_ S_=>∃r,v_=(.bool r)∧X_=[]∧S_=[]):=by
 refine aK (N:=60) Tryz.func52 rfl rfl (by simp) fun b=> ?_
 refine aQ (fun m=>eU (m.rd 0 rfl)) ?_
 rintro⟨hl_it,hA_it⟩
 refine ae<|ah<| ?_
 refine hx (br rfl (fun g1=> ?_))
 refine aH (fun w m=>m.bw 0 rfl (show _=aE g1 82 u.cs from congrArg (aE _ _) (aV _))) ?_
 by_cases hm:(Pm.mk u.mn u.av u.mx).may
 ·refine aG rfl<|ag<|aY rfl rfl<|aa<|ae<|ah<|hy (fun _=>ax rfl iu (by decide))<|hy (fun m=>yV (aP rfl gK gg rfl (wL (m.aN 0 rfl))) ((rfl:_=Value.agg (Pm.mk u.mn u.av u.mx).cs.toArray)))<| ?_
  refine hx (an rfl Tryz.call138 (wJ) [] rfl [] rfl ?_)
  rintro _ _ _ ⟨rfl,rfl,rfl⟩
  refine aG rfl<|ag<|az [3,2,1,0] rfl<|aY rfl rfl<|aa<|ae<|ae<|ah<|au rfl<|hy (fun _=>eu rfl)<|hy (fun _=>yF (ai rfl) ((decide_eq_false (not_not_intro hm))))<|bQ (o:=_) rfl rfl rfl (fun _=>ax rfl dE (by decide))<|bQ (o:=_) rfl rfl rfl (fun m=>ak rfl gD (ar (m.aN 0 rfl) (i:=35) u.ko))<|bQ (o:=_) rfl rfl rfl (fun _=>a6 rfl Tryz.underlying80)<|bQ (o:=_) rfl rfl rfl (fun _=>cw rfl rfl)<|hy (fun _=>bn rfl rfl)<|ag<|az [17,3,2,1,0] rfl<|aa<| ?_
  refine cu rfl (fun hbig=> ?_) (fun hbig=> ?_)
  ·refine ae<|ah<|aG rfl<|ag<|aa<|aR<|aq<| ?_
   exact bc trivial rfl rfl [] rfl [] rfl ⟨false,rfl,rfl,rfl⟩
  ·obtain⟨m1,m2,m3,m4⟩:=hm
   replace m4:u.mx<4097:=m4
   refine aB<|aa<|ae<|ah<|aG rfl<|ag<|aa<|ae<|ae<|ah<|aG rfl<|ag<|aa<|aM<| ?_
   refine kv (fun i n=>u.its.length-i) (fun i n=>[(5,.int .i64 (i:Nat)),(4,.int .i64 n)]) (fun i n=>[]) (fun i n=>[]) (fun i n=>i≤u.its.length∧0≤n∧n≤i*4096) 0 0 [(17,_),(3,_),(1,_),(0,_)] ⟨rfl,rfl,rfl,rfl,trivial⟩ [] rfl [] rfl (⟨Nat.zero_le _,by decide,by decide⟩) ⟨rfl,rfl,trivial⟩ (fun i n ⟨hi,hn0,hn1⟩=> ?_)
   refine ae<|ae<|ah<|au rfl<|hy (fun _=>ax rfl dE (by decide))<|hy (fun m=>ak rfl gD (ar (m.aN 0 rfl) (i:=35) u.ko))<|hy (fun _=>a6 rfl Tryz.underlying80)<|hy (fun _=>bx rfl rfl)<|ag<|az [22,5,4,17,3,1,0] rfl<|aa<| ?_
   refine cu rfl (fun hlt=> ?_) (fun hlt=> ?_)
   ·obtain⟨t,ht⟩:∃t,u.its[i]? =some t:=⟨_,List.getElem?_eq_getElem (by omega)⟩
    by_cases hs:t.2<1
    ·refine aB<|aa<|ae<|aM<|ae<|ah<|hy (fun _=>ax rfl dE (by decide))<|hy (fun m=>ak rfl gD (ar (m.aN 0 rfl) (i:=35) u.ko))<|au rfl<|hy (fun _=>ck rfl rfl Tryz.underlying80 dO hA_it rfl (by omega))<|hy (fun _=>ax rfl gx (by decide))<|hy (fun m=>ak rfl cY (cm (f:=fK) bL (m.rd 0 rfl) ht 32 _ (nk t)))<|aG rfl<|ag<|az [6,22,5,4,17,3,1,0] rfl<|aa<|ae<|ae<|ah<|au rfl<|hy (fun _=>yT (bx rfl rfl) ((decide_eq_true hs)))<|au rfl<|aJ rfl rfl rfl (by decide)<|aJ rfl rfl rfl (by decide)<|aJ rfl rfl rfl (by decide)<|aJ rfl rfl rfl (by decide)<|aJ rfl rfl rfl (by decide)<|hy (fun _=>bz rfl rfl)<|au rfl<|aJ rfl rfl rfl (by decide)<|aJ rfl rfl rfl (by decide)<|aJ rfl rfl rfl (by decide)<|aJ rfl rfl rfl (by decide)<|aJ rfl rfl rfl (by decide)<|aJ rfl rfl rfl (by decide)<|dZ rfl rfl rfl<|dZ rfl rfl rfl<|dZ rfl rfl rfl<|dZ rfl rfl rfl<|dZ rfl rfl rfl<|dZ rfl rfl rfl<|aJ rfl rfl rfl (by decide)<|hy (fun _=>bz rfl rfl)<|ag<|az [54,6,22,5,4,17,3,1,0] rfl<|aa<| ?_
     refine fx rfl (rfl) ?_
     refine ae<|ah<|aG rfl<|ag<|aa<|aR<|aq<|aU<|aq<|aq<|aU<|aq<| ?_
     exact bc trivial rfl rfl [] rfl [] rfl ⟨false,rfl,rfl,rfl⟩
    ·by_cases hx1:t.2>u.mx
     ·refine aB<|aa<|ae<|aM<|ae<|ah<|hy (fun _=>ax rfl dE (by decide))<|hy (fun m=>ak rfl gD (ar (m.aN 0 rfl) (i:=35) u.ko))<|au rfl<|hy (fun _=>ck rfl rfl Tryz.underlying80 dO hA_it rfl (by omega))<|hy (fun _=>ax rfl gx (by decide))<|hy (fun m=>ak rfl cY (cm (f:=fK) bL (m.rd 0 rfl) ht 32 _ (nk t)))<|aG rfl<|ag<|az [6,22,5,4,17,3,1,0] rfl<|aa<|ae<|ae<|ah<|au rfl<|hy (fun _=>yF (bx rfl rfl) ((decide_eq_false hs)))<|au rfl<|bQ (o:=_) rfl rfl rfl (fun _=>ai rfl)<|bQ (o:=_) rfl rfl rfl (fun _=>ax rfl iu (by decide))<|bQ (o:=_) rfl rfl rfl (fun _=>ax rfl eW (by decide))<|bQ (o:=_) rfl rfl rfl (fun m=>ak rfl cY (ar (m.aN 0 rfl) (i:=2) rfl))<|bQ (o:=_) rfl rfl rfl (fun _=>yT (cw rfl rfl) ((decide_eq_true hx1)))<|hy (fun _=>bn rfl rfl)<|au rfl<|aJ rfl rfl rfl (by decide)<|aJ rfl rfl rfl (by decide)<|aJ rfl rfl rfl (by decide)<|aJ rfl rfl rfl (by decide)<|aJ rfl rfl rfl (by decide)<|aJ rfl rfl rfl (by decide)<|dZ rfl rfl rfl<|dZ rfl rfl rfl<|dZ rfl rfl rfl<|dZ rfl rfl rfl<|dZ rfl rfl rfl<|dZ rfl rfl rfl<|aJ rfl rfl rfl (by decide)<|hy (fun _=>bz rfl rfl)<|ag<|az [54,6,22,5,4,17,3,1,0] rfl<|aa<| ?_
      refine fx rfl (rfl) ?_
      refine ae<|ah<|aG rfl<|ag<|aa<|aR<|aq<|aU<|aq<|aq<|aU<|aq<| ?_
      exact bc trivial rfl rfl [] rfl [] rfl ⟨false,rfl,rfl,rfl⟩
     ·by_cases hl:t.2<u.mn
      ·refine aB<|aa<|ae<|aM<|ae<|ah<|hy (fun _=>ax rfl dE (by decide))<|hy (fun m=>ak rfl gD (ar (m.aN 0 rfl) (i:=35) u.ko))<|au rfl<|hy (fun _=>ck rfl rfl Tryz.underlying80 dO hA_it rfl (by omega))<|hy (fun _=>ax rfl gx (by decide))<|hy (fun m=>ak rfl cY (cm (f:=fK) bL (m.rd 0 rfl) ht 32 _ (nk t)))<|aG rfl<|ag<|az [6,22,5,4,17,3,1,0] rfl<|aa<|ae<|ae<|ah<|au rfl<|hy (fun _=>yF (bx rfl rfl) ((decide_eq_false hs)))<|au rfl<|bQ (o:=_) rfl rfl rfl (fun _=>ai rfl)<|bQ (o:=_) rfl rfl rfl (fun _=>ax rfl iu (by decide))<|bQ (o:=_) rfl rfl rfl (fun _=>ax rfl eW (by decide))<|bQ (o:=_) rfl rfl rfl (fun m=>ak rfl cY (ar (m.aN 0 rfl) (i:=2) rfl))<|bQ (o:=_) rfl rfl rfl (fun _=>yF (cw rfl rfl) ((decide_eq_false hx1)))<|hy (fun _=>bn rfl rfl)<|au rfl<|bQ (o:=_) rfl rfl rfl (fun _=>ai rfl)<|bQ (o:=_) rfl rfl rfl (fun _=>ax rfl iu (by decide))<|bQ (o:=_) rfl rfl rfl (fun _=>ax rfl dT (by decide))<|bQ (o:=_) rfl rfl rfl (fun m=>ak rfl cY (ar (m.aN 0 rfl) (i:=0) rfl))<|bQ (o:=_) rfl rfl rfl (fun _=>yT (bx rfl rfl) ((decide_eq_true hl)))<|bQ (o:=_) rfl rfl rfl (fun _=>ai rfl)<|bQ (o:=_) rfl rfl rfl (fun _=>ai rfl)<|bQ (o:=_) rfl rfl rfl (fun _=>aO rfl rfl (bE (by omega) (by omega)))<|bQ (o:=_) rfl rfl rfl (fun _=>ax rfl dE (by decide))<|bQ (o:=_) rfl rfl rfl (fun m=>ak rfl gD (ar (m.aN 0 rfl) (i:=35) u.ko))<|bQ (o:=_) rfl rfl rfl (fun _=>a6 rfl Tryz.underlying80)<|bQ (o:=_) rfl rfl rfl (fun _=>bx rfl rfl)<|bQ (o:=_) rfl rfl rfl (fun _=>bz rfl rfl)<|hy (fun _=>bn rfl rfl)<|ag<|az [54,6,22,5,4,17,3,1,0] rfl<|aa<| ?_
       refine cu rfl (fun hz=> ?_) (fun hz=> ?_)
       ·refine ae<|ah<|aG rfl<|ag<|aa<|aR<|aq<|aU<|aq<|aq<|aU<|aq<| ?_
        exact bc trivial rfl rfl [] rfl [] rfl ⟨false,rfl,rfl,rfl⟩
       ·refine aB<|aa<|ah<|au rfl<|au rfl<|hy (fun _=>aO rfl rfl (bE (by omega) (by omega)))<|aG rfl<|ag<|az [4,54,6,22,5,17,3,1,0] rfl<|aW<|aa<|ah<|au rfl<|hy (fun _=>aO rfl rfl (bE (by omega) (by omega)))<|aG rfl<|ag<|az [5,4,54,6,22,17,3,1,0] rfl<| ?_
        refine hC (i+1) (n+t.2) ⟨rfl,rfl,rfl,rfl,rfl,rfl,trivial⟩ [0] rfl [0] rfl (⟨by omega,by omega,by omega⟩) (by omega)
      ·refine aB<|aa<|ae<|aM<|ae<|ah<|hy (fun _=>ax rfl dE (by decide))<|hy (fun m=>ak rfl gD (ar (m.aN 0 rfl) (i:=35) u.ko))<|au rfl<|hy (fun _=>ck rfl rfl Tryz.underlying80 dO hA_it rfl (by omega))<|hy (fun _=>ax rfl gx (by decide))<|hy (fun m=>ak rfl cY (cm (f:=fK) bL (m.rd 0 rfl) ht 32 _ (nk t)))<|aG rfl<|ag<|az [6,22,5,4,17,3,1,0] rfl<|aa<|ae<|ae<|ah<|au rfl<|hy (fun _=>yF (bx rfl rfl) ((decide_eq_false hs)))<|au rfl<|bQ (o:=_) rfl rfl rfl (fun _=>ai rfl)<|bQ (o:=_) rfl rfl rfl (fun _=>ax rfl iu (by decide))<|bQ (o:=_) rfl rfl rfl (fun _=>ax rfl eW (by decide))<|bQ (o:=_) rfl rfl rfl (fun m=>ak rfl cY (ar (m.aN 0 rfl) (i:=2) rfl))<|bQ (o:=_) rfl rfl rfl (fun _=>yF (cw rfl rfl) ((decide_eq_false hx1)))<|hy (fun _=>bn rfl rfl)<|au rfl<|bQ (o:=_) rfl rfl rfl (fun _=>ai rfl)<|bQ (o:=_) rfl rfl rfl (fun _=>ax rfl iu (by decide))<|bQ (o:=_) rfl rfl rfl (fun _=>ax rfl dT (by decide))<|bQ (o:=_) rfl rfl rfl (fun m=>ak rfl cY (ar (m.aN 0 rfl) (i:=0) rfl))<|bQ (o:=_) rfl rfl rfl (fun _=>yF (bx rfl rfl) ((decide_eq_false hl)))<|bQ (o:=_) rfl rfl rfl (fun _=>ai rfl)<|aJ rfl rfl rfl (by decide)<|aJ rfl rfl rfl (by decide)<|aJ rfl rfl rfl (by decide)<|aJ rfl rfl rfl (by decide)<|aJ rfl rfl rfl (by decide)<|aJ rfl rfl rfl (by decide)<|bQ (o:=_) rfl rfl rfl (fun _=>bn rfl rfl)<|hy (fun _=>bn rfl rfl)<|ag<|az [54,6,22,5,4,17,3,1,0] rfl<|aa<| ?_
       refine dm rfl (rfl) ?_
       refine aB<|aa<|ah<|au rfl<|au rfl<|hy (fun _=>aO rfl rfl (bE (by omega) (by omega)))<|aG rfl<|ag<|az [4,54,6,22,5,17,3,1,0] rfl<|aW<|aa<|ah<|au rfl<|hy (fun _=>aO rfl rfl (bE (by omega) (by omega)))<|aG rfl<|ag<|az [5,4,54,6,22,17,3,1,0] rfl<| ?_
       refine hC (i+1) (n+t.2) ⟨rfl,rfl,rfl,rfl,rfl,rfl,trivial⟩ [0] rfl [0] rfl (⟨by omega,by omega,by omega⟩) (by omega)
   ·refine bH<|al<|al<|aD<|aa<|ae<|ah<|au rfl<|hy (fun _=>jo rfl rfl)<|aG rfl<|ag<|az [2,22,5,4,17,3,1,0] rfl<|aa<|aR<| ?_
    exact bc trivial rfl rfl [] rfl [] rfl ⟨(decide (n≤65536)),rfl,rfl,rfl⟩
 ·refine aG rfl<|ag<|aa<|ae<|ah<|hy (fun _=>ax rfl iu (by decide))<|hy (fun m=>yV (aP rfl gK gg rfl (wL (m.aN 0 rfl))) ((rfl:_=Value.agg (Pm.mk u.mn u.av u.mx).cs.toArray)))<| ?_
  refine hx (an rfl Tryz.call138 (wJ) [] rfl [] rfl ?_)
  rintro _ _ _ ⟨rfl,rfl,rfl⟩
  refine aG rfl<|ag<|az [3,2,1,0] rfl<|aY rfl rfl<|aa<|ae<|ae<|ah<|au rfl<|hy (fun _=>eu rfl)<|hy (fun _=>yT (ai rfl) ((decide_eq_true hm)))<|aJ rfl rfl rfl (by decide)<|aJ rfl rfl rfl (by decide)<|aJ rfl rfl rfl (by decide)<|aJ rfl rfl rfl (by decide)<|hy (fun _=>bz rfl rfl)<|ag<|az [17,3,2,1,0] rfl<|aa<| ?_
  refine fx rfl (rfl) ?_
  refine ae<|ah<|aG rfl<|ag<|aa<|aR<|aq<| ?_
  exact bc trivial rfl rfl [] rfl [] rfl ⟨false,rfl,rfl,rfl⟩
end Go.Proofs.YtmibdabdlgmafaaGreatDoor
end
section
set_option maxRecDepth 20000
set_option maxHeartbeats 4000000
namespace Go.Proofs.YtmibdabdlgmafaaGreatDoor
open Go.Eng Go.Hx
theorem zm{its:List It}{k:Nat}(h:k≤its.length):(fe its).take (k*33)=fe (its.take k):=by
 have e:fe its=fe (its.take k)++fe (its.drop k):=by rw[←fY,List.take_append_drop]
 have hl:(fe (its.take k)).length=k*33:=by rw[vB,List.length_take,Nat.min_eq_left h]
 rw[e,List.take_append_of_le_length (Nat.le_of_eq hl.symm),List.take_of_length_le (Nat.le_of_eq hl)]
theorem Ep{u:IX}{its' :List It}{A' :Option Addr}{c' n:Nat}(hn:n=its'.length):u.cs.set 35 (.slice A' n c')=(IX.mk u.mn u.av u.mx u.img its' A' c').cs:=by
 subst hn
 have hz:(aT u.img.b).length=32:=by rw[aA,u.img.h]
 unfold IX.cs
 rw[List.set_append,if_neg (by simp[hz])]
 simp[hz]
theorem wK{u:IX}(hc:u.its.length≤u.c)(hu:u.its.length≤100000):cf Tryz.prog 51 [.agg u.cs.toArray] [] [cz 33 u.A u.its.length (fe u.its)] (fun v_ X_ S_=>∃A1 c1,v_=(.agg (IX.mk u.mn u.av u.mx u.img (u.its.take 8) A1 c1).cs.toArray)∧X_=[aI 100 33 (.slice A1 (u.its.take 8).length c1) (u.its.take 8).length (fe (u.its.take 8))]∧S_=[]):=by
 obtain⟨k,hk⟩:∃k,k=(u.its.take 8).length:=⟨_,rfl⟩
 have hk8:k=min u.its.length 8:=by rw[hk,List.length_take,Nat.min_comm]
 refine aK (N:=16) Tryz.func51 rfl rfl (by simp) fun b=> ?_
 refine aQ (fun m=>eU (m.rd 0 rfl)) ?_
 rintro⟨hl_it,hA_it⟩
 refine ae<|ah<| ?_
 refine hx (br rfl (fun g1=> ?_))
 refine aH (fun w m=>m.bw 0 rfl (show _=aE g1 82 u.cs from congrArg (aE _ _) (aV _))) ?_
 refine hx (ba tv (fun g2=> ?_))
 refine ag<|aY rfl rfl<|aa<|ae<|ah<|aG rfl<|ag<|aa<|ae<|ah<|au rfl<|hy (fun _=>ax rfl dE (by decide))<|hy (fun m=>ak rfl gD (ar (m.aN 1 rfl) (i:=35) u.ko))<|hy (fun _=>ax rfl dE (by decide))<|hy (fun m=>ak rfl gD (ar (m.aN 1 rfl) (i:=35) u.ko))<| ?_
 refine hy (fun _=>a6 rfl Tryz.underlying80)<|hy (fun _=>wm rfl rfl)<|hy (fun _=>mT rfl rfl Tryz.underlying80 dO (show((k:Nat):Int)=min ((u.its.length:Nat):Int) 8 from by omega) (by omega))<| ?_
 refine aH (fun w m=>m.cL (r' :=aI 100 33 (.slice none 0 0) 0 []) (.refl _ _) (Own.nil _ _ _ _) (fun k hk=>hk.elim)) ?_
 refine aH (fun w m=>m.ew 0 rfl (View.GV (k:=k) (by omega))) ?_
 refine aC (fun m=>eU (m.rd 0 rfl)) ?_
 rintro⟨hl_v,hA_v⟩
 rw[zm (show k≤u.its.length by omega),show u.its.take k=u.its.take 8 from by rw[hk8,List.take_eq_take_iff];omega]
 refine hx (bC 0 rfl rfl rfl Tryz.underlying80 Tryz.underlying80 (by exact .inl rfl) jv rfl (fun m=>Src.b9 (m.rd 0 rfl)) oJ (by unfold maxLen;omega) (by omega) (fun u2=> ?_))
 refine aC (fun m=>(m.own 0 rfl).slice) ?_
 rintro⟨A_o,c_o,rfl,hc_o⟩
 refine aC (fun m=>(m.ord 0 rfl).2.1) fun hA_o=> ?_
 refine aG rfl<|ag<|az [3,2,1,0] rfl<|aY rfl rfl<|aa<|ae<|ah<| ?_
 rw[Nat.zero_add k]
 refine aH (fun w m=>m.bw 0 rfl (show _=aI 100 33 (.slice A_o k c_o) k (fe (u.its.take 8))from(by simp[fe]))) ?_
 refine au rfl<|hy (fun _=>ax rfl dE (by decide))<| ?_
 refine cF (bZ 2 rfl rfl rfl Gu rfl (by rw[IX.cd];decide) ?_)
 refine ag<|az [3,2,1,0] rfl<|aY rfl rfl<|aa<|ae<| ?_
 refine a8 (fun w m=>m.bw 0 rfl (show _=aE g1 82 (IX.mk u.mn u.av u.mx u.img (u.its.take 8) A_o c_o).cs from congrArg (aE _ _) (Ep hk))) ?_
 refine ah<|hy (fun m=>aP rfl ka eS (IX.cd _) ((m.aN 0 rfl).aw))<| ?_
 refine cF (a7 2 rfl rfl rfl eS (IX.cd _) (IX.cx _) rfl ?_)
 refine ag<|az [3,2,1,0] rfl<|aY rfl rfl<|aa<|aR<| ?_
 rw[hk]
 exact eZ trivial rfl rfl ka eS (IX.cd _) (fun m=>(m.aN 0 rfl).aw) [2] rfl [] rfl ⟨A_o,c_o,rfl,rfl,rfl⟩
end Go.Proofs.YtmibdabdlgmafaaGreatDoor
end
section
set_option maxRecDepth 20000
set_option maxHeartbeats 4000000
namespace Go.Proofs.YtmibdabdlgmafaaGreatDoor
open Go.Eng Go.Hx
theorem rW{l:List UInt8}{k:Nat}{y:UInt8}:(aT l).set k (B8 y)=aT (l.set k y):=by rw[aT,aT,List.map_set]
theorem Cv{u:IX}{y:UInt8}(h:(u.img.b.set 3 y).length=32):u.cs.set 6 (B8 y)=(IX.mk u.mn u.av u.mx ⟨u.img.b.set 3 y,h⟩ u.its u.A u.c).cs:=by
 have hz:(aT u.img.b).length=32:=by rw[aA,u.img.h]
 unfold IX.cs
 rw[List.append_assoc,List.append_assoc]
 show [Value.int .i64 u.mn,.int .i64 u.av,.int .i64 u.mx]++((aT u.img.b++[Value.slice u.A u.its.length u.c]).set 3 (B8 y))=_
 rw[List.set_append,if_pos (by rw[hz];decide),rW]
theorem G2(x:UInt8):IntKind.u8.wrap ((x.toNat:Int)+1)=(((x+1).toNat:Nat):Int):=by
 rw[UInt8.toNat_add]
 simp[IntKind.wrap,IntKind.signed,IntKind.bits]
def IX.wi(u:IX)(its:List It)(A:Option Addr)(c:Nat):IX:=⟨u.mn,u.av,u.mx,u.img,its,A,c⟩
theorem ss{u:IX}{its its' :List It}{A:Option Addr}{c:Nat}(h:its.length=its'.length):(u.wi its A c).cs=(u.wi its' A c).cs:=by
 unfold IX.cs IX.wi
 rw[h]
theorem tf{u:IX}{its:List It}{A:Option Addr}{c:Nat}:(u.wi its A c).cs[35]? =some (Value.slice A its.length c):=IX.ko _
theorem jz(t:It)(r:List It):fe (t::r)=fK t++fe r:=by rw[fe,List.flatMap_cons];rfl
theorem tQ{s:Int}:∀{l:List It} {k:Nat} {t:It},l[k]? =some t→(fe l).set (k*33+32) (.int .i64 s)=fe (l.set k (t.1,s))
 | [],k,t,h=>by simp at h
 |t0::r,0,t,h=>by
  cases Option.some.inj (show some t0=some t from h)
  have hd:(aT t0.1.b).length=32:=by rw[aA,t0.1.h]
  rw[List.set_cons_zero,jz,jz,List.set_append,if_pos (by rw[bL];decide)]
  congr 1
  unfold fK
  rw[List.set_append,if_neg (by rw[hd];decide),hd]
  rfl
 |t0::r,k+1,t,h=>by
  have h' :r[k]? =some t:=h
  rw[List.set_cons_succ,jz,jz,←tQ h',List.set_append,if_neg (by rw[bL];omega),bL,show(k+1)*33+32-33=k*33+32 by omega]
theorem wF{t:It}:∀{l:List It} {k:Nat},k<l.length→bD (fe l) (k*33) (fK t)=fe (l.set k t):=by
 intro l k hk
 have e1:fe l=fe (l.take k)++fK l[k]++fe (l.drop (k+1)):=by
  have:l=l.take k++l[k]::l.drop (k+1):=by rw[←List.drop_eq_getElem_cons hk,List.take_append_drop]
  conv=>lhs;rw[this]
  rw[fY,jz,List.append_assoc]
 have e2:fe (l.set k t)=fe (l.take k)++fK t++fe (l.drop (k+1)):=by
  rw[List.set_eq_take_append_cons_drop,if_pos hk,fY,jz,List.append_assoc]
 rw[e1,e2]
 exact dr (by rw[vB,List.length_take,Nat.min_eq_left (by omega)]) (by rw[bL,bL])
theorem F7{w:World}{A:Option Addr}{n i:Nat}{L:List IX}{u:IX}(h:Rd w 36 A n (Fk L))(hx:L[i]? =some u):∀(j:Nat) (v:Value),[Value.int .i64 u.mn,.int .i64 u.av,.int .i64 u.mx][j]? =some v→w.cell? ((((A.getD d0).add (i*36)).add 0).add j)=some v:=fun j v hv=>by
 have:=cm (f:=IX.cs) IX.cd h hx j v (Dc hv)
 rw[add_add]at this
 rw[add_add,add_add,Nat.zero_add]
 exact this
theorem GR{w:World}{A:Option Addr}{n i:Nat}{L:List IX}{u:IX}(h:Rd w 36 A n (Fk L))(hx:L[i]? =some u):∀(j:Nat) (v:Value),(aT u.img.b)[j]? =some v→w.cell? ((((A.getD d0).add (i*36)).add 3).add j)=some v:=fun j v hv=>by
 have:=cm (f:=IX.cs) IX.cd h hx (3+j) v (vI hv)
 rw[add_add]at this
 rw[add_add,add_add]
 exact this
theorem sL{I:Option Addr}{ni ci:Nat}{img:List UInt8}{p:Pm}{L:Option Addr}{np cp:Nat}{zl:List Int}{za:Int}{zn:Int}(hic:ni≤ci)(hin:ni≤140737488351232)(h1:-9223372036854775808≤p.mn∧p.mn≤9223372036854775807)(h2:-9223372036854775808≤p.av∧p.av≤9223372036854775807)(h3:-9223372036854775808≤p.mx∧p.mx≤9223372036854775807)(hzl:xG zl)(hza:-9223372036854775808≤za∧za≤9223372036854775807)(hzn:-9223372036854775808≤zn∧zn≤9223372036854775807):cf Tryz.prog 7 [.slice I ni ci,.agg p.cs.toArray,.slice L np cp,.int .i64 za,.int .i64 zn] [] [cz 1 I ni (aT img),cz 1 L np (ints zl),dF] (fun v_ X_ S_=>v_=(.bool true)∧X_=[]∧S_=[]):=by
 obtain⟨q,hqe⟩:∃q,q=fE p:=⟨_,rfl⟩
 have hq:q.ok:=by rw[hqe];exact(sZ p).1
 obtain⟨own,hown⟩:∃own,own=ic img:=⟨_,rfl⟩
 have hol:own.length≤60:=by rw[hown];exact xB img
 obtain⟨its,hits⟩:∃its,its=cn own q:=⟨_,rfl⟩
 have hil:its.length≤60:=by rw[hits];exact Nat.le_trans (xR own q) hol
 refine aK (N:=210) Tryz.func7 rfl rfl (by simp) fun b=> ?_
 refine aQ (fun m=>ek (m.rd 0 rfl)) ?_
 rintro⟨hl_ri,hA_ri⟩
 refine aQ (fun m=>eU (m.rd 1 rfl)) ?_
 rintro⟨hl_rl,hA_rl⟩
 refine a8 (fun w m=>m.o7 (r' :=cz 1 none 0 []) (.refl _ _) (Rd.nil _ _ _) (fun k hk=>absurd rfl hk.1)) ?_
 have hA_z1:0<0→(none:Option Addr)≠none:=fun h=>absurd h (by decide)
 refine ae<|ah<| ?_
 refine hx (br rfl (fun g6=> ?_))
 refine aH (fun w m=>m.bw 0 rfl (show _=aE g6 75 p.cs from congrArg (aE _ _) (aV _))) ?_
 refine aG rfl<|ag<|aY rfl rfl<|aa<|ae<|ah<|au rfl<|hy (fun m=>yV (aP rfl gK gg rfl ((m.aN 0 rfl).aw)) ((rfl:_=Value.agg p.cs.toArray)))<|au rfl<| ?_
 refine hx (an rfl Tryz.call41 (tj hic hin h1 h2 h3 hzl (by decide) (Nat.le_refl 0) (by decide) (ot:=[]) (fr:=0) (p:=p)) [] rfl [1,2,0,3] rfl ?_)
 rintro _ _ _ ⟨gw,gd,st,y,gs,gm,A,c,rs,l,A2,c2,T,trs,AO,cO,rfl,rfl,rfl,hbg⟩
 refine aC (fun m=>eU (m.rd 1 rfl)) ?_
 rintro⟨hl_z,hA_z⟩
 refine aC (fun m=>eU (m.rd 2 rfl)) ?_
 rintro⟨hl_tr,hA_tr⟩
 refine aC (fun m=>ek (m.rd 4 rfl)) ?_
 rintro⟨hl_xo,hA_xo⟩
 refine aG rfl<|ag<|az [11,10,6,0,1,2,3,4] rfl<|aY rfl rfl<|aa<|ae<|ae<|ah<|au rfl<| ?_
 rw[←hqe,←hown]
 obtain⟨hyd,hD,hok,hrs,hxts,htl,htr,hcO,hcI⟩:=hbg
 rw[←hqe,←hown,←hits]at hcI
 rw[←hown]at hcO
 refine hy (fun _=>so rfl rfl (by kernel_rfl))<|ag<|az [34,11,10,6,0,1,2,3,4] rfl<|aa<| ?_
 refine dm rfl (rfl) ?_
 refine aB<|aa<|ae<|kD [0,0,0,0] [0,1,2,3,4,5,6,7,8] rfl rfl [9] [(0,some 0),(1,some 0),(2,some 0),(3,some 0),(4,some 1),(5,some 0),(6,some 0),(7,some 0),(8,some 0),(9,none),(10,some 1)] (by kernel_rfl) (by kernel_rfl) rfl 99<|aj (ai rfl)<|aj (aL rfl)<|aj (ax rfl Ee (by decide))<|bV (fun m=>ak rfl di ((m.aN 0 rfl).aw 44 _ (lT (j:=2))))<|aj (ai rfl)<|aj (aL rfl)<|aj (ax rfl nI (by decide))<|aj (ax rfl iu (by decide))<|bV (fun m=>yV (aP rfl gK gg rfl (fun j v hv=>qA (m.aN 0 rfl) j v (Dc (u:=lR own q A2 c2) hv))) ((rfl:_=Value.agg q.p.cs.toArray)))<| ?_
 refine dk (an rfl Tryz.call50 (pL hq rfl (by omega) hcO (q:=q)) [] rfl [4] rfl ?_)
 rintro _ _ _ ⟨A1,c1,crs,rfl,rfl,rfl,hck⟩
 refine⟨(fun _=>wk [1,1,1,1] [1,2,3,4,5,6,7,8,9] rfl rfl), ?_⟩
 obtain⟨hck,hcn⟩:=hck
 refine bU (fun m=>(show∀r∈crs,bh.n r≤bh.c r from fun r hr=>((m.Ec 0 rfl) r hr).2)) fun hcc=> ?_
 have hcr:∀r∈crs,r.n=r.l.length∧r.n≤r.c∧r.l.length≤60:=fun r hr=>⟨hcn r hr,hcc r hr,Nat.le_trans (sn (q:=q) (by rw[←hck];exact List.mem_map_of_mem hr)) hol⟩
 have hcl:crs.length≤60:=by
  have:=kM own q
  rw[←hck,List.length_map]at this
  omega
 refine dU (fun w m=>(m.perm (ao [0] _ [_] _ rfl)).freeze) ?_
 refine dU (fun w m=>m.ew 0 rfl .own) ?_
 refine bU (fun m=>eU (m.rd 0 rfl)) ?_
 rintro⟨hl_or,hA_or⟩
 refine aj (ay rfl)<|bp<|az [12,34,11,10,6,0,1,2,3,4] rfl<|aY rfl rfl<|aa<|ae<|ae<|ah<|aG rfl<|ag<|aa<| ?_
 refine uB (fun(st1:cU) (y1:RX)=>[]) (fun(st1:cU) (y1:RX)=>[aE gw 86 (oF gd y1 (lR own q A2 c2) gs (.slice T 2 2) (.slice AO own.length cO)),bG gd st1]) (fun(st1:cU) (y1:RX)=>[eg y1]) (fun(st1:cU) (y1:RX)=>DS st1 y1.d 300) [(12,_),(34,_),(11,_),(10,_),(6,_),(0,_),(1,_),(2,_),(3,_),(4,_)] ⟨rfl,rfl,rfl,rfl,rfl,rfl,rfl,rfl,rfl,rfl,trivial⟩ [0,0] rfl ?_ (fun st1 y1 hD1=> ?_)
 ·refine aM<| ?_
  refine gh (fun i st y=>crs.length-i) (fun i st y=>[(13,.int .i64 (i:Nat))]) (fun i st y=>[aE gw 86 (oF gd y (lR own q A2 c2) gs (.slice T 2 2) (.slice AO own.length cO)),bG gd st]) (fun i st y=>[eg y]) (fun i st y=>i≤crs.length∧DS st y.d (20+4*i)) 0 st y [(12,_),(34,_),(11,_),(10,_),(6,_),(0,_),(1,_),(2,_),(3,_),(4,_)] ⟨rfl,rfl,rfl,rfl,rfl,rfl,rfl,rfl,rfl,rfl,trivial⟩ [0,0] rfl [3] rfl (⟨Nat.zero_le _,hD⟩) ⟨rfl,trivial⟩ (fun i st y ⟨hi,hD⟩=> ?_)
  refine ae<|ae<|ah<|au rfl<|au rfl<|hy (fun _=>a6 rfl Tryz.underlying84)<|hy (fun _=>bx rfl rfl)<|au rfl<| ?_
  refine fH 49 rfl (fun ha=> ?_) (fun ha=> ?_)
  ·refine bQ (o:=_) rfl rfl rfl (fun _=>ai rfl)<| ?_
   refine bQ (o:=_) rfl rfl rfl (fun m=>ET rfl rfl (by decide)) ?_
   refine bQ (o:=_) rfl rfl rfl (fun _=>cD rfl rfl)<|hy (fun _=>bz rfl rfl)<|ag<|az [53,13,12,34,11,10,6,0,1,2,3,4] rfl<|aa<| ?_
   refine cu rfl (fun hb=> ?_) (fun hb=> ?_)
   ·obtain⟨r,hr⟩:∃r,crs[i]? =some r:=⟨_,List.getElem?_eq_getElem (by omega)⟩
    obtain⟨hrn,hrc,hrl⟩:=hcr r (List.mem_of_getElem? hr)
    have hDo:y.d.ok (20+4*i):=⟨st,hD⟩
    have hp32:(aT (y.d.put r.l).2.1).length=32:=by rw[aA];exact vy _ _
    have hrow:(lf crs)[i]? =some (Value.slice r.A r.n r.c):=by rw[lf,List.getElem?_map,hr];rfl
    refine aB<|aa<|ae<|aM<|ae<| ?_
    refine a8 (fun w m=>m.ew 3 rfl (View.row hr)) ?_
    refine aQ (fun m=>ek (m.rd 0 rfl)) ?_
    rintro⟨hl_rr3,hA_rr3⟩
    refine uB (fun(y2:RX) (g14:Nat)=>[(14,.pointer (some ⟨g14,0,none⟩))]) (fun(y2:RX) (g14:Nat)=>[aE g14 39 y2.cs]) (fun(y2:RX) (g14:Nat)=>[eg y2]) (fun(y2:RX) (g14:Nat)=>y2.d=(y.d.put r.l).1) [(53,_),(13,_),(12,_),(34,_),(11,_),(10,_),(6,_),(0,_),(1,_),(2,_),(3,_),(4,_)] ⟨rfl,rfl,rfl,rfl,rfl,rfl,rfl,rfl,rfl,rfl,rfl,rfl,trivial⟩ [] rfl ?_ (fun y2 g14 hyd2=> ?_)
    ·refine AM [8,13,14,15,16] (.take 0 3<|.take 1 3<|.take 2 3<|.take 3 3<|.take 4 3<|.take 5 3<|.take 6 3<|.take 7 3<|.alt 8 (.take 9 3<|.take 10 3<|.take 11 4<|.take 12 5<|.alt 13 (.alt 14 (.alt 15 (.alt 16 (.take 17 5<|.done) (.stop)) (.stop)) (.stop)) (.alt 14 (.alt 13 (.alt 15 (.alt 16 (.take 17 5<|.done) (.stop)) (.stop)) (.stop)) (.stop))) (.alt 13 (.alt 8 (.take 9 3<|.take 10 3<|.take 11 4<|.take 12 5<|.alt 14 (.alt 15 (.alt 16 (.take 17 5<|.done) (.stop)) (.stop)) (.stop)) (.alt 14 (.alt 8 (.take 9 3<|.take 10 3<|.take 11 4<|.take 12 5<|.alt 15 (.alt 16 (.take 17 5<|.done) (.stop)) (.stop)) (.stop)) (.stop))) (.alt 14 (.alt 8 (.take 9 3<|.take 10 3<|.take 11 4<|.take 12 5<|.alt 13 (.alt 15 (.alt 16 (.take 17 5<|.done) (.stop)) (.stop)) (.stop)) (.alt 13 (.alt 8 (.take 9 3<|.take 10 3<|.take 11 4<|.take 12 5<|.alt 15 (.alt 16 (.take 17 5<|.done) (.stop)) (.stop)) (.stop)) (.stop))) (.stop)))) (by kernel_rfl) (by kernel_rfl) rfl 3<|ei (ai rfl)<|ei (aL rfl)<|ei (ax rfl nc (by decide))<|H8 (fun m=>yV (aP rfl cK bT rfl (wI (m.aN 0 rfl))) ((rfl:_=Value.agg y.cs.toArray)))<|ei (ai rfl)<|ei (ai rfl)<|ei (aS rfl rfl Tryz.underlying84 je hA_or rfl (by omega))<|H8 (fun m=>ak rfl di ((m.rd 2 rfl).cell hrow))<| ?_
     refine jM ?_ ?_
     ·refine oA (an rfl Tryz.call26 (rh hDo (by omega) hrc hrn.symm (by omega)) [] rfl [1,0,13] rfl ?_)
      rintro _ _ _ ⟨y2,rfl,rfl,rfl,hyd2⟩
      refine⟨(fun _=>wk [0,0,0,0] [1,2,3,4,5,6,7,8,9,10,11,12,13,14] rfl rfl), ?_⟩
      refine ei (ai rfl)<|ei (aF rfl rfl)<|ei (aF rfl rfl)<|ei (aF rfl rfl)<| ?_
      refine jM ?_ ?_
      ·refine oA (ba mR (fun g14=>⟨(fun _=>wk [1,1,1,1] [1,2,3,4,5,6,7,8,9,10,11,12,13,14] rfl rfl), ?_⟩))
       refine oA (ba fw (fun g15=>⟨(fun _=>wk [2,2,2,2] [1,2,3,4,5,6,7,8,9,10,11,12,13,14] rfl rfl), ?_⟩))
       refine gP (a7 1 rfl rfl rfl bT rfl cx rfl ⟨(fun h=>absurd h (by decide)), ?_⟩)
       refine gP (a7 1 rfl rfl rfl b7 hp32 bl rfl ⟨(fun h=>absurd h (by decide)), ?_⟩)
       refine ei (ay rfl)<|j2<|az [14,53,13,12,34,11,10,6,0,1,2,3,4] rfl<|aY rfl rfl<| ?_
       exact fC (R:=fun(y2:RX) (g14:Nat)=>[(14,.pointer (some ⟨g14,0,none⟩))]) (X1:=fun(y2:RX) (g14:Nat)=>[aE g14 39 y2.cs]) (S1:=fun(y2:RX) (g14:Nat)=>[eg y2]) (I:=fun(y2:RX) (g14:Nat)=>y2.d=(y.d.put r.l).1) y2 g14 ⟨rfl,rfl,rfl,rfl,rfl,rfl,rfl,rfl,rfl,rfl,rfl,rfl,rfl,trivial⟩ [1,1,1,1,1] rfl [0,1,2,3,4,5,6,7,8,9,10,11,12,13,14] rfl hyd2
      ·refine oA (ba fw (fun g15=>⟨(fun _=>wk [1,1,1,1] [1,2,3,4,5,6,7,8,9,10,11,12,13,14] rfl rfl), ?_⟩))
       refine oA (ba mR (fun g14=>⟨(fun _=>wk [2,2,2,2] [1,2,3,4,5,6,7,8,9,10,11,12,13,14] rfl rfl), ?_⟩))
       refine gP (a7 0 rfl rfl rfl bT rfl cx rfl ⟨(fun h=>absurd h (by decide)), ?_⟩)
       refine gP (a7 1 rfl rfl rfl b7 hp32 bl rfl ⟨(fun h=>absurd h (by decide)), ?_⟩)
       refine ei (ay rfl)<|j2<|az [14,53,13,12,34,11,10,6,0,1,2,3,4] rfl<|aY rfl rfl<| ?_
       exact fC (R:=fun(y2:RX) (g14:Nat)=>[(14,.pointer (some ⟨g14,0,none⟩))]) (X1:=fun(y2:RX) (g14:Nat)=>[aE g14 39 y2.cs]) (S1:=fun(y2:RX) (g14:Nat)=>[eg y2]) (I:=fun(y2:RX) (g14:Nat)=>y2.d=(y.d.put r.l).1) y2 g14 ⟨rfl,rfl,rfl,rfl,rfl,rfl,rfl,rfl,rfl,rfl,rfl,rfl,rfl,trivial⟩ [1,1,1,1,1] rfl [0,1,2,3,4,5,6,7,8,9,10,11,12,13,14] rfl hyd2
     ·refine jM ?_ ?_
      ·refine oA (ba mR (fun g14=>⟨(fun _=>wk [1,1,1,1] [0,1,2,3,4,5,6,7,8,9,10,11,12,13] rfl rfl), ?_⟩))
       refine jM ?_ ?_
       ·refine oA (an rfl Tryz.call26 (rh hDo (by omega) hrc hrn.symm (by omega)) [] rfl [1,0,13] rfl ?_)
        rintro _ _ _ ⟨y2,rfl,rfl,rfl,hyd2⟩
        refine⟨(fun _=>wk [1,1,1,1] [1,2,3,4,5,6,7,8,9,10,11,12,13,14] rfl rfl), ?_⟩
        refine ei (ai rfl)<|ei (aF rfl rfl)<|ei (aF rfl rfl)<|ei (aF rfl rfl)<| ?_
        refine oA (ba fw (fun g15=>⟨(fun _=>wk [2,2,2,2] [1,2,3,4,5,6,7,8,9,10,11,12,13,14] rfl rfl), ?_⟩))
        refine gP (a7 1 rfl rfl rfl bT rfl cx rfl ⟨(fun h=>absurd h (by decide)), ?_⟩)
        refine gP (a7 1 rfl rfl rfl b7 hp32 bl rfl ⟨(fun h=>absurd h (by decide)), ?_⟩)
        refine ei (ay rfl)<|j2<|az [14,53,13,12,34,11,10,6,0,1,2,3,4] rfl<|aY rfl rfl<| ?_
        exact fC (R:=fun(y2:RX) (g14:Nat)=>[(14,.pointer (some ⟨g14,0,none⟩))]) (X1:=fun(y2:RX) (g14:Nat)=>[aE g14 39 y2.cs]) (S1:=fun(y2:RX) (g14:Nat)=>[eg y2]) (I:=fun(y2:RX) (g14:Nat)=>y2.d=(y.d.put r.l).1) y2 g14 ⟨rfl,rfl,rfl,rfl,rfl,rfl,rfl,rfl,rfl,rfl,rfl,rfl,rfl,trivial⟩ [1,1,1,1,1] rfl [0,1,2,3,4,5,6,7,8,9,10,11,12,13,14] rfl hyd2
       ·refine oA (ba fw (fun g15=>⟨(fun _=>wk [2,2,2,2] [0,1,2,3,4,5,6,7,8,9,10,11,12,13] rfl rfl), ?_⟩))
        refine oA (an rfl Tryz.call26 (rh hDo (by omega) hrc hrn.symm (by omega)) [] rfl [1,0,13] rfl ?_)
        rintro _ _ _ ⟨y2,rfl,rfl,rfl,hyd2⟩
        refine⟨(fun _=>wk [2,2,2,2] [1,2,3,4,5,6,7,8,9,10,11,12,13,14] rfl rfl), ?_⟩
        refine ei (ai rfl)<|ei (aF rfl rfl)<|ei (aF rfl rfl)<|ei (aF rfl rfl)<| ?_
        refine gP (a7 1 rfl rfl rfl bT rfl cx rfl ⟨(fun h=>absurd h (by decide)), ?_⟩)
        refine gP (a7 1 rfl rfl rfl b7 hp32 bl rfl ⟨(fun h=>absurd h (by decide)), ?_⟩)
        refine ei (ay rfl)<|j2<|az [14,53,13,12,34,11,10,6,0,1,2,3,4] rfl<|aY rfl rfl<| ?_
        exact fC (R:=fun(y2:RX) (g14:Nat)=>[(14,.pointer (some ⟨g14,0,none⟩))]) (X1:=fun(y2:RX) (g14:Nat)=>[aE g14 39 y2.cs]) (S1:=fun(y2:RX) (g14:Nat)=>[eg y2]) (I:=fun(y2:RX) (g14:Nat)=>y2.d=(y.d.put r.l).1) y2 g14 ⟨rfl,rfl,rfl,rfl,rfl,rfl,rfl,rfl,rfl,rfl,rfl,rfl,rfl,trivial⟩ [1,1,1,1,1] rfl [0,1,2,3,4,5,6,7,8,9,10,11,12,13,14] rfl hyd2
      ·refine oA (ba fw (fun g15=>⟨(fun _=>wk [1,1,1,1] [0,1,2,3,4,5,6,7,8,9,10,11,12,13] rfl rfl), ?_⟩))
       refine jM ?_ ?_
       ·refine oA (an rfl Tryz.call26 (rh hDo (by omega) hrc hrn.symm (by omega)) [] rfl [1,0,13] rfl ?_)
        rintro _ _ _ ⟨y2,rfl,rfl,rfl,hyd2⟩
        refine⟨(fun _=>wk [1,1,1,1] [1,2,3,4,5,6,7,8,9,10,11,12,13,14] rfl rfl), ?_⟩
        refine ei (ai rfl)<|ei (aF rfl rfl)<|ei (aF rfl rfl)<|ei (aF rfl rfl)<| ?_
        refine oA (ba mR (fun g14=>⟨(fun _=>wk [2,2,2,2] [1,2,3,4,5,6,7,8,9,10,11,12,13,14] rfl rfl), ?_⟩))
        refine gP (a7 0 rfl rfl rfl bT rfl cx rfl ⟨(fun h=>absurd h (by decide)), ?_⟩)
        refine gP (a7 1 rfl rfl rfl b7 hp32 bl rfl ⟨(fun h=>absurd h (by decide)), ?_⟩)
        refine ei (ay rfl)<|j2<|az [14,53,13,12,34,11,10,6,0,1,2,3,4] rfl<|aY rfl rfl<| ?_
        exact fC (R:=fun(y2:RX) (g14:Nat)=>[(14,.pointer (some ⟨g14,0,none⟩))]) (X1:=fun(y2:RX) (g14:Nat)=>[aE g14 39 y2.cs]) (S1:=fun(y2:RX) (g14:Nat)=>[eg y2]) (I:=fun(y2:RX) (g14:Nat)=>y2.d=(y.d.put r.l).1) y2 g14 ⟨rfl,rfl,rfl,rfl,rfl,rfl,rfl,rfl,rfl,rfl,rfl,rfl,rfl,trivial⟩ [1,1,1,1,1] rfl [0,1,2,3,4,5,6,7,8,9,10,11,12,13,14] rfl hyd2
       ·refine oA (ba mR (fun g14=>⟨(fun _=>wk [2,2,2,2] [0,1,2,3,4,5,6,7,8,9,10,11,12,13] rfl rfl), ?_⟩))
        refine oA (an rfl Tryz.call26 (rh hDo (by omega) hrc hrn.symm (by omega)) [] rfl [1,0,13] rfl ?_)
        rintro _ _ _ ⟨y2,rfl,rfl,rfl,hyd2⟩
        refine⟨(fun _=>wk [2,2,2,2] [1,2,3,4,5,6,7,8,9,10,11,12,13,14] rfl rfl), ?_⟩
        refine ei (ai rfl)<|ei (aF rfl rfl)<|ei (aF rfl rfl)<|ei (aF rfl rfl)<| ?_
        refine gP (a7 0 rfl rfl rfl bT rfl cx rfl ⟨(fun h=>absurd h (by decide)), ?_⟩)
        refine gP (a7 1 rfl rfl rfl b7 hp32 bl rfl ⟨(fun h=>absurd h (by decide)), ?_⟩)
        refine ei (ay rfl)<|j2<|az [14,53,13,12,34,11,10,6,0,1,2,3,4] rfl<|aY rfl rfl<| ?_
        exact fC (R:=fun(y2:RX) (g14:Nat)=>[(14,.pointer (some ⟨g14,0,none⟩))]) (X1:=fun(y2:RX) (g14:Nat)=>[aE g14 39 y2.cs]) (S1:=fun(y2:RX) (g14:Nat)=>[eg y2]) (I:=fun(y2:RX) (g14:Nat)=>y2.d=(y.d.put r.l).1) y2 g14 ⟨rfl,rfl,rfl,rfl,rfl,rfl,rfl,rfl,rfl,rfl,rfl,rfl,rfl,trivial⟩ [1,1,1,1,1] rfl [0,1,2,3,4,5,6,7,8,9,10,11,12,13,14] rfl hyd2
    ·refine aa<|ae<|ah<|au rfl<|hy (fun m=>yV (aP rfl cK bT rfl ((m.aN 0 rfl).aw)) ((rfl:_=Value.agg y2.cs.toArray)))<|hy (fun _=>aL rfl)<|hy (fun _=>ax rfl nc (by decide))<| ?_
     refine cF (sb 1 rfl rfl rfl bT rfl cx (by rw[rQ];decide) ?_)
     refine ag<|az [14,53,13,12,34,11,10,6,0,1,2,3,4] rfl<|aY rfl rfl<|aa<| ?_
     refine a8 (fun w m=>m.bw 0 rfl (show _=aE gw 86 (oF gd y2 (lR own q A2 c2) gs (.slice T 2 2) (.slice AO own.length cO))from congrArg (aE _ _) sF)) ?_
     refine kD [0,0,1,1] [0,1,2,3,4,5,6,7,8,9,10,11,12,13,14] rfl rfl [8] [(0,some 0),(1,some 0),(2,some 0),(3,some 0),(4,some 0),(5,some 0),(6,some 0),(7,some 0),(8,none)] (by kernel_rfl) (by kernel_rfl) rfl 99<|aj (ai rfl)<|aj (aL rfl)<|aj (ax rfl pk (by decide))<|bV (fun m=>ak rfl pj (ar (m.aN 0 rfl) (i:=0) rfl))<|aj (ai rfl)<|aj (ai rfl)<|aj (aS rfl rfl Tryz.underlying84 je hA_or rfl (by omega))<|bV (fun m=>ak rfl di ((m.rd 3 rfl).cell hrow))<| ?_
     refine dk (an rfl Tryz.call28 (C8 hD (by omega) hrc hrn.symm (by omega)) [2] rfl [1,14] rfl ?_)
     rintro _ _ _ ⟨st1,rfl,rfl,rfl,hD2⟩
     refine⟨(fun _=>wk [1,1,1,1] [0,1,2,3,4,5,6,7,8,9,10,11,12,13,14] rfl rfl), ?_⟩
     refine bp<|az [14,53,13,12,34,11,10,6,0,1,2,3,4] rfl<|aY rfl rfl<|aW<|aa<|ah<|au rfl<|hy (fun _=>aO rfl rfl (bE (by omega) (by omega)))<|aG rfl<|ag<|az [13,14,53,12,34,11,10,6,0,1,2,3,4] rfl<| ?_
     rw[←hyd2]at hD2
     refine gj (i+1) st1 y2 ⟨rfl,rfl,rfl,rfl,rfl,rfl,rfl,rfl,rfl,rfl,rfl,trivial⟩ [1,0,1,1] rfl [0,3,4,5,6,7,8,9,10,11,12,13,14] rfl (⟨by omega,hD2.le (by omega)⟩) (by omega)
   ·refine bH<|al<|al<|aD<| ?_
    exact fC (R:=fun(st1:cU) (y1:RX)=>[]) (X1:=fun(st1:cU) (y1:RX)=>[aE gw 86 (oF gd y1 (lR own q A2 c2) gs (.slice T 2 2) (.slice AO own.length cO)),bG gd st1]) (S1:=fun(st1:cU) (y1:RX)=>[eg y1]) (I:=fun(st1:cU) (y1:RX)=>DS st1 y1.d 300) st y ⟨rfl,rfl,rfl,rfl,rfl,rfl,rfl,rfl,rfl,rfl,trivial⟩ [0,0,0,0] rfl [0,1,2,3,4,5,6,7,8,9,10,11,12] rfl (hD.le (by omega))
  ·refine aJ rfl rfl rfl (by decide)<|aJ rfl rfl rfl (by decide)<|aJ rfl rfl rfl (by decide)<|hy (fun _=>bn rfl rfl)<|ag<|az [53,13,12,34,11,10,6,0,1,2,3,4] rfl<|aa<| ?_
   refine dm rfl (rfl) ?_
   refine bH<|al<|al<|aD<| ?_
   exact fC (R:=fun(st1:cU) (y1:RX)=>[]) (X1:=fun(st1:cU) (y1:RX)=>[aE gw 86 (oF gd y1 (lR own q A2 c2) gs (.slice T 2 2) (.slice AO own.length cO)),bG gd st1]) (S1:=fun(st1:cU) (y1:RX)=>[eg y1]) (I:=fun(st1:cU) (y1:RX)=>DS st1 y1.d 300) st y ⟨rfl,rfl,rfl,rfl,rfl,rfl,rfl,rfl,rfl,rfl,trivial⟩ [0,0,0,0] rfl [0,1,2,3,4,5,6,7,8,9,10,11,12] rfl (hD.le (by omega))
 ·refine aa<|ae<|ah<|au rfl<|hy (fun _=>aL rfl)<|hy (fun _=>ax rfl nI (by decide))<|hy (fun m=>aP rfl ka eS (IX.cd _) (qA (m.aN 0 rfl)))<| ?_
  refine hx (ba tv (fun g17=> ?_))
  refine cF (a7 0 rfl rfl rfl eS (IX.cd _) (IX.cx _) rfl ?_)
  refine ag<|az [17,12,34,11,10,6,0,1,2,3,4] rfl<|aY rfl rfl<|aa<|ae<| ?_
  refine a8 (fun w m=>m.bw 0 rfl (show _=aE g17 82 (lR own q A2 c2).cs from rfl)) ?_
  obtain⟨x3,hx3⟩:∃x,(bA own)[3]? =some x:=⟨_,List.getElem?_eq_getElem (by rw[bq];decide)⟩
  have hx3b:(aT (bA own))[3]? =some (B8 x3):=by rw[aT,List.getElem?_map,hx3];rfl
  have hset:((lR own q A2 c2).img.b.set 3 (x3+1)).length=32:=by rw[List.length_set];exact bq own
  refine ah<|hy (fun _=>ax rfl o5 (by decide))<|hy (fun _=>bS rfl rfl Tryz.underlying53 dJ (show((3:Nat):Int)=3 from rfl) (by omega))<|hy (fun m=>ak rfl iV (ar (m.aN 0 rfl) (i:=6) (vI (u:=lR own q A2 c2) (j:=3) hx3b)))<|hy (fun _=>yV (aO rfl rfl (G2 x3)) ((rfl:_=B8 (x3+1))))<| ?_
  refine hy (fun _=>ax rfl o5 (by decide))<|hy (fun _=>bS rfl rfl Tryz.underlying53 dJ (show((3:Nat):Int)=3 from rfl) (by omega))<| ?_
  refine cF (bZ 0 rfl rfl rfl dJ rfl (by(rw[IX.cd];try dsimp only);omega) ?_)
  refine ag<|az [17,12,34,11,10,6,0,1,2,3,4] rfl<|aY rfl rfl<|aa<|ae<| ?_
  obtain⟨im1,him1⟩:∃im1:G1,im1=⟨(lR own q A2 c2).img.b.set 3 (x3+1),hset⟩:=⟨_,rfl⟩
  obtain⟨u1,hu1⟩:∃u1,u1=IX.mk q.a q.b q.m im1 its A2 c2:=⟨_,rfl⟩
  refine a8 (fun w m=>m.bw 0 rfl (show _=aE g17 82 u1.cs from congrArg (aE _ _) (by rw[hu1,him1,hits];exact Cv (u:=lR own q A2 c2) hset))) ?_
  refine ah<|au rfl<|hy (fun _=>aL rfl)<|hy (fun _=>ax rfl nI (by decide))<|hy (fun m=>aP rfl ka eS (IX.cd _) (qA (m.aN 1 rfl)))<| ?_
  refine hx (an rfl Tryz.call51 (wK (by rw[hits]at hcI;exact hcI) (show(cn own q).length≤100000 by rw[←hits];omega) (u:=(lR own q A2 c2))) [] rfl [5] rfl ?_)
  rintro _ _ _ ⟨A12,c12,rfl,rfl,rfl⟩
  refine hx (ba tv (fun g18=> ?_))
  refine cF (a7 0 rfl rfl rfl eS (IX.cd _) (IX.cx _) rfl ?_)
  refine ag<|az [18,17,12,34,11,10,6,0,1,2,3,4] rfl<|aY rfl rfl<|aa<|ae<| ?_
  refine ah<|au rfl<|hy (fun _=>aL rfl)<|hy (fun _=>ax rfl nI (by decide))<|hy (fun m=>aP rfl ka eS (IX.cd _) (qA (m.aN 3 rfl)))<| ?_
  refine hx (an rfl Tryz.call51 (wK (by rw[hits]at hcI;exact hcI) (show(cn own q).length≤100000 by rw[←hits];omega) (u:=(lR own q A2 c2))) [] rfl [5] rfl ?_)
  rintro _ _ _ ⟨A13,c13,rfl,rfl,rfl⟩
  refine hx (ba tv (fun g19=> ?_))
  refine cF (a7 0 rfl rfl rfl eS (IX.cd _) (IX.cx _) rfl ?_)
  refine ag<|az [19,18,17,12,34,11,10,6,0,1,2,3,4] rfl<|aY rfl rfl<|aa<|ae<|ae<| ?_
  refine a8 (fun w m=>m.ew 5 rfl (show View _ (lR own q A2 c2).lX from .of (fun w h=>h) (fun k h=>h))) ?_
  refine aQ (fun m=>eU (m.rd 0 rfl)) ?_
  rintro⟨hl_zu,hA_zu⟩
  refine a8 (fun w m=>m.ew 6 rfl (show View _ (cz 33 A2 its.length (fe its))from by rw[hits];exact .of (fun w h=>h) (fun k h=>h))) ?_
  refine aQ (fun m=>eU (m.rd 0 rfl)) ?_
  rintro⟨hl_zo,hA_zo⟩
  have hmx:0<(lR own q A2 c2).mx:=by show 0<(q.m:Int);exact Int.natCast_pos.2 (Nat.lt_of_lt_of_le (Nat.lt_of_lt_of_le Nat.zero_lt_one hq.h1) (Nat.le_trans hq.h2 hq.h3))
  have hmx4:(lR own q A2 c2).mx≤4096:=by show(q.m:Int)≤4096;have:=hq.h4;omega
  have hUl:(lR own q A2 c2).its.length≤60:=by show(cn own q).length≤60;rw[←hits];exact hil
  obtain⟨U,hU⟩:∃U,U=lR own q A2 c2:=⟨_,rfl⟩
  rw[←hU]at hmx hmx4 hUl ⊢
  obtain⟨iv,hiv⟩:∃iv,iv=U.its.take 8:=⟨_,rfl⟩
  have hivl:iv.length≤60:=by rw[hiv,List.length_take];omega
  rw[←hiv]
  refine a8 (fun w m=>m.bw 2 rfl (show _=aE g18 82 (U.wi iv A12 c12).cs from rfl)) ?_
  refine a8 (fun w m=>m.bw 1 rfl (show _=aE g19 82 (U.wi iv A13 c13).cs from rfl)) ?_
  refine aQ (fun m=>(m.ord 3 rfl).2.1) fun hA_o2=> ?_
  refine aQ (fun m=>(m.ord 2 rfl).2.1) fun hA_o3=> ?_
  refine ah<|hy (fun _=>ax rfl dE (by decide))<|hy (fun m=>ak rfl gD (ar (m.aN 1 rfl) (i:=35) tf))<|hy (fun _=>a6 rfl Tryz.underlying80)<|hy (fun _=>cw rfl rfl)<|ag<|az [105,19,18,17,12,34,11,10,6,0,1,2,3,4] rfl<|aa<| ?_
  refine cu rfl (fun h0=> ?_) (fun h0=> ?_)
  ·have hiv0:0<iv.length:=by omega
   have har:=dp za (iv.length:Int) (by omega)
   obtain⟨k,hk⟩:∃k:Nat,cN za (iv.length:Int)=k:=⟨(cN za (iv.length:Int)).toNat,by omega⟩
   have har2:=dp zn (iv.length:Int) (by omega)
   obtain⟨k2,hk2⟩:∃k:Nat,cN zn (iv.length:Int)=k:=⟨(cN zn (iv.length:Int)).toNat,by omega⟩
   obtain⟨t,ht⟩:∃t,iv[k]? =some t:=⟨_,List.getElem?_eq_getElem (by omega)⟩
   obtain⟨t2,ht2⟩:∃t,iv[k2]? =some t:=⟨_,List.getElem?_eq_getElem (by omega)⟩
   refine ae<|ah<|au rfl<|hy (fun _=>ax rfl dE (by decide))<|hy (fun m=>ak rfl gD (ar (m.aN 1 rfl) (i:=35) tf))<|hy (fun _=>a6 rfl Tryz.underlying80)<| ?_
   refine hx (an rfl Tryz.call16 (iN hza.1 hza.2 (by omega) (n:=za) (m:=(iv.length:Int))) [] rfl [] rfl ?_)
   rintro _ _ _ ⟨rfl,rfl,rfl⟩
   rw[hk]
   refine aG rfl<|ag<|az [20,105,19,18,17,12,34,11,10,6,0,1,2,3,4] rfl<|aY rfl rfl<|aa<|ae<|cA [7,11] [(0,some 1),(1,some 1),(2,some 1),(3,some 0),(4,some 0),(5,some 0),(6,some 0),(7,none),(8,some 1),(9,some 1),(10,some 1),(11,none)] (by kernel_rfl) (by kernel_rfl) rfl 1<|aj (ax rfl dE (by decide))<|bV (fun m=>ak rfl gD (ar (m.aN 1 rfl) (i:=35) tf))<|aj (ai rfl)<|aj (ai rfl)<|aj (ax rfl iu (by decide))<|aj (ax rfl eW (by decide))<|bV (fun m=>ak rfl cY (ar (m.aN 1 rfl) (i:=2) (show(U.wi iv A12 c12).cs[2]? =some (Value.int .i64 U.mx)from rfl)))<| ?_
   refine dk (an rfl Tryz.call16 (iN hzn.1 hzn.2 hmx (n:=zn) (m:=U.mx)) [] rfl [] rfl ?_)
   rintro _ _ _ ⟨rfl,rfl,rfl⟩
   refine⟨(fun _=>wk [0,0,0,0,0,0,0,0,0] [0,1,2,3,4,5,6,7,8,9,10,11,12,13,14] rfl rfl), ?_⟩
   have har3:=dp zn U.mx hmx
   refine aj (aO rfl rfl (bE (by omega) (by omega)))<|aj (ck rfl rfl Tryz.underlying80 dO hA_o2 rfl (by omega))<|aj (yV (ax rfl gx (by decide)) ((show Value.pointer (some (((A12.getD d0).add (k*33)).add 32))= .pointer (some ((A12.getD d0).add (k*33+32)))from by rw[add_add])))<| ?_
   refine gi (uQ 3 rfl rfl rfl tA rfl (by omega) ⟨(fun h=>absurd h (by decide)), ?_⟩)
   refine bp<|az [20,105,19,18,17,12,34,11,10,6,0,1,2,3,4] rfl<|aY rfl rfl<|aa<|ae<| ?_
   obtain⟨z2,hz2⟩:∃z2,z2=1+cN zn U.mx:=⟨_,rfl⟩
   rw[←hz2]
   obtain⟨i2,hi2⟩:∃i2,i2=iv.set k (t.1,z2):=⟨_,rfl⟩
   have hl2:iv.length=i2.length:=by rw[hi2,List.length_set]
   refine a8 (fun w m=>m.bw 0 rfl (show _=aI 100 33 (.slice A12 iv.length c12) iv.length (fe i2)from congrArg (aI _ _ _ _) (by rw[hi2];exact tQ ht))) ?_
   refine ah<|au rfl<|hy (fun _=>ax rfl dE (by decide))<|hy (fun m=>ak rfl gD (ar (m.aN 2 rfl) (i:=35) tf))<|hy (fun _=>a6 rfl Tryz.underlying80)<| ?_
   refine hx (an rfl Tryz.call16 (iN hzn.1 hzn.2 (by omega) (n:=zn) (m:=(iv.length:Int))) [] rfl [] rfl ?_)
   rintro _ _ _ ⟨rfl,rfl,rfl⟩
   rw[hk2]
   refine aG rfl<|ag<|az [21,20,105,19,18,17,12,34,11,10,6,0,1,2,3,4] rfl<|aY rfl rfl<|aa<|ae<|ah<|hy (fun _=>ax rfl dE (by decide))<|hy (fun m=>ak rfl gD (ar (m.aN 1 rfl) (i:=35) tf))<|au rfl<|hy (fun _=>ck rfl rfl Tryz.underlying80 dO hA_o3 rfl (by omega))<|hy (fun m=>aP rfl nY dO (bL t) (cm (f:=fK) bL (m.ord 3 rfl) ht))<| ?_
   refine hx (ba jv (fun g22=> ?_))
   refine cF (a7 0 rfl rfl rfl dO (bL t) (gS t) rfl ?_)
   refine aH (fun w m=>m.bw 0 rfl (show _=aE g22 100 (fK t)from rfl)) ?_
   refine ag<|az [22,21,20,105,19,18,17,12,34,11,10,6,0,1,2,3,4] rfl<|aY rfl rfl<|aa<|ae<|cA [9] [(0,some 0),(1,some 0),(2,some 0),(3,some 0),(4,some 0),(5,some 0),(6,some 0),(7,some 0),(8,some 0),(9,none)] (by kernel_rfl) (by kernel_rfl) rfl 0<|aj (ax rfl dE (by decide))<|bV (fun m=>ak rfl gD (ar (m.aN 2 rfl) (i:=35) tf))<|aj (ai rfl)<|aj (ax rfl dE (by decide))<|bV (fun m=>ak rfl gD (ar (m.aN 2 rfl) (i:=35) tf))<|aj (ai rfl)<|aj (ck rfl rfl Tryz.underlying80 dO hA_o3 rfl (by omega))<|bV (fun m=>aP rfl nY dO (bL t2) (cm (f:=fK) bL (m.ord 4 rfl) ht2))<|aj (ck rfl rfl Tryz.underlying80 dO hA_o3 rfl (by omega))<| ?_
   refine gi (v7 4 rfl rfl rfl dO (bL t2) (gS t2) (by omega) hiv0 ⟨(fun h=>absurd h (by decide)), ?_⟩)
   refine bp<|az [22,21,20,105,19,18,17,12,34,11,10,6,0,1,2,3,4] rfl<|aY rfl rfl<|aa<| ?_
   refine a8 (fun w m=>m.bw 0 rfl (show _=aI 100 33 (.slice A13 iv.length c13) iv.length (fe (iv.set k t2))from congrArg (aI _ _ _ _) (wF (by omega)))) ?_
   refine ah<|hy (fun _=>ax rfl dE (by decide))<|hy (fun m=>ak rfl gD (ar (m.aN 3 rfl) (i:=35) tf))<|au rfl<|hy (fun m=>aP rfl nY dO (bL t) ((m.aN 1 rfl).aw))<|hy (fun _=>ck rfl rfl Tryz.underlying80 dO hA_o3 rfl (by omega))<| ?_
   refine cF (v7 0 rfl rfl rfl dO (bL t) (gS t) (by omega) hiv0 ?_)
   obtain⟨i3,hi3⟩:∃i3,i3=(iv.set k t2).set k2 t:=⟨_,rfl⟩
   have hl3:iv.length=i3.length:=by rw[hi3,List.length_set,List.length_set]
   refine aH (fun w m=>m.bw 0 rfl (show _=aI 100 33 (.slice A13 iv.length c13) iv.length (fe i3)from congrArg (aI _ _ _ _) (by rw[hi3];exact wF (by rw[List.length_set];omega)))) ?_
   refine aH (fun w m=>m.bw 4 rfl (show _=aE g18 82 (U.wi i2 A12 c12).cs from congrArg (aE _ _) (ss hl2))) ?_
   refine aH (fun w m=>m.bw 4 rfl (show _=aE g19 82 (U.wi i3 A13 c13).cs from congrArg (aE _ _) (ss hl3))) ?_
   refine aH (fun w m=>(m.perm (ao [4] _ [_] _ rfl)).freeze) ?_
   refine aH (fun w m=>m.ew 0 rfl .own) ?_
   refine aC (fun m=>eU (m.rd 0 rfl)) ?_
   rintro⟨hl_o2r,hA_o2r⟩
   refine aH (fun w m=>(m.perm (ao [2] _ [_] _ rfl)).freeze) ?_
   refine aH (fun w m=>m.ew 0 rfl .own) ?_
   refine aC (fun m=>eU (m.rd 0 rfl)) ?_
   rintro⟨hl_o3r,hA_o3r⟩
   refine aH (fun w m=>m.ew 2 rfl (show View _ (U.wi i2 A12 c12).lX from by rw[hl2];exact .of (fun w h=>h) (fun k h=>h))) ?_
   refine aC (fun m=>eU (m.rd 0 rfl)) ?_
   rintro⟨hl_zs,hA_zs⟩
   refine aH (fun w m=>m.ew 1 rfl (show View _ (U.wi i3 A13 c13).lX from by rw[hl3];exact .of (fun w h=>h) (fun k h=>h))) ?_
   refine aC (fun m=>eU (m.rd 0 rfl)) ?_
   rintro⟨hl_zt,hA_zt⟩
   refine aH (fun w m=>m.ew 6 rfl (show View _ u1.lX from by rw[hu1];exact .of (fun w h=>h) (fun k h=>h))) ?_
   refine aC (fun m=>eU (m.rd 0 rfl)) ?_
   rintro⟨hl_zw,hA_zw⟩
   refine aH (S' :=fB ([U,u1,U.wi i2 A12 c12,U.wi i3 A13 c13].map IX.lX)::_) (fun w m=>m.nA [8,0,2,1] rfl) ?_
   obtain⟨us,hus⟩:∃us,us=[U,u1,U.wi i2 A12 c12,U.wi i3 A13 c13]:=⟨_,rfl⟩
   have husl:us.length=4:=by rw[hus];rfl
   have hall:∀u∈us,u.its.length≤100000:=by
    rw[hus]
    intro u hu
    simp only[List.mem_cons,List.not_mem_nil,or_false]at hu
    rcases hu with rfl|rfl|rfl|rfl
    ·omega
    ·rw[hu1];show its.length≤100000;omega
    ·show i2.length≤100000;omega
    ·show i3.length≤100000;omega
   refine ag<|az [22,21,20,105,19,18,17,12,34,11,10,6,0,1,2,3,4] rfl<|aY rfl rfl<|aa<|ae<|kD [0,0,0,0,0,0,0,0] [0,1,2,3,4,5,6,7,8,9,10,11,12,13,14,15,16,17,18,19,20,21,22] rfl rfl [7] [(0,some 0),(1,some 0),(2,some 0),(3,some 0),(4,some 0),(5,some 0),(6,some 0),(7,none),(8,some 1)] (by kernel_rfl) (by kernel_rfl) rfl 99<|aj (ai rfl)<|aj (aL rfl)<|aj (ax rfl nI (by decide))<|bV (fun m=>aP rfl ka eS (IX.cd _) (qA (m.aN 4 rfl)))<|bV (fun m=>aP rfl ka eS (IX.cd _) ((m.aN 3 rfl).aw))<|bV (fun m=>aP rfl ka eS (IX.cd _) ((m.aN 1 rfl).aw))<|bV (fun m=>aP rfl ka eS (IX.cd _) ((m.aN 0 rfl).aw))<| ?_
   refine dk (b5 Tryz.underlying105 tv rfl rfl rfl (by intro v hv;simp only[List.mem_cons,List.not_mem_nil,or_false]at hv;rcases hv with rfl|rfl|rfl|rfl <;> (show(IX.cs _).toArray.size=36;rw[List.size_toArray,IX.cd])) (by decide) (by decide) (fun g153=>⟨(fun _=>wk [1,1,1,1,1,1,1,1] [0,1,2,3,4,5,6,7,8,9,10,11,12,13,14,15,16,17,18,19,20,21,22] rfl rfl), ?_⟩))
   have hA_b153:0<4→(some (⟨g153,0,none⟩:Addr))≠none:=fun _ h=>by cases h
   refine aj (ay rfl)<|bp<|az [23,22,21,20,105,19,18,17,12,34,11,10,6,0,1,2,3,4] rfl<|aY rfl rfl<|aa<|ae<|ae<|ah<|aG rfl<|ag<|aa<|aM<| ?_
   rw[←hus]
   refine a8 (fun w m=>m.bw 0 rfl (show _=aI 82 36 (.slice (some ⟨g153,0,none⟩) 4 4) 4 (Fk us)from congrArg (aI _ _ _ _) (by rw[hus];simp[Fk,Value.cells]))) ?_
   refine a8 (fun w m=>(m.perm (ao [0] _ [_] _ rfl)).freeze) ?_
   refine a8 (fun w m=>m.ew 0 rfl .own) ?_
   refine aQ (fun m=>eU (m.rd 0 rfl)) ?_
   rintro⟨hl_b153r,hA_b153r⟩
   refine dD (fun i=>4-i) (fun i=>[(24,.int .i64 (i:Nat))]) (fun i=>[bG gd st1]) (fun i=>[]) (fun i=>i≤4) 0 [(23,_),(22,_),(21,_),(20,_),(105,_),(19,_),(18,_),(17,_),(12,_),(34,_),(11,_),(6,_),(0,_),(1,_),(2,_),(3,_),(4,_)] ⟨rfl,rfl,rfl,rfl,rfl,rfl,rfl,rfl,rfl,rfl,rfl,rfl,rfl,rfl,rfl,rfl,rfl,trivial⟩ [5] rfl [] rfl (Nat.zero_le _) ⟨rfl,trivial⟩ (fun i hi=> ?_)
   refine ae<|ae<|ah<|au rfl<|hy (fun _=>bx rfl rfl)<|ag<|az [155,24,23,22,21,20,105,19,18,17,12,34,11,6,0,1,2,3,4] rfl<|aa<| ?_
   refine cu rfl (fun hlt=> ?_) (fun hlt=> ?_)
   ·obtain⟨u,hu⟩:∃u,us[i]? =some u:=⟨_,List.getElem?_eq_getElem (by omega)⟩
    have hul:=hall u (List.mem_of_getElem? hu)
    refine a8 (fun w m=>m.ew 2 rfl (View.oH i (by rw[List.getElem?_map,hu];rfl))) ?_
    refine aQ (fun m=>eU (m.rd 0 rfl)) ?_
    rintro⟨hl_th,hA_th⟩
    refine aB<|aa<|ae<|aM<|ae<|ae<|ah<|au rfl<|au rfl<|hy (fun _=>ck rfl rfl Tryz.underlying105 eS hA_b153r rfl (by omega))<|hy (fun m=>aP rfl ka eS (IX.cd u) (cm (f:=IX.cs) IX.cd (m.rd 1 rfl) hu))<| ?_
    refine hx (an rfl Tryz.call52 (vY (u:=u)) [] rfl [0] rfl ?_)
    rintro _ _ _ ⟨bm,rfl,rfl,rfl⟩
    cases bm
    ·refine hy (fun _=>(j5 rfl))<|ag<|az [163,155,24,23,22,21,20,105,19,18,17,12,34,11,6,0,1,2,3,4] rfl<|aY rfl rfl<|aa<| ?_
     refine fx rfl (rfl) ?_
     refine bH<|al<|aD<|aa<|ah<|au rfl<|hy (fun _=>aO rfl rfl (bE (by omega) (by omega)))<|aG rfl<|ag<|az [24,163,155,23,22,21,20,105,19,18,17,12,34,11,6,0,1,2,3,4] rfl<| ?_
     refine cH (i+1) ⟨rfl,rfl,rfl,rfl,rfl,rfl,rfl,rfl,rfl,rfl,rfl,rfl,rfl,rfl,rfl,rfl,rfl,rfl,trivial⟩ [0,0,0,0,0,0,0,0] rfl [1,2,3,4,5,6,7,8,9,10,11,12,13,14,15,16,17,18,19,20,21,22,23,24,25] rfl (by omega) (by omega)
    ·refine hy (fun _=>(j5 rfl))<|ag<|az [163,155,24,23,22,21,20,105,19,18,17,12,34,11,6,0,1,2,3,4] rfl<|aa<| ?_
     refine dm rfl (rfl) ?_
     refine aB<|aa<|ae<|kD [1,1,1,1,1,1,1] [0,1,2,3,4,5,6,7,8,9,10,11,12,13,14,15,16,17,18,19,20,21,22,23,24,25] rfl rfl [20] [(0,some 0),(1,some 0),(2,some 0),(3,some 0),(4,some 1),(5,some 1),(6,some 0),(7,some 0),(8,some 0),(9,some 1),(10,some 1),(11,some 0),(12,some 0),(13,some 0),(14,some 1),(15,some 1),(16,some 0),(17,some 0),(18,some 0),(19,some 0),(20,none),(21,some 1),(22,some 1),(23,some 1),(24,some 1),(25,some 1)] (by kernel_rfl) (by kernel_rfl) rfl 99<|aj (ai rfl)<|aj (aL rfl)<|aj (ax rfl pk (by decide))<|bV (fun m=>ak rfl pj (ar (m.aN 4 rfl) (i:=0) rfl))<|aj (ai rfl)<|aj (ai rfl)<|aj (ck rfl rfl Tryz.underlying105 eS hA_b153r rfl (by omega))<|aj (ax rfl iu (by decide))<|bV (fun m=>aP rfl gK gg rfl (F7 (m.rd 1 rfl) hu))<|aj (ai rfl)<|aj (ai rfl)<|aj (ck rfl rfl Tryz.underlying105 eS hA_b153r rfl (by omega))<|aj (ax rfl o5 (by decide))<|bV (fun m=>aP rfl cB b7 (by rw[aA,u.img.h]) (GR (m.rd 1 rfl) hu))<|aj (ai rfl)<|aj (ai rfl)<|aj (ck rfl rfl Tryz.underlying105 eS hA_b153r rfl (by omega))<|aj (ax rfl dE (by decide))<|bV (fun m=>ak rfl gD (cm (f:=IX.cs) IX.cd (m.rd 1 rfl) hu 35 _ u.ko))<|aj (b6 E2 rfl rfl (by kernel_rfl) (EI (x:=u) vp Ac vb))<| ?_
     refine dk (an rfl Tryz.call53 (wD hD1 (fun nm=>Nat.le_trans (mI _ _) (by decide)) hul (u:=u)) [0] rfl [0,25] rfl ?_)
     rintro _ _ _ ⟨v,rfl,rfl,rfl⟩
     refine⟨(fun _=>wk [2,2,2,2,2,2,2] [0,1,2,3,4,5,6,7,8,9,10,11,12,13,14,15,16,17,18,19,20,21,22,23,24,25] rfl rfl), ?_⟩
     refine bU (fun m=>(m.own 1 rfl).slice) ?_
     rintro⟨A_x,c_x,rfl,hc_x⟩
     refine bU (fun m=>(m.ord 1 rfl).2.1) fun hA_x=> ?_
     refine aj (ai rfl)<|aj (aF rfl rfl)<|aj (aF rfl rfl)<|aj (ay rfl)<|aj (ay rfl)<|bp<|az [26,25,163,155,24,23,22,21,20,105,19,18,17,12,34,11,6,0,1,2,3,4] rfl<|aY rfl rfl<|aa<|ae<|cA [8] [(0,some 0),(1,some 0),(2,some 0),(3,some 0),(4,some 0),(5,some 0),(6,some 0),(7,some 0),(8,none),(9,some 1),(10,some 1),(11,some 1),(12,some 1),(13,some 1)] (by kernel_rfl) (by kernel_rfl) rfl 99<| ?_
     refine aj (ai rfl)<|aj (aL rfl)<|aj (ax rfl nc (by decide))<|bV (fun m=>yV (aP rfl cK bT rfl (wI (m.aN 6 rfl))) ((rfl:_=Value.agg y1.cs.toArray)))<|aj (ai rfl)<|aj (ai rfl)<|aj (ck rfl rfl Tryz.underlying105 eS hA_b153r rfl (by omega))<|bV (fun m=>aP rfl ka eS (IX.cd u) (cm (f:=IX.cs) IX.cd (m.rd 1 rfl) hu))<| ?_
     refine dk (an rfl Tryz.call54 (qI hD1.C7 (by omega) hD1.H7 (fun nm=>Nat.le_trans (mI _ _) (by decide)) hul (u:=u)) [] rfl [13,0,25] rfl ?_)
     rintro _ _ _ ⟨rfl,rfl,rfl⟩
     refine⟨(fun _=>wk [0,0,0,0,0,0,0,0,0] [0,1,2,3,4,5,6,7,8,9,10,11,12,13,14,15,16,17,18,19,20,21,22,23,24,25] rfl rfl), ?_⟩
     refine aj (ai rfl)<|aj (aF rfl rfl)<|aj (aF rfl rfl)<|aj (ay rfl)<|aj (ay rfl)<|bp<|az [28,27,26,25,163,155,24,23,22,21,20,105,19,18,17,12,34,11,6,0,1,2,3,4] rfl<|aY rfl rfl<|aa<|ae<|ah<| ?_
     refine au rfl<|hy (fun m=>kj rfl Tryz.underlying27 Tryz.underlying5 Tryz.underlying9 (m.ord 1 rfl))<|au rfl<|hy (fun _=>yF (ma rfl rfl) ((decide_eq_false (not_not_intro rfl))))<|au rfl<|bQ (o:=_) rfl rfl rfl (fun _=>ai rfl)<|bQ (o:=_) rfl rfl rfl (fun _=>ai rfl)<|bQ (o:=_) rfl rfl rfl (fun _=>de rfl rfl)<|hy (fun _=>bn rfl rfl)<|ag<|az [208,28,27,26,25,163,155,24,23,22,21,20,105,19,18,17,12,34,11,6,0,1,2,3,4] rfl<|aa<| ?_
     refine dm rfl ((decide_eq_false (not_not_intro rfl))) ?_
     refine aB<|aW<|aa<|ah<|au rfl<|hy (fun _=>aO rfl rfl (bE (by omega) (by omega)))<|aG rfl<|ag<|az [24,208,28,27,26,25,163,155,23,22,21,20,105,19,18,17,12,34,11,6,0,1,2,3,4] rfl<| ?_
     refine cH (i+1) ⟨rfl,rfl,rfl,rfl,rfl,rfl,rfl,rfl,rfl,rfl,rfl,rfl,rfl,rfl,rfl,rfl,rfl,rfl,trivial⟩ [0,1,1,1,1,1,1,1] rfl [1,2,3,4,5,6,7,8,9,10,11,12,13,14,15,16,17,18,19,20,21,22,23,24,25] rfl (by omega) (by omega)
   ·refine bH<|al<|al<|aD<|aa<|ae<|ah<| ?_
    refine hx (an rfl Tryz.call49 (tc) [] rfl [24] rfl ?_)
    rintro _ _ _ ⟨rfl,rfl,rfl⟩
    refine aG rfl<|ag<|az [10,155,24,23,22,21,20,105,19,18,17,12,34,11,6,0,1,2,3,4] rfl<|aY rfl rfl<|aa<|aR<| ?_
    exact bc trivial rfl rfl [] rfl [] rfl ⟨rfl,rfl,rfl⟩
  ·obtain⟨i2,hi2⟩:∃i2,i2=iv:=⟨_,rfl⟩
   obtain⟨i3,hi3⟩:∃i3,i3=iv:=⟨_,rfl⟩
   have hl2:iv.length=i2.length:=by rw[hi2]
   have hl3:iv.length=i3.length:=by rw[hi3]
   refine a8 (fun w m=>m.bw 3 rfl (show _=aI 100 33 (.slice A12 iv.length c12) iv.length (fe i2)from(by rw[hi2]))) ?_
   refine a8 (fun w m=>m.bw 3 rfl (show _=aI 100 33 (.slice A13 iv.length c13) iv.length (fe i3)from(by rw[hi3]))) ?_
   refine a8 (fun w m=>m.bw 3 rfl (show _=aE g18 82 (U.wi i2 A12 c12).cs from congrArg (aE _ _) (ss hl2))) ?_
   refine a8 (fun w m=>m.bw 3 rfl (show _=aE g19 82 (U.wi i3 A13 c13).cs from congrArg (aE _ _) (ss hl3))) ?_
   refine a8 (fun w m=>(m.perm (ao [3] _ [_] _ rfl)).freeze) ?_
   refine a8 (fun w m=>m.ew 0 rfl .own) ?_
   refine aQ (fun m=>eU (m.rd 0 rfl)) ?_
   rintro⟨hl_o2r,hA_o2r⟩
   refine a8 (fun w m=>(m.perm (ao [2] _ [_] _ rfl)).freeze) ?_
   refine a8 (fun w m=>m.ew 0 rfl .own) ?_
   refine aQ (fun m=>eU (m.rd 0 rfl)) ?_
   rintro⟨hl_o3r,hA_o3r⟩
   refine a8 (fun w m=>m.ew 2 rfl (show View _ (U.wi i2 A12 c12).lX from by rw[hl2];exact .of (fun w h=>h) (fun k h=>h))) ?_
   refine aQ (fun m=>eU (m.rd 0 rfl)) ?_
   rintro⟨hl_zs,hA_zs⟩
   refine a8 (fun w m=>m.ew 1 rfl (show View _ (U.wi i3 A13 c13).lX from by rw[hl3];exact .of (fun w h=>h) (fun k h=>h))) ?_
   refine aQ (fun m=>eU (m.rd 0 rfl)) ?_
   rintro⟨hl_zt,hA_zt⟩
   refine a8 (fun w m=>m.ew 6 rfl (show View _ u1.lX from by rw[hu1];exact .of (fun w h=>h) (fun k h=>h))) ?_
   refine aQ (fun m=>eU (m.rd 0 rfl)) ?_
   rintro⟨hl_zw,hA_zw⟩
   refine a8 (S' :=fB ([U,u1,U.wi i2 A12 c12,U.wi i3 A13 c13].map IX.lX)::_) (fun w m=>m.nA [8,0,2,1] rfl) ?_
   obtain⟨us,hus⟩:∃us,us=[U,u1,U.wi i2 A12 c12,U.wi i3 A13 c13]:=⟨_,rfl⟩
   have husl:us.length=4:=by rw[hus];rfl
   have hall:∀u∈us,u.its.length≤100000:=by
    rw[hus]
    intro u hu
    simp only[List.mem_cons,List.not_mem_nil,or_false]at hu
    rcases hu with rfl|rfl|rfl|rfl
    ·omega
    ·rw[hu1];show its.length≤100000;omega
    ·show i2.length≤100000;omega
    ·show i3.length≤100000;omega
   refine aB<|aa<|ae<|kD [0,0,0,0,0,0,0] [0,1,2,3,4,5,6,7,8,9,10,11,12,13,14,15,16,17,18,19,20,21,22] rfl rfl [7] [(0,some 0),(1,some 0),(2,some 0),(3,some 0),(4,some 0),(5,some 0),(6,some 0),(7,none),(8,some 1)] (by kernel_rfl) (by kernel_rfl) rfl 99<|aj (ai rfl)<|aj (aL rfl)<|aj (ax rfl nI (by decide))<|bV (fun m=>aP rfl ka eS (IX.cd _) (qA (m.aN 3 rfl)))<|bV (fun m=>aP rfl ka eS (IX.cd _) ((m.aN 2 rfl).aw))<|bV (fun m=>aP rfl ka eS (IX.cd _) ((m.aN 1 rfl).aw))<|bV (fun m=>aP rfl ka eS (IX.cd _) ((m.aN 0 rfl).aw))<| ?_
   refine dk (b5 Tryz.underlying105 tv rfl rfl rfl (by intro v hv;simp only[List.mem_cons,List.not_mem_nil,or_false]at hv;rcases hv with rfl|rfl|rfl|rfl <;> (show(IX.cs _).toArray.size=36;rw[List.size_toArray,IX.cd])) (by decide) (by decide) (fun g153=>⟨(fun _=>wk [1,1,1,1,1,1,1] [0,1,2,3,4,5,6,7,8,9,10,11,12,13,14,15,16,17,18,19,20,21,22] rfl rfl), ?_⟩))
   have hA_b153:0<4→(some (⟨g153,0,none⟩:Addr))≠none:=fun _ h=>by cases h
   refine aj (ay rfl)<|bp<|az [23,105,19,18,17,12,34,11,10,6,0,1,2,3,4] rfl<|aY rfl rfl<|aa<|ae<|ae<|ah<|aG rfl<|ag<|aa<|aM<| ?_
   rw[←hus]
   refine a8 (fun w m=>m.bw 0 rfl (show _=aI 82 36 (.slice (some ⟨g153,0,none⟩) 4 4) 4 (Fk us)from congrArg (aI _ _ _ _) (by rw[hus];simp[Fk,Value.cells]))) ?_
   refine a8 (fun w m=>(m.perm (ao [0] _ [_] _ rfl)).freeze) ?_
   refine a8 (fun w m=>m.ew 0 rfl .own) ?_
   refine aQ (fun m=>eU (m.rd 0 rfl)) ?_
   rintro⟨hl_b153r,hA_b153r⟩
   refine dD (fun i=>4-i) (fun i=>[(24,.int .i64 (i:Nat))]) (fun i=>[bG gd st1]) (fun i=>[]) (fun i=>i≤4) 0 [(23,_),(105,_),(19,_),(18,_),(17,_),(12,_),(34,_),(11,_),(6,_),(0,_),(1,_),(2,_),(3,_),(4,_)] ⟨rfl,rfl,rfl,rfl,rfl,rfl,rfl,rfl,rfl,rfl,rfl,rfl,rfl,rfl,trivial⟩ [4] rfl [] rfl (Nat.zero_le _) ⟨rfl,trivial⟩ (fun i hi=> ?_)
   refine ae<|ae<|ah<|au rfl<|hy (fun _=>bx rfl rfl)<|ag<|az [155,24,23,105,19,18,17,12,34,11,6,0,1,2,3,4] rfl<|aa<| ?_
   refine cu rfl (fun hlt=> ?_) (fun hlt=> ?_)
   ·obtain⟨u,hu⟩:∃u,us[i]? =some u:=⟨_,List.getElem?_eq_getElem (by omega)⟩
    have hul:=hall u (List.mem_of_getElem? hu)
    refine a8 (fun w m=>m.ew 2 rfl (View.oH i (by rw[List.getElem?_map,hu];rfl))) ?_
    refine aQ (fun m=>eU (m.rd 0 rfl)) ?_
    rintro⟨hl_th,hA_th⟩
    refine aB<|aa<|ae<|aM<|ae<|ae<|ah<|au rfl<|au rfl<|hy (fun _=>ck rfl rfl Tryz.underlying105 eS hA_b153r rfl (by omega))<|hy (fun m=>aP rfl ka eS (IX.cd u) (cm (f:=IX.cs) IX.cd (m.rd 1 rfl) hu))<| ?_
    refine hx (an rfl Tryz.call52 (vY (u:=u)) [] rfl [0] rfl ?_)
    rintro _ _ _ ⟨bm,rfl,rfl,rfl⟩
    cases bm
    ·refine hy (fun _=>(j5 rfl))<|ag<|az [163,155,24,23,105,19,18,17,12,34,11,6,0,1,2,3,4] rfl<|aY rfl rfl<|aa<| ?_
     refine fx rfl (rfl) ?_
     refine bH<|al<|aD<|aa<|ah<|au rfl<|hy (fun _=>aO rfl rfl (bE (by omega) (by omega)))<|aG rfl<|ag<|az [24,163,155,23,105,19,18,17,12,34,11,6,0,1,2,3,4] rfl<| ?_
     refine cH (i+1) ⟨rfl,rfl,rfl,rfl,rfl,rfl,rfl,rfl,rfl,rfl,rfl,rfl,rfl,rfl,rfl,trivial⟩ [0,0,0,0,0,0,0] rfl [1,2,3,4,5,6,7,8,9,10,11,12,13,14,15,16,17,18,19,20,21,22,23,24,25] rfl (by omega) (by omega)
    ·refine hy (fun _=>(j5 rfl))<|ag<|az [163,155,24,23,105,19,18,17,12,34,11,6,0,1,2,3,4] rfl<|aa<| ?_
     refine dm rfl (rfl) ?_
     refine aB<|aa<|ae<|kD [1,1,1,1,1,1] [0,1,2,3,4,5,6,7,8,9,10,11,12,13,14,15,16,17,18,19,20,21,22,23,24,25] rfl rfl [20] [(0,some 0),(1,some 0),(2,some 0),(3,some 0),(4,some 1),(5,some 1),(6,some 0),(7,some 0),(8,some 0),(9,some 1),(10,some 1),(11,some 0),(12,some 0),(13,some 0),(14,some 1),(15,some 1),(16,some 0),(17,some 0),(18,some 0),(19,some 0),(20,none),(21,some 1),(22,some 1),(23,some 1),(24,some 1),(25,some 1)] (by kernel_rfl) (by kernel_rfl) rfl 99<|aj (ai rfl)<|aj (aL rfl)<|aj (ax rfl pk (by decide))<|bV (fun m=>ak rfl pj (ar (m.aN 3 rfl) (i:=0) rfl))<|aj (ai rfl)<|aj (ai rfl)<|aj (ck rfl rfl Tryz.underlying105 eS hA_b153r rfl (by omega))<|aj (ax rfl iu (by decide))<|bV (fun m=>aP rfl gK gg rfl (F7 (m.rd 1 rfl) hu))<|aj (ai rfl)<|aj (ai rfl)<|aj (ck rfl rfl Tryz.underlying105 eS hA_b153r rfl (by omega))<|aj (ax rfl o5 (by decide))<|bV (fun m=>aP rfl cB b7 (by rw[aA,u.img.h]) (GR (m.rd 1 rfl) hu))<|aj (ai rfl)<|aj (ai rfl)<|aj (ck rfl rfl Tryz.underlying105 eS hA_b153r rfl (by omega))<|aj (ax rfl dE (by decide))<|bV (fun m=>ak rfl gD (cm (f:=IX.cs) IX.cd (m.rd 1 rfl) hu 35 _ u.ko))<|aj (b6 E2 rfl rfl (by kernel_rfl) (EI (x:=u) vp Ac vb))<| ?_
     refine dk (an rfl Tryz.call53 (wD hD1 (fun nm=>Nat.le_trans (mI _ _) (by decide)) hul (u:=u)) [0] rfl [0,25] rfl ?_)
     rintro _ _ _ ⟨v,rfl,rfl,rfl⟩
     refine⟨(fun _=>wk [2,2,2,2,2,2] [0,1,2,3,4,5,6,7,8,9,10,11,12,13,14,15,16,17,18,19,20,21,22,23,24,25] rfl rfl), ?_⟩
     refine bU (fun m=>(m.own 1 rfl).slice) ?_
     rintro⟨A_x,c_x,rfl,hc_x⟩
     refine bU (fun m=>(m.ord 1 rfl).2.1) fun hA_x=> ?_
     refine aj (ai rfl)<|aj (aF rfl rfl)<|aj (aF rfl rfl)<|aj (ay rfl)<|aj (ay rfl)<|bp<|az [26,25,163,155,24,23,105,19,18,17,12,34,11,6,0,1,2,3,4] rfl<|aY rfl rfl<|aa<|ae<|cA [8] [(0,some 0),(1,some 0),(2,some 0),(3,some 0),(4,some 0),(5,some 0),(6,some 0),(7,some 0),(8,none),(9,some 1),(10,some 1),(11,some 1),(12,some 1),(13,some 1)] (by kernel_rfl) (by kernel_rfl) rfl 99<| ?_
     refine aj (ai rfl)<|aj (aL rfl)<|aj (ax rfl nc (by decide))<|bV (fun m=>yV (aP rfl cK bT rfl (wI (m.aN 5 rfl))) ((rfl:_=Value.agg y1.cs.toArray)))<|aj (ai rfl)<|aj (ai rfl)<|aj (ck rfl rfl Tryz.underlying105 eS hA_b153r rfl (by omega))<|bV (fun m=>aP rfl ka eS (IX.cd u) (cm (f:=IX.cs) IX.cd (m.rd 1 rfl) hu))<| ?_
     refine dk (an rfl Tryz.call54 (qI hD1.C7 (by omega) hD1.H7 (fun nm=>Nat.le_trans (mI _ _) (by decide)) hul (u:=u)) [] rfl [13,0,25] rfl ?_)
     rintro _ _ _ ⟨rfl,rfl,rfl⟩
     refine⟨(fun _=>wk [0,0,0,0,0,0,0,0] [0,1,2,3,4,5,6,7,8,9,10,11,12,13,14,15,16,17,18,19,20,21,22,23,24,25] rfl rfl), ?_⟩
     refine aj (ai rfl)<|aj (aF rfl rfl)<|aj (aF rfl rfl)<|aj (ay rfl)<|aj (ay rfl)<|bp<|az [28,27,26,25,163,155,24,23,105,19,18,17,12,34,11,6,0,1,2,3,4] rfl<|aY rfl rfl<|aa<|ae<|ah<| ?_
     refine au rfl<|hy (fun m=>kj rfl Tryz.underlying27 Tryz.underlying5 Tryz.underlying9 (m.ord 1 rfl))<|au rfl<|hy (fun _=>yF (ma rfl rfl) ((decide_eq_false (not_not_intro rfl))))<|au rfl<|bQ (o:=_) rfl rfl rfl (fun _=>ai rfl)<|bQ (o:=_) rfl rfl rfl (fun _=>ai rfl)<|bQ (o:=_) rfl rfl rfl (fun _=>de rfl rfl)<|hy (fun _=>bn rfl rfl)<|ag<|az [208,28,27,26,25,163,155,24,23,105,19,18,17,12,34,11,6,0,1,2,3,4] rfl<|aa<| ?_
     refine dm rfl ((decide_eq_false (not_not_intro rfl))) ?_
     refine aB<|aW<|aa<|ah<|au rfl<|hy (fun _=>aO rfl rfl (bE (by omega) (by omega)))<|aG rfl<|ag<|az [24,208,28,27,26,25,163,155,23,105,19,18,17,12,34,11,6,0,1,2,3,4] rfl<| ?_
     refine cH (i+1) ⟨rfl,rfl,rfl,rfl,rfl,rfl,rfl,rfl,rfl,rfl,rfl,rfl,rfl,rfl,rfl,trivial⟩ [0,1,1,1,1,1,1] rfl [1,2,3,4,5,6,7,8,9,10,11,12,13,14,15,16,17,18,19,20,21,22,23,24,25] rfl (by omega) (by omega)
   ·refine bH<|al<|al<|aD<|aa<|ae<|ah<| ?_
    refine hx (an rfl Tryz.call49 (tc) [] rfl [24] rfl ?_)
    rintro _ _ _ ⟨rfl,rfl,rfl⟩
    refine aG rfl<|ag<|az [10,155,24,23,105,19,18,17,12,34,11,6,0,1,2,3,4] rfl<|aY rfl rfl<|aa<|aR<| ?_
    exact bc trivial rfl rfl [] rfl [] rfl ⟨rfl,rfl,rfl⟩
theorem jE(I:Option Addr)(ni ci:Nat)(img:List UInt8)(xs:List Cell)(L:Option Addr)(np cp:Nat)(ys:List Cell)(za:Int)(zn:Int)(W:World)(h1:Rd W 1 I ni (aT img))(hc1:ni≤ci)(hn1:ni≤140737488351232)(_:gN W xs)(hT:Ty Tryz.prog 75 xs)(h3:(vz (.s 1 L np cp ys)).holds W)(hT3:Ty Tryz.prog 44 [.s 1 L np cp ys])(hza:-9223372036854775808≤za∧za≤9223372036854775807)(hzn:-9223372036854775808≤zn∧zn≤9223372036854775807)(hro:dF.holds W):
  Calls Tryz.prog 7 #[.slice I ni ci,.agg (xs.map Cell.val).toArray,.slice L np cp,.int .i64 za,.int .i64 zn] W fun e w' =>e= .returned (.bool true)∧Fr No W w' :=by
 obtain⟨p,e,p1,p2,p3⟩:=Fq hT
 rw[e]
 obtain⟨_,_,_,_,l3,e3,hv3,hz3⟩:=Ce hT3
 cases e3
 have r3:=(View.rowOf (n:=np) (c:=cp) (A:=L) hv3).ok.1 W h3
 exact xj (sL hc1 hn1 p1 p2 p3 hz3 hza hzn) (by
  intro s hs
  simp only[List.mem_cons,List.not_mem_nil,or_false]at hs
  rcases hs with rfl|rfl|rfl
  ·exact h1
  ·exact r3
  ·exact hro)
end Go.Proofs.YtmibdabdlgmafaaGreatDoor
end
