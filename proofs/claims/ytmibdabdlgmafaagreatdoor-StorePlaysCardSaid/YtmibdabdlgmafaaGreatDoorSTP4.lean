/- Part. -/
import Derived.Test.YtmibdabdlgmafaaGreatDoorSTP3
import Derived.WideKeyEntry
import Derived.OrdersIn
import Derived.RangeFuncNested
import Derived.RangeFuncLeaves
import Derived.RangeFuncCalls
import Derived.RangeFuncBox
import Derived.Shelf.Abstract
import Derived.WalkKit
import Derived.OwnWalkIn
import Derived.TacticsInMore
import Derived.LoopNIn
import Derived.LoopIn
import Derived.ScopeJumps
import Derived.Shelf.Sort.Plain
import Derived.Test.YtmibdabdlgmafaaGreatDoorProg
import Derived.Sort.OwnSorted
set_option linter.all false
section
namespace Go.Eng
open Go.RowKit
section
variable{P:Program}{Q:Exit→Act→World→Prop}{N:Nat}{D:List Deferred}{c:Code}{ρ:Env}{b:cG}{X S:List bh}
theorem rm{α β:Type}(R:α→β→Env)(X1 S1:α→β→List bh)(I:α→β→Prop)(ρk:Env)(hk:e8 ρk ρ)(is:List Nat){Xt Xr:List bh}(hX:bX is X=some (Xt,Xr))
  (h:HC P (rO N D (fun i:α×β=>R i.1 i.2++ρk) fun i w=>Mem b (X1 i.1 i.2++Xr) (S1 i.1 i.2++S) w∧I i.1 i.2) N D c ρ b X S) (k:∀x y,I x y→HQ Q N D .normal (R x y++ρk) b (X1 x y++Xr) (S1 x y++S)):HC P Q N D c ρ b X S:=
 DG (fun i:α×β=>R i.1 i.2++ρk) (fun i=>X1 i.1 i.2++Xr) (fun i=>S1 i.1 i.2++S) (fun i=>I i.1 i.2) h fun i hi=>k (i.1) (i.2) hi
theorem gk{α β:Type}{R:α→β→Env}{X1 S1:α→β→List bh}{I:α→β→Prop}{ρ0:Env}{Xr Sr:List bh}(x:α)(y:β)(hs:e8 (R x y++ρ0) ρ)(is:List Nat){Xz:List bh}(hX:bX is X=some (X1 x y++Xr,Xz))(js:List Nat)(hS:dN js S=some (S1 x y++Sr))(hI:I x y):
  HQ (rO N D (fun i:α×β=>R i.1 i.2++ρ0) fun i w=>Mem b (X1 i.1 i.2++Xr) (S1 i.1 i.2++Sr) w∧I i.1 i.2) N D .normal ρ b X S:=
 Br (i:=(x,y)) hs is hX js hS hI
theorem CI{α β γ:Type}(R:α→β→γ→Env)(X1 S1:α→β→γ→List bh)(I:α→β→γ→Prop)(ρk:Env)(hk:e8 ρk ρ)(is:List Nat){Xt Xr:List bh}(hX:bX is X=some (Xt,Xr))
  (h:HC P (rO N D (fun i:α×β×γ=>R i.1 i.2.1 i.2.2++ρk) fun i w=>Mem b (X1 i.1 i.2.1 i.2.2++Xr) (S1 i.1 i.2.1 i.2.2++S) w∧I i.1 i.2.1 i.2.2) N D c ρ b X S) (k:∀x y z,I x y z→HQ Q N D .normal (R x y z++ρk) b (X1 x y z++Xr) (S1 x y z++S)):HC P Q N D c ρ b X S:=
 DG (fun i:α×β×γ=>R i.1 i.2.1 i.2.2++ρk) (fun i=>X1 i.1 i.2.1 i.2.2++Xr) (fun i=>S1 i.1 i.2.1 i.2.2++S) (fun i=>I i.1 i.2.1 i.2.2) h fun i hi=>k (i.1) (i.2.1) (i.2.2) hi
theorem fi{α β γ:Type}{R:α→β→γ→Env}{X1 S1:α→β→γ→List bh}{I:α→β→γ→Prop}{ρ0:Env}{Xr Sr:List bh}(x:α)(y:β)(z:γ)(hs:e8 (R x y z++ρ0) ρ)(is:List Nat){Xz:List bh}(hX:bX is X=some (X1 x y z++Xr,Xz))(js:List Nat)(hS:dN js S=some (S1 x y z++Sr))(hI:I x y z):
  HQ (rO N D (fun i:α×β×γ=>R i.1 i.2.1 i.2.2++ρ0) fun i w=>Mem b (X1 i.1 i.2.1 i.2.2++Xr) (S1 i.1 i.2.1 i.2.2++Sr) w∧I i.1 i.2.1 i.2.2) N D .normal ρ b X S:=
 Br (i:=(x,y,z)) hs is hX js hS hI
end
end Go.Eng
end
section
namespace Go.Eng
open Go.RowKit
open Go.ChangeMaps (setBlock)
section
variable{b:cG}{X S Xp Xq:List bh}{w:World}{r:bh}
theorem Mem.jA(m:Mem b (eK Xp::X) S w)(h:Xp.Perm Xq):Mem b (eK Xq::X) S w:=((m.unpack).perm (h.append_right X)).pack
theorem Mem.rY(m:Mem b (eK Xp::X) S w)(i:Nat)(h:Xp[i]? =some r):Mem b (r::eK (Xp.eraseIdx i)::X) S w:=by
 obtain⟨hlt,rfl⟩:=List.getElem?_eq_some_iff.1 h
 have m1:=(m.jA (gu Xp i hlt).symm).unpack
 rw[List.cons_append]at m1
 have m2:Mem b (Xp.eraseIdx i++(Xp[i]::X)) S w:=m1.perm (List.perm_middle.symm)
 exact(m2.pack).perm (List.Perm.swap ..)
theorem Mem.mr(m:Mem b (r::eK Xp::X) S w):Mem b (eK (r::Xp)::X) S w:=by
 have m1:Mem b (eK Xp::r::X) S w:=m.perm (List.Perm.swap ..)
 have m2:=m1.unpack
 have m3:Mem b ((r::Xp)++X) S w:=m2.perm (List.perm_middle)
 exact m3.pack
theorem Mem.uH(m:Mem b X S w):Mem b (eK []::X) S w:=Mem.pack (Xp:=[]) m
end
abbrev Bn(n:Nat):={l:List UInt8//l.length=n}
def KN{n:Nat}(d:Bn n):Value:=DV d.1
theorem wP{P:Program}{kt e:TypeId}{n:Nat}(ht:P.underlying kt=some (.array n e))(he:P.underlying e=some (.int .u8))(hs:P.cellsOf kt=n)(hse:P.cellsOf e=1)(hk:P.keyTypeAt 2 kt=true):oG P kt (KN (n:=n))where
 inj a b h:=Subtype.ext (wV h)
 check w em d:=by
  have h1:(KN d).formed P kt=true:=by simp[Value.formed,KN,DV,ht,aF,d.2,hs]
  have h2:=jT (P:=P) (D:=0) (l:=d.1) ht he hs hse d.2
  exact run_checkKey_deep em 9998 2 kt hk w 2 (KN d) _ h1 (by simpa[KN,DV,Value.cells]using h2)
 find w k es h:=by
  have hag:dL P kt=some true:=by simp[dL,ht]
  have heq:∀q:Bn n,(Op.equal kt (KN k) (KN q)).run P w= .ok (decide (k=q)) w:=fun q=>by
   have h2:=jT (P:=P) (D:=0) (l:=k.1) ht he hs hse k.2
   have h3:=jT (P:=P) (D:=0) (l:=q.1) ht he hs hse q.2
   exact oX (m:=2) (p:=k=q) (by decide) hk hag (by rw[aF,hs];exact k.2) (by rw[aF,hs];exact q.2) h2 h3 (by rw[kc];exact⟨fun e=>Subtype.ext e,fun e=>by rw[e]⟩)
  have hnow:∀(es:List MapEntry) (i:Nat),es≠ []→Instr.findNow (.array n e) (KN k) es i=none:=fun es i hne=>by
   cases es with
   |nil=>exact absurd rfl hne
   |cons x r=>rfl
  have hask:∀(es:List MapEntry) (i:Nat),(∀x∈es,∃q:Bn n,x.key=KN q)→(∃j x,es[j]? =some x∧x.key=KN k∧(Instr.findAsking kt (KN k) es i).run P w= .ok (some (i+j,x.val)) w)∨((∀x∈es,x.key≠KN k)∧(Instr.findAsking kt (KN k) es i).run P w= .ok none w):=by
   intro es
   induction es with
   |nil=>intro i _;exact .inr ⟨by simp,rfl⟩
   |cons x r ih=>
    intro i h
    obtain⟨q,hq⟩:=h x (by simp)
    have hx:=heq q
    rw[←hq]at hx
    by_cases hkq:k=q
    ·rw[decide_eq_true hkq]at hx
     exact .inl ⟨0,x,rfl,by rw[hq,hkq],by simp[Instr.findAsking,hx]⟩
    ·rw[decide_eq_false hkq]at hx
     rcases ih (i+1) (fun y hy=>h y (by simp[hy]))with⟨j,y,hj,hy,hf⟩|⟨hall,hf⟩
     ·refine .inl ⟨j+1,y,by simpa using hj,hy, ?_⟩
      simp[Instr.findAsking,hx,hf]
      omega
     ·refine .inr ⟨fun y hy=> ?_,by simp[Instr.findAsking,hx,hf]⟩
      rcases List.mem_cons.1 hy with rfl|hy
      ·rw[hq];exact fun e=>hkq (Subtype.ext (wV e)).symm
      ·exact hall y hy
  cases es with
  |nil=>exact .inr ⟨by simp,by simp[Instr.findKey,run_underlying ht,Instr.findNow]⟩
  |cons x r=>
   have h0:=hnow (x::r) 0 (by simp)
   rcases hask (x::r) 0 h with⟨j,y,hj,hy,hf⟩|⟨hall,hf⟩
   ·refine .inl ⟨j,y,hj,hy, ?_⟩
    simp[Instr.findKey,run_underlying ht,h0,hf]
   ·exact .inr ⟨hall,by simp[Instr.findKey,run_underlying ht,h0,hf]⟩
 stays w k:=by
  have:Instr.sameBits 10000 (KN k) (KN k)=true:=by
   show((aZ k.1).toArray.size == (aZ k.1).toArray.size && ((aZ k.1).toArray.toList.zip (aZ k.1).toArray.toList).all fun(x,y)=>Instr.sameBits 9999 x y)=true
   simp only[beq_self_eq_true,Bool.true_and]
   exact si 9999 k.1
  simp[Instr.keyThatStays,this]
section
variable{κ:Type}[DecidableEq κ]{enc:κ→Value}
def uF(enc:κ→Value)(w:World)(b:Nat)(l:List (κ×Value))(k:κ)(st:Nat):Prop:=
 ∃es clock,w.heap[b]? =some (.map es clock)∧es.toList.map (fun e=>(e.key,e.val))=l.map (fun p=>(enc p.1,p.2))∧(cq l).Nodup∧(∀e∈es.toList,e.born<clock)∧(es.toList.map (·.born)).Nodup∧∃(i:Nat) (x:MapEntry) (u:Value),es.toList[i]? =some x∧x.born=st∧l[i]? =some (k,u)
def zV(enc:κ→Value)(b:Nat)(l:List (κ×Value))(k:κ)(st:Nat):bh where
 dp i:=i=b
 holds w:=uF enc w b l k st
 keep f h m:=by
  obtain⟨es,clock,hb,rest⟩:=m
  exact⟨es,clock,(f.block b (db hb) (h b rfl)).trans hb,rest⟩
 low m hk:=by
  obtain⟨es,clock,hb,rest⟩:=m
  exact hk▸db hb
theorem pM{l:List (κ×Value)}{k:κ}{u v:Value}:cN (cN l k u) k v=cN l k v:=by
 induction l with
 |nil=>simp[cN]
 |cons p r ih=>
  obtain⟨q,x⟩:=p
  by_cases h:q=k
  ·simp[cN,h]
  ·simp[cN,h,ih]
theorem tr{P:Program}{w:World}{t kt et:TypeId}{b:Nat}{l:List (κ×Value)}{z:Value}{sz bytes:Nat}(ht:P.underlying t=some (.map kt et))(hT:TI P et z sz bytes)(K:oG P kt enc)(h:gH enc w b l)(k:κ):
  ∃(st:Nat) (w' :World),(Instr.mapEntry t (.map (some b)) (enc k)).run P w= .ok (.tuple #[(cn l k).getD z,.int .i64 (st:Nat)]) w' ∧uF enc w' b (cN l k ((cn l k).getD z)) k st∧Fr (fun i=>i=b) w w' :=by
 have hn:=h.keys
 obtain⟨es,clock,hb,hl,hborn,hnb,hf⟩:=h.found K k
 have hg:(getObj b).run P w= .ok (.map es clock) w:=by simp[getObj,Sem.run,hb]
 have hc:=K.check w false k
 rcases hf with⟨i,x,hi,hp,ha,hx,hf⟩|⟨ha,hf⟩
 ·have hst:=K.stays w k
  have hxi:es[i]? =some x:=by simpa using hi
  have hsame:es.modify i (fun e=>{e with key:=enc k})=es:=by
   apply Array.ext'
   apply List.ext_getElem?
   intro j
   rw[Array.toList_modify,List.getElem?_modify]
   by_cases hij:i=j
   ·subst hij
    rw[hi]
    show some (if i=i then({x with key:=enc k}:MapEntry)else x)=some x
    rw[if_pos rfl,←hx]
   ·simp[hij]
  refine⟨x.born,setBlock w b (.map es clock), ?_,⟨es,clock,eu hb, ?_,gj hn,hborn,hnb,i,x,x.val,hi,rfl, ?_⟩,ea⟩
  ·rw[ha]
   simp[Instr.mapEntry,run_underlying ht,hg,hc,hf,hxi,hx,hst,hsame,eG hb,goInt]
  ·rw[ha,n0 hn hp,hl]
   congr 1
   apply List.ext_getElem?
   intro j
   rw[List.getElem?_set]
   by_cases hij:i=j
   ·subst hij
    rw[if_pos rfl,if_pos (List.getElem?_eq_some_iff.1 hp).1,hp]
    rfl
   ·rw[if_neg hij]
  ·rw[ha,n0 hn hp,List.getElem?_set,if_pos rfl,if_pos (List.getElem?_eq_some_iff.1 hp).1]
   rfl
 ·have hlen:es.toList.length=l.length:=by have:=congrArg List.length hl;simpa using this
  refine⟨clock,setBlock w b (.map (es.push {key:=enc k,val:=z,born:=clock}) (clock+1)), ?_,⟨_,_,eu hb, ?_,gj hn, ?_, ?_,es.toList.length,{key:=enc k,val:=z,born:=clock},z,by simp,rfl, ?_⟩,ea⟩
  ·rw[ha]
   simp[Instr.mapEntry,run_underlying ht,hg,hc,hf,og hT,eG hb,goInt]
  ·rw[ha,oq ha,Array.toList_push,List.map_append,hl]
   simp
  ·intro e he
   rw[Array.toList_push]at he
   rcases List.mem_append.1 he with he|he
   ·have:=hborn e he;omega
   ·rcases List.mem_singleton.1 he with rfl
    exact Nat.lt_succ_self _
  ·rw[Array.toList_push,List.map_append]
   refine lI hnb (fun hm=> ?_)
   obtain⟨e,he,hk⟩:=List.mem_map.1 hm
   have:=hborn e he
   simp only at hk
   omega
  ·rw[ha,oq ha,hlen]
   simp
theorem rQ{P:Program}{w:World}{t:TypeId}{b:Nat}{l:List (κ×Value)}{k:κ}{st:Nat}(h:uF enc w b l k st)(v:Value):
  ∃w',(Instr.entryStore t (.map (some b)) (.int .i64 (st:Nat)) v).run P w= .ok () w' ∧gH enc w' b (cN l k v)∧Fr (fun i=>i=b) w w' :=by
 obtain⟨es,clock,hb,hl,hn,hborn,hnb,i,x,u,hi,rfl,hp⟩:=h
 have hg:(getObj b).run P w= .ok (.map es clock) w:=by simp[getObj,Sem.run,hb]
 have hidx:es.findIdx? (fun e=>((e.born:Nat):Int) == ((x.born:Nat):Int))=some i:=by
  rw[WideElems.findIdx_arr]
  exact WideElems.findIdx_born hnb hi
 refine⟨setBlock w b (.map (es.modify i fun e=>{e with val:=v}) clock), ?_,⟨_,clock,eu hb, ?_,gj hn, ?_, ?_⟩,ea⟩
 ·simp[Instr.entryStore,hg,asInt,asIntOf,hidx,eG hb]
 ·rw[n0 hn hp,Array.toList_modify]
  apply List.ext_getElem?
  intro j
  have hj:=congrArg (fun q:List (Value×Value)=>q[j]?) hl
  simp only[List.getElem?_map]at hj
  simp only[List.getElem?_map,List.getElem?_modify,List.getElem?_set]
  by_cases hij:i=j
  ·subst hij
   have hlt:=(List.getElem?_eq_some_iff.1 hp).1
   rw[hi,hp]at hj
   simp only[Option.map_some,Option.some.injEq,Prod.mk.injEq]at hj
   simp[hi,hlt,hj.1]
  ·simp only[hij,if_false]
   simpa using hj
 ·intro e he
  rw[Array.toList_modify]at he
  obtain⟨j,hj⟩:=List.mem_iff_getElem?.1 he
  rw[List.getElem?_modify]at hj
  cases hej:es.toList[j]? with
  |none=>rw[hej]at hj;simp at hj
  |some e0=>
   have:=hborn e0 (List.mem_of_getElem? hej)
   rw[hej]at hj
   simp only[Option.map_eq_map,Option.map_some,Option.some.injEq]at hj
   subst hj
   split <;> exact this
 ·have:(es.modify i fun e=>{e with val:=v}).toList.map (·.born)=es.toList.map (·.born):=by
   apply List.ext_getElem?
   intro j
   rw[Array.toList_modify]
   simp only[List.getElem?_map,List.getElem?_modify]
   cases es.toList[j]? with
   |none=>rfl
   |some e0=>simp only[Option.map_eq_map,Option.map_some];split <;> rfl
  rw[this]
  exact hnb
section
variable{P:Program}{Q:Exit→Act→World→Prop}{N:Nat}{D:List Deferred}{ρ:Env}{b:cG}{X S:List bh}{ty t kt et:TypeId}{x y q:Operand}{K:Value→List bh→List bh→Prop}{g:Nat}{l:List (κ×Value)}
theorem yW{k:κ}{z:Value}{sz bytes:Nat}(i:Nat)(hi:X[i]? =some (dw enc g l))(hx:ev ρ x=some (.map (some g)))(hy:ev ρ y=some (enc k))(ht:P.underlying t=some (.map kt et))(hT:TI P et z sz bytes)(hK:oG P kt enc)
  (kk:∀st:Nat,K (.tuple #[(cn l k).getD z,.int .i64 (st:Nat)]) (zV enc g (cN l k ((cn l k).getD z)) k st::X.eraseIdx i) S):XH P Q N D ρ b X S (.mapEntry t x y) ty K:=fun w m=>by
 obtain⟨st,w',hrun,hE,hf⟩:=tr ht hT hK (m.ot i hi) k
 refine dk (v' :=.tuple #[(cn l k).getD z,.int .i64 (st:Nat)]) (w' :=w') (fun a _ _ _ _ ha=>by simp[execOp,ha.eval hx,ha.eval hy,hrun]) ⟨_,_, ?_,kk st⟩
 have m' :=m.perm (av [i] X [dw enc g l] (X.eraseIdx i) (by simp[bX,hi]))
 exact m'.change (r' :=zV enc g (cN l k ((cn l k).getD z)) k st) hf hE (fun k hk=>.inl hk)
theorem qt{k:κ}{st:Nat}{v:Value}(i:Nat)(hi:X[i]? =some (zV enc g l k st))(hx:ev ρ x=some (.map (some g)))(hy:ev ρ y=some (.int .i64 (st:Nat)))(hq:ev ρ q=some v)
  (kk:K undef (dw enc g (cN l k v)::X.eraseIdx i) S):XH P Q N D ρ b X S (.entryStore t x y q) ty K:=fun w m=>by
 have hE:uF enc w g l k st:=m.hx _ (List.mem_of_getElem? hi)
 obtain⟨w',hrun,hM,hf⟩:=rQ (P:=P) (t:=t) hE v
 refine jI (w' :=w') (fun a _ _ _ _ ha=>by simp[execOp,ha.eval hx,ha.eval hy,ha.eval hq,hrun]) ⟨_,_, ?_,kk⟩
 have m' :=m.perm (av [i] X [zV enc g l k st] (X.eraseIdx i) (by simp[bX,hi]))
 exact m'.change (r' :=dw enc g (cN l k v)) hf hM (fun k hk=>.inl hk)
end
end
end Go.Eng
end
section
set_option maxRecDepth 20000
set_option maxHeartbeats 2000000
namespace Go.Proofs.YtmibdabdlgmafaaGreatDoor
open Go.Eng Go.Hx
theorem A6{A:Option Addr}{n c i k:Nat}{l:List UInt8}(hn:n≤1000000000)(hl:l.length=n)(hi:i≤n)(hk:k≤i):cj Tryz.prog 272 [.slice A n c,.int .i64 (i:Nat),.int .i64 (k:Nat)] [] [dr 1 A n (aZ l)] (fun v_ X_ S_=>v_=(.int .i64 (lA l i k:Nat))∧X_=[]∧S_=[]):=by
 refine aO (N:=36) Tryz.func272 rfl rfl (by simp) fun b=> ?_
 refine ba (fun m=>gK (m.rd 0 rfl)) ?_
 rintro⟨hl_r,hA_r⟩
 refine ah<|aj<|hy (fun _=>ab rfl)<|ai<|ag<|ah<|aj<|hy (fun _=>ab rfl)<|ai<|ag<|ah<|aN<| ?_
 refine dR (fun m=>131-m) (fun m=>[(7,.int .i64 (m:Nat))]) (fun m=>[]) (fun m=>[]) (fun m=>m≤131∧i+m≤n∧lj l i k (131-m) m=lA l i k) 0 [(6,_),(0,_),(1,_),(2,_)] ⟨rfl,rfl,rfl,rfl,trivial⟩ [] rfl [] rfl (⟨by decide,hi,rfl⟩) ⟨rfl,trivial⟩ (fun m ⟨hm,him,hL⟩=> ?_)
 refine ah<|ah<|cK [] [(0,some 0),(1,some 0),(2,some 0),(3,some 0),(4,some 0),(5,some 0),(6,some 0),(7,some 0),(8,some 0),(9,some 0),(10,some 0),(11,some 0),(12,some 0),(13,some 0),(14,some 0),(15,some 0),(16,some 0),(17,some 0),(18,some 0),(19,some 0),(20,some 0),(21,some 0),(22,some 0),(23,some 0),(24,some 0)] (by kernel_rfl) (by kernel_rfl) rfl 99<|an (aa rfl)<|an (br rfl rfl)<|an (aa rfl)<| ?_
 refine hO 10 rfl (fun h1=> ?_) (fun h1=> ?_)
 ·refine bj (o:=_) rfl rfl rfl (aa rfl)<|bj (o:=_) rfl rfl rfl (aa rfl)<|bj (o:=_) rfl rfl rfl (aJ rfl rfl (bA (by omega) (by omega)))<|bj (o:=_) rfl rfl rfl (aa rfl)<|bj (o:=_) rfl rfl rfl (aR rfl Tryz.underlying27)<|bj (o:=_) rfl rfl rfl (br rfl rfl)<|an (bE rfl rfl)<|an (aa rfl)<| ?_
  refine hO 18 rfl (fun h2=> ?_) (fun h2=> ?_)
  ·refine bj (o:=_) rfl rfl rfl (aa rfl)<|bj (o:=_) rfl rfl rfl (aa rfl)<|bj (o:=_) rfl rfl rfl (aa rfl)<|bj (o:=_) rfl rfl rfl (aJ rfl rfl (bA (by omega) (by omega)))<|bj (o:=_) rfl rfl rfl (aK rfl rfl Tryz.underlying27 eg hA_r (show((i+m:Nat):Int)=_ by omega) (by omega))<|iJ (o:=_) rfl rfl rfl (fun m=>ar rfl iN ((m.rd 0 rfl).cell (bJ (by omega))))<|bj (o:=_) rfl rfl rfl (aa rfl)<|bj (o:=_) rfl rfl rfl (aa rfl)<|bj (o:=_) rfl rfl rfl (aa rfl)<|bj (o:=_) rfl rfl rfl (aJ rfl rfl (bA (by omega) (by omega)))<|bj (o:=_) rfl rfl rfl (aK rfl rfl Tryz.underlying27 eg hA_r (show((k+m:Nat):Int)=_ by omega) (by omega))<|iJ (o:=_) rfl rfl rfl (fun m=>ar rfl iN ((m.rd 0 rfl).cell (bJ (by omega))))<|bj (o:=_) rfl rfl rfl (b7 rfl rfl)<|an (bE rfl rfl)<|bq<|al (ρ' :=[(32,_),(7,_),(6,_),(0,_),(1,_),(2,_)]) ⟨rfl,rfl,rfl,rfl,rfl,rfl,trivial⟩<|ag<| ?_
   refine cL rfl (fun h3=> ?_) (fun h3=> ?_)
   ·have e3:l.getD (i+m) 0=l.getD (k+m) 0:=UInt8.toNat_inj.1 (by omega)
    rw[iu (by omega) ⟨by omega,e3⟩]at hL
    refine aB<|ag<|aN<|aj<|hy (fun _=>aa rfl)<|hy (fun _=>aJ rfl rfl (bA (by omega) (by omega)))<|hy (fun _=>ab rfl)<|ai<|al (ρ' :=[(7,_),(32,_),(6,_),(0,_),(1,_),(2,_)]) ⟨rfl,rfl,rfl,rfl,rfl,rfl,trivial⟩<|aQ<| ?_
    refine cZ (m+1) ⟨rfl,rfl,rfl,rfl,rfl,trivial⟩ [] rfl [0] rfl (⟨by omega,by omega,by rw[←hL];rfl⟩) (by omega)
   ·rw[kQ (fun q=>h3 (by rw[q.2]))]at hL
    rw[←hL]
    refine bP<|au<|au<|aC<|ag<|ah<|aj<|hy (fun _=>aa rfl)<|hy (fun _=>ab rfl)<|ai<|al (ρ' :=[(6,_),(32,_),(7,_),(0,_),(1,_),(2,_)]) ⟨rfl,rfl,rfl,rfl,rfl,rfl,trivial⟩<|ag<|aU<| ?_
    exact bc trivial rfl rfl [] rfl [] rfl ⟨rfl,rfl,rfl⟩
  ·rw[kQ (fun q=>h2 (by omega))]at hL
   rw[←hL]
   refine aP rfl rfl rfl (by decide)<|aP rfl rfl rfl (by decide)<|aP rfl rfl rfl (by decide)<|aP rfl rfl rfl (by decide)<|aP rfl rfl rfl (by decide)<|aP rfl rfl rfl (by decide)<|aP rfl rfl rfl (by decide)<|aP rfl rfl rfl (by decide)<|aP rfl rfl rfl (by decide)<|aP rfl rfl rfl (by decide)<|aP rfl rfl rfl (by decide)<|aP rfl rfl rfl (by decide)<|aP rfl rfl rfl (by decide)<|an (bp rfl rfl)<|bq<|al (ρ' :=[(32,_),(7,_),(6,_),(0,_),(1,_),(2,_)]) ⟨rfl,rfl,rfl,rfl,rfl,rfl,trivial⟩<|ag<| ?_
   refine di rfl (rfl) ?_
   refine bP<|au<|au<|aC<|ag<|ah<|aj<|hy (fun _=>aa rfl)<|hy (fun _=>ab rfl)<|ai<|al (ρ' :=[(6,_),(32,_),(7,_),(0,_),(1,_),(2,_)]) ⟨rfl,rfl,rfl,rfl,rfl,rfl,trivial⟩<|ag<|aU<| ?_
   exact bc trivial rfl rfl [] rfl [] rfl ⟨rfl,rfl,rfl⟩
 ·obtain rfl:m=131:=by omega
  have hL:131=lA l i k:=hL
  rw[←hL]
  refine aP rfl rfl rfl (by decide)<|aP rfl rfl rfl (by decide)<|aP rfl rfl rfl (by decide)<|aP rfl rfl rfl (by decide)<|aP rfl rfl rfl (by decide)<|aP rfl rfl rfl (by decide)<|an (bp rfl rfl)<|an (aa rfl)<| ?_
  refine aP rfl rfl rfl (by decide)<|aP rfl rfl rfl (by decide)<|aP rfl rfl rfl (by decide)<|aP rfl rfl rfl (by decide)<|aP rfl rfl rfl (by decide)<|aP rfl rfl rfl (by decide)<|aP rfl rfl rfl (by decide)<|aP rfl rfl rfl (by decide)<|aP rfl rfl rfl (by decide)<|aP rfl rfl rfl (by decide)<|aP rfl rfl rfl (by decide)<|aP rfl rfl rfl (by decide)<|aP rfl rfl rfl (by decide)<|an (bp rfl rfl)<|bq<|al (ρ' :=[(32,_),(7,_),(6,_),(0,_),(1,_),(2,_)]) ⟨rfl,rfl,rfl,rfl,rfl,rfl,trivial⟩<|ag<| ?_
  refine di rfl (rfl) ?_
  refine bP<|au<|au<|aC<|ag<|ah<|aj<|hy (fun _=>aa rfl)<|hy (fun _=>ab rfl)<|ai<|al (ρ' :=[(6,_),(32,_),(7,_),(0,_),(1,_),(2,_)]) ⟨rfl,rfl,rfl,rfl,rfl,rfl,trivial⟩<|ag<|aU<| ?_
  exact bc trivial rfl rfl [] rfl [] rfl ⟨rfl,rfl,rfl⟩
structure kr where
 A:Option Addr
 c:Nat
 l:List Nat
def kr.val(r:kr):Value:=.slice r.A r.l.length r.c
def ze(l:List Nat):List Value:=l.map fun n=>Value.int .i64 (n:Nat)
theorem uZ{l:List Nat}:∀u∈ze l,u.oneCell' =true:=by
 intro u hu
 obtain⟨n,_,rfl⟩:=List.mem_map.1 hu
 rfl
def kr.res(r:kr):bh:=aH 3 1 (.slice r.A r.l.length r.c) r.l.length (ze r.l)
abbrev tu:=List (Bn 4×kr)
def jm(es:tu):List (Bn 4×Value):=es.map fun x=>(x.1,x.2.val)
def fS(es:tu):List bh:=es.map fun x=>x.2.res
abbrev mU(g gm:Nat)(A:Option Addr)(n c m:Nat)(es:tu):bh:=eK [aG g 359 [.slice A n c,.map (some gm),.int .i64 (m:Nat)],dw (KN (n:=4)) gm (jm es),eK (fS es)]
def wx(l:List UInt8)(m:Nat)(es:tu):Prop:=∀k:Bn 4,((cn es k).map kr.l).getD []=kD l m k.1
theorem kV(k:Bn 4):∀es:tu,cn (jm es) k=(cn es k).map kr.val
 | []=>rfl
 |(q,r)::t=>by
  have ih:=kV k t
  unfold jm at ih ⊢
  simp only[List.map_cons,cn]
  split
  ·rfl
  ·exact ih
theorem mJ(k:Bn 4)(r:kr):∀es:tu,cN (jm es) k r.val=jm (cN es k r)
 | []=>rfl
 |(q,x)::t=>by
  have ih:=mJ k r t
  unfold jm at ih ⊢
  simp only[List.map_cons,cN]
  split
  ·rfl
  ·rw[ih];rfl
theorem oy{k:Bn 4}(r:kr):∀{es:tu},cn es k=none→fS (cN es k r)=fS es++[r.res]
 | [],_=>rfl
 |(q,x)::t,h=>by
  simp only[cn]at h
  split at h
  ·cases h
  ·rename_i hq
   have ih:=oy r h
   unfold fS at ih ⊢
   simp only[cN,if_neg hq,List.map_cons,ih,List.cons_append]
theorem kH{k:Bn 4}:∀{es:tu} {x:kr},cn es k=some x→∃i,(fS es)[i]? =some x.res∧∀r:kr,fS (cN es k r)=(fS es).set i r.res
 | [],_,h=>by cases h
 |(q,y)::t,x,h=>by
  simp only[cn]at h
  split at h
  ·rename_i hq
   cases h
   exact⟨0,rfl,fun r=>by simp[fS,cN,hq]⟩
  ·rename_i hq
   obtain⟨i,h1,h2⟩:=kH h
   refine⟨i+1,by simpa[fS]using h1,fun r=> ?_⟩
   have h2:=h2 r
   unfold fS at h2 ⊢
   simp only[cN,if_neg hq,List.map_cons,h2,List.set_cons_succ]
theorem set_perm{α:Type}:∀(l:List α) (i:Nat) (x:α),i<l.length→(l.set i x).Perm (x::l.eraseIdx i)
 | [],i,x,h=>by simp at h
 |a::t,0,x,h=>by simp
 |a::t,i+1,x,h=>by
  have:=set_perm t i x (by simpa using h)
  simp only[List.set_cons_succ,List.eraseIdx_cons_succ]
  exact(this.cons a).trans (List.Perm.swap ..)
theorem uK{l:List UInt8}{m:Nat}{es:tu}{A:Option Addr}{c:Nat}(h:wx l m es)(hm:m+4≤l.length):wx l (m+1) (cN es ⟨ez l m,bL hm⟩ ⟨A,c,kD l m (ez l m)++[m]⟩):=by
 intro k
 rw[qc,vB]
 by_cases hk:ez l m=k.1
 ·rw[if_pos (Subtype.ext hk),if_pos hk,←hk];rfl
 ·rw[if_neg (fun e=>hk (congrArg Subtype.val e)),if_neg hk,List.append_nil]
  exact h k
theorem zt(l:List UInt8):wx l 0 []:=fun k=>rfl
theorem sL{es:tu}{l:List UInt8}{m:Nat}{k:Bn 4}{r:kr}(h:wx l m es)(hr:cn es k=some r):r.l=kD l m k.1:=by
 have:=h k
 rw[hr]at this
 exact this
theorem pQ{es:tu}{l:List UInt8}{m:Nat}{k:Bn 4}(h:wx l m es)(hr:cn es k=none):kD l m k.1=[]:=by
 have:=h k
 rw[hr]at this
 exact this.symm
theorem D9{g gm:Nat}{A:Option Addr}{n c p i:Nat}{l:List UInt8}{es:tu}(hc:n≤c)(hn:n≤1000000000)(hl:l.length=n)(hpi:p≤i)(hi:i+4≤n)(hF:wx l p es):cj Tryz.prog 270 [.pointer (some ⟨g,0,none⟩),.int .i64 (i:Nat)] [mU g gm A n c p es] [dr 1 A n (aZ l)] (fun v_ X_ S_=>∃es1,v_=(.tuple #[])∧X_=[mU g gm A n c i es1]∧S_=[]∧(wx l i es1)):=by
 refine aO (N:=61) Tryz.func270 rfl rfl (by simp) fun b=> ?_
 refine ba (fun m=>gK (m.rd 0 rfl)) ?_
 rintro⟨hl_r,hA_r⟩
 refine bu (fun w m=>(m.perm (av [0] _ [_] _ rfl)).unpack) ?_
 refine aN<| ?_
 refine wR (fun p es=>i-p) (fun p es=>[]) (fun p es=>[aG g 359 [.slice A n c,.map (some gm),.int .i64 (p:Nat)],dw (KN (n:=4)) gm (jm es),eK (fS es)]) (fun p es=>[]) (fun p es=>p≤i∧wx l p es) p es [(0,_),(1,_)] ⟨rfl,rfl,trivial⟩ [0,0,0] rfl [] rfl (⟨hpi,hF⟩) trivial (fun p es ⟨hpi,hF⟩=> ?_)
 refine ah<|ah<|cK [] [(0,some 0),(1,some 0),(2,some 0),(3,some 0),(4,some 0),(5,some 0),(6,some 0),(7,some 0),(8,some 0),(9,some 0),(10,some 0),(11,some 0),(12,some 0),(13,some 0),(14,some 0),(15,some 0),(16,some 0),(17,some 0),(18,some 0)] (by kernel_rfl) (by kernel_rfl) rfl 99<|an (aa rfl)<|an (aW rfl)<|an (aD rfl hZ (by decide))<|cd (fun m=>ar rfl eY (ax (m.aT 0 rfl) rfl))<|an (aa rfl)<|an (br rfl rfl)<|an (aa rfl)<| ?_
 refine hO 11 rfl (fun h1=> ?_) (fun h1=> ?_)
 ·refine bj (o:=_) rfl rfl rfl (aa rfl)<|bj (o:=_) rfl rfl rfl (aW rfl)<|bj (o:=_) rfl rfl rfl (aD rfl hZ (by decide))<|iJ (o:=_) rfl rfl rfl (fun m=>ar rfl eY (ax (m.aT 0 rfl) rfl))<|bj (o:=_) rfl rfl rfl (aJ rfl rfl (bA (by omega) (by omega)))<|bj (o:=_) rfl rfl rfl (aa rfl)<|bj (o:=_) rfl rfl rfl (aW rfl)<|bj (o:=_) rfl rfl rfl (aD rfl jO (by decide))<|iJ (o:=_) rfl rfl rfl (fun m=>ar rfl dY (ax (m.aT 0 rfl) rfl))<|bj (o:=_) rfl rfl rfl (aR rfl Tryz.underlying27)<|bj (o:=_) rfl rfl rfl (nj rfl rfl)<|an (bE rfl rfl)<|bq<|al (ρ' :=[(23,_),(0,_),(1,_)]) ⟨rfl,rfl,rfl,trivial⟩<|ag<| ?_
  refine fE rfl ((decide_eq_true (by omega))) ?_
  refine ba (fun m=>(m.rd 0 rfl).some (by omega)) fun h_=> ?_
  obtain⟨a,rfl⟩:∃a_,A=some a_:=⟨_,h_⟩
  clear h_
  refine aB<|ag<|ah<|aN<|ah<|cK [16,17] [(0,some 1),(1,some 1),(2,some 1),(3,some 1),(4,some 1),(5,some 1),(6,some 1),(7,some 1),(8,some 1),(9,some 1),(10,some 1),(11,some 1),(12,some 1),(13,some 1),(14,some 1),(15,some 1),(16,none),(17,none)] (by kernel_rfl) (by kernel_rfl) rfl 1<|an (aa rfl)<|an (aW rfl)<|an (aD rfl jO (by decide))<|cd (fun m=>ar rfl dY (ax (m.aT 0 rfl) rfl))<|an (aa rfl)<|an (aW rfl)<|an (aD rfl hZ (by decide))<|cd (fun m=>ar rfl eY (ax (m.aT 0 rfl) rfl))<|an (aa rfl)<|an (aW rfl)<|an (aD rfl hZ (by decide))<|cd (fun m=>ar rfl eY (ax (m.aT 0 rfl) rfl))<|an (aJ rfl rfl (bA (by omega) (by omega)))<|an (yV (eH rfl rfl rfl Tryz.underlying27 eg rfl (show((p+4:Nat):Int)=_ by omega) (by omega) (by omega)) ((show Value.slice (if c=p then some a else(some a).map (·.add (p*1))) (p+4-p) (c-p)= .slice (some (a.add p)) 4 (c-p) by rw[if_neg (by omega),Nat.mul_one,Nat.add_sub_cancel_left];rfl)))<|an (n5 rfl Tryz.underlying364 (by omega))<|cd (fun m=>yV (aX rfl uJ rZ (by rw[aF];exact bL (by omega)) (Rd.part (m.rd 0 rfl))) ((rfl:Value.agg _= .agg (aZ (ez l p)).toArray)))<| ?_
  refine ee (aM DK (fun g4=>⟨(fun _=>wk [1,1,1] [0] rfl rfl), ?_⟩))
  refine j5 (aI 0 rfl rfl rfl rZ (by rw[aF];exact bL (by omega)) aY rfl ⟨(fun h=>absurd h (by decide)), ?_⟩)
  refine bq<|al (ρ' :=[(4,_),(23,_),(0,_),(1,_)]) ⟨rfl,rfl,rfl,rfl,trivial⟩<|ak (X' :=[_,_,_,_]) (S' :=[_]) (fun _ m=>m)<|ag<| ?_
  refine cK [9,10,12,14] [(0,some 1),(1,some 1),(2,some 1),(3,some 1),(4,some 1),(5,some 0),(6,some 0),(7,some 0),(8,some 0),(9,none),(10,none),(11,some 2),(13,some 3),(12,none),(14,none)] (by kernel_rfl) (by kernel_rfl) rfl 1<|an (aa rfl)<|an (aW rfl)<|an (aD rfl qX (by decide))<|cd (fun m=>ar rfl wJ (ax (m.aT 1 rfl) rfl))<|cd (fun m=>yV (aX rfl uJ rZ (by rw[aF];exact bL (by omega)) ((m.aT 0 rfl).ay)) ((rfl:Value.agg _=KN ⟨ez l p,bL (by omega)⟩)))<|an (aa rfl)<|an (aW rfl)<|an (aD rfl hZ (by decide))<|cd (fun m=>ar rfl eY (ax (m.aT 1 rfl) rfl))<| ?_
  refine ee (b8 Tryz.underlying44 CZ rfl rfl rfl (by simp[Value.cells,B8]) (by decide) (by decide) (fun g57=>⟨(fun _=>wk [1,1,1,1] [0] rfl rfl), ?_⟩))
  have hA_b57:0<1→(some (⟨g57,0,none⟩:Addr))≠none:=fun _ h=>by cases h
  refine jz (fun w m=>m.bM 0 rfl (show _=aH 3 1 (.slice (some ⟨g57,0,none⟩) 1 1) 1 (ze [p])from rfl)) ?_
  refine ee (yW (enc:=(KN (n:=4))) (k:=⟨ez l p,bL (by omega)⟩) 3 rfl rfl rfl Tryz.underlying357 Bu (wP Tryz.underlying364 Tryz.underlying5 (by kernel_rfl) (by kernel_rfl) (by kernel_rfl)) (fun st58=>⟨(fun h=>absurd h (by decide)), ?_⟩))
  rw[kV]
  rcases hq:cn es ⟨ez l p,bL (by omega)⟩with _|x
  ·have e0:=pQ hF hq
   refine jz (fun w m=>m.dx (r' :=aH 3 1 (.slice none 0 0) 0 []) (.refl _ _) (Own.nil _ _ _ _) (fun k hk=>hk.elim)) ?_
   refine an (aq rfl rfl)<|an (aq rfl rfl)<| ?_
   refine ee (bB 0 rfl rfl rfl Tryz.underlying44 Tryz.underlying44 (by exact .inl rfl) CZ rfl (fun m=>Src.bT (m.ord 2 rfl)) (uZ (l:=[p])) (by unfold maxLen;omega) (by omega) (fun u=>⟨(fun h=>absurd h (by decide)), ?_⟩))
   refine cf (fun m=>(m.own 0 rfl).slice) ?_
   rintro⟨A_x,c_x,rfl,hc_x⟩
   refine cf (fun m=>(m.ord 0 rfl).2.1) fun hA_x=> ?_
   refine j5 (qt (enc:=(KN (n:=4))) 1 rfl rfl rfl rfl ⟨(fun h=>absurd h (by decide)), ?_⟩)
   refine bq<|al (ρ' :=[(4,_),(23,_),(0,_),(1,_)]) ⟨rfl,rfl,rfl,rfl,trivial⟩<|ak (X' :=[_,_,_,_,_,_]) (S' :=[_]) (fun _ m=>m)<|aQ<|ag<|aj<|hy (fun _=>aa rfl)<|hy (fun _=>aW rfl)<|hy (fun _=>aD rfl hZ (by decide))<|hy (fun m=>ar rfl eY (ax (m.aT 4 rfl) rfl))<|hy (fun _=>aJ rfl rfl (bA (by omega) (by omega)))<|hy (fun _=>aW rfl)<|hy (fun _=>aD rfl hZ (by decide))<| ?_
   refine cI (bR 4 rfl rfl rfl tf rfl (by first|exact Nat.le_of_ble_eq_true rfl|simp) ?_)
   refine ai<|al (ρ' :=[(4,_),(23,_),(0,_),(1,_)]) ⟨rfl,rfl,rfl,rfl,trivial⟩<|ak (X' :=[_,_,_,_,_,_]) (S' :=[_]) (fun _ m=>m)<| ?_
   refine ak (fun w m=>m.bM 0 rfl (show _=aG g 359 [.slice (some a) n c,.map (some gm),.int .i64 ((p+1:Nat):Int)]from rfl)) ?_
   refine ak (fun w m=>m.bM 1 rfl (show _=dw (KN (n:=4)) gm (jm (cN es ⟨ez l p,bL (by omega)⟩ ⟨A_x,c_x,[p]⟩))from congrArg (dw _ _) (pM.trans (mJ _ ⟨A_x,c_x,[p]⟩ es)))) ?_
   refine ak (X' :=eK (fS (cN es ⟨ez l p,bL (by omega)⟩ ⟨A_x,c_x,[p]⟩))::_) (fun w m=>(Mem.mr (m.perm (av [2,4] _ [_,_] _ rfl))).jA (by rw[oy _ hq];exact(List.perm_append_singleton _ _).symm)) ?_
   refine tH (p+1) (cN es ⟨ez l p,bL (by omega)⟩ ⟨A_x,c_x,[p]⟩) ⟨rfl,rfl,trivial⟩ [2,1,0] rfl [0] rfl (⟨by omega,by have:=uK (A:=A_x) (c:=c_x) hF (by omega);rw[e0]at this;exact this⟩) (by omega)
  ·obtain⟨j,hj1,hj2⟩:=kH hq
   have e0:=sL hF hq
   have hxl:x.l.length≤n:=by rw[e0];exact Nat.le_trans (nA _ _ _) (by omega)
   refine jz (X' :=aH 3 1 (.slice x.A x.l.length x.c) x.l.length (ze x.l)::_) (fun w m=>(m.perm (av [4] _ [_] _ rfl)).rY j hj1) ?_
   refine an (aq rfl rfl)<|an (aq rfl rfl)<| ?_
   refine ee (bB 0 rfl rfl rfl Tryz.underlying44 Tryz.underlying44 (by exact .inl rfl) CZ rfl (fun m=>Src.bT (m.ord 3 rfl)) (uZ (l:=[p])) (by unfold maxLen;omega) (by omega) (fun u=>⟨(fun h=>absurd h (by decide)), ?_⟩))
   refine cf (fun m=>(m.own 0 rfl).slice) ?_
   rintro⟨A_y,c_y,rfl,hc_y⟩
   refine cf (fun m=>(m.ord 0 rfl).2.1) fun hA_y=> ?_
   refine j5 (qt (enc:=(KN (n:=4))) 2 rfl rfl rfl rfl ⟨(fun h=>absurd h (by decide)), ?_⟩)
   refine bq<|al (ρ' :=[(4,_),(23,_),(0,_),(1,_)]) ⟨rfl,rfl,rfl,rfl,trivial⟩<|ak (X' :=[_,_,_,_,_,_]) (S' :=[_]) (fun _ m=>m)<|aQ<|ag<|aj<|hy (fun _=>aa rfl)<|hy (fun _=>aW rfl)<|hy (fun _=>aD rfl hZ (by decide))<|hy (fun m=>ar rfl eY (ax (m.aT 5 rfl) rfl))<|hy (fun _=>aJ rfl rfl (bA (by omega) (by omega)))<|hy (fun _=>aW rfl)<|hy (fun _=>aD rfl hZ (by decide))<| ?_
   refine cI (bR 5 rfl rfl rfl tf rfl (by first|exact Nat.le_of_ble_eq_true rfl|simp) ?_)
   refine ai<|al (ρ' :=[(4,_),(23,_),(0,_),(1,_)]) ⟨rfl,rfl,rfl,rfl,trivial⟩<|ak (X' :=[_,_,_,_,_,_]) (S' :=[_]) (fun _ m=>m)<| ?_
   refine ak (fun w m=>m.bM 0 rfl (show _=aG g 359 [.slice (some a) n c,.map (some gm),.int .i64 ((p+1:Nat):Int)]from rfl)) ?_
   have h1e:cN (jm es) ⟨ez l p,bL (by omega)⟩ (.slice A_y (x.l.length+1) c_y)=jm (cN es ⟨ez l p,bL (by omega)⟩ ⟨A_y,c_y,x.l++[p]⟩):=by rw[←mJ];simp[kr.val]
   refine ak (fun w m=>m.bM 1 rfl (show _=dw (KN (n:=4)) gm (jm (cN es ⟨ez l p,bL (by omega)⟩ ⟨A_y,c_y,x.l++[p]⟩))from congrArg (dw _ _) (pM.trans h1e))) ?_
   have h2e:aH 3 1 (.slice A_y (x.l.length+1) c_y) (x.l.length+1) (ze x.l++ze [p])=(⟨A_y,c_y,x.l++[p]⟩:kr).res:=by simp[kr.res,ze]
   refine ak (fun w m=>m.bM 2 rfl (show _=(⟨A_y,c_y,x.l++[p]⟩:kr).res from h2e)) ?_
   have hjl:=(List.getElem?_eq_some_iff.1 hj1).1
   refine ak (X' :=eK (fS (cN es ⟨ez l p,bL (by omega)⟩ ⟨A_y,c_y,x.l++[p]⟩))::_) (fun w m=>(Mem.mr (m.perm (av [0,2] _ [_,_] _ rfl))).jA (by rw[hj2];exact(set_perm _ _ _ hjl).symm)) ?_
   refine tH (p+1) (cN es ⟨ez l p,bL (by omega)⟩ ⟨A_y,c_y,x.l++[p]⟩) ⟨rfl,rfl,trivial⟩ [2,1,0] rfl [0] rfl (⟨by omega,by have:=uK (A:=A_y) (c:=c_y) hF (by omega);rw[←e0]at this;exact this⟩) (by omega)
 ·obtain rfl:p=i:=by omega
  refine aP rfl rfl rfl (by decide)<|aP rfl rfl rfl (by decide)<|aP rfl rfl rfl (by decide)<|aP rfl rfl rfl (by decide)<|aP rfl rfl rfl (by decide)<|aP rfl rfl rfl (by decide)<|aP rfl rfl rfl (by decide)<|aP rfl rfl rfl (by decide)<|aP rfl rfl rfl (by decide)<|aP rfl rfl rfl (by decide)<|aP rfl rfl rfl (by decide)<|an (bp rfl rfl)<|bq<|al (ρ' :=[(23,_),(0,_),(1,_)]) ⟨rfl,rfl,rfl,trivial⟩<|ag<| ?_
  refine di rfl (rfl) ?_
  refine bP<|au<|au<|aC<| ?_
  refine ak (X' :=mU g gm A n c p es::_) (fun w m=>(m.perm (av [0,0,0] _ [_,_,_] _ rfl)).pack) ?_
  exact fv trivial rfl [0] rfl [] rfl ⟨es,rfl,rfl,rfl,hF⟩
end Go.Proofs.YtmibdabdlgmafaaGreatDoor
end
section
namespace Go.Eng
open Go.RowKit
def qi:Op→Bool
 | .defer _=>true
 |_=>false
abbrev mX(l:Nat):Fence:=Fence.wide.inRound l
section
variable{P:Program}{Q:Exit→Act→World→Prop}{a:Act}{w:World}{l n:Nat}
theorem Df{o:Oper}{next next' :Act→World→Prop}(h:o.wp P a w next Q)(hd:qi o.op=false)(hn:∀a w,next a w→next' a w):o.wpIn (mX l) n P a w next' Q:=by
 refine⟨fun _ _=>trivial, ?_⟩
 have e:o.semAt (mX l).round a.eval=execOp a.eval o:=Oper.semAt_eq _ _ _ (fun c hc=>by rw[hc]at hd;cases hd)
 rw[e]
 unfold Oper.wp at h
 generalize(execOp a.eval o).run P w=r at h
 match r,h with
 | .ok (.value v) w',h=>exact hn _ _ h
 | .ok .skip w',h=>exact hn _ _ h
 | .ok (.defer d) w',h=>exact hn _ _ h
 | .ok (.enter f args) w',h=>
  refine⟨fun h=>by simp[Fence.wide]at h,CallsIn.inRound l (callsIn_wide.2 (Calls.mono h ?_))⟩
  intro e w'' q
  cases e with
  |returned v=>exact hn _ _ q
  |panicked c=>exact q
  |outgrown=>exact q
 | .ok (.row row args) w',h=>exact⟨fun h=>by simp[Fence.wide]at h,fun c cs _=>let⟨v,w'',r,s⟩:=h c cs;⟨v,w'',hn _ _ r,stepsIn_wide.2 s⟩⟩
 | .halt (.panic v) w',h=>exact h
theorem mL{ops:Array Oper}(hQ:¬LetsOut Q)(hd:ops.toList.all (fun o=> !qi o.op)=true):∀(il:List Nat) (a:Act) (w:World),wpOps P ops Q il a w→wpOpsIn (mX l) n P ops Q il a w
 | [],a,w,h=>h
 |i::rest,a,w,h=>by
  unfold wpOps at h
  unfold wpOpsIn
  cases ho:ops[i]? with
  |none=>simp only[ho]at h ⊢;exact mL hQ hd rest a w h
  |some o=>
   simp only[ho]at h ⊢
   have hod:qi o.op=false:=by
    have h1:=List.all_eq_true.1 hd o (by obtain⟨hi,he⟩:=Array.getElem?_eq_some_iff.1 ho;rw[←he];exact Array.getElem_mem_toList ..)
    simpa using h1
   split
   ·rename_i hw
    rw[if_pos hw]at h
    rcases h with h|⟨_,h⟩
    ·exact Df h hod (fun a w h=>mL hQ hd rest a w h)
    ·exact absurd h hQ
   ·rename_i hw
    rw[if_neg hw]at h
    exact⟨fun _ _=>trivial,mL hQ hd rest _ w h⟩
end
def tL(l n:Nat)(P:Program)(Q:Exit→Act→World→Prop)(N:Nat)(D:List Deferred)(c:Code)(ρ:Env)(b:cG)(X S:List bh):Prop:=
 ¬LetsOut Q→∀w,Mem b X S w→∀a,Ag N D ρ a→c.wpIn (mX l) n P Q a w
section
variable{P:Program}{Q:Exit→Act→World→Prop}{N:Nat}{D:List Deferred}{ρ ρ' :Env}{b:cG}{X X' X1 Xr S S' S1:List bh}{c c' :Code}{l n:Nat}{ops:Array Oper}
theorem rr{K:Act→World→Prop}:LetsOut (Exit.then K Q)→LetsOut Q:=fun⟨a,w,h⟩=>⟨a,w,h⟩
theorem pJ{id:Nat}:LetsOut (Exit.inBlock id Q)→LetsOut Q:=fun⟨a,w,h⟩=>⟨a,w,h⟩
theorem lv:LetsOut (eN Q)→LetsOut Q:=fun⟨a,w,h⟩=>⟨a,w,by first|exact h|exact h.elim⟩
theorem m8(h:tL l n P (Exit.then (fun a w=>¬LetsOut Q→c'.wpIn (mX l) n P Q a w) Q) N D c ρ b X S):tL l n P Q N D (.seq c c') ρ b X S:=fun hQ w m a ha=>
 wpIn_seq (wpIn_mono (h (fun k=>hQ (rr k)) w m a ha) (fun e a w q=>by cases e <;> first|exact q hQ|exact q))
theorem qv{id:Nat}{il:List Oper}(h:HL P il.toArray Q N D il ρ b X S)(hd:il.all (fun o=> !qi o.op)=true:=by rfl):tL l n P Q N D (.region id il.toArray false) ρ b X S:=fun hQ w m a ha=>by
 refine wpIn_region (mL hQ (by simpa using hd) _ _ _ ?_)
 have h1:=h w m a ha
 rw[List.range_eq_range',←Array.length_toList,wpOps_eq_wpList il.toArray.toList 0 (by simp)]
 simpa using h1
theorem nV(h:HQ Q N D .normal ρ b X S):tL l n P Q N D .skip ρ b X S:=fun hQ w m a ha=>wpIn_skip (h w m a ha)
theorem wD{id:Nat}(h:HQ Q N D (.exit id) ρ b X S):tL l n P Q N D (.exit id) ρ b X S:=fun hQ w m a ha=>wpIn_exit (h w m a ha)
theorem uO{id:Nat}(h:tL l n P (Exit.inBlock id Q) N D c ρ b X S):tL l n P Q N D (.block id c) ρ b X S:=fun hQ w m a ha=>wpIn_block (h (fun k=>hQ (pJ k)) w m a ha)
theorem zY{p:Prop}[Decidable p]{x:Operand}(hc:ev ρ x=some (.bool (decide p)))(ht:p→tL l n P Q N D c ρ b X S)(he:¬p→tL l n P Q N D c' ρ b X S):tL l n P Q N D (.cond x c c') ρ b X S:=
 fun hQ w m a ha=>wpIn_cond_split (ha.eval hc) (fun h=>ht (of_decide_eq_true h) hQ w m a ha) (fun h=>he (of_decide_eq_false h) hQ w m a ha)
theorem kh(h:tL l n P Q N D c ρ b X S):HQ (Exit.then (fun a w=>¬LetsOut Q→c.wpIn (mX l) n P Q a w) Q) N D .normal ρ b X S:=fun w m a ha hQ=>h hQ w m a ha
theorem AU{id:Nat}{il:List (Option Nat×Oper)}(Xs:List Nat)(L:List (Nat×Option Nat))(hm:P.follows .mixedOrders=true)(hk:(Region.noSelect ops && eD ops Xs L (Array.replicate ops.size false) && decide (L.length≤ops.size))=true)
  (hp:iG ops L=some il) (cc:Nat) (h:HT P ops (eN Q) (TT b X S cc) N D 0 il ρ b X S) (hd:ops.toList.all (fun o=> !qi o.op)=true:=by rfl):tL l n P Q N D (.region id ops true) ρ b X S:=fun hQ w m a ha=>by
 simp only[Bool.and_eq_true,decide_eq_true_eq]at hk
 refine wpIn_mono (Q:=eN Q) ?_ (fun e a w q=>by cases e <;> first|exact q|exact q.elim)
 refine wpIn_region_draw fun t=>mL (fun k=>hQ (lv k)) hd _ _ _ ?_
 simp only[Region.schedule,hm,Bool.true_or,if_true]
 refine wpAny_sound ops.size t _ a _ ?_
 refine eP _ _ _ _ (gh (X:=Xs) hk.1.1 (fun c a d v w q=>q.elim) L il _ a _ _ 0 hp hk.1.2 hk.2 ?_ ?_ (T:=TT b X S cc) (fun _=>m.lift (Fr.drew w)) (h _ (m.lift (Fr.drew w)) a ha))
 ·intro j hj
  simp[Array.getElem?_replicate]at hj
  split at hj <;> cases hj
 ·unfold jg
  rw[List.countP_eq_zero]
  intro x _
  simp[Array.getElem?_replicate]
  split <;> rfl
theorem yI{id:Nat}{il:List (Option Nat×Oper)}(is js:List Nat)(hX:bX is X=some (X1,Xr))(hS:dN js S=some S1)(Xs:List Nat)(L:List (Nat×Option Nat))(hm:P.follows .mixedOrders=true)(hk:(Region.noSelect ops && eD ops Xs L (Array.replicate ops.size false) && decide (L.length≤ops.size))=true)
  (hp:iG ops L=some il) (cc:Nat) (h:HT P ops (eN Q) (TT b X1 S1 cc) N D 0 il ρ b X S) (hd:ops.toList.all (fun o=> !qi o.op)=true:=by rfl):tL l n P Q N D (.region id ops true) ρ b X S:=fun hQ w m a ha=>by
 simp only[Bool.and_eq_true,decide_eq_true_eq]at hk
 refine wpIn_mono (Q:=eN Q) ?_ (fun e a w q=>by cases e <;> first|exact q|exact q.elim)
 refine wpIn_region_draw fun t=>mL (fun k=>hQ (lv k)) hd _ _ _ ?_
 simp only[Region.schedule,hm,Bool.true_or,if_true]
 refine wpAny_sound ops.size t _ a _ ?_
 refine eP _ _ _ _ (gh (X:=Xs) hk.1.1 (fun c a d v w q=>q.elim) L il _ a _ _ 0 hp hk.1.2 hk.2 ?_ ?_ (T:=TT b X1 S1 cc) (fun _=>(wk is js hX hS).mem (m.lift (Fr.drew w))) (h _ (m.lift (Fr.drew w)) a ha))
 ·intro j hj
  simp[Array.getElem?_replicate]at hj
  split at hj <;> cases hj
 ·unfold jg
  rw[List.countP_eq_zero]
  intro x _
  simp[Array.getElem?_replicate]
  split <;> rfl
end
end Go.Eng
end
section
namespace Go.Eng
open Go.RowKit
def vN(D:Nat):bh where
 dp k:=k=D
 holds w:=w.heap[D]? =some (.deferred (some []))
 keep:=fun{S w w'} f h e=>by
  have hlt:=(Array.getElem?_eq_some_iff.1 e).1
  exact(f.block D hlt (h D rfl)).trans e
 low:=fun{w k} e hk=>by
  have hk' :k=D:=hk
  rw[hk'];exact(Array.getElem?_eq_some_iff.1 e).1
theorem Mem.grown{b:cG}{X S:List bh}{w w' :World}{R:Nat→Prop}(m:Mem b X S w)(f:Fr R w w')(h1:∀k,R k→b.w.heap.size≤k)(h2:∀k,R k→∀x∈X,¬x.dp k)(h3:∀k,R k→∀s∈S,¬s.dp k):Mem b X S w' :=
 ⟨m.fr.trans f (fun _ e=>e) (fun i hi e=>absurd (h1 i e) (by omega)),m.xx,m.xs,fun x hx=>x.keep f (fun k hk hr=>h2 k hr x hx hk) (m.hx x hx),fun s hs=>s.keep f (fun k hk hr=>h3 k hr s hs hk) (m.hs s hs),m.nx,m.ns⟩
theorem sS{w w' :World}{row:Option Nat}(h:w.grownBy w' row):Fr (fun k=>row=some k) w w' :=⟨h.os,h.tape,h.output,h.size,fun k hk hn=>h.block k hk (fun e=>hn e.symm)⟩
def C2(B:Nat)(M:Nat→Prop)(W W' :World):Prop:=∀k,k<B→¬M k→W'.heap[k]? =W.heap[k]?
def zn(ps:Array Tmp)(vs:List Value):Env:=(ps.toList.zip vs)
theorem Mem.yf{b:cG}{X S:List bh}{w:World}{D B:Nat}(m:Mem b X S w)(hb:b.w.heap.size≤B)(hD:B≤D)(hx:∀x∈X,∀k,x.dp k→k<B)(hs:∀s∈S,∀k,s.dp k→k<B)(h:w.heap[D]? =some (.deferred (some []))):Mem b (vN D::X) S w:=by
 refine⟨m.fr,List.pairwise_cons.2 ⟨fun y hy k hk hy' => ?_,m.xx⟩,fun x hx' s hs' k hk hk' => ?_,fun x hx' => ?_,m.hs,fun x hx' k hk=> ?_,m.ns⟩
 ·have hk' :k=D:=hk
  have:=hx y hy k hy'
  omega
 ·rcases List.mem_cons.1 hx' with rfl|hx'
  ·have h1:k=D:=hk
   have:=hs s hs' k hk'
   omega
  ·exact m.xs x hx' s hs' k hk hk'
 ·rcases List.mem_cons.1 hx' with rfl|hx'
  ·exact h
  ·exact m.hx x hx'
 ·rcases List.mem_cons.1 hx' with rfl|hx'
  ·have h1:k=D:=hk
   exact .inr (by omega)
  ·exact m.nx x hx' k hk
theorem Mem.off{b:cG}{X S X1 Xr:List bh}{w:World}{is:List Nat}(m:Mem b X S w)(hX:bX is X=some (X1,Xr))(j:Nat){r:bh}(hj:Xr[j]? =some r){k:Nat}(hk:r.dp k):¬dD X1 k:=by
 have m1:=m.perm (av _ _ _ _ hX)
 rintro⟨x,hx,hxk⟩
 exact(List.pairwise_append.1 m1.xx).2.2 x hx r (List.mem_of_getElem? hj) k hxk hk
def RQ{α σ:Type}(b:cG)(X1:σ→List bh)(Sb:List bh)(id:Nat)(step:σ→α→σ)(brk:σ→α→Prop)(s:σ)(x:α):Exit→Act→World→Prop
 | .normal,_,w=>Mem b (X1 (step s x)) Sb w
 | .exit i,_,w=>i=id∧Mem b (X1 s) Sb w∧brk s x
 |_,_,_=>False
theorem kX{α σ:Type}{b:cG}{X1:σ→List bh}{Sb:List bh}{id:Nat}{step:σ→α→σ}{brk:σ→α→Prop}{s:σ}{x:α}{N:Nat}{D:List Deferred}{ρ:Env}{X S Xz:List bh}(s' :σ)(he:step s x=s')(is:List Nat)(hX:bX is X=some (X1 s',Xz))(js:List Nat)(hS:dN js S=some Sb):
  HQ (RQ b X1 Sb id step brk s x) N D .normal ρ b X S:=fun w m a ha=>by
 show Mem b (X1 (step s x)) Sb w
 rw[he]
 exact m.out is hX js hS
theorem pZ{α σ:Type}{b:cG}{X1:σ→List bh}{Sb:List bh}{id:Nat}{step:σ→α→σ}{brk:σ→α→Prop}{s:σ}{x:α}{N:Nat}{D:List Deferred}{ρ:Env}{X S Xz:List bh}(is:List Nat)(hX:bX is X=some (X1 s,Xz))(js:List Nat)(hS:dN js S=some Sb)(hb:brk s x):
  HQ (RQ b X1 Sb id step brk s x) N D (.exit id) ρ b X S:=fun w m a ha=>⟨rfl,m.out is hX js hS,hb⟩
section
variable{P:Program}{Q:Exit→Act→World→Prop}{N:Nat}{D:List Deferred}{ρ ρ' :Env}{b:cG}{X X' Xr S S' Sb:List bh}
theorem xj{α σ:Type}{g gf id:Nat}{ps:Array Tmp}{assign body:Code}{lb:List Value}(X1:σ→List bh)(s0:σ)(step:σ→α→σ)(brk:σ→α→Prop)(encs:α→List Value)(xs:List α)(ρx:α→Env)(ρk:Env)(hk:e8 ρk ρ)
  (hv:get ρ g=some (.func (.func gf) #[] lb.toArray)) (heg:∀args w,(callFunc gf args).run P w= .ok (.enter gf args) w)
  (is:List Nat) (hX:bX is X=some (X1 s0,Xr)) (hft:∀s k,dD (X1 s) k↔dD (X1 s0) k) (js:List Nat) (hS:dN js S=some Sb)
  (ah:∀w,Mem b X S w→SeqStopsK Fence.wide 2 P gf lb.toArray (fun x=>(encs x).toArray) (C2 w.heap.size (dD (X1 s0))) (fun ys=>ys=xs) (fun pre=>pre<+:xs) xs.length w)
  (hps:∀x,(encs x).length=ps.size) (hpn:∀p∈ps.toList,p<N) (hnd:∀x (a:Act),Ag N D ρ a→Ag N [] (ρ' ++zn ps (encs x)++ρ) {tmps:=(ps.zip (encs x).toArray).foldl (fun t (p,v)=>t.setIfInBounds p v) a.tmps,defers:=[]})
  (hasg:∀(l:Nat) (b' :cG) (s:σ) (x:α) (Q' :Exit→Act→World→Prop),HQ Q' N [] .normal (ρx x++ρk) b' (X1 s) Sb→tL l 1 P Q' N [] assign (ρ' ++zn ps (encs x)++ρ) b' (X1 s) Sb)
  (hbody:∀(l:Nat) (b' :cG) (s:σ) (x:α),tL l 1 P (RQ b' X1 Sb id step brk s x) N [] body (ρx x++ρk) b' (X1 s) Sb)
  (k:∀(Dk:Nat) (s:σ),(s=xs.foldl step s0∨∃pre x rest,xs=pre++x::rest∧s=pre.foldl step s0∧brk s x)→HQ Q N (⟨.collected Dk, #[]⟩::D) .normal ρ b (vN Dk::(X1 s++Xr)) S):
  HC P Q N D (.block id (.rangeFunc (.tmp g) ps assign body)) ρ b X S:=by
 intro w m a ha
 have m1:=m.perm (av _ _ _ _ hX)
 have hSb:=cy _ _ _ hS
 obtain⟨M,hM⟩:∃M,M=dD (X1 s0):=⟨_,rfl⟩
 have hbz:b.w.heap.size≤w.heap.size:=m.fr.size
 have lowM:∀k,M k→k<w.heap.size:=by
  rw[hM]
  rintro k ⟨x,hx,hk⟩
  exact x.low (m1.hx x (List.mem_append_left _ hx)) hk
 have lowX:∀s x,x∈X1 s++Xr→∀k,x.dp k→k<w.heap.size:=by
  intro s x hx k hk
  rcases List.mem_append.1 hx with hx|hx
  ·exact lowM k (by rw[hM];exact(hft s k).1 ⟨x,hx,hk⟩)
  ·exact x.low (m1.hx x (List.mem_append_right _ hx)) hk
 have lowS:∀s∈S,∀k,s.dp k→k<w.heap.size:=fun s hs k hk=>s.low (m.hs s hs) hk
 refine wpIn_wide (n:=3).1 (wpIn_block ?_)
 have hown:∀{s:σ} {W W' :World} {row:Option Nat},Mem b (X1 s++Xr) S W→W.grownBy W' row→(∀r,row=some r→w.heap.size≤r∧∃o:Obj,W.heap[r]? =some o∧o.isCells=false)→Mem b (X1 s++Xr) S W' :=by
  intro s W W' row mW hg hr
  refine mW.grown (sS hg) (fun k e=>Nat.le_trans hbz (hr k e).1) (fun k e x hx hk=> ?_) (fun k e x hx hk=> ?_)
  ·have h1:=lowX s x hx k hk
   have h2:=(hr k e).1
   omega
  ·have h1:=lowS x hx k hk
   have h2:=(hr k e).1
   omega
 have hround:∀{s:σ} {W W' :World} {Y:List bh},Mem b (X1 s++Xr) S W→w.heap.size≤W.heap.size→Mem ⟨W,dD (X1 s),dD Sb⟩ Y Sb W' →KeepsFrom w.heap.size W W' ∧C2 w.heap.size M W W' ∧Mem b (Y++Xr) S W' :=by
  intro s W W' Y mW hsz mY
  have e:∀k,dD (X1 s) k↔M k:=fun k=>by rw[hM];exact hft s k
  refine⟨⟨mY.fr.size,fun k o hk ho _=> ?_⟩,fun k hk hn=> ?_,(mW.frame hSb mY).lC (fun x hx=>List.mem_append_right _ hx)⟩
  ·have hlt:=(Array.getElem?_eq_some_iff.1 ho).1
   exact(mY.fr.block k hlt (fun q=>by have:=lowM k ((e k).1 q);omega)).trans ho
  ·exact mY.fr.block k (by show k<W.heap.size;omega) (fun q=>hn ((e k).1 q))
 refine wpIn_rangeFunc_ownH (n:=3) (α:=α) (gf:=gf) (lb:=lb.toArray) rfl (by decide) (ha.eval hv) trivial heg (ah w m)
  (fun{A B C} h1 h2 k hk hn=>(h2 k hk hn).trans (h1 k hk hn)) (fun W l o o' hl ho _ _ k hk hn=>World.putObj_heap_other (by omega)) (Below.refl _ w) (fun x=>by simpa using hps x)
  (fun pre W=>w.heap.size≤W.heap.size∧Mem b (X1 (pre.foldl step s0)++Xr) S W) (fun c pre W=>c= .exit id∧∃pre' x,pre=pre' ++[x]∧Mem b (X1 (pre'.foldl step s0)++Xr) S W∧brk (pre'.foldl step s0) x)
  (fun pre W W' row h hg hr=>⟨Nat.le_trans h.1 hg.size,hown h.2 hg hr⟩)
  (fun c pre W W' row h hg hr=>by
   obtain⟨hc,pre',x,e,h1,h2⟩:=h
   exact⟨hc,pre',x,e,hown h1 hg hr,h2⟩)
  ⟨Nat.le_refl _,m1⟩ (fun x a' _=>Ag N [] (ρx x++ρk) a') (fun x a' =>ownFrom_pure _ (fun _=>Ag N [] (ρx x++ρk) a')) ?_ ?_ ?_ ?_
 ·rintro l pre x W K ⟨hsz,mW⟩ hK
  refine hasg l ⟨W,dD (X1 (pre.foldl step s0)),dD Sb⟩ (pre.foldl step s0) x _ (fun W' m' a' ha' => ?_) (fun⟨_,_,h⟩=>h) W (mW.part hSb) _ (hnd x a ha)
  obtain⟨h1,h2,h3⟩:=hround mW hsz m'
  exact hK a' W' h1 (by rw[←hM];exact h2) ⟨Nat.le_trans hsz h1.size,h3⟩ ha'
 ·rintro l pre x a' W _ _ ⟨hsz,mW⟩ hax _
  refine wpIn_mono (hbody l ⟨W,dD (X1 (pre.foldl step s0)),dD Sb⟩ (pre.foldl step s0) x (fun⟨_,_,h⟩=>h) W (mW.part hSb) a' hax) ?_
  intro e a2 W2 q
  cases e with
  |normal=>
   have q' :Mem _ (X1 (step (pre.foldl step s0) x)) Sb W2:=q
   obtain⟨h1,h2,h3⟩:=hround mW hsz q'
   refine⟨h1,by rw[←hM];exact h2,Nat.le_trans hsz h1.size, ?_⟩
   rw[List.foldl_append]
   exact h3
  |exit i=>
   obtain⟨rfl,q1,q2⟩:=q
   obtain⟨h1,h2,h3⟩:=hround mW hsz q1
   exact⟨h1,rfl,pre,x,rfl,h3,q2⟩
  |ret=>exact q.elim
  |goto t=>exact q.elim
  |panic c=>exact q.elim
  |outgrown=>exact q.elim
 ·rintro Dk ys W hD rfl ⟨hsz,mW⟩ hdef
  exact k Dk _ (.inl rfl) W (mW.yf hbz hD (lowX _) lowS hdef) _ ⟨ha.sz,by rw[ha.df],ha.gt⟩
 ·rintro Dk c pre W hD hpre ⟨rfl,pre',x,rfl,mW,hb⟩ hdef
  obtain⟨rest,hr⟩:=hpre
  refine wpIn_exit ?_
  have hq:=k Dk _ (.inr ⟨pre',x,rest,by rw[←hr];simp,rfl,hb⟩) W (mW.yf hbz hD (lowX _) lowS hdef) {a with defers:=⟨.collected Dk, #[]⟩::a.defers} ⟨ha.sz,by show _::a.defers=_;rw[ha.df],ha.gt⟩
  show(Exit.inBlock id Q) (.exit id) _ W
  simp only[Exit.inBlock,if_pos]
  exact hq
end
theorem xg{N p q:Nat}{D:List Deferred}{ρ:Env}{a:Act}{u v:Value}(hpq:(p == q)=false)(hp:p<N)(hq:q<N)(ha:Ag N D ρ a):
  Ag N [] ([]++zn #[p,q] [u,v]++ρ) {tmps:=((#[p,q]:Array Tmp).zip [u,v].toArray).foldl (fun t (p,v)=>t.setIfInBounds p v) a.tmps,defers:=[]}:=by
 have hne:p≠q:=by simpa using hpq
 have e:(((#[p,q]:Array Tmp).zip [u,v].toArray).foldl (fun t (p,v)=>t.setIfInBounds p v) a.tmps)=(a.tmps.setIfInBounds p u).setIfInBounds q v:=by simp
 rw[e]
 have hsz:=ha.sz
 refine⟨by simpa using hsz,rfl,fun t z ht=> ?_⟩
 simp only[zn,List.nil_append,List.zip_cons_cons,List.zip_nil_right,List.cons_append,get]at ht
 show((a.tmps.setIfInBounds p u).setIfInBounds q v)[t]? =some z
 cases h1:Nat.beq p t with
 |true=>
  rw[h1]at ht
  have h1' :p=t:=Nat.eq_of_beq_eq_true h1
  simp only[cond_true,Option.some.injEq]at ht
  subst h1';subst ht
  rw[Array.getElem?_setIfInBounds_ne (Ne.symm hne),Array.getElem?_setIfInBounds_self_of_lt (by omega)]
 |false=>
  rw[h1]at ht
  simp only[cond_false]at ht
  have h1' :p≠t:=Nat.ne_of_beq_eq_false h1
  cases h2:Nat.beq q t with
  |true=>
   rw[h2]at ht
   have h2' :q=t:=Nat.eq_of_beq_eq_true h2
   simp only[cond_true,Option.some.injEq]at ht
   subst h2';subst ht
   rw[Array.getElem?_setIfInBounds_self_of_lt (by simp;omega)]
  |false=>
   rw[h2]at ht
   have h2' :q≠t:=Nat.ne_of_beq_eq_false h2
   rw[Array.getElem?_setIfInBounds_ne h2',Array.getElem?_setIfInBounds_ne h1']
   exact ha.gt t z (by simpa using ht)
theorem zd{P:Program}{f:Nat}{fn:Func}{c:Code}{vs:List Value}{R:Value→List bh→List bh→Prop}{N:Nat}{X0 S0:List bh}(hf:P.funcs[f]? =some fn)(hb:fn.body=some c)(hN:fn.ntmps=N)(hl:vs.length≤N)
  (h:∀b,HC P (bodyPostM Fence.wide 3 P fn (RB b R)) N [] c (gv vs 0) b X0 S0):cj P f vs X0 S0 R:=fun w m=>by
 refine callsIn_wide (n:=3).1 (callsIn_of_wp_marks hf hb trivial (wpIn_wide.2 (h _ w m _ ⟨?_,rfl,fun t v ht=> ?_⟩)))
 ·simp[hN];omega
 ·obtain⟨_,h2⟩:=gF vs 0 t v ht
  have hlt:=(List.getElem?_eq_some_iff.1 h2).1
  rw[Array.getElem?_append_left (by simpa using hlt)]
  simpa using h2
section
variable{P:Program}{fn:Func}{R:Value→List bh→List bh→Prop}{N n:Nat}{D:List Deferred}{ρ:Env}{b:cG}{X X' Xz S S' :List bh}{e:Exit}
theorem Dc{Dk:Nat}(he:Leaves e)(is:List Nat)(hX:bX is X=some ([vN Dk],X'))(k:HQ (bodyPostM Fence.wide n P fn (RB b R)) N D e ρ b X' S):HQ (bodyPostM Fence.wide n P fn (RB b R)) N (⟨.collected Dk, #[]⟩::D) e ρ b X S:=by
 intro w m a ha
 have m1:=m.perm (av _ _ _ _ hX)
 have hc:w.heap[Dk]? =some (.deferred (some [])):=m1.hx (vN Dk) (by simp)
 have hx1:=(List.pairwise_cons.1 m1.xx).1
 have hr:=run_takeDeferred (P:=P) hc
 have hf:Fr (fun k=>k=Dk) w (w.putObj Dk (.deferred none)):=⟨rfl,rfl,rfl,by simp,fun k _ hk=>World.putObj_heap_other hk⟩
 have hbz:b.w.heap.size≤Dk∨b.M Dk:=(m1.nx (vN Dk) (by simp) Dk rfl).symm
 have m2:Mem b X' S (w.putObj Dk (.deferred none)):=by
  refine⟨m1.fr.trans hf (fun _ e=>e) (fun i hi e=> ?_),(List.pairwise_cons.1 m1.xx).2,fun x hx=>m1.xs x (List.mem_cons_of_mem _ hx),fun x hx=>x.keep hf (fun k hk e=> ?_) (m1.hx x (List.mem_cons_of_mem _ hx)),fun s hs=>s.keep hf (fun k hk e=> ?_) (m1.hs s hs),fun x hx=>m1.nx x (List.mem_cons_of_mem _ hx),m1.ns⟩
  ·subst e
   rcases hbz with h|h
   ·omega
   ·exact h
  ·exact hx1 x hx k e hk
  ·exact m1.xs (vN Dk) (by simp) s hs k e hk
 have hk:=k _ m2 {a with defers:=D} ⟨ha.sz,rfl,ha.gt⟩
 cases e with
 |normal=>
  show LeavesInM Fence.wide n P fn a.tmps _ a.defers .returning w
  rw[ha.df]
  exact⟨by simp,.inl ⟨Dk,_,rfl,hr,hk⟩⟩
 |ret=>
  show LeavesInM Fence.wide n P fn a.tmps _ a.defers .returning w
  rw[ha.df]
  exact⟨by simp,.inl ⟨Dk,_,rfl,hr,hk⟩⟩
 |_=>exact he.elim
theorem DL{v:Value}(he:Leaves e)(h:∀a,Ag N [] ρ a→∀w,(results fn a.tmps).run P w= .ok v w)(is:List Nat)(hX:bX is X=some (X',Xz))(js:List Nat)(hS:dN js S=some S')(hR:R v X' S'):HQ (bodyPostM Fence.wide n P fn (RB b R)) N [] e ρ b X S:=by
 intro w m a ha
 have hm:=m.out is hX js hS
 cases e with
 |normal=>
  show LeavesInM Fence.wide n P fn a.tmps _ a.defers .returning w
  rw[ha.df]
  exact⟨v,h a ha w,_,_,_,rfl,hR,hm⟩
 |ret=>
  show LeavesInM Fence.wide n P fn a.tmps _ a.defers .returning w
  rw[ha.df]
  exact⟨v,h a ha w,_,_,_,rfl,hR,hm⟩
 |_=>exact he.elim
theorem ub{t t' :Nat}{v v' :Value}(he:Leaves e)(hr:fn.results= #[.tmp t,.tmp t'])(hv:get ρ t=some v)(hv' :get ρ t' =some v')(is:List Nat)(hX:bX is X=some (X',Xz))(js:List Nat)(hS:dN js S=some S')(hR:R (.tuple #[v,v']) X' S'):HQ (bodyPostM Fence.wide n P fn (RB b R)) N [] e ρ b X S:=
 DL he (fun a ha w=>by have h1:=ha.getD hv;have h2:=ha.getD hv';simp at h1 h2;simp[results,hr,h1,h2]) is hX js hS hR
end
end Go.Eng
end
section
namespace Go.Proofs.YtmibdabdlgmafaaGreatDoor
open Go.Eng Go.RowKit Go.Shelf
attribute [local go_sem] Oper.semAt_some
set_option maxRecDepth 100000 in
set_option maxHeartbeats 4000000 in
theorem xk(F:Fence)(n:Nat)(h7:F.fn 297)(hro:F.round=none)(hn:1≤n)(l Bs B b off cap:Nat)(M:Nat→Prop)(zs:List Int){α:Type}(L:List α)(encs:α→List Value)(hL:L.length=zs.length)(henc:∀(k:Nat) (x:α),L[k]? =some x→encs x=[.int .i64 ((zs.length-1-k:Nat):Int),.int .i64 (zs[zs.length-1-k]?.getD 0)])(hreach:zs.length*8≤140737488351232)(hbs:Bs<B∧¬M Bs)(hb:b<B∧¬M b)(J Jx:List α→World→Prop)
  (hY:∀pre x W,J pre W→pre.length<L.length→YieldAt F (n-1) Tryz.prog l (encs x).toArray W fun e W' =>
   (e= .returned (.bool true)∧J (pre++[x]) W' ∧C2 B M W W')∨(e= .returned (.bool false)∧Jx (pre++[x]) W'))
  (W:World) (hBs:W.cell? ⟨Bs,0,none⟩=some (.slice (some ⟨b,off,none⟩) zs.length cap)) (hc:∀j,j<zs.length→W.cell? ⟨b,off+j,none⟩=some (.int .i64 (zs[j]?.getD 0))) (h0:J [] W):
  CallsIn F n Tryz.prog 297 #[.func (.yield l) #[] #[],.pointer (some ⟨Bs,0,none⟩)] W fun e W' =>(∃v,e= .returned v)∧
   ((∃ys,ys=L∧J ys W')∨(∃pre,pre<+:L∧Jx pre W')):=by
 refine callsIn_of_wp Tryz.func297 rfl h7 ?_ hro
 simp only[Tryz.ntmps297,List.size_toArray,List.length_cons,List.length_nil,Nat.reduceAdd,Nat.reduceSub,Array.replicate_succ,Array.replicate_zero,List.push_toArray,List.append_toArray,List.nil_append,List.cons_append]
 gi_wp2
 gi_loopw [3] (fun i wr=>∃k:Nat,k≤zs.length∧i= .int .i64 ((zs.length:Int)-1-(k:Int))∧J (L.take k) wr∧C2 B M W wr)
  (fun i _=>(intOf i+1).toNat)
 case atStart=>exact⟨0,Nat.zero_le _,by simp,h0,fun _ _ _=>rfl⟩
 case round=>
  obtain⟨k,hk,rfl,hJs,hnx⟩:=hrel
  have hBs' :wr.cell? ⟨Bs,0,none⟩=some (.slice (some ⟨b,off,none⟩) zs.length cap):=by rw[←hBs];simp only[World.cell?,hnx Bs hbs.1 hbs.2]
  have hcx:∀j,j<zs.length→wr.cell? ⟨b,off+j,none⟩=some (.int .i64 (zs[j]?.getD 0)):=fun j h=>by rw[←hc j h];simp only[World.cell?,hnx b hb.1 hb.2]
  by_cases hlt:k<zs.length
  ·obtain⟨j,hj⟩:∃j:Nat,j+1+k=zs.length:=⟨zs.length-1-k,by omega⟩
   have hjk:zs.length-1-k=j:=by omega
   have hji:(zs.length:Int)-1-(k:Int)=(j:Int):=by omega
   obtain⟨x,hx⟩:∃x,L[k]? =some x:=⟨_,List.getElem?_eq_getElem (by omega)⟩
   have htk:L.take (k+1)=L.take k++[x]:=by rw[List.take_add_one,hx];rfl
   obtain⟨fn,tmps,assign,body,hy,hR⟩:=hY _ x wr hJs (by rw[List.length_take];omega)
   rw[henc k x hx,hjk]at hy
   have hcx' :=hcx j (by omega)
   obtain⟨z,hz⟩:∃z,zs[j]?.getD 0=z:=⟨_,rfl⟩
   rw[hz]at hcx' hy
   clear hcx hz hc
   rw[hji]
   have hge:¬((j:Int)<0):=by omega
   have hjl:j<zs.length:=by omega
   gi_wp2
   refine hR.mono ?_
   rintro e W3 (⟨rfl,hJ3,hk3⟩|⟨rfl,hJx3⟩)
   ·gi_wp2
    go_roundw
    case rel=>exact⟨k+1,by omega,by congr 1 <;> omega,by rw[htk];exact hJ3,fun q h1 h2=>(hk3 q h1 h2).trans (hnx q h1 h2)⟩
    case measure=>simp[intOf] <;> omega
   ·gi_wp2
    refine bodyPost_ret (results_none rfl _ _ _) rfl ?_
    exact⟨⟨_,rfl⟩,.inr ⟨_,by rw[←htk];exact List.take_prefix _ _,hJx3⟩⟩
  ·obtain rfl:k=zs.length:=by omega
   have hge:¬((zs.length:Int)-1-(zs.length:Int)≥0):=by omega
   gi_wp2
   go_end0
   exact⟨⟨_,rfl⟩,.inl (by rw[←hL,List.take_length]at hJs;exact hJs)⟩
set_option maxRecDepth 100000 in
set_option maxHeartbeats 4000000 in
theorem sO(F:Fence)(n:Nat)(h7:F.fn 297)(hro:F.round=none)(l Bs cap:Nat)(A:Option Addr)(J:World→Prop)
  (W:World) (hBs:W.cell? ⟨Bs,0,none⟩=some (.slice A 0 cap)) (h0:J W):
  CallsIn F n Tryz.prog 297 #[.func (.yield l) #[] #[],.pointer (some ⟨Bs,0,none⟩)] W fun e W' =>(∃v,e= .returned v)∧J W' :=by
 refine callsIn_of_wp Tryz.func297 rfl h7 ?_ hro
 simp only[Tryz.ntmps297,List.size_toArray,List.length_cons,List.length_nil,Nat.reduceAdd,Nat.reduceSub,Array.replicate_succ,Array.replicate_zero,List.push_toArray,List.append_toArray,List.nil_append,List.cons_append]
 gi_wp2
 gi_loopw [3] (fun i wr=>i= .int .i64 (-1)∧J wr) (fun _ _=>0)
 case atStart=>exact⟨by simp,h0⟩
 case round=>
  obtain⟨rfl,hJs⟩:=hrel
  gi_wp2
  go_end0
  exact⟨⟨_,rfl⟩,hJs⟩
theorem oP(F:Fence)(n:Nat)(h7:F.fn 297)(hro:F.round=none)(hn:1≤n){w:World}{Bs e:Nat}{v:Value}{zs:List Int}{M:Nat→Prop}{α:Type}(L:List α)(encs:α→List Value)(hL:L.length=zs.length)(henc:∀(k:Nat) (x:α),L[k]? =some x→encs x=[.int .i64 ((zs.length-1-k:Nat):Int),.int .i64 (zs[zs.length-1-k]?.getD 0)])(hreach:zs.length*8≤140737488351232)
  (hBs:w.cell? ⟨Bs,0,none⟩=some v) (hMB:¬M Bs) (h:Go.Eng.Own w 0 e 1 v zs.length (zs.map (Value.int .i64))) (hMA:∀k,j4 v k→¬M k):
  SeqStopsK F n Tryz.prog 297 #[.pointer (some ⟨Bs,0,none⟩)] (fun x=>(encs x).toArray) (C2 w.heap.size M) (fun ys=>ys=L) (fun pre=>pre<+:L) L.length w:=by
 intro l J Jx W hW _ _ hY h0
 have hlt:=lE hBs
 have hc' :W.cell? ⟨Bs,0,none⟩=some v:=(hW.cell (p:=⟨Bs,0,none⟩) hlt).trans hBs
 obtain⟨hl,⟨rfl,hz⟩|⟨g,o,cap,cur,rfl,_,hb,hcap,hml,hcl,hx⟩⟩:=h
 ·have hL0:L=[]:=List.eq_nil_of_length_eq_zero (by omega)
  subst hL0
  exact(sO F n h7 hro l Bs 0 none (J []) W hc' h0).mono fun e W' ⟨he,hj⟩=>⟨he,.inl ⟨_,rfl,hj⟩⟩
 ·by_cases hz:zs.length=0
  ·have hL0:L=[]:=List.eq_nil_of_length_eq_zero (by omega)
   subst hL0
   rw[hz]at hc'
   exact(sO F n h7 hro l Bs cap _ (J []) W hc' h0).mono fun e W' ⟨he,hj⟩=>⟨he,.inl ⟨_,rfl,hj⟩⟩
  ·have hcs:∀j,j<zs.length→W.cell? ⟨g,o+j,none⟩=some (.int .i64 (zs[j]?.getD 0)):=fun j hj=>by
    refine(hW.cell (p:=⟨g,o+j,none⟩) hb.lt).trans (hb.cell ?_)
    have h1:((cur.drop o).take (zs.length*1))[j]? =(zs.map (Value.int .i64))[j]? :=by rw[hx]
    rw[List.getElem?_take,if_pos (by omega),List.getElem?_drop,List.getElem?_map,List.getElem?_eq_getElem hj]at h1
    rw[h1,List.getElem?_eq_getElem hj]
    rfl
   have hsz:=hW.size
   have:=xk F n h7 hro hn l Bs w.heap.size g o cap M zs L encs hL henc hreach ⟨hlt,hMB⟩ ⟨hb.lt,hMA g rfl⟩ J Jx hY W hc' hcs h0
   refine this.mono ?_
   rintro e W' ⟨he,⟨ys,rfl,hj⟩|⟨pre,hp,hj⟩⟩
   ·exact⟨he,.inl ⟨_,rfl,hj⟩⟩
   ·exact⟨he,.inr ⟨_,hp,hj⟩⟩
end Go.Proofs.YtmibdabdlgmafaaGreatDoor
end
section
set_option maxRecDepth 20000
set_option maxHeartbeats 2000000
namespace Go.Proofs.YtmibdabdlgmafaaGreatDoor
open Go.Eng Go.Hx
def eS(zs:List Nat)(i:Nat)(h:∀z∈zs,z<i):List {x:Nat×Nat//x.2<i}:=(zs.attach.zipIdx.map fun x=>(⟨(x.2,x.1.1),h _ x.1.2⟩:{x:Nat×Nat//x.2<i})).reverse
theorem iy(zs:List Nat)(i:Nat)(h:∀z∈zs,z<i):(eS zs i h).length=zs.length:=by simp[eS]
theorem nf(zs:List Nat)(i:Nat)(h:∀z∈zs,z<i):(eS zs i h).map (fun x=>x.1.2)=zs.reverse:=by
 unfold eS
 rw[List.map_reverse,List.map_map]
 congr 1
 apply List.ext_getElem
 ·simp
 ·intro j h1 h2
  simp
theorem sj(zs:List Nat)(i:Nat)(h:∀z∈zs,z<i)(k:Nat)(x:{x:Nat×Nat//x.2<i})(hx:(eS zs i h)[k]? =some x):k<zs.length∧x.1.1=zs.length-1-k∧zs[zs.length-1-k]? =some x.1.2:=by
 have hk:k<zs.length:=by rw[←iy zs i h];exact(List.getElem?_eq_some_iff.1 hx).1
 unfold eS at hx
 rw[List.getElem?_reverse (by simpa using hk)]at hx
 simp only[List.length_map,List.length_zipIdx,List.length_attach,List.getElem?_map,List.getElem?_zipIdx,Nat.zero_add]at hx
 have hlt:zs.length-1-k<zs.attach.length:=by simp;omega
 rw[List.getElem?_eq_getElem hlt]at hx
 simp only[Option.map_some,Option.some.injEq]at hx
 subst hx
 refine⟨hk,rfl, ?_⟩
 rw[List.getElem?_eq_getElem (by simpa using hlt)]
 simp
theorem ly(f:Nat×Nat→Nat→Nat×Nat)(s:Nat×Nat)(i:Nat)(L:List {x:Nat×Nat//x.2<i}):L.foldl (fun s x=>f s x.1.2) s=(L.map (fun x=>x.1.2)).foldl f s:=by rw[List.foldl_map]
theorem oh{l:List UInt8}{i:Nat}{zs:List Nat}(hz:zs=kD l i (ez l i))(hi:i+4≤l.length)(h:∀z∈zs,z<i){s:Nat×Nat}
  (hs:s=(eS zs i h).foldl (fun s x=>fO l i s x.1.2) (0,0)∨∃pre x rest,eS zs i h=pre++x::rest∧s=pre.foldl (fun s x=>fO l i s x.1.2) (0,0)∧1024<i-x.1.2):s=a6 l i:=by
 subst hz
 rcases hs with rfl|⟨pre,x,rest,e,rfl,hb⟩
 ·rw[ly,nf,rE hi]
 ·have e2:=congrArg (List.map fun x=>x.1.2) e
  rw[nf,List.map_append,List.map_cons]at e2
  rw[ly,←rE hi]
  exact(vq e2 hb).symm
def lz(l:List Nat):List Int:=l.map fun n:Nat=>(n:Int)
theorem eR(l:List Nat):(lz l).length=l.length:=List.length_map ..
theorem x7{w:World}{e:TypeId}{v:Value}{l:List Nat}(h:Go.Eng.Own w 0 e 1 v l.length (ze l)):Go.Eng.Own w 0 e 1 v (lz l).length ((lz l).map (Value.int .i64)):=by
 rw[eR]
 unfold lz
 rw[List.map_map]
 exact h
theorem CM{es:tu}{j:Nat}{x:kr}(h:(fS es)[j]? =some x.res):(x.res::(fS es).eraseIdx j).Perm (fS es):=by
 obtain⟨h1,h2⟩:=List.getElem?_eq_some_iff.1 h
 have:=gu (fS es) j h1
 rwa [h2]at this
theorem AX{A:Option Addr}{n c:Nat}:cj Tryz.prog 271 [.slice A n c] [] [] (fun v_ X_ S_=>∃gB,v_=(.func (.func 297) #[] #[.pointer (some ⟨gB,0,none⟩)])∧X_=[aG gB 44 [.slice A n c]]∧S_=[]):=by
 refine aO (N:=4) Tryz.func271 rfl rfl (by simp) fun b=> ?_
 refine ah<|aj<| ?_
 refine hx (cz rfl (fun g1=> ?_))
 refine hy (fun _=>ab rfl)<|ai<|ak (X' :=[_]) (S' :=[]) (fun _ m=>m)<|ag<|ah<|aj<|hy (fun _=>gA rfl rfl)<|hy (fun _=>ab rfl)<|ai<|al (ρ' :=[(2,_),(1,_),(0,_)]) ⟨rfl,rfl,rfl,trivial⟩<|ag<|aU<| ?_
 refine ak (fun w m=>m.bM 0 rfl (show _=aG g1 44 [.slice A n c]from rfl)) ?_
 exact bc trivial rfl rfl [0] rfl [] rfl ⟨_,rfl,rfl,rfl⟩
theorem Ec{A:Option Addr}{n c:Nat}:cj Tryz.prog 229 [.slice A n c] [] [] (fun v_ X_ S_=>∃g gm,v_=(.pointer (some ⟨g,0,none⟩))∧X_=[mU g gm A n c 0 []]∧S_=[]):=by
 refine aO (N:=7) Tryz.func229 rfl rfl (by simp) fun b=> ?_
 refine ah<|aj<|hy (fun _=>ab rfl)<|ai<|ag<|ah<|aj<|hy (fun _=>aa rfl)<| ?_
 refine hx (ob (KN (n:=4)) (fun g4=> ?_))
 refine hy (fun _=>cM C3 rfl rfl (by kernel_rfl) (.cons (o:=0) (sz:=1) (by kernel_rfl) rfl rfl (Nat.le_of_ble_eq_true rfl) (.cons (o:=1) (sz:=1) (by kernel_rfl) rfl rfl (Nat.le_of_ble_eq_true rfl) .nil)))<| ?_
 refine hx (cz rfl (fun g6=> ?_))
 refine hy (fun _=>ab rfl)<|ai<|al (ρ' :=[(2,_),(0,_)]) ⟨rfl,rfl,trivial⟩<|ak (X' :=[_,_]) (S' :=[]) (fun _ m=>m)<|ag<|aU<| ?_
 refine ak (fun w m=>m.uH) ?_
 refine ak (fun w m=>m.bM 1 rfl (show _=aG g6 359 [.slice A n c,.map (some g4),.int .i64 ((0:Nat):Int)]from rfl)) ?_
 refine ak (X' :=mU g6 g4 A n c 0 []::_) (fun w m=>(m.perm (av [0,1,0] _ [_,_,_] _ rfl)).pack) ?_
 exact bc trivial rfl rfl [0] rfl [] rfl ⟨_,_,rfl,rfl,rfl⟩
theorem xd(zs:List Nat)(i:Nat)(h:∀z∈zs,z<i)(k:Nat)(x:{x:Nat×Nat//x.2<i})(hx:(eS zs i h)[k]? =some x):[Value.int .i64 (x.1.1:Nat),.int .i64 (x.1.2:Nat)]=[.int .i64 (((lz zs).length-1-k:Nat):Int),.int .i64 ((lz zs)[(lz zs).length-1-k]?.getD 0)]:=by
 obtain⟨h1,h2,h3⟩:=sj zs i h k x hx
 rw[eR]
 unfold lz
 rw[List.getElem?_map,h3,h2]
 rfl
theorem Cz{g gm:Nat}{A:Option Addr}{n c p i:Nat}{l:List UInt8}{es:tu}(hc:n≤c)(hn:n≤1000000000)(hl:l.length=n)(hpi:p≤i)(hi:i≤n)(hF:wx l p es):cj Tryz.prog 231 [.pointer (some ⟨g,0,none⟩),.int .i64 (i:Nat)] [mU g gm A n c p es] [dr 1 A n (aZ l)] (fun v_ X_ S_=>∃p1 es1,v_=(.tuple #[.int .i64 ((a6 l i).1:Nat),.int .i64 ((a6 l i).2:Nat)])∧X_=[mU g gm A n c p1 es1]∧S_=[]∧(p1≤i∧wx l p1 es1)):=by
 refine zd (N:=60) Tryz.func231 rfl rfl (by simp) fun b=> ?_
 refine ba (fun m=>gK (m.rd 0 rfl)) ?_
 rintro⟨hl_r,hA_r⟩
 refine bu (fun w m=>(m.perm (av [0] _ [_] _ rfl)).unpack) ?_
 refine ah<|aj<| ?_
 refine hx (cz rfl (fun g2=> ?_))
 refine hx (cz rfl (fun g3=> ?_))
 refine hy (fun _=>ab rfl)<|hy (fun _=>ab rfl)<|ai<|ak (X' :=[_,_,_,_,_]) (S' :=[_]) (fun _ m=>m)<|ag<|ah<|ah<|cK [] [(0,some 0),(1,some 0),(2,some 0),(3,some 0),(4,some 0),(5,some 0),(6,some 0),(7,some 0)] (by kernel_rfl) (by kernel_rfl) rfl 99<|cd (fun m=>ar rfl eY (ax (m.aT 0 rfl) rfl))<|an (aJ rfl rfl (bA (by omega) (by omega)))<|cd (fun m=>ar rfl nG (ax (m.aT 1 rfl) rfl))<|an (aW rfl)<|an (aD rfl jO (by decide))<|cd (fun m=>ar rfl dY (ax (m.aT 2 rfl) rfl))<|an (aR rfl Tryz.underlying27)<|an (cW rfl rfl)<|bq<|al (ρ' :=[(18,_),(5,_),(4,_),(3,_),(2,_),(0,_),(1,_)]) ⟨rfl,rfl,rfl,rfl,rfl,rfl,rfl,trivial⟩<|ag<| ?_
 refine cL rfl (fun h1=> ?_) (fun h1=> ?_)
 ·have e:=sg (b:=l) (i:=i) (by omega) (by omega)
  rw[e]
  refine ah<|aj<|hy (fun _=>ab rfl)<|hy (fun _=>ab rfl)<|ai<|ag<|aU<|aw<| ?_
  refine ak (X' :=mU g gm A n c p es::_) (fun w m=>(m.perm (av [2,2,2] _ [_,_,_] _ rfl)).pack) ?_
  exact ub trivial rfl rfl rfl [0] rfl [] rfl ⟨p,es,rfl,rfl,rfl,⟨hpi,hF⟩⟩
 ·have hi4:i+4≤n:=by omega
  refine aB<|ag<|ah<| ?_
  refine bu (X' :=mU g gm A n c p es::_) (fun w m=>(m.perm (av [2,2,2] _ [_,_,_] _ rfl)).pack) ?_
  refine aj<|hy (fun m=>ar rfl nG (ax (m.aT 2 rfl) rfl))<|hy (fun m=>ar rfl eY (ax (m.aT 1 rfl) rfl))<| ?_
  refine hx (ao rfl Tryz.call270 (D9 (by omega) (by omega) hl (by omega) (by omega) hF) [0] rfl [0] rfl ?_)
  rintro _ _ _ ⟨es1,rfl,rfl,rfl,hp⟩
  have hF1:=hp
  refine ai<|al (ρ' :=[(18,_),(5,_),(4,_),(3,_),(2,_),(0,_),(1,_)]) ⟨rfl,rfl,rfl,rfl,rfl,rfl,rfl,trivial⟩<|ak (X' :=[_,_,_]) (S' :=[_]) (fun _ m=>m)<|ag<|ah<|aj<| ?_
  refine hx (aM CZ (fun g6=> ?_))
  refine hx (aM CZ (fun g7=> ?_))
  refine cI (dG 1 rfl rfl rfl tf rfl (by first|exact Nat.le_of_ble_eq_true rfl|simp) ?_)
  refine cI (dG 1 rfl rfl rfl tf rfl (by first|exact Nat.le_of_ble_eq_true rfl|simp) ?_)
  refine ai<|ak (X' :=[_,_,_,_,_]) (S' :=[_]) (fun _ m=>m)<|ag<|ah<|ah<| ?_
  refine bu (fun w m=>(m.perm (av [2] _ [_] _ rfl)).unpack) ?_
  refine ba (fun m=>(m.rd 0 rfl).some (by omega)) fun h_=> ?_
  obtain⟨a,rfl⟩:∃a_,A=some a_:=⟨_,h_⟩
  clear h_
  rcases hq:cn es1 ⟨ez l i,bL (by omega)⟩with _|x
  ·have e0:=pQ hF1 hq
   refine cK [15] [(0,some 1),(1,some 0),(2,some 0),(3,some 0),(4,some 1),(5,some 1),(6,some 1),(7,some 1),(8,some 1),(9,some 1),(10,some 1),(11,some 0),(12,some 0),(13,some 0),(14,some 0),(15,none)] (by kernel_rfl) (by kernel_rfl) rfl 99<|cd (fun m=>ar rfl nG (ax (m.aT 6 rfl) rfl))<|an (aW rfl)<|an (aD rfl qX (by decide))<|cd (fun m=>ar rfl wJ (ax (m.aT 0 rfl) rfl))<|cd (fun m=>ar rfl nG (ax (m.aT 6 rfl) rfl))<|an (aW rfl)<|an (aD rfl jO (by decide))<|cd (fun m=>ar rfl dY (ax (m.aT 0 rfl) rfl))<|cd (fun m=>ar rfl eY (ax (m.aT 5 rfl) rfl))<|cd (fun m=>ar rfl eY (ax (m.aT 5 rfl) rfl))<|an (aJ rfl rfl (bA (by omega) (by omega)))<|an (yV (eH rfl rfl rfl Tryz.underlying27 eg rfl (show((i+4:Nat):Int)=_ by omega) (by omega) (by omega)) ((show Value.slice (if c=i then some a else(some a).map (·.add (i*1))) (i+4-i) (c-i)= .slice (some (a.add i)) 4 (c-i) by rw[if_neg (by omega),Nat.mul_one,Nat.add_sub_cancel_left];rfl)))<|an (n5 rfl Tryz.underlying364 (by omega))<|cd (fun m=>yV (aX rfl uJ rZ (by rw[aF];exact bL (by omega)) (Rd.part (m.rd 0 rfl))) ((show Value.agg (aZ ((l.drop i).take 4)).toArray=KN ⟨ez l i,bL (by omega)⟩from rfl)))<|cd (fun m=>yV (jF (enc:=(KN (n:=4))) (k:=⟨ez l i,bL (by omega)⟩) rfl rfl Tryz.underlying357 Bu (wP Tryz.underlying364 Tryz.underlying5 (by kernel_rfl) (by kernel_rfl) (by kernel_rfl)) (m.ot 1 rfl)) ((show ig false (.slice none 0 0) (cn (jm es1) ⟨ez l i,bL (by omega)⟩)= .slice none 0 0 by rw[kV,hq];rfl)))<| ?_
   refine ee (ao rfl Tryz.call271 (AX) [] rfl [] rfl ?_)
   rintro _ _ _ ⟨gB,rfl,rfl,rfl⟩
   refine⟨(fun _=>wk [1,1,1,1,1,1,1] [0] rfl rfl), ?_⟩
   refine bq<|al (ρ' :=[(37,_),(7,_),(6,_),(18,_),(5,_),(4,_),(3,_),(2,_),(0,_),(1,_)]) ⟨rfl,rfl,rfl,rfl,rfl,rfl,rfl,rfl,rfl,rfl,trivial⟩<|ak (X' :=[_,_,_,_,_,_,_,_]) (S' :=[_]) (fun _ m=>m)<|ag<| ?_
   have hlt:∀z∈([]:List Nat),z<i:=fun z hz=>by cases hz
   refine xj (σ:=Nat×Nat) (α:={x:Nat×Nat//x.2<i}) (ρ' :=[]) (fun s_:Nat×Nat=>[aG g6 3 [.int .i64 (s_.1:Nat)],aG g7 3 [.int .i64 (s_.2:Nat)],aG g3 3 [.int .i64 (i:Nat)],aG g2 322 [.pointer (some ⟨g,0,none⟩)],aG g 359 [.slice (some a) n c,.map (some gm),.int .i64 (i:Nat)]]) (0,0) (fun s_ x_=>fO l i s_ x_.1.2) (fun s_ x_=>1024<i-x_.1.2) (fun x_=>[.int .i64 (x_.1.1:Nat),.int .i64 (x_.1.2:Nat)]) (eS (([]:List Nat)) i hlt) (fun x_=>[(9,.int .i64 (x_.1.2:Nat))]) [(37,_),(7,_),(6,_),(18,_),(5,_),(4,_),(3,_),(2,_),(0,_),(1,_)] ⟨rfl,rfl,rfl,rfl,rfl,rfl,rfl,rfl,rfl,rfl,trivial⟩ rfl Tryz.call297 [5,4,4,4,1] rfl (fun s_ k_=>by simp[dD,aG]) [0] rfl (fun w m=>oP Fence.wide 2 trivial rfl (by decide) (zs:=lz (([]:List Nat))) (e:=3) (eS (([]:List Nat)) i hlt) (fun x_=>[.int .i64 (x_.1.1:Nat),.int .i64 (x_.1.2:Nat)]) (by rw[iy,eR]) (xd _ _ _) (by rw[eR];first|omega|simp) (ax (m.aT 0 rfl) rfl) (m.off (is:=[5,4,4,4,1]) rfl 0 rfl rfl) (Go.Eng.Own.nil _ _ _ _) (fun k hk=>hk.elim)) (fun _=>rfl) (by decide) (fun _ _ ha_=>xg rfl (by decide) (by decide) ha_) (fun l_ b_ s_ x_ Q_ h_=> ?_) (fun l_ b s_ x_=> ?_) (fun Dk_ s_ hs_=> ?_)
   ·exact qv (hy (fun _=>ab rfl) ((ai (by refine al ?_ h_;exact⟨rfl,rfl,rfl,rfl,rfl,rfl,rfl,rfl,rfl,rfl,rfl,trivial⟩))))
   ·obtain⟨u1,u2⟩:=s_
    obtain⟨⟨j,q⟩,hq2⟩:=x_
    try dsimp only
    have hq2:q<i:=hq2
    refine uO<|m8<|m8<|qv<|hy (fun m=>ar rfl eY (ax (m.aT 2 rfl) rfl))<|hy (fun _=>aa rfl)<|hy (fun _=>cm rfl rfl (bA (by omega) (by omega)))<|hy (fun _=>cW rfl rfl)<|ai<|al (ρ' :=[(43,_),(9,_),(37,_),(7,_),(6,_),(18,_),(5,_),(4,_),(3,_),(2,_),(0,_),(1,_)]) ⟨rfl,rfl,rfl,rfl,rfl,rfl,rfl,rfl,rfl,rfl,rfl,rfl,trivial⟩<|kh<| ?_
    refine zY rfl (fun hb=> ?_) (fun hb=> ?_)
    ·refine wD<|au<|lp (by decide)<| ?_
     exact pZ [0,0,0,0,0] rfl [0] rfl ((show 1024<i-q by omega))
    ·refine nV<|kh<|m8<|AU [6] [(0,some 0),(1,some 0),(2,some 0),(3,some 0),(4,some 0),(5,some 0),(6,none),(7,some 1)] (by kernel_rfl) (by kernel_rfl) rfl 99<|cd (fun m=>ar rfl nG (ax (m.aT 3 rfl) rfl))<|an (aW rfl)<|an (aD rfl jO (by decide))<|cd (fun m=>ar rfl dY (ax (m.aT 4 rfl) rfl))<|cd (fun m=>ar rfl eY (ax (m.aT 2 rfl) rfl))<|an (aa rfl)<| ?_
     refine ee (ao rfl Tryz.call272 (A6 (by omega) hl (by omega) (by omega)) [] rfl [0] rfl ?_)
     rintro _ _ _ ⟨rfl,rfl,rfl⟩
     refine⟨(fun _=>wk [0,0,0,0,0] [0] rfl rfl), ?_⟩
     refine an (ab rfl)<|bq<|al (ρ' :=[(10,_),(43,_),(9,_),(37,_),(7,_),(6,_),(18,_),(5,_),(4,_),(3,_),(2,_),(0,_),(1,_)]) ⟨rfl,rfl,rfl,rfl,rfl,rfl,rfl,rfl,rfl,rfl,rfl,rfl,rfl,trivial⟩<|ak (X' :=[_,_,_,_,_]) (S' :=[_]) (fun _ m=>m)<|kh<|m8<|qv<|hy (fun _=>aa rfl)<|hy (fun m=>ar rfl eY (ax (m.aT 0 rfl) rfl))<|hy (fun _=>cW rfl rfl)<|ai<|al (ρ' :=[(53,_),(10,_),(43,_),(9,_),(37,_),(7,_),(6,_),(18,_),(5,_),(4,_),(3,_),(2,_),(0,_),(1,_)]) ⟨rfl,rfl,rfl,rfl,rfl,rfl,rfl,rfl,rfl,rfl,rfl,rfl,rfl,rfl,trivial⟩<|kh<| ?_
     refine zY rfl (fun hx1=> ?_) (fun hx1=> ?_)
     ·refine yI [2,2,2] [0] rfl rfl [4,5] [(0,some 0),(1,some 1),(2,some 1),(3,some 1),(4,none),(5,none)] (by kernel_rfl) (by kernel_rfl) rfl 99<|an (aa rfl)<|cd (fun m=>ar rfl eY (ax (m.aT 0 rfl) rfl))<|an (aa rfl)<|an (yV (cm rfl rfl (bA (by omega) (by omega))) ((show Value.int .i64 ((i:Int)-(q:Int))= .int .i64 ((i-q:Nat):Int) by congr 1;omega)))<| ?_
      refine j5 (dG 0 rfl rfl rfl tf rfl (by first|exact Nat.le_of_ble_eq_true rfl|simp) ⟨(fun _=>wk [2,2,2] [0] rfl rfl), ?_⟩)
      refine j5 (dG 1 rfl rfl rfl tf rfl (by first|exact Nat.le_of_ble_eq_true rfl|simp) ⟨(fun _=>wk [2,2,2] [0] rfl rfl), ?_⟩)
      refine bq<|al (ρ' :=[(53,_),(10,_),(43,_),(9,_),(37,_),(7,_),(6,_),(18,_),(5,_),(4,_),(3,_),(2,_),(0,_),(1,_)]) ⟨rfl,rfl,rfl,rfl,rfl,rfl,rfl,rfl,rfl,rfl,rfl,rfl,rfl,rfl,trivial⟩<|ak (X' :=[_,_,_,_,_]) (S' :=[_]) (fun _ m=>m)<|aQ<| ?_
      exact kX (lA l i q,i-q) (by show fO l i (u1,u2) q=_;unfold fO;rw[if_neg (by omega),if_pos (by show u1<_;omega)]) [1,0,0,0,0] rfl [0] rfl
     ·refine nV<|aQ<| ?_
      exact kX (u1,u2) (by show fO l i (u1,u2) q=_;unfold fO;rw[if_neg (by omega),if_neg (by show¬u1<_;omega)]) [0,0,0,0,0] rfl [0] rfl
   ·obtain⟨u1,u2⟩:=s_
    have ai:=oh e0.symm (by omega) hlt hs_
    have hu1:u1=(a6 l i).1:=congrArg Prod.fst ai
    have hu2:u2=(a6 l i).2:=congrArg Prod.snd ai
    refine ag<|ah<|cK [] [(0,some 0),(1,some 0),(2,some 0),(3,some 0)] (by kernel_rfl) (by kernel_rfl) rfl 99<|cd (fun m=>ar rfl eY (ax (m.aT 1 rfl) rfl))<|cd (fun m=>ar rfl eY (ax (m.aT 2 rfl) rfl))<|an (ab rfl)<|an (ab rfl)<|bq<|al (ρ' :=[(5,_),(4,_),(37,_),(7,_),(6,_),(18,_),(3,_),(2,_),(0,_),(1,_)]) ⟨rfl,rfl,rfl,rfl,rfl,rfl,rfl,rfl,rfl,rfl,trivial⟩<|ag<|aU<| ?_
    refine Dc trivial [0] rfl ?_
    skip
    refine ak (X' :=mU g gm (some a) n c i es1::_) (fun w m=>(m.perm (av [4,5,5] _ [_,_,_] _ rfl)).pack) ?_
    exact ub trivial rfl rfl rfl [0] rfl [] rfl ⟨i,es1,(by rw[←hu1,←hu2]),rfl,rfl,⟨Nat.le_refl _,hF1⟩⟩
  ·have e0:=sL hF1 hq
   refine cK [15] [(0,some 1),(1,some 0),(2,some 0),(3,some 0),(4,some 1),(5,some 1),(6,some 1),(7,some 1),(8,some 1),(9,some 1),(10,some 1),(11,some 0),(12,some 0),(13,some 0),(14,some 0),(15,none)] (by kernel_rfl) (by kernel_rfl) rfl 99<|cd (fun m=>ar rfl nG (ax (m.aT 6 rfl) rfl))<|an (aW rfl)<|an (aD rfl qX (by decide))<|cd (fun m=>ar rfl wJ (ax (m.aT 0 rfl) rfl))<|cd (fun m=>ar rfl nG (ax (m.aT 6 rfl) rfl))<|an (aW rfl)<|an (aD rfl jO (by decide))<|cd (fun m=>ar rfl dY (ax (m.aT 0 rfl) rfl))<|cd (fun m=>ar rfl eY (ax (m.aT 5 rfl) rfl))<|cd (fun m=>ar rfl eY (ax (m.aT 5 rfl) rfl))<|an (aJ rfl rfl (bA (by omega) (by omega)))<|an (yV (eH rfl rfl rfl Tryz.underlying27 eg rfl (show((i+4:Nat):Int)=_ by omega) (by omega) (by omega)) ((show Value.slice (if c=i then some a else(some a).map (·.add (i*1))) (i+4-i) (c-i)= .slice (some (a.add i)) 4 (c-i) by rw[if_neg (by omega),Nat.mul_one,Nat.add_sub_cancel_left];rfl)))<|an (n5 rfl Tryz.underlying364 (by omega))<|cd (fun m=>yV (aX rfl uJ rZ (by rw[aF];exact bL (by omega)) (Rd.part (m.rd 0 rfl))) ((show Value.agg (aZ ((l.drop i).take 4)).toArray=KN ⟨ez l i,bL (by omega)⟩from rfl)))<|cd (fun m=>yV (jF (enc:=(KN (n:=4))) (k:=⟨ez l i,bL (by omega)⟩) rfl rfl Tryz.underlying357 Bu (wP Tryz.underlying364 Tryz.underlying5 (by kernel_rfl) (by kernel_rfl) (by kernel_rfl)) (m.ot 1 rfl)) ((show ig false (.slice none 0 0) (cn (jm es1) ⟨ez l i,bL (by omega)⟩)= .slice x.A x.l.length x.c by rw[kV,hq];rfl)))<| ?_
   refine ee (ao rfl Tryz.call271 (AX) [] rfl [] rfl ?_)
   rintro _ _ _ ⟨gB,rfl,rfl,rfl⟩
   refine⟨(fun _=>wk [1,1,1,1,1,1,1] [0] rfl rfl), ?_⟩
   refine bq<|al (ρ' :=[(37,_),(7,_),(6,_),(18,_),(5,_),(4,_),(3,_),(2,_),(0,_),(1,_)]) ⟨rfl,rfl,rfl,rfl,rfl,rfl,rfl,rfl,rfl,rfl,trivial⟩<|ak (X' :=[_,_,_,_,_,_,_,_]) (S' :=[_]) (fun _ m=>m)<|ag<| ?_
   have hlt:∀z∈x.l,z<i:=fun z hz=>(zQ (e0▸hz)).1
   have hxl:x.l.length≤n:=by rw[e0];exact Nat.le_trans (nA _ _ _) (by omega)
   obtain⟨j,hj1,_⟩:=kH hq
   refine bu (X' :=aH 3 1 (.slice x.A x.l.length x.c) x.l.length (ze x.l)::_) (fun w m=>(m.perm (av [3] _ [_] _ rfl)).rY j hj1) ?_
   refine xj (σ:=Nat×Nat) (α:={x:Nat×Nat//x.2<i}) (ρ' :=[]) (fun s_:Nat×Nat=>[aG g6 3 [.int .i64 (s_.1:Nat)],aG g7 3 [.int .i64 (s_.2:Nat)],aG g3 3 [.int .i64 (i:Nat)],aG g2 322 [.pointer (some ⟨g,0,none⟩)],aG g 359 [.slice (some a) n c,.map (some gm),.int .i64 (i:Nat)]]) (0,0) (fun s_ x_=>fO l i s_ x_.1.2) (fun s_ x_=>1024<i-x_.1.2) (fun x_=>[.int .i64 (x_.1.1:Nat),.int .i64 (x_.1.2:Nat)]) (eS (x.l) i hlt) (fun x_=>[(9,.int .i64 (x_.1.2:Nat))]) [(37,_),(7,_),(6,_),(18,_),(5,_),(4,_),(3,_),(2,_),(0,_),(1,_)] ⟨rfl,rfl,rfl,rfl,rfl,rfl,rfl,rfl,rfl,rfl,trivial⟩ rfl Tryz.call297 [6,5,5,5,3] rfl (fun s_ k_=>by simp[dD,aG]) [0] rfl (fun w m=>oP Fence.wide 2 trivial rfl (by decide) (zs:=lz (x.l)) (e:=3) (eS (x.l) i hlt) (fun x_=>[.int .i64 (x_.1.1:Nat),.int .i64 (x_.1.2:Nat)]) (by rw[iy,eR]) (xd _ _ _) (by rw[eR];first|omega|simp) (ax (m.aT 2 rfl) rfl) (m.off (is:=[6,5,5,5,3]) rfl 2 rfl rfl) (x7 (m.own 0 rfl)) (fun k hk=>m.off (is:=[6,5,5,5,3]) rfl 0 rfl hk)) (fun _=>rfl) (by decide) (fun _ _ ha_=>xg rfl (by decide) (by decide) ha_) (fun l_ b_ s_ x_ Q_ h_=> ?_) (fun l_ b s_ x_=> ?_) (fun Dk_ s_ hs_=> ?_)
   ·exact qv (hy (fun _=>ab rfl) ((ai (by refine al ?_ h_;exact⟨rfl,rfl,rfl,rfl,rfl,rfl,rfl,rfl,rfl,rfl,rfl,trivial⟩))))
   ·obtain⟨u1,u2⟩:=s_
    obtain⟨⟨j,q⟩,hq2⟩:=x_
    try dsimp only
    have hq2:q<i:=hq2
    refine uO<|m8<|m8<|qv<|hy (fun m=>ar rfl eY (ax (m.aT 2 rfl) rfl))<|hy (fun _=>aa rfl)<|hy (fun _=>cm rfl rfl (bA (by omega) (by omega)))<|hy (fun _=>cW rfl rfl)<|ai<|al (ρ' :=[(43,_),(9,_),(37,_),(7,_),(6,_),(18,_),(5,_),(4,_),(3,_),(2,_),(0,_),(1,_)]) ⟨rfl,rfl,rfl,rfl,rfl,rfl,rfl,rfl,rfl,rfl,rfl,rfl,trivial⟩<|kh<| ?_
    refine zY rfl (fun hb=> ?_) (fun hb=> ?_)
    ·refine wD<|au<|lp (by decide)<| ?_
     exact pZ [0,0,0,0,0] rfl [0] rfl ((show 1024<i-q by omega))
    ·refine nV<|kh<|m8<|AU [6] [(0,some 0),(1,some 0),(2,some 0),(3,some 0),(4,some 0),(5,some 0),(6,none),(7,some 1)] (by kernel_rfl) (by kernel_rfl) rfl 99<|cd (fun m=>ar rfl nG (ax (m.aT 3 rfl) rfl))<|an (aW rfl)<|an (aD rfl jO (by decide))<|cd (fun m=>ar rfl dY (ax (m.aT 4 rfl) rfl))<|cd (fun m=>ar rfl eY (ax (m.aT 2 rfl) rfl))<|an (aa rfl)<| ?_
     refine ee (ao rfl Tryz.call272 (A6 (by omega) hl (by omega) (by omega)) [] rfl [0] rfl ?_)
     rintro _ _ _ ⟨rfl,rfl,rfl⟩
     refine⟨(fun _=>wk [0,0,0,0,0] [0] rfl rfl), ?_⟩
     refine an (ab rfl)<|bq<|al (ρ' :=[(10,_),(43,_),(9,_),(37,_),(7,_),(6,_),(18,_),(5,_),(4,_),(3,_),(2,_),(0,_),(1,_)]) ⟨rfl,rfl,rfl,rfl,rfl,rfl,rfl,rfl,rfl,rfl,rfl,rfl,rfl,trivial⟩<|ak (X' :=[_,_,_,_,_]) (S' :=[_]) (fun _ m=>m)<|kh<|m8<|qv<|hy (fun _=>aa rfl)<|hy (fun m=>ar rfl eY (ax (m.aT 0 rfl) rfl))<|hy (fun _=>cW rfl rfl)<|ai<|al (ρ' :=[(53,_),(10,_),(43,_),(9,_),(37,_),(7,_),(6,_),(18,_),(5,_),(4,_),(3,_),(2,_),(0,_),(1,_)]) ⟨rfl,rfl,rfl,rfl,rfl,rfl,rfl,rfl,rfl,rfl,rfl,rfl,rfl,rfl,trivial⟩<|kh<| ?_
     refine zY rfl (fun hx1=> ?_) (fun hx1=> ?_)
     ·refine yI [2,2,2] [0] rfl rfl [4,5] [(0,some 0),(1,some 1),(2,some 1),(3,some 1),(4,none),(5,none)] (by kernel_rfl) (by kernel_rfl) rfl 99<|an (aa rfl)<|cd (fun m=>ar rfl eY (ax (m.aT 0 rfl) rfl))<|an (aa rfl)<|an (yV (cm rfl rfl (bA (by omega) (by omega))) ((show Value.int .i64 ((i:Int)-(q:Int))= .int .i64 ((i-q:Nat):Int) by congr 1;omega)))<| ?_
      refine j5 (dG 0 rfl rfl rfl tf rfl (by first|exact Nat.le_of_ble_eq_true rfl|simp) ⟨(fun _=>wk [2,2,2] [0] rfl rfl), ?_⟩)
      refine j5 (dG 1 rfl rfl rfl tf rfl (by first|exact Nat.le_of_ble_eq_true rfl|simp) ⟨(fun _=>wk [2,2,2] [0] rfl rfl), ?_⟩)
      refine bq<|al (ρ' :=[(53,_),(10,_),(43,_),(9,_),(37,_),(7,_),(6,_),(18,_),(5,_),(4,_),(3,_),(2,_),(0,_),(1,_)]) ⟨rfl,rfl,rfl,rfl,rfl,rfl,rfl,rfl,rfl,rfl,rfl,rfl,rfl,rfl,trivial⟩<|ak (X' :=[_,_,_,_,_]) (S' :=[_]) (fun _ m=>m)<|aQ<| ?_
      exact kX (lA l i q,i-q) (by show fO l i (u1,u2) q=_;unfold fO;rw[if_neg (by omega),if_pos (by show u1<_;omega)]) [1,0,0,0,0] rfl [0] rfl
     ·refine nV<|aQ<| ?_
      exact kX (u1,u2) (by show fO l i (u1,u2) q=_;unfold fO;rw[if_neg (by omega),if_neg (by show¬u1<_;omega)]) [0,0,0,0,0] rfl [0] rfl
   ·obtain⟨u1,u2⟩:=s_
    have ai:=oh e0 (by omega) hlt hs_
    have hu1:u1=(a6 l i).1:=congrArg Prod.fst ai
    have hu2:u2=(a6 l i).2:=congrArg Prod.snd ai
    refine ag<|ah<|cK [] [(0,some 0),(1,some 0),(2,some 0),(3,some 0)] (by kernel_rfl) (by kernel_rfl) rfl 99<|cd (fun m=>ar rfl eY (ax (m.aT 1 rfl) rfl))<|cd (fun m=>ar rfl eY (ax (m.aT 2 rfl) rfl))<|an (ab rfl)<|an (ab rfl)<|bq<|al (ρ' :=[(5,_),(4,_),(37,_),(7,_),(6,_),(18,_),(3,_),(2,_),(0,_),(1,_)]) ⟨rfl,rfl,rfl,rfl,rfl,rfl,rfl,rfl,rfl,rfl,trivial⟩<|ag<|aU<| ?_
    refine Dc trivial [0] rfl ?_
    refine ak (X' :=eK (fS es1)::_) (fun w m=>(Mem.mr (m.perm (av [5,5] _ [_,_] _ rfl))).jA (CM hj1)) ?_
    refine ak (X' :=mU g gm (some a) n c i es1::_) (fun w m=>(m.perm (av [5,6,0] _ [_,_,_] _ rfl)).pack) ?_
    exact ub trivial rfl rfl rfl [0] rfl [] rfl ⟨i,es1,(by rw[←hu1,←hu2]),rfl,rfl,⟨Nat.le_refl _,hF1⟩⟩
end Go.Proofs.YtmibdabdlgmafaaGreatDoor
end
section
namespace Go.Eng
open Go.RowKit
theorem rb{P:Program}{Q:Exit→Act→World→Prop}{ι:Type}{c rest:Code}(l:Nat)(J:ι→Act→World→Prop)(μ:ι→Nat)(hf:findLabel c l=some rest){a:Act}{w:World}
  (first:c.wp P (Exit.jump l (fun a w=>∃j,J j a w) Q) a w)
  (pass:∀i a w,J i a w→rest.wp P (Exit.jump l (fun a' w' =>∃j,J j a' w' ∧μ j<μ i) Q) a w):(Code.scope c).wp P Q a w:=by
 intro b k cs
 have hg:gotoIn l (.inScope c::k)=some (.code rest:: .inScope c::k):=by simp[gotoIn,hf]
 have key:∀n i a w,μ i=n→J i a w→∃e a' w',Q e a' w' ∧Arrives P (lone (b.at a (.code rest:: .inScope c::k)) cs w) b k cs e a' w' :=by
  intro n
  induction n using Nat.strongRecOn with
  |_ n ih=>
   intro i a w hn hJ
   obtain⟨e,a₁,w₁,hq,harr⟩:=pass i a w hJ b (.inScope c::k) cs
   cases e with
   |normal=>exact⟨.normal,a₁,w₁,hq,Steps.trans harr (.one step_inScope)⟩
   |exit id=>exact⟨.exit id,a₁,w₁,hq,fun k' hk=>harr k' (by simp[exitTo,hk])⟩
   |goto l' =>
    obtain⟨rfl,j,hJ',hlt⟩:=hq
    obtain⟨e₂,a₂,w₂,hq₂,harr₂⟩:=ih _ (by omega) j a₁ w₁ rfl hJ'
    exact⟨e₂,a₂,w₂,hq₂,.of_steps (harr _ hg) harr₂⟩
   |ret=>exact⟨_,a₁,w₁,hq,harr⟩
   |panic ch=>exact⟨_,a₁,w₁,hq,harr⟩
   |outgrown=>exact⟨_,a₁,w₁,hq,harr⟩
 obtain⟨e,a₁,w₁,hq,harr⟩:=first b (.inScope c::k) cs
 cases e with
 |normal=>exact⟨.normal,a₁,w₁,hq,.head step_scope (Steps.trans harr (.one step_inScope))⟩
 |exit id=>exact⟨.exit id,a₁,w₁,hq,fun k' hk=>.head step_scope (harr k' (by simp[exitTo,hk]))⟩
 |goto l' =>
  obtain⟨rfl,j,hJ'⟩:=hq
  obtain⟨e₂,a₂,w₂,hq₂,harr₂⟩:=key _ j a₁ w₁ rfl hJ'
  exact⟨e₂,a₂,w₂,hq₂,.of_steps (.head step_scope (harr _ hg)) harr₂⟩
 |ret=>exact⟨_,a₁,w₁,hq,.of_steps (.one step_scope) harr⟩
 |panic ch=>exact⟨_,a₁,w₁,hq,.of_steps (.one step_scope) harr⟩
 |outgrown=>exact⟨_,a₁,w₁,hq,.of_steps (.one step_scope) harr⟩
section
variable{P:Program}{Q:Exit→Act→World→Prop}{N:Nat}{D:List Deferred}{ρ:Env}{b:cG}{X S:List bh}{c:Code}
theorem CN{ι:Type}{l:Nat}{rest:Code}(μ:ι→Nat)(R:ι→Env)(X1 S1:ι→List bh)(I:ι→Prop)(ρk:Env)(Xr Sr:List bh)(hf:findLabel c l=some rest)
  (first:HC P (Exit.jump l (fun a' w' =>∃j,Ag N D (R j++ρk) a' ∧Mem b (X1 j++Xr) (S1 j++Sr) w' ∧I j) Q) N D c ρ b X S)
  (pass:∀i,I i→HC P (Exit.jump l (fun a' w' =>∃j,Ag N D (R j++ρk) a' ∧Mem b (X1 j++Xr) (S1 j++Sr) w' ∧I j∧μ j<μ i) Q) N D rest (R i++ρk) b (X1 i++Xr) (S1 i++Sr)):HC P Q N D (.scope c) ρ b X S:=fun w m a ha=>
 rb l (fun j a' w' =>Ag N D (R j++ρk) a' ∧Mem b (X1 j++Xr) (S1 j++Sr) w' ∧I j) μ hf (first w m a ha)
  (fun i a' w' h=>Code.wp_mono (fun e a' w' q=>by
   cases e <;> first|exact q|(obtain⟨h0,j,h1,h2,h3,h4⟩:=q;exact⟨h0,j,⟨h1,h2,h3⟩,h4⟩)) (pass i h.2.2 w' h.2.1 a' h.1))
theorem wS{l:Nat}(h:HQ Q N D (.goto l) ρ b X S):HC P Q N D (.goto l) ρ b X S:=fun w m a ha=>wp_goto (h w m a ha)
theorem tw{K:Act→World→Prop}{l:Nat}(h:HQ Q N D (.goto l) ρ b X S):HQ (Exit.then K Q) N D (.goto l) ρ b X S:=h
theorem vK{l:Nat}{J:Act→World→Prop}(h:HQ Q N D .ret ρ b X S):HQ (Exit.jump l J Q) N D .ret ρ b X S:=h
theorem BX{l:Nat}{J:Act→World→Prop}{r:Code}(h:HQ (Exit.jump l J Q) N D (.goto l) ρ b X S)(k:∀a w,J a w→r.wp P (Exit.jump l J Q) a w):HC P (Exit.jump l J Q) N D (.seq (.label l) r) ρ b X S:=fun w m a ha=>wp_seq (wp_label (k a w (h w m a ha).2))
theorem AK{α:Type}{l:Nat}{rest:Code}(μ:α→Nat)(R:α→Env)(X1 S1:α→List bh)(I:α→Prop)(ρk:Env)(Xr Sr:List bh)(hf:findLabel c l=some rest)
  (first:HC P (Exit.jump l (fun a' w' =>∃x,Ag N D (R x++ρk) a' ∧Mem b (X1 x++Xr) (S1 x++Sr) w' ∧I x) Q) N D c ρ b X S)
  (pass:∀a,I a→HC P (Exit.jump l (fun a' w' =>∃x,Ag N D (R x++ρk) a' ∧Mem b (X1 x++Xr) (S1 x++Sr) w' ∧I x∧μ x<μ a) Q) N D rest (R a++ρk) b (X1 a++Xr) (S1 a++Sr)):HC P Q N D (.scope c) ρ b X S:=
 CN (ι:=α) (fun i=>μ i) (fun i=>R i) (fun i=>X1 i) (fun i=>S1 i) (fun i=>I i) ρk Xr Sr hf
  (fun w m a ha=>Code.wp_mono (fun e a' w' q=>by
   cases e <;> first|exact q|(obtain⟨h0,x,h⟩:=q;exact⟨h0,x,h⟩)) (first w m a ha))
  (fun i hi w m a ha=>Code.wp_mono (fun e a' w' q=>by
   cases e <;> first|exact q|(obtain⟨h0,x,h⟩:=q;exact⟨h0,x,h⟩)) (pass i hi w m a ha))
theorem yh{α:Type}{l:Nat}{r:Code}(μ:α→Nat)(R:α→Env)(X1 S1:α→List bh)(I:α→Prop)(ρk:Env)(hk:e8 ρk ρ)(is:List Nat){Xt Xr:List bh}(hX:bX is X=some (Xt,Xr))(hf:findLabel c l=some (.seq .skip r))
  (pass:∀a,I a→HC P (Exit.jump l (fun a' w' =>∃x,Ag N D (R x++ρk) a' ∧Mem b (X1 x++Xr) (S1 x++S) w' ∧I x∧μ x<μ a) Q) N D r (R a++ρk) b (X1 a++Xr) (S1 a++S))
  (first:(∀a w,(∃x,Ag N D (R x++ρk) a∧Mem b (X1 x++Xr) (S1 x++S) w∧I x)→r.wp P (Exit.jump l (fun a' w' =>∃x,Ag N D (R x++ρk) a' ∧Mem b (X1 x++Xr) (S1 x++S) w' ∧I x) Q) a w)→
   HC P (Exit.jump l (fun a' w' =>∃x,Ag N D (R x++ρk) a' ∧Mem b (X1 x++Xr) (S1 x++S) w' ∧I x) Q) N D c ρ b X S):HC P Q N D (.scope c) ρ b X S:=
 AK (l:=l) (rest:=.seq .skip r) μ R X1 S1 I ρk Xr S hf
  (first fun a w h=>by
   obtain⟨x,h1,h2,h3⟩:=h
   exact Code.wp_mono (fun e a' w' q=>by
    cases e <;> first|exact q|(obtain⟨h0,x_,g1,g2,g3,g4⟩:=q;exact⟨h0,x_,g1,g2,g3⟩)) (pass x h3 w h2 a h1))
  (fun a h=>fun w m a9 ha=>wp_seq (wp_skip (pass a h w m a9 ha)))
theorem wX{α:Type}{l M:Nat}{μ:α→Nat}{R:α→Env}{X1 S1:α→List bh}{Xr Sr:List bh}{ρ0:Env}{I:α→Prop}(x:α)(hs:e8 (R x++ρ0) ρ)(is:List Nat){Xz:List bh}(hX:bX is X=some (X1 x++Xr,Xz))(js:List Nat)(hS:dN js S=some (S1 x++Sr))(hI:I x)(hlt:μ x<M):
  HQ (Exit.jump l (fun a' w' =>∃x,Ag N D (R x++ρ0) a' ∧Mem b (X1 x++Xr) (S1 x++Sr) w' ∧I x∧μ x<M) Q) N D (.goto l) ρ b X S:=
 fun w m a ha=>⟨rfl,x,ha.sub hs.sub,((m.perm (av _ _ _ _ hX)).kI).lC (cy _ _ _ hS),hI,hlt⟩
theorem CT{α:Type}{l:Nat}{R:α→Env}{X1 S1:α→List bh}{Xr Sr:List bh}{ρ0:Env}{I:α→Prop}(x:α)(hs:e8 (R x++ρ0) ρ)(is:List Nat){Xz:List bh}(hX:bX is X=some (X1 x++Xr,Xz))(js:List Nat)(hS:dN js S=some (S1 x++Sr))(hI:I x):
  HQ (Exit.jump l (fun a' w' =>∃x,Ag N D (R x++ρ0) a' ∧Mem b (X1 x++Xr) (S1 x++Sr) w' ∧I x) Q) N D (.goto l) ρ b X S:=
 fun w m a ha=>⟨rfl,x,ha.sub hs.sub,((m.perm (av _ _ _ _ hX)).kI).lC (cy _ _ _ hS),hI⟩
end
end Go.Eng
end
section
set_option maxRecDepth 20000
set_option maxHeartbeats 2000000
namespace Go.Proofs.YtmibdabdlgmafaaGreatDoor
open Go.Eng Go.Hx
theorem DC{g0 g1:Nat}{A1 A2:Option Addr}{c1 c2:Nat}{own out:List UInt8}(hlen:out.length+2*own.length≤4000000000):cj Tryz.prog 230 [.pointer (some ⟨g0,0,none⟩),.pointer (some ⟨g1,0,none⟩)] [aG g0 27 [.slice A1 own.length c1],aH 5 1 (.slice A1 own.length c1) own.length (aZ own),aG g1 27 [.slice A2 out.length c2],aH 5 1 (.slice A2 out.length c2) out.length (aZ out)] [] (fun v_ X_ S_=>∃A3 A4 c3 c4,v_=(.tuple #[])∧X_=[aG g0 27 [.slice A3 0 c3],aH 5 1 (.slice A3 0 c3) 0 [],aG g1 27 [.slice A4 (out++eC own).length c4],aH 5 1 (.slice A4 (out++eC own).length c4) (out++eC own).length (aZ (out++eC own))]∧S_=[]):=by
 obtain⟨o0,ho0⟩:∃o0,o0=out++eC own:=⟨_,rfl⟩
 rw[←ho0]
 refine aO (N:=22) Tryz.func230 rfl rfl (by simp) fun b=> ?_
 refine aN<| ?_
 refine o1 (fun own out A1 c1 A2 c2=>own.length) (fun own out A1 c1 A2 c2=>[]) (fun own out A1 c1 A2 c2=>[aG g0 27 [.slice A1 own.length c1],aH 5 1 (.slice A1 own.length c1) own.length (aZ own),aG g1 27 [.slice A2 out.length c2],aH 5 1 (.slice A2 out.length c2) out.length (aZ out)]) (fun own out A1 c1 A2 c2=>[]) (fun own out A1 c1 A2 c2=>out.length+2*own.length≤4000000000∧out++eC own=o0) own out A1 c1 A2 c2 [(0,_),(1,_)] ⟨rfl,rfl,trivial⟩ [0,0,0,0] rfl [] rfl (⟨hlen,ho0.symm⟩) trivial (fun own out A1 c1 A2 c2 ⟨hlen,hE⟩=> ?_)
 refine ah<|ah<|aj<|hy (fun m=>ar rfl dY (ax (m.aT 0 rfl) rfl))<|hy (fun _=>aR rfl Tryz.underlying27)<|hy (fun _=>cW rfl rfl)<|ai<|al (ρ' :=[(5,_),(0,_),(1,_)]) ⟨rfl,rfl,rfl,trivial⟩<|ag<| ?_
 refine cL rfl (fun h0=> ?_) (fun h0=> ?_)
 ·have hne:own≠ []:=fun e=>by rw[e]at h0;exact absurd h0 (by decide)
  rw[kK hne]at hE
  obtain⟨k,hk⟩:∃k,k=min own.length 128:=⟨_,rfl⟩
  have hk1:1≤k∧k≤128∧k≤own.length:=by omega
  rw[←hk]at hE
  have htk:own.take 128=own.take k:=by
   rcases Nat.lt_or_ge own.length 128 with h|h
   ·rw[List.take_of_length_le (by omega),List.take_of_length_le (by omega)]
   ·rw[show k=128 by omega]
  have hdk:own.drop 128=own.drop k:=by
   rcases Nat.lt_or_ge own.length 128 with h|h
   ·rw[List.drop_of_length_le (by omega),List.drop_of_length_le (by omega)]
   ·rw[show k=128 by omega]
  rw[htk,hdk]at hE
  refine ba (fun m=>(Own.rd (m.own 1 rfl)).2.1) fun hc1=> ?_
  refine aB<|ag<|aN<|ah<|aj<|hy (fun m=>ar rfl dY (ax (m.aT 0 rfl) rfl))<|hy (fun _=>aR rfl Tryz.underlying27)<|hy (fun _=>yV (ln rfl rfl) ((show Value.int .i64 _= .int .i64 (k:Nat) by congr 1;omega)))<|hy (fun _=>ab rfl)<|ai<|al (ρ' :=[(2,_),(5,_),(0,_),(1,_)]) ⟨rfl,rfl,rfl,rfl,trivial⟩<|ag<|ah<|rS [0,0,0] [] rfl rfl [4,5,9,10] [(0,some 1),(1,some 3),(2,some 0),(3,some 0),(6,some 2),(7,some 2),(8,some 2),(4,none),(5,none),(9,none),(10,none)] (by kernel_rfl) (by kernel_rfl) rfl 3<|cd (fun m=>ar rfl dY (ax (m.aT 2 rfl) rfl))<|an (aa rfl)<|an (yV (cm rfl rfl (bA (by omega) (by omega))) ((show Value.int .i64 ((k:Int)-1)= .int .i64 ((k-1:Nat):Int) by congr 1;omega)))<|an (yV (bU rfl Tryz.underlying3 Tryz.underlying5 (gV (k-1))) ((show Value.int .u8 _=B8 (UInt8.ofNat (k-1))from rfl)))<|cd (fun m=>ar rfl dY (ax (m.aT 0 rfl) rfl))<|an (aa rfl)<|an (jS rfl rfl Tryz.underlying27 eg rfl (by omega))<| ?_
  refine ee (b8 Tryz.underlying27 eO rfl rfl rfl (by simp[Value.cells,B8]) (by decide) (by decide) (fun g13=>⟨(fun _=>wk [1,1,1] [] rfl rfl), ?_⟩))
  have hA_b13:0<1→(some (⟨g13,0,none⟩:Addr))≠none:=fun _ h=>by cases h
  refine ee (bB 4 rfl rfl rfl Tryz.underlying27 Tryz.underlying27 (by exact .inl rfl) eO rfl (fun m=>Src.bT (m.ord 0 rfl)) (aY (l:=[UInt8.ofNat (k-1)])) (by unfold maxLen;omega) (by omega) (fun u=>⟨(fun _=>wk [2,2,2] [] rfl rfl), ?_⟩))
  refine cf (fun m=>(m.own 0 rfl).slice) ?_
  rintro⟨A_y,c_y,rfl,hc_y⟩
  refine cf (fun m=>(m.ord 0 rfl).2.1) fun hA_y=> ?_
  refine ee (bB 0 rfl rfl rfl Tryz.underlying27 Tryz.underlying27 (by exact .inl rfl) eO rfl (fun m=>Src.bT (Rd.Bp (m.ord 3 rfl) hk1.2.2)) aY (by unfold maxLen;omega) (by omega) (fun u2=>⟨(fun _=>wk [2,2,2] [] rfl rfl), ?_⟩))
  refine cf (fun m=>(m.own 0 rfl).slice) ?_
  rintro⟨A_y2,c_y2,rfl,hc_y⟩
  refine cf (fun m=>(m.ord 0 rfl).2.1) fun hA_y=> ?_
  refine j5 (dG 4 rfl rfl rfl nM rfl (by first|exact Nat.le_of_ble_eq_true rfl|simp) ⟨(fun h=>absurd h (by decide)), ?_⟩)
  refine bq<|al (ρ' :=[(2,_),(5,_),(0,_),(1,_)]) ⟨rfl,rfl,rfl,rfl,trivial⟩<|ak (X' :=[_,_,_,_,_]) (S' :=[]) (fun _ m=>m)<|ag<|aj<|hy (fun m=>ar rfl dY (ax (m.aT 3 rfl) rfl))<|hy (fun _=>aa rfl)<|hy (fun _=>dQ rfl rfl Tryz.underlying27 eg rfl (by omega))<| ?_
  refine cI (dG 3 rfl rfl rfl nM rfl (by first|exact Nat.le_of_ble_eq_true rfl|simp) ?_)
  refine ai<|al (ρ' :=[(2,_),(5,_),(0,_),(1,_)]) ⟨rfl,rfl,rfl,rfl,trivial⟩<|ak (X' :=[_,_,_,_,_]) (S' :=[]) (fun _ m=>m)<|aQ<| ?_
  refine ak (X' :=aH 5 1 (.slice (if c1=k then A1 else A1.map (·.add (k*1))) (own.length-k) (c1-k)) (own.length-k) ((aZ own).drop (k*1))::_) (fun w m=>(m.perm (av [4] _ [_] _ rfl)).yJ (View.qH hk1.2.2 hc1)) ?_
  have hdl:own.length-k=(own.drop k).length:=by rw[List.length_drop]
  have hol:out.length+1+k=(out++(UInt8.ofNat (k-1)::own.take k)).length:=by simp;omega
  rw[hdl,hol]
  refine ak (fun w m=>m.bM 0 rfl (show _=aH 5 1 (.slice (if c1=k then A1 else A1.map (·.add (k*1))) (own.drop k).length (c1-k)) (own.drop k).length (aZ (own.drop k))from congrArg (aH _ _ _ _) (by rw[Nat.mul_one,oM]))) ?_
  refine ak (fun w m=>m.bM 3 rfl (show _=aH 5 1 (.slice A_y2 (out++(UInt8.ofNat (k-1)::own.take k)).length c_y2) (out++(UInt8.ofNat (k-1)::own.take k)).length (aZ (out++(UInt8.ofNat (k-1)::own.take k)))from congrArg (aH _ _ _ _) (show aZ out++aZ [UInt8.ofNat (k-1)]++aZ (own.take k)=_ by rw[←bD,←bD,List.append_assoc];rfl))) ?_
  refine eW (own.drop k) (out++(UInt8.ofNat (k-1)::own.take k)) _ _ _ _ ⟨rfl,rfl,trivial⟩ [2,1,1,0] rfl [] rfl (⟨by rw[←hdl,←hol];omega,by rw[←hE];simp⟩) (by rw[←hdl];omega)
 ·have hne:own=[]:=List.eq_nil_of_length_eq_zero (by omega)
  rw[hne,lS,List.append_nil]at hE
  subst hne
  subst hE
  refine bP<|au<|au<|aC<| ?_
  exact fv trivial rfl [0,0,0,0] rfl [] rfl ⟨_,_,_,_,rfl,rfl,rfl⟩
structure AG where
 g:Nat
 gm:Nat
 g4:Nat
 g5:Nat
 i:Nat
 p:Nat
 c1:Nat
 c2:Nat
 A1:Option Addr
 A2:Option Addr
 own:List UInt8
 out:List UInt8
 es:tu
theorem C8{A:Option Addr}{n c:Nat}{l:List UInt8}(hc:n≤c)(hn:n≤500000000)(hl:l.length=n):cj Tryz.prog 178 [.slice A n c] [] [dr 1 A n (aZ l)] (fun v_ X_ S_=>∃v,v_=v∧X_=[aH 5 1 v (eF l).length (aZ (eF l))]∧S_=[]):=by
 refine aO (N:=56) Tryz.func178 rfl rfl (by simp) fun b=> ?_
 refine ba (fun m=>gK (m.rd 0 rfl)) ?_
 rintro⟨hl_r,hA_r⟩
 refine ah<|aj<|hy (fun _=>ab rfl)<|ai<|ag<| ?_
 refine yh (l:=0) (fun(t:AG)=>n-t.i) (fun(t:AG)=>[(7,.int .i64 (t.i:Nat)),(3,.pointer (some ⟨t.g,0,none⟩)),(4,.pointer (some ⟨t.g4,0,none⟩)),(5,.pointer (some ⟨t.g5,0,none⟩)),(6,.func (.func 230) #[] #[.pointer (some ⟨t.g5,0,none⟩),.pointer (some ⟨t.g4,0,none⟩)])]) (fun(t:AG)=>[mU t.g t.gm A n c t.p t.es,aG t.g5 27 [.slice t.A1 t.own.length t.c1],aH 5 1 (.slice t.A1 t.own.length t.c1) t.own.length (aZ t.own),aG t.g4 27 [.slice t.A2 t.out.length t.c2],aH 5 1 (.slice t.A2 t.out.length t.c2) t.out.length (aZ t.out)]) (fun(t:AG)=>[]) (fun(t:AG)=>t.i≤n∧t.p≤t.i∧wx l t.p t.es∧t.out.length+2*t.own.length≤2*t.i∧gD l t.i t.own t.out=eF l) [(0,_)] ⟨rfl,trivial⟩ [] rfl rfl (fun t ⟨hin,hpi,hF,hlen,hE⟩=> ?_) (fun hfall_=> ?_)
 ·obtain⟨g,gm,g4,g5,i,p,c1,c2,A1,A2,own,out,es⟩:=t
  dsimp only at hin hpi hF hlen hE ⊢
  refine ah<|ah<|aj<|hy (fun _=>aa rfl)<|hy (fun _=>aa rfl)<|hy (fun _=>aR rfl Tryz.underlying27)<|hy (fun _=>b7 rfl rfl)<|ai<|al (ρ' :=[(16,_),(7,_),(3,_),(4,_),(5,_),(6,_),(0,_)]) ⟨rfl,rfl,rfl,rfl,rfl,rfl,rfl,trivial⟩<|ag<| ?_
  refine sv rfl (fun hfin=> ?_) (fun hfin=> ?_)
  ·have hi:i=n:=by have:=of_decide_eq_true hfin;omega
   rw[kL (by omega)]at hE
   refine ah<|aj<|hy (fun _=>aa rfl)<| ?_
   refine hx (kq rfl rfl Tryz.call230 (DC (by omega)) [1,1,1,1] rfl [] rfl ?_)
   rintro _ _ _ ⟨A3,A4,c3,c4,rfl,rfl,rfl⟩
   rw[hE]
   refine ai<|al (ρ' :=[(16,_),(7,_),(3,_),(4,_),(5,_),(6,_),(0,_)]) ⟨rfl,rfl,rfl,rfl,rfl,rfl,rfl,trivial⟩<|ak (X' :=[_,_,_,_,_]) (S' :=[_]) (fun _ m=>m)<|ag<|ah<|aj<|hy (fun m=>ar rfl dY (ax (m.aT 2 rfl) rfl))<|hy (fun _=>ab rfl)<|ai<|al (ρ' :=[(2,_),(16,_),(7,_),(3,_),(4,_),(5,_),(6,_),(0,_)]) ⟨rfl,rfl,rfl,rfl,rfl,rfl,rfl,rfl,trivial⟩<|ag<|aU<|aw<|vK<| ?_
   exact bc trivial rfl rfl [3] rfl [] rfl ⟨_,rfl,rfl,rfl⟩
  ·have hi:i<n:=by have:=of_decide_eq_false hfin;omega
   refine aB<|ag<|ah<|aj<|hy (fun _=>aa rfl)<|hy (fun _=>aa rfl)<| ?_
   refine hx (ao rfl Tryz.call231 (Cz (by omega) (by omega) hl (by omega) (by omega) hF) [0] rfl [0] rfl ?_)
   rintro _ _ _ ⟨p1,es1,rfl,rfl,rfl,hp⟩
   obtain⟨hp1,hF1⟩:=hp
   refine hy (fun _=>aa rfl)<|hy (fun _=>aq rfl rfl)<|hy (fun _=>aq rfl rfl)<|hy (fun _=>ab rfl)<|hy (fun _=>ab rfl)<|ai<|al (ρ' :=[(9,_),(8,_),(16,_),(7,_),(3,_),(4,_),(5,_),(6,_),(0,_)]) ⟨rfl,rfl,rfl,rfl,rfl,rfl,rfl,rfl,rfl,trivial⟩<|ak (X' :=[_,_,_,_,_]) (S' :=[_]) (fun _ m=>m)<|ag<|ah<|ah<|aj<|hy (fun _=>aa rfl)<|hy (fun _=>b7 rfl rfl)<|ai<|al (ρ' :=[(27,_),(9,_),(8,_),(16,_),(7,_),(3,_),(4,_),(5,_),(6,_),(0,_)]) ⟨rfl,rfl,rfl,rfl,rfl,rfl,rfl,rfl,rfl,rfl,trivial⟩<|ag<| ?_
   refine cL rfl (fun h0=> ?_) (fun h0=> ?_)
   ·rw[kY (by omega) (by omega)]at hE
    refine ah<|rS [0,0,1,1] [0] rfl rfl [5,6,7] [(0,some 1),(1,some 0),(2,some 0),(3,some 0),(4,some 0),(5,none),(6,none),(7,none)] (by kernel_rfl) (by kernel_rfl) rfl 2<|cd (fun m=>ar rfl dY (ax (m.aT 1 rfl) rfl))<|an (aa rfl)<|an (aa rfl)<|an (aK rfl rfl Tryz.underlying27 eg hA_r rfl (by omega))<|cd (fun m=>ar rfl iN ((m.rd 0 rfl).cell (bJ (by omega))))<| ?_
    refine ee (b8 Tryz.underlying27 eO rfl rfl rfl (by simp[Value.cells,B8]) (by decide) (by decide) (fun g33=>⟨(fun _=>wk [1,1,2,2] [0] rfl rfl), ?_⟩))
    have hA_b33:0<1→(some (⟨g33,0,none⟩:Addr))≠none:=fun _ h=>by cases h
    refine jz (fun w m=>m.bM 0 rfl (show _=aH 5 1 (.slice (some ⟨g33,0,none⟩) 1 1) 1 (aZ [l.getD i 0])from rfl)) ?_
    refine ee (bB 3 rfl rfl rfl Tryz.underlying27 Tryz.underlying27 (by exact .inl rfl) eO rfl (fun m=>Src.bT (m.ord 0 rfl)) aY (by unfold maxLen;omega) (by omega) (fun u=>⟨(fun _=>wk [2,2,2,2] [0] rfl rfl), ?_⟩))
    refine cf (fun m=>(m.own 0 rfl).slice) ?_
    rintro⟨A_x,c_x,rfl,hc_x⟩
    refine cf (fun m=>(m.ord 0 rfl).2.1) fun hA_x=> ?_
    refine j5 (dG 3 rfl rfl rfl nM rfl (by first|exact Nat.le_of_ble_eq_true rfl|simp) ⟨(fun h=>absurd h (by decide)), ?_⟩)
    refine bq<|al (ρ' :=[(27,_),(9,_),(8,_),(16,_),(7,_),(3,_),(4,_),(5,_),(6,_),(0,_)]) ⟨rfl,rfl,rfl,rfl,rfl,rfl,rfl,rfl,rfl,rfl,trivial⟩<|ak (X' :=[_,_,_,_,_,_]) (S' :=[_]) (fun _ m=>m)<|ag<|ah<|aj<|hy (fun _=>aa rfl)<|hy (fun _=>aJ rfl rfl (bA (by omega) (by omega)))<|hy (fun _=>ab rfl)<|ai<|al (ρ' :=[(7,_),(27,_),(9,_),(8,_),(16,_),(3,_),(4,_),(5,_),(6,_),(0,_)]) ⟨rfl,rfl,rfl,rfl,rfl,rfl,rfl,rfl,rfl,rfl,trivial⟩<|ag<|wS<|tw<| ?_
    have hol:own.length+1=(own++[l.getD i 0]).length:=by simp
    rw[hol]
    refine ak (fun w m=>m.bM 1 rfl (show _=aH 5 1 (.slice A_x (own++[l.getD i 0]).length c_x) (own++[l.getD i 0]).length (aZ (own++[l.getD i 0]))from congrArg (aH _ _ _ _) (bD _ _).symm)) ?_
    exact wX (⟨g,gm,g4,g5,i+1,p1,c_x,c2,A_x,A2,own++[l.getD i 0],out,es1⟩) ⟨rfl,rfl,rfl,rfl,rfl,rfl,trivial⟩ [3,1,0,1,1] rfl [0] rfl (⟨hi,Nat.le_succ_of_le hp1,hF1,by show out.length+2*(own++[l.getD i 0]).length≤2*(i+1);rw[←hol];omega,hE⟩) (by show n-(i+1)<n-i;omega)
   ·have hm:=k0 (b:=l) (i:=i) (by omega)
    rw[iT (by omega) (by omega)]at hE
    obtain⟨m1,m2,m3,m4,m5,m6⟩:=hm.resolve_left (fun e=>h0 (by rw[e];rfl))
    refine aB<|ag<|ah<|aj<|hy (fun _=>aa rfl)<| ?_
    refine hx (kq rfl rfl Tryz.call230 (DC (by omega)) [1,1,1,1] rfl [] rfl ?_)
    rintro _ _ _ ⟨A3,A4,c3,c4,rfl,rfl,rfl⟩
    refine ai<|al (ρ' :=[(27,_),(9,_),(8,_),(16,_),(7,_),(3,_),(4,_),(5,_),(6,_),(0,_)]) ⟨rfl,rfl,rfl,rfl,rfl,rfl,rfl,rfl,rfl,rfl,trivial⟩<|ak (X' :=[_,_,_,_,_]) (S' :=[_]) (fun _ m=>m)<|ag<|ah<|aj<|hy (fun m=>ar rfl dY (ax (m.aT 2 rfl) rfl))<|hy (fun _=>aa rfl)<|hy (fun _=>aJ rfl rfl (bA (by omega) (by omega)))<|hy (fun _=>yV (cm rfl rfl (bA (by omega) (by omega))) ((show Value.int .i64 (128+((a6 l i).1:Int)-4)= .int .i64 ((124+(a6 l i).1:Nat):Int) by congr 1;omega)))<|hy (fun _=>yV (bU rfl Tryz.underlying3 Tryz.underlying5 (gV _)) ((show Value.int .u8 _=B8 (UInt8.ofNat (124+(a6 l i).1))from rfl)))<|hy (fun _=>aa rfl)<|hy (fun _=>yV (cm rfl rfl (bA (by omega) (by omega))) ((show Value.int .i64 (((a6 l i).2:Int)-1)= .int .i64 (((a6 l i).2-1:Nat):Int) by congr 1;omega)))<|hy (fun _=>yV (bU rfl Tryz.underlying3 Tryz.underlying5 (gV _)) ((show Value.int .u8 _=B8 (UInt8.ofNat ((a6 l i).2-1))from rfl)))<|hy (fun _=>aa rfl)<|hy (fun _=>yV (cm rfl rfl (bA (by omega) (by omega))) ((show Value.int .i64 (((a6 l i).2:Int)-1)= .int .i64 (((a6 l i).2-1:Nat):Int) by congr 1;omega)))<|hy (fun _=>yV (ny (p:=256) rfl rfl (by decide) (by decide) (by decide)) ((show Value.int .i64 ((((a6 l i).2-1:Nat):Int)/256)= .int .i64 ((((a6 l i).2-1)/256:Nat):Int) by congr 1)))<|hy (fun _=>yV (bU rfl Tryz.underlying3 Tryz.underlying5 (gV _)) ((show Value.int .u8 _=B8 (UInt8.ofNat (((a6 l i).2-1)/256))from rfl)))<| ?_
    refine hx (b8 Tryz.underlying27 eO rfl rfl rfl (by simp[Value.cells,B8]) (by decide) (by decide) (fun g51=> ?_))
    have hA_b51:0<3→(some (⟨g51,0,none⟩:Addr))≠none:=fun _ h=>by cases h
    refine aL (fun w m=>m.bM 0 rfl (show _=aH 5 1 (.slice (some ⟨g51,0,none⟩) 3 3) 3 (aZ (fU (a6 l i)))from rfl)) ?_
    have hll:=fx own
    have hlo:(out++eC own).length=out.length+(eC own).length:=by simp
    refine hx (bB 4 rfl rfl rfl Tryz.underlying27 Tryz.underlying27 (by exact .inl rfl) eO rfl (fun m=>Src.bT (m.ord 0 rfl)) aY (by unfold maxLen;omega) (by omega) (fun u=> ?_))
    refine az (fun m=>(m.own 0 rfl).slice) ?_
    rintro⟨A_y,c_y,rfl,hc_y⟩
    refine az (fun m=>(m.ord 0 rfl).2.1) fun hA_y=> ?_
    refine cI (dG 4 rfl rfl rfl nM rfl (by first|exact Nat.le_of_ble_eq_true rfl|simp) ?_)
    refine ai<|al (ρ' :=[(27,_),(9,_),(8,_),(16,_),(7,_),(3,_),(4,_),(5,_),(6,_),(0,_)]) ⟨rfl,rfl,rfl,rfl,rfl,rfl,rfl,rfl,rfl,rfl,trivial⟩<|ak (X' :=[_,_,_,_,_,_]) (S' :=[_]) (fun _ m=>m)<|ag<|ah<|aj<|hy (fun _=>aa rfl)<|hy (fun _=>aa rfl)<|hy (fun _=>yV (aJ rfl rfl (bA (by omega) (by omega))) ((show Value.int .i64 ((i:Int)+((a6 l i).1:Int))= .int .i64 ((i+(a6 l i).1:Nat):Int) by congr 1)))<|hy (fun _=>ab rfl)<|ai<|al (ρ' :=[(7,_),(27,_),(9,_),(8,_),(16,_),(3,_),(4,_),(5,_),(6,_),(0,_)]) ⟨rfl,rfl,rfl,rfl,rfl,rfl,rfl,rfl,rfl,rfl,trivial⟩<|ag<|wS<| ?_
    have hol:(out++eC own).length+3=(out++eC own++fU (a6 l i)).length:=by simp[fU];omega
    rw[hol]
    refine ak (fun w m=>m.bM 1 rfl (show _=aH 5 1 (.slice A_y (out++eC own++fU (a6 l i)).length c_y) (out++eC own++fU (a6 l i)).length (aZ (out++eC own++fU (a6 l i)))from congrArg (aH _ _ _ _) (bD _ _).symm)) ?_
    exact wX (⟨g,gm,g4,g5,i+(a6 l i).1,p1,c3,c_y,A3,A_y,[],out++eC own++fU (a6 l i),es1⟩) ⟨rfl,rfl,rfl,rfl,rfl,rfl,trivial⟩ [5,3,3,1,0] rfl [0] rfl (⟨by show i+(a6 l i).1≤n;omega,by show p1≤i+(a6 l i).1;omega,hF1,by show(out++eC own++fU (a6 l i)).length+2*0≤2*(i+(a6 l i).1);rw[←hol];omega,hE⟩) (by show n-(i+(a6 l i).1)<n-i;omega)
 ·refine ah<|aj<|hy (fun _=>aa rfl)<| ?_
  refine hx (ao rfl Tryz.call229 (Ec) [] rfl [] rfl ?_)
  rintro _ _ _ ⟨g,gm,rfl,rfl,rfl⟩
  refine hy (fun _=>ab rfl)<|ai<|al (ρ' :=[(3,_),(2,_),(0,_)]) ⟨rfl,rfl,rfl,trivial⟩<|ak (X' :=[_]) (S' :=[_]) (fun _ m=>m)<|ag<|ah<|aj<| ?_
  refine hx (aM rH (fun g4=> ?_))
  refine hx (aM rH (fun g5=> ?_))
  refine ai<|ak (X' :=[_,_,_]) (S' :=[_]) (fun _ m=>m)<|ag<|ah<|aj<|hy (fun _=>gA rfl rfl)<|hy (fun _=>ab rfl)<|ai<|al (ρ' :=[(6,_),(5,_),(4,_),(3,_),(2,_),(0,_)]) ⟨rfl,rfl,rfl,rfl,rfl,rfl,trivial⟩<|ag<|ah<|aj<|hy (fun _=>ab rfl)<|ai<|ag<| ?_
  refine bu (fun w m=>m.bM 1 rfl (show _=aG g4 27 [.slice none 0 0]from rfl)) ?_
  refine bu (fun w m=>m.bM 1 rfl (show _=aG g5 27 [.slice none 0 0]from rfl)) ?_
  refine bu (fun w m=>m.dx (r' :=aH 5 1 (.slice none 0 0) 0 []) (.refl _ _) (Own.nil _ _ _ _) (fun k hk=>hk.elim)) ?_
  refine bu (fun w m=>m.dx (r' :=aH 5 1 (.slice none 0 0) 0 []) (.refl _ _) (Own.nil _ _ _ _) (fun k hk=>hk.elim)) ?_
  exact BX (CT (R:=fun(t:AG)=>[(7,.int .i64 (t.i:Nat)),(3,.pointer (some ⟨t.g,0,none⟩)),(4,.pointer (some ⟨t.g4,0,none⟩)),(5,.pointer (some ⟨t.g5,0,none⟩)),(6,.func (.func 230) #[] #[.pointer (some ⟨t.g5,0,none⟩),.pointer (some ⟨t.g4,0,none⟩)])]) (X1:=fun(t:AG)=>[mU t.g t.gm A n c t.p t.es,aG t.g5 27 [.slice t.A1 t.own.length t.c1],aH 5 1 (.slice t.A1 t.own.length t.c1) t.own.length (aZ t.own),aG t.g4 27 [.slice t.A2 t.out.length t.c2],aH 5 1 (.slice t.A2 t.out.length t.c2) t.out.length (aZ t.out)]) (S1:=fun(t:AG)=>[]) (I:=fun(t:AG)=>t.i≤n∧t.p≤t.i∧wx l t.p t.es∧t.out.length+2*t.own.length≤2*t.i∧gD l t.i t.own t.out=eF l) (⟨g,gm,g4,g5,0,0,0,0,none,none,[],[],[]⟩) ⟨rfl,rfl,rfl,rfl,rfl,rfl,trivial⟩ [4,2,1,1,0] rfl [0] rfl (⟨Nat.zero_le _,Nat.le_refl _,zt _,Nat.le_refl _,rfl⟩)) hfall_
end Go.Proofs.YtmibdabdlgmafaaGreatDoor
end
section
set_option maxRecDepth 20000
set_option maxHeartbeats 2000000
namespace Go.Proofs.YtmibdabdlgmafaaGreatDoor
open Go.Eng Go.Hx
theorem nQ{A:Option Addr}{n c:Nat}{l:List UInt8}(hn:n≤70368744177664):cj Tryz.prog 180 [.slice A n c] [] [dr 1 A n (aZ l)] (fun v_ X_ S_=>v_=(.int .u32 (cV l:Nat))∧X_=[]∧S_=[]):=by
 exact ff fun m=>Calls.mono (xr A n c l _ (m.rd 0 rfl) (by omega)) (fun e w' ⟨h,hf⟩=>⟨_,h,⟨rfl,rfl,rfl⟩,hf⟩)
theorem jC{k:Nat}(hk:k<4294967296):cj Tryz.prog 179 [.int .u32 (k:Nat)] [] [] (fun v_ X_ S_=>∃v,v_=v∧X_=[aH 5 1 v 4 (aZ (gz k))]∧S_=[]):=by
 refine aO (N:=15) Tryz.func179 rfl rfl (by simp) fun b=> ?_
 refine ah<|aj<|hy (fun _=>ab rfl)<|ai<|ag<|ah<|aj<|hy (fun _=>aa rfl)<|hy (fun _=>yV (bU rfl Tryz.underlying166 Tryz.underlying5 (gV _)) ((show Value.int .u8 _=B8 (UInt8.ofNat k)from rfl)))<|hy (fun _=>aa rfl)<|hy (fun _=>yV (ny (p:=256) rfl rfl (by decide) (by decide) (by decide)) ((show Value.int .u32 ((k:Int)/256)= .int .u32 ((k/256:Nat):Int) by congr 1)))<|hy (fun _=>yV (bU rfl Tryz.underlying166 Tryz.underlying5 (gV _)) ((show Value.int .u8 _=B8 (UInt8.ofNat (k/256))from rfl)))<|hy (fun _=>aa rfl)<|hy (fun _=>yV (ny (p:=65536) rfl rfl (by decide) (by decide) (by decide)) ((show Value.int .u32 ((k:Int)/65536)= .int .u32 ((k/65536:Nat):Int) by congr 1)))<|hy (fun _=>yV (bU rfl Tryz.underlying166 Tryz.underlying5 (gV _)) ((show Value.int .u8 _=B8 (UInt8.ofNat (k/65536))from rfl)))<|hy (fun _=>aa rfl)<|hy (fun _=>yV (ny (p:=16777216) rfl rfl (by decide) (by decide) (by decide)) ((show Value.int .u32 ((k:Int)/16777216)= .int .u32 ((k/16777216:Nat):Int) by congr 1)))<|hy (fun _=>yV (bU rfl Tryz.underlying166 Tryz.underlying5 (gV _)) ((show Value.int .u8 _=B8 (UInt8.ofNat (k/16777216))from rfl)))<| ?_
 refine hx (b8 Tryz.underlying27 eO rfl rfl rfl (by simp[Value.cells,B8]) (by decide) (by decide) (fun g14=> ?_))
 have hA_b14:0<4→(some (⟨g14,0,none⟩:Addr))≠none:=fun _ h=>by cases h
 refine hy (fun _=>ab rfl)<|ai<|al (ρ' :=[(2,_),(0,_)]) ⟨rfl,rfl,trivial⟩<|ak (X' :=[_]) (S' :=[]) (fun _ m=>m)<|ag<|aU<| ?_
 refine ak (fun w m=>m.bM 0 rfl (show _=aH 5 1 (.slice (some ⟨g14,0,none⟩) 4 4) 4 (aZ (gz k))from rfl)) ?_
 exact bc trivial rfl rfl [0] rfl [] rfl ⟨_,rfl,rfl,rfl⟩
theorem Dp{A:Option Addr}{n c:Nat}{l:List UInt8}(hc:n≤c)(hn:n≤100000000)(hl:l.length=n):cj Tryz.prog 106 [.slice A n c] [] [dr 1 A n (aZ l)] (fun v_ X_ S_=>∃v,v_=v∧X_=[aH 5 1 v (bI l).length (aZ (bI l))]∧S_=[]):=by
 have hpl:=mD l
 have hlt:n<4294967296:=by omega
 have hcl:=jk l
 refine aO (N:=31) Tryz.func106 rfl rfl (by simp) fun b=> ?_
 refine ba (fun m=>gK (m.rd 0 rfl)) ?_
 rintro⟨hl_r,hA_r⟩
 refine ah<|aj<|hy (fun _=>ab rfl)<|ai<|ag<|ah<|aj<|hy (fun _=>aa rfl)<|hy (fun _=>ab rfl)<|hy (fun _=>ab rfl)<|ai<|al (ρ' :=[(4,_),(3,_),(2,_),(0,_)]) ⟨rfl,rfl,rfl,rfl,trivial⟩<|ag<|ah<|ah<|aj<|hy (fun _=>aa rfl)<| ?_
 refine hx (ao rfl Tryz.call178 (C8 (by omega) (by omega) (by omega)) [] rfl [0] rfl ?_)
 rintro _ _ _ ⟨v,rfl,rfl,rfl⟩
 refine az (fun m=>(m.own 0 rfl).slice) ?_
 rintro⟨A_y,c_y,rfl,hc_y⟩
 refine az (fun m=>(m.ord 0 rfl).2.1) fun hA_y=> ?_
 refine hy (fun _=>ab rfl)<|ai<|al (ρ' :=[(5,_),(4,_),(3,_),(2,_),(0,_)]) ⟨rfl,rfl,rfl,rfl,rfl,trivial⟩<|ak (X' :=[_]) (S' :=[_]) (fun _ m=>m)<|ag<|ah<|aj<|hy (fun _=>aa rfl)<|hy (fun _=>aR rfl Tryz.underlying27)<|hy (fun _=>aa rfl)<|hy (fun _=>aR rfl Tryz.underlying27)<|hy (fun _=>br rfl rfl)<|ai<|al (ρ' :=[(14,_),(5,_),(4,_),(3,_),(2,_),(0,_)]) ⟨rfl,rfl,rfl,rfl,rfl,rfl,trivial⟩<|ag<| ?_
 refine cL rfl (fun hp=> ?_) (fun hp=> ?_)
 ·have hq:bI l=[76,1]++gz l.length++eF l++gz (cV l):=by
   have:tU l=true:=by unfold tU;exact decide_eq_true (by omega)
   unfold bI iL
   rw[this];rfl
  refine aj<|hy (fun _=>aa rfl)<|hy (fun _=>ab rfl)<|hy (fun _=>ab rfl)<|ai<|al (ρ' :=[(4,_),(3,_),(14,_),(5,_),(2,_),(0,_)]) ⟨rfl,rfl,rfl,rfl,rfl,rfl,trivial⟩<|ag<|ah<|aj<|hy (fun _=>aa rfl)<| ?_
  refine hx (b8 Tryz.underlying27 eO rfl rfl rfl (by simp[Value.cells,B8]) (by decide) (by decide) (fun g17=> ?_))
  have hA_b17:0<2→(some (⟨g17,0,none⟩:Addr))≠none:=fun _ h=>by cases h
  refine hy (fun _=>aa rfl)<|hy (fun _=>aR rfl Tryz.underlying27)<|hy (fun _=>bU rfl Tryz.underlying3 Tryz.underlying166 (uY (by omega) (by omega)))<| ?_
  refine hx (ao rfl Tryz.call179 (jC (by omega)) [] rfl [] rfl ?_)
  rintro _ _ _ ⟨v2,rfl,rfl,rfl⟩
  refine az (fun m=>(m.own 0 rfl).slice) ?_
  rintro⟨A_x,c_x,rfl,hc_x⟩
  refine az (fun m=>(m.ord 0 rfl).2.1) fun hA_x=> ?_
  refine aL (fun w m=>m.bM 1 rfl (show _=aH 5 1 (.slice (some ⟨g17,0,none⟩) 2 2) 2 (aZ [76,1])from rfl)) ?_
  refine hx (bB 0 rfl rfl rfl Tryz.underlying27 Tryz.underlying27 (by exact .inl rfl) eO rfl (fun m=>Src.bT (m.ord 1 rfl)) aY (by unfold maxLen;omega) (by omega) (fun u=> ?_))
  refine az (fun m=>(m.own 0 rfl).slice) ?_
  rintro⟨A_b17,c_b17,rfl,hc_b17⟩
  refine az (fun m=>(m.ord 0 rfl).2.1) fun hA_b17=> ?_
  refine hy (fun _=>ab rfl)<|ai<|al (ρ' :=[(6,_),(4,_),(3,_),(14,_),(5,_),(2,_),(0,_)]) ⟨rfl,rfl,rfl,rfl,rfl,rfl,rfl,trivial⟩<|ak (X' :=[_,_,_]) (S' :=[_]) (fun _ m=>m)<|ag<|ah<|aj<|hy (fun _=>aa rfl)<|hy (fun _=>aa rfl)<| ?_
  refine hx (bB 0 rfl rfl rfl Tryz.underlying27 Tryz.underlying27 (by exact .inl rfl) eO rfl (fun m=>Src.bT (m.ord 2 rfl)) aY (by unfold maxLen;omega) (by omega) (fun u2=> ?_))
  refine az (fun m=>(m.own 0 rfl).slice) ?_
  rintro⟨A_b172,c_b172,rfl,hc_b17⟩
  refine az (fun m=>(m.ord 0 rfl).2.1) fun hA_b17=> ?_
  refine hy (fun _=>ab rfl)<|ai<|al (ρ' :=[(6,_),(4,_),(3,_),(14,_),(5,_),(2,_),(0,_)]) ⟨rfl,rfl,rfl,rfl,rfl,rfl,rfl,trivial⟩<|ak (X' :=[_,_,_]) (S' :=[_]) (fun _ m=>m)<|ag<|ah<|aj<|hy (fun _=>aa rfl)<|hy (fun _=>aa rfl)<| ?_
  refine hx (ao rfl Tryz.call180 (nQ (by omega)) [] rfl [0] rfl ?_)
  rintro _ _ _ ⟨rfl,rfl,rfl⟩
  refine hx (ao rfl Tryz.call179 (jC (by omega)) [] rfl [] rfl ?_)
  rintro _ _ _ ⟨v3,rfl,rfl,rfl⟩
  refine az (fun m=>(m.own 0 rfl).slice) ?_
  rintro⟨A_x2,c_x2,rfl,hc_x2⟩
  refine az (fun m=>(m.ord 0 rfl).2.1) fun hA_x2=> ?_
  refine hx (bB 1 rfl rfl rfl Tryz.underlying27 Tryz.underlying27 (by exact .inl rfl) eO rfl (fun m=>Src.bT (m.ord 0 rfl)) aY (by unfold maxLen;omega) (by omega) (fun u3=> ?_))
  refine az (fun m=>(m.own 0 rfl).slice) ?_
  rintro⟨A_b173,c_b173,rfl,hc_b17⟩
  refine az (fun m=>(m.ord 0 rfl).2.1) fun hA_b17=> ?_
  refine hy (fun _=>ab rfl)<|ai<|al (ρ' :=[(2,_),(6,_),(4,_),(3,_),(14,_),(5,_),(0,_)]) ⟨rfl,rfl,rfl,rfl,rfl,rfl,rfl,trivial⟩<|ak (X' :=[_,_,_,_]) (S' :=[_]) (fun _ m=>m)<|ag<|aU<| ?_
  have hol:2+4+(eF l).length+4=(bI l).length:=by rw[hq];simp[fk,hl];try omega
  rw[hol]
  have hsl:aZ [76,1]++aZ (gz n)++aZ (eF l)++aZ (gz (cV l))=aZ (bI l):=by rw[hq,hl,bD,bD,bD]
  rw[hsl]
  exact bc trivial rfl rfl [0] rfl [] rfl ⟨_,rfl,rfl,rfl⟩
 ·have hq:bI l=[76,0]++gz l.length++l++gz (cV l):=by
   have:tU l=false:=by unfold tU;exact decide_eq_false (by omega)
   unfold bI iL
   rw[this];rfl
  refine aB<|ag<|ah<|aj<|hy (fun _=>aa rfl)<| ?_
  refine hx (b8 Tryz.underlying27 eO rfl rfl rfl (by simp[Value.cells,B8]) (by decide) (by decide) (fun g17=> ?_))
  have hA_b17:0<2→(some (⟨g17,0,none⟩:Addr))≠none:=fun _ h=>by cases h
  refine hy (fun _=>aa rfl)<|hy (fun _=>aR rfl Tryz.underlying27)<|hy (fun _=>bU rfl Tryz.underlying3 Tryz.underlying166 (uY (by omega) (by omega)))<| ?_
  refine hx (ao rfl Tryz.call179 (jC (by omega)) [] rfl [] rfl ?_)
  rintro _ _ _ ⟨v2,rfl,rfl,rfl⟩
  refine az (fun m=>(m.own 0 rfl).slice) ?_
  rintro⟨A_x,c_x,rfl,hc_x⟩
  refine az (fun m=>(m.ord 0 rfl).2.1) fun hA_x=> ?_
  refine aL (fun w m=>m.bM 1 rfl (show _=aH 5 1 (.slice (some ⟨g17,0,none⟩) 2 2) 2 (aZ [76,0])from rfl)) ?_
  refine hx (bB 0 rfl rfl rfl Tryz.underlying27 Tryz.underlying27 (by exact .inl rfl) eO rfl (fun m=>Src.bT (m.ord 1 rfl)) aY (by unfold maxLen;omega) (by omega) (fun u=> ?_))
  refine az (fun m=>(m.own 0 rfl).slice) ?_
  rintro⟨A_b17,c_b17,rfl,hc_b17⟩
  refine az (fun m=>(m.ord 0 rfl).2.1) fun hA_b17=> ?_
  refine hy (fun _=>ab rfl)<|ai<|al (ρ' :=[(6,_),(14,_),(5,_),(4,_),(3,_),(2,_),(0,_)]) ⟨rfl,rfl,rfl,rfl,rfl,rfl,rfl,trivial⟩<|ak (X' :=[_,_,_]) (S' :=[_]) (fun _ m=>m)<|ag<|ah<|aj<|hy (fun _=>aa rfl)<|hy (fun _=>aa rfl)<| ?_
  refine hx (bB 0 rfl rfl rfl Tryz.underlying27 Tryz.underlying27 (by exact .inl rfl) eO rfl (fun m=>Src.bT (m.rd 0 rfl)) aY (by unfold maxLen;omega) (by omega) (fun u2=> ?_))
  refine az (fun m=>(m.own 0 rfl).slice) ?_
  rintro⟨A_b172,c_b172,rfl,hc_b17⟩
  refine az (fun m=>(m.ord 0 rfl).2.1) fun hA_b17=> ?_
  refine hy (fun _=>ab rfl)<|ai<|al (ρ' :=[(6,_),(14,_),(5,_),(4,_),(3,_),(2,_),(0,_)]) ⟨rfl,rfl,rfl,rfl,rfl,rfl,rfl,trivial⟩<|ak (X' :=[_,_,_]) (S' :=[_]) (fun _ m=>m)<|ag<|ah<|aj<|hy (fun _=>aa rfl)<|hy (fun _=>aa rfl)<| ?_
  refine hx (ao rfl Tryz.call180 (nQ (by omega)) [] rfl [0] rfl ?_)
  rintro _ _ _ ⟨rfl,rfl,rfl⟩
  refine hx (ao rfl Tryz.call179 (jC (by omega)) [] rfl [] rfl ?_)
  rintro _ _ _ ⟨v3,rfl,rfl,rfl⟩
  refine az (fun m=>(m.own 0 rfl).slice) ?_
  rintro⟨A_x2,c_x2,rfl,hc_x2⟩
  refine az (fun m=>(m.ord 0 rfl).2.1) fun hA_x2=> ?_
  refine hx (bB 1 rfl rfl rfl Tryz.underlying27 Tryz.underlying27 (by exact .inl rfl) eO rfl (fun m=>Src.bT (m.ord 0 rfl)) aY (by unfold maxLen;omega) (by omega) (fun u3=> ?_))
  refine az (fun m=>(m.own 0 rfl).slice) ?_
  rintro⟨A_b173,c_b173,rfl,hc_b17⟩
  refine az (fun m=>(m.ord 0 rfl).2.1) fun hA_b17=> ?_
  refine hy (fun _=>ab rfl)<|ai<|al (ρ' :=[(2,_),(6,_),(14,_),(5,_),(4,_),(3,_),(0,_)]) ⟨rfl,rfl,rfl,rfl,rfl,rfl,rfl,trivial⟩<|ak (X' :=[_,_,_,_]) (S' :=[_]) (fun _ m=>m)<|ag<|aU<| ?_
  have hol:2+4+n+4=(bI l).length:=by rw[hq];simp[fk,hl];try omega
  rw[hol]
  have hsl:aZ [76,0]++aZ (gz n)++aZ l++aZ (gz (cV l))=aZ (bI l):=by rw[hq,hl,bD,bD,bD]
  rw[hsl]
  exact bc trivial rfl rfl [0] rfl [] rfl ⟨_,rfl,rfl,rfl⟩
theorem k7{f:List UInt8}(h:f.length<10∨f.getD 0 0≠76∨1<(f.getD 1 0).toNat):gP f=none:=by unfold gP;rw[if_pos h]
theorem vR{f:List UInt8}(h:¬(f.length<10∨f.getD 0 0≠76∨1<(f.getD 1 0).toNat)):gP f=some (kb (f.drop 2)):=by unfold gP;rw[if_neg h]
theorem re{A:Option Addr}{n c:Nat}{f:List UInt8}(hc:n≤c)(hn:n≤1000000000)(hl:f.length=n):cj Tryz.prog 211 [.slice A n c] [] [dr 1 A n (aZ f)] (fun v_ X_ S_=>v_=(.tuple #[.int .i64 (((gP f).getD 0:Nat):Int),.int .i64 (if(gP f).isSome then 0 else 2)])∧X_=[]∧S_=[]):=by
 have b0:=(f.getD 0 0).toNat_lt
 have b1:=(f.getD 1 0).toNat_lt
 refine aO (N:=34) Tryz.func211 rfl rfl (by simp) fun b=> ?_
 refine ba (fun m=>gK (m.rd 0 rfl)) ?_
 rintro⟨hl_r,hA_r⟩
 refine ah<|aj<|hy (fun _=>ab rfl)<|hy (fun _=>ab rfl)<|ai<|ag<|ah<|ah<|aj<|hy (fun _=>aa rfl)<|hy (fun _=>aR rfl Tryz.underlying27)<|hy (fun _=>br rfl rfl)<|hy (fun _=>aa rfl)<| ?_
 refine fo 9 rfl (fun h1=> ?_) (fun h1=> ?_)
 ·refine bg rfl rfl rfl (by decide)<|bg rfl rfl rfl (by decide)<|bg rfl rfl rfl (by decide)<|bg rfl rfl rfl (by decide)<|hy (fun _=>bE rfl rfl)<|hy (fun _=>aa rfl)<| ?_
  rw[k7 (.inl (by omega))]
  refine bg rfl rfl rfl (by decide)<|bg rfl rfl rfl (by decide)<|bg rfl rfl rfl (by decide)<|bg rfl rfl rfl (by decide)<|hy (fun _=>bE rfl rfl)<|ai<|al (ρ' :=[(20,_),(3,_),(2,_),(0,_)]) ⟨rfl,rfl,rfl,rfl,trivial⟩<|ag<| ?_
  refine fE rfl (rfl) ?_
  refine ah<|aj<|hy (fun _=>ab rfl)<|hy (fun _=>ab rfl)<|ai<|ag<|aU<|aw<| ?_
  exact dO trivial rfl rfl rfl [] rfl [] rfl ⟨rfl,rfl,rfl⟩
 ·refine cx (o:=_) rfl rfl rfl (fun _=>aa rfl)<|cx (o:=_) rfl rfl rfl (fun _=>aK rfl rfl Tryz.underlying27 eg hA_r (show((0:Nat):Int)=0 from rfl) (by omega))<|cx (o:=_) rfl rfl rfl (fun m=>ar rfl iN ((m.rd 0 rfl).cell (bJ (by omega))))<|cx (o:=_) rfl rfl rfl (fun _=>de rfl rfl)<|hy (fun _=>bp rfl rfl)<|hy (fun _=>aa rfl)<| ?_
  refine fo 15 rfl (fun h2=> ?_) (fun h2=> ?_)
  ·rw[k7 (.inr (.inl (fun e=>h2 (by rw[e];rfl))))]
   refine bg rfl rfl rfl (by decide)<|bg rfl rfl rfl (by decide)<|bg rfl rfl rfl (by decide)<|bg rfl rfl rfl (by decide)<|hy (fun _=>bE rfl rfl)<|ai<|al (ρ' :=[(20,_),(3,_),(2,_),(0,_)]) ⟨rfl,rfl,rfl,rfl,trivial⟩<|ag<| ?_
   refine fE rfl (rfl) ?_
   refine ah<|aj<|hy (fun _=>ab rfl)<|hy (fun _=>ab rfl)<|ai<|ag<|aU<|aw<| ?_
   exact dO trivial rfl rfl rfl [] rfl [] rfl ⟨rfl,rfl,rfl⟩
  ·refine cx (o:=_) rfl rfl rfl (fun _=>aa rfl)<|cx (o:=_) rfl rfl rfl (fun _=>aK rfl rfl Tryz.underlying27 eg hA_r (show((1:Nat):Int)=1 from rfl) (by omega))<|cx (o:=_) rfl rfl rfl (fun m=>ar rfl iN ((m.rd 0 rfl).cell (bJ (by omega))))<|cx (o:=_) rfl rfl rfl (fun _=>cW rfl rfl)<|hy (fun _=>bp rfl rfl)<|ai<|al (ρ' :=[(20,_),(3,_),(2,_),(0,_)]) ⟨rfl,rfl,rfl,rfl,trivial⟩<|ag<| ?_
   refine cL rfl (fun h3=> ?_) (fun h3=> ?_)
   ·rw[k7 (.inr (.inr (by omega)))]
    refine ah<|aj<|hy (fun _=>ab rfl)<|hy (fun _=>ab rfl)<|ai<|ag<|aU<|aw<| ?_
    exact dO trivial rfl rfl rfl [] rfl [] rfl ⟨rfl,rfl,rfl⟩
   ·have h2' :f.getD 0 0=76:=UInt8.toNat_inj.1 (by have:=Decidable.not_not.1 h2;show _=76;omega)
    rw[vR (by rintro(q|q|q);omega;exact q h2';omega)]
    refine aB<|ag<|ah<|aj<|hy (fun _=>ab rfl)<|ai<|ag<|ah<|ah<|aj<|hy (fun _=>ab rfl)<|ai<|ag<|aN<| ?_
    refine dR (fun j=>4-j) (fun j=>[(4,.int .i64 ((acc ((f.drop 2).take 4) j:Nat):Int)),(5,.int .i64 (5-(j:Int)))]) (fun j=>[]) (fun j=>[]) (fun j=>j≤4) 0 [(20,_),(3,_),(2,_),(0,_)] ⟨rfl,rfl,rfl,rfl,trivial⟩ [] rfl [] rfl (Nat.zero_le _) ⟨rfl,rfl,trivial⟩ (fun j hI=> ?_)
    refine ah<|ah<|aj<|hy (fun _=>aa rfl)<|hy (fun _=>cW rfl rfl)<|ai<|al (ρ' :=[(22,_),(4,_),(5,_),(20,_),(3,_),(2,_),(0,_)]) ⟨rfl,rfl,rfl,rfl,rfl,rfl,rfl,trivial⟩<|ag<| ?_
    refine cL rfl (fun hj=> ?_) (fun hj=> ?_)
    ·have hl4:((f.drop 2).take 4).length=4:=by rw[List.length_take,List.length_drop];omega
     have hac:=Cy ((f.drop 2).take 4) (show j≤4 by omega)
     have hby:(((f.drop 2).take 4).getD (3-j) 0).toNat<256:=UInt8.toNat_lt _
     have hget:f.getD (5-j) 0=((f.drop 2).take 4).getD (3-j) 0:=by
      simp only[List.getD,List.getElem?_take,List.getElem?_drop]
      rw[if_pos (by omega),show 2+(3-j)=5-j by omega]
     refine aB<|ag<|ah<|aN<|aj<|hy (fun _=>aa rfl)<|hy (fun _=>r5 (p:=256) rfl rfl (by decide) (by decide) (by decide) (bA (by omega) (by omega)))<|hy (fun _=>aa rfl)<|hy (fun _=>aa rfl)<|hy (fun _=>aK rfl rfl Tryz.underlying27 eg hA_r (show((5-j:Nat):Int)=_ by omega) (by omega))<|hy (fun m=>yV (ar rfl iN ((m.rd 0 rfl).cell (bJ (by omega)))) ((show B8 (f.getD (5-j) 0)=B8 (((f.drop 2).take 4).getD (3-j) 0) by rw[hget])))<|hy (fun _=>bU rfl Tryz.underlying5 Tryz.underlying3 (y7 _))<|hy (fun _=>gR (by simp) rfl rfl (zJ _ _ hac hby))<|hy (fun _=>ab rfl)<|ai<|al (ρ' :=[(4,_),(22,_),(5,_),(20,_),(3,_),(2,_),(0,_)]) ⟨rfl,rfl,rfl,rfl,rfl,rfl,rfl,trivial⟩<|aQ<|ag<|aj<|hy (fun _=>aa rfl)<|hy (fun _=>yV (cm rfl rfl (bA (by omega) (by omega))) ((show Value.int .i64 ((5-(j:Int))-1)= .int .i64 (5-((j+1:Nat):Int)) by congr 1;omega)))<|hy (fun _=>ab rfl)<|ai<|al (ρ' :=[(5,_),(4,_),(22,_),(20,_),(3,_),(2,_),(0,_)]) ⟨rfl,rfl,rfl,rfl,rfl,rfl,rfl,trivial⟩<| ?_
     refine cZ (j+1) ⟨rfl,rfl,rfl,rfl,rfl,rfl,trivial⟩ [] rfl [0] rfl (by omega) (by omega)
    ·obtain rfl:j=4:=by omega
     have e4:acc ((f.drop 2).take 4) 4=kb (f.drop 2):=by
      rw[Ej]
      have hx:∀q:Nat,q<4→((f.drop 2).take 4).getD q 0=(f.drop 2).getD q 0:=fun q hq=>by simp only[List.getD,List.getElem?_take,if_pos hq]
      unfold kb
      rw[hx 0 (by decide),hx 1 (by decide),hx 2 (by decide),hx 3 (by decide)]
     rw[e4]
     refine bP<|au<|au<|aC<|ag<|ah<|aj<|hy (fun _=>aa rfl)<|hy (fun _=>ab rfl)<|hy (fun _=>ab rfl)<|ai<|al (ρ' :=[(3,_),(2,_),(22,_),(4,_),(5,_),(20,_),(0,_)]) ⟨rfl,rfl,rfl,rfl,rfl,rfl,rfl,trivial⟩<|ag<|aU<| ?_
     exact dO trivial rfl rfl rfl [] rfl [] rfl ⟨rfl,rfl,rfl⟩
theorem Ax{A:Option Addr}{n c:Nat}{f:List UInt8}(hc:n≤c)(hn:n≤1000000000)(hl:f.length=n):cj Tryz.prog 213 [.slice A n c] [] [dr 1 A n (aZ f)] (fun v_ X_ S_=>v_=(.bool (decide ((gP f).isSome∧f.getD 1 0=1)))∧X_=[]∧S_=[]):=by
 refine aO (N:=18) Tryz.func213 rfl rfl (by simp) fun b=> ?_
 refine ba (fun m=>gK (m.rd 0 rfl)) ?_
 rintro⟨hl_r,hA_r⟩
 refine ah<|aj<|hy (fun _=>ab rfl)<|ai<|ag<|ah<|aj<|hy (fun _=>aa rfl)<| ?_
 refine hx (ao rfl Tryz.call211 (re (by omega) (by omega) (by omega)) [] rfl [0] rfl ?_)
 rintro _ _ _ ⟨rfl,rfl,rfl⟩
 refine hy (fun _=>aa rfl)<|hy (fun _=>aq rfl rfl)<|hy (fun _=>aq rfl rfl)<|hy (fun _=>ab rfl)<|hy (fun _=>ab rfl)<|ai<|al (ρ' :=[(4,_),(2,_),(0,_)]) ⟨rfl,rfl,rfl,trivial⟩<|ak (X' :=[]) (S' :=[_]) (fun _ m=>m)<|ag<|ah<|aj<|hy (fun _=>aa rfl)<|hy (fun _=>b7 rfl rfl)<|hy (fun _=>aa rfl)<| ?_
 refine fo 12 rfl (fun hs=> ?_) (fun hs=> ?_)
 ·have hs1:(gP f).isSome=true:=by
   cases h:(gP f).isSome with
   |true=>rfl
   |false=>rw[h]at hs;exact absurd hs (by decide)
  have hn10:¬n<10:=fun h=>by rw[k7 (.inl (by omega))]at hs1;cases hs1
  have hd:decide ((gP f).isSome∧f.getD 1 0=1)=decide (((f.getD 1 0).toNat:Int)=1):=decide_eq_decide.2 ⟨fun h=>by rw[h.2];rfl,fun h=>⟨hs1,UInt8.toNat_inj.1 (by show _=1;omega)⟩⟩
  rw[hd]
  refine cx (o:=_) rfl rfl rfl (fun _=>aa rfl)<|cx (o:=_) rfl rfl rfl (fun _=>aK rfl rfl Tryz.underlying27 eg hA_r (show((1:Nat):Int)=1 from rfl) (by omega))<|cx (o:=_) rfl rfl rfl (fun m=>ar rfl iN ((m.rd 0 rfl).cell (bJ (by omega))))<|cx (o:=_) rfl rfl rfl (fun _=>b7 rfl rfl)<|hy (fun _=>bE rfl rfl)<|hy (fun _=>ab rfl)<|ai<|al (ρ' :=[(2,_),(4,_),(0,_)]) ⟨rfl,rfl,rfl,trivial⟩<|ag<|aU<| ?_
  exact bc trivial rfl rfl [] rfl [] rfl ⟨rfl,rfl,rfl⟩
 ·have hd:decide ((gP f).isSome∧f.getD 1 0=1)=false:=decide_eq_false fun h=>hs (by rw[h.1];rfl)
  rw[hd]
  refine bg rfl rfl rfl (by decide)<|bg rfl rfl rfl (by decide)<|bg rfl rfl rfl (by decide)<|bg rfl rfl rfl (by decide)<|hy (fun _=>bp rfl rfl)<|hy (fun _=>ab rfl)<|ai<|al (ρ' :=[(2,_),(4,_),(0,_)]) ⟨rfl,rfl,rfl,trivial⟩<|ag<|aU<| ?_
  exact bc trivial rfl rfl [] rfl [] rfl ⟨rfl,rfl,rfl⟩
end Go.Proofs.YtmibdabdlgmafaaGreatDoor
end
section
set_option maxRecDepth 20000
set_option maxHeartbeats 2000000
namespace Go.Proofs.YtmibdabdlgmafaaGreatDoor
open Go.Eng Go.Hx
theorem DN{v:Value}(h:v.oneCell' =true:=by rfl):∀u∈ [v],u.oneCell' =true:=fun u hu=>by rw[List.mem_singleton.1 hu];exact h
theorem nz{q:Bool}{e:Int}:Ck Tryz.prog 212 [.bool q,.int .i64 e] [] [] (fun v_ X_ S_=>v_=(.tuple #[])∧X_=[]∧S_=[]∧(q=true)) (fun v_ X_ S_=>v_=(.iface 288 (.agg #[.int .i64 e]))∧X_=[]∧S_=[]∧(q=false)):=by
 refine z8 (N:=9) Tryz.func212 rfl rfl (by simp) fun b=> ?_
 refine ah<|aj<|hy (fun _=>aa rfl)<|hy (fun _=>(fw rfl))<|ai<|al (ρ' :=[(5,_),(0,_),(1,_)]) ⟨rfl,rfl,rfl,trivial⟩<|ag<| ?_
 refine sv rfl (fun hq=> ?_) (fun hq=> ?_)
 ·refine aj<|hy (fun _=>aa rfl)<|hy (fun _=>cM uq rfl rfl (by kernel_rfl) (.cons (o:=0) (sz:=1) (by kernel_rfl) rfl rfl (Nat.le_of_ble_eq_true rfl) .nil))<|hy (fun _=>kd rfl Tryz.underlying288 (fun _ h=>by cases h))<| ?_
  refine cI (xI rfl ?_)
  exact C0 [] rfl [] rfl ⟨rfl,rfl,rfl,(by simpa using hq)⟩
 ·refine aB<| ?_
  refine DM ?_
  exact fv trivial rfl [] rfl [] rfl ⟨rfl,rfl,rfl,(by simpa using hq)⟩
theorem gg{g4 g5:Nat}{v:Value}{e0 e:Int}:zu Tryz.prog 210 [.pointer (some ⟨g4,0,none⟩),.pointer (some ⟨g5,0,none⟩)] (.panicking (DI (.iface 288 (.agg #[.int .i64 e])))) [aG g4 27 [v],aG g5 47 [.int .i64 e0]] [] (fun u_ X_ S_=>u_= .returning∧X_=[aG g4 27 [.slice none 0 0],aG g5 47 [.int .i64 e]]∧S_=[]):=by
 refine ug (N:=12) Tryz.func210 rfl rfl (by simp) fun b c_0 cs_ hu_=> ?_
 show te _ _ _ _ _ [0,1,2,3,4,5,6,7] _ _ _ _ _
 refine An rfl hu_ ?_
 refine lr rfl (fun _=>mn rfl (xp Tryz.underlying288))<|lr rfl (fun _=>aa rfl)<|lr rfl (fun _=>aq rfl rfl)<|lr rfl (fun _=>aq rfl rfl)<| ?_
 refine A0 rfl (aM uq (fun g2=> ?_))
 refine w6 rfl (aI 0 rfl rfl rfl Bm rfl DN rfl ?_)
 refine Ci (fun w m=>m.bM 0 rfl (show _=aG g2 288 [.int .i64 e]from rfl)) ?_
 refine lr rfl (fun _=>ab rfl)<|rV<|bu (X' :=[_,_,_]) (S' :=[]) (fun _ m=>m)<|ah<|aj<|hy (fun _=>aa rfl)<|ai<|al (ρ' :=[(9,_),(3,_),(2,_),(0,_),(1,_)]) ⟨rfl,rfl,rfl,rfl,rfl,trivial⟩<|ag<| ?_
 refine fE rfl (rfl) ?_
 refine rS [0] [] rfl rfl [2,3] [(0,some 1),(1,some 1),(2,none),(3,none)] (by kernel_rfl) (by kernel_rfl) rfl 99<|an (aD rfl zk (by decide))<|cd (fun m=>ar rfl lh (ax (m.aT 0 rfl) (i:=0) rfl))<| ?_
 refine j5 (dG 1 rfl rfl rfl nM rfl (by first|exact Nat.le_of_ble_eq_true rfl|simp) ⟨(fun _=>wk [1] [] rfl rfl), ?_⟩)
 refine j5 (dG 2 rfl rfl rfl vO rfl (by first|exact Nat.le_of_ble_eq_true rfl|simp) ⟨(fun _=>wk [2] [] rfl rfl), ?_⟩)
 refine bq<|al (ρ' :=[(9,_),(3,_),(2,_),(0,_),(1,_)]) ⟨rfl,rfl,rfl,rfl,rfl,trivial⟩<|ak (X' :=[_,_,_]) (S' :=[]) (fun _ m=>m)<| ?_
 exact fv trivial rfl [1,0] rfl [] rfl ⟨rfl,rfl,rfl,rfl⟩
theorem rJ{g4 g5:Nat}{v:Value}{e:Int}:zu Tryz.prog 210 [.pointer (some ⟨g4,0,none⟩),.pointer (some ⟨g5,0,none⟩)] .returning [aG g4 27 [v],aG g5 47 [.int .i64 e]] [] (fun u_ X_ S_=>u_= .returning∧X_=[aG g4 27 [v],aG g5 47 [.int .i64 e]]∧S_=[]):=by
 refine ug (N:=12) Tryz.func210 rfl rfl (by simp) fun b c_0 cs_ hu_=> ?_
 show te _ _ _ _ _ [0,1,2,3,4,5,6,7] _ _ _ _ _
 refine xE rfl hu_ ?_
 refine lr rfl (fun _=>mn rfl (xy Tryz.underlying288 uq))<|lr rfl (fun _=>aa rfl)<|lr rfl (fun _=>aq rfl rfl)<|lr rfl (fun _=>aq rfl rfl)<| ?_
 refine A0 rfl (aM uq (fun g2=> ?_))
 refine w6 rfl (aI 0 rfl rfl rfl Bm rfl DN rfl ?_)
 refine lr rfl (fun _=>ab rfl)<|rV<|bu (X' :=[_,_,_]) (S' :=[]) (fun _ m=>m)<|ah<|aj<|hy (fun _=>aa rfl)<|ai<|al (ρ' :=[(9,_),(3,_),(2,_),(0,_),(1,_)]) ⟨rfl,rfl,rfl,rfl,rfl,trivial⟩<|ag<| ?_
 refine di rfl (rfl) ?_
 refine aB<| ?_
 exact fv trivial rfl [1,1] rfl [] rfl ⟨rfl,rfl,rfl,rfl⟩
end Go.Proofs.YtmibdabdlgmafaaGreatDoor
end
section
set_option maxRecDepth 20000
set_option maxHeartbeats 2000000
namespace Go.Proofs.YtmibdabdlgmafaaGreatDoor
open Go.Eng Go.Hx
theorem B6{A:Option Addr}{n c:Nat}{l:List UInt8}(h0:0<n)(hn:n≤140737488351232):cj Tryz.prog 257 [.slice A n c] [] [dr 1 A n (aZ l)] (fun v_ X_ S_=>v_=(.tuple #[.int .i64 ((cO l).1:Nat),.int .i64 ((cO l).2.1:Nat),.int .i64 ((cO l).2.2.1:Nat),.bool (cO l).2.2.2])∧X_=[]∧S_=[]):=by
 have b0:=(l.getD 0 0).toNat_lt
 have b1:=(l.getD 1 0).toNat_lt
 have b2:=(l.getD 2 0).toNat_lt
 refine aO (N:=39) Tryz.func257 rfl rfl (by simp) fun b=> ?_
 refine ba (fun m=>gK (m.rd 0 rfl)) ?_
 rintro⟨hl_r,hA_r⟩
 refine ah<|aj<|hy (fun _=>ab rfl)<|hy (fun _=>ab rfl)<|hy (fun _=>ab rfl)<|hy (fun _=>ab rfl)<|ai<|ag<|ah<|aj<|hy (fun _=>aa rfl)<|hy (fun _=>aK rfl rfl Tryz.underlying27 eg hA_r (show((0:Nat):Int)=0 from rfl) (by omega))<|hy (fun m=>ar rfl iN ((m.rd 0 rfl).cell (bJ (by omega))))<|hy (fun _=>bU rfl Tryz.underlying5 Tryz.underlying3 (bA (by omega) (by omega)))<|hy (fun _=>ab rfl)<|ai<|al (ρ' :=[(6,_),(5,_),(4,_),(3,_),(2,_),(0,_)]) ⟨rfl,rfl,rfl,rfl,rfl,rfl,trivial⟩<|ag<|ah<|ah<|aj<|hy (fun _=>aa rfl)<|hy (fun _=>br rfl rfl)<|ai<|al (ρ' :=[(12,_),(6,_),(5,_),(4,_),(3,_),(2,_),(0,_)]) ⟨rfl,rfl,rfl,rfl,rfl,rfl,rfl,trivial⟩<|ag<| ?_
 refine cL rfl (fun h1=> ?_) (fun h1=> ?_)
 ·have e:cO l=((l.getD 0 0).toNat+2,(l.getD 0 0).toNat+1,0,decide ((l.getD 0 0).toNat+2≤l.length)):=by rw[cO,if_pos (by omega)]
  rw[e]
  refine ah<|aj<|hy (fun _=>aa rfl)<|hy (fun _=>aJ rfl rfl (bA (by omega) (by omega)))<|hy (fun _=>aa rfl)<|hy (fun _=>aJ rfl rfl (bA (by omega) (by omega)))<|hy (fun _=>aa rfl)<|hy (fun _=>aR rfl Tryz.underlying27)<|hy (fun _=>aa rfl)<|hy (fun _=>aJ rfl rfl (bA (by omega) (by omega)))<|hy (fun _=>yV (iD rfl rfl) ((congrArg Value.bool (decide_eq_decide.2 (by omega)):Value.bool (decide ((n:Int)≥((l.getD 0 0).toNat:Int)+2))= .bool (decide ((l.getD 0 0).toNat+2≤l.length)))))<|hy (fun _=>ab rfl)<|hy (fun _=>ab rfl)<|hy (fun _=>ab rfl)<|hy (fun _=>ab rfl)<|ai<|al (ρ' :=[(5,_),(4,_),(3,_),(2,_),(12,_),(6,_),(0,_)]) ⟨rfl,rfl,rfl,rfl,rfl,rfl,rfl,trivial⟩<|ag<|aU<|aw<| ?_
  exact x8 trivial rfl rfl rfl rfl rfl [] rfl [] rfl ⟨rfl,rfl,rfl⟩
 ·refine aB<|ag<|ah<|ah<|aj<|hy (fun _=>aa rfl)<|hy (fun _=>aR rfl Tryz.underlying27)<|hy (fun _=>br rfl rfl)<|ai<|al (ρ' :=[(24,_),(12,_),(6,_),(5,_),(4,_),(3,_),(2,_),(0,_)]) ⟨rfl,rfl,rfl,rfl,rfl,rfl,rfl,rfl,trivial⟩<|ag<| ?_
  refine cL rfl (fun h3=> ?_) (fun h3=> ?_)
  ·have e:cO l=(0,0,0,false):=by rw[cO,if_neg (by omega),if_pos (by omega)]
   rw[e]
   refine ah<|aj<|hy (fun _=>ab rfl)<|hy (fun _=>ab rfl)<|hy (fun _=>ab rfl)<|hy (fun _=>ab rfl)<|ai<|ag<|aU<|aw<| ?_
   exact x8 trivial rfl rfl rfl rfl rfl [] rfl [] rfl ⟨rfl,rfl,rfl⟩
  ·have e:cO l=(3,(l.getD 0 0).toNat-124,1+(l.getD 1 0).toNat+256*(l.getD 2 0).toNat,true):=by rw[cO,if_neg (by omega),if_neg (by omega)]
   rw[e]
   refine aB<|ag<|ah<|cK [] [(0,some 0),(1,some 0),(2,some 0),(3,some 0),(4,some 0),(5,some 0),(6,some 0),(7,some 0),(8,some 0),(9,some 0),(10,some 0),(11,some 0),(12,some 0),(13,some 0),(14,some 0),(15,some 0),(16,some 0),(17,some 0)] (by kernel_rfl) (by kernel_rfl) rfl 99<|an (aa rfl)<|an (cm rfl rfl (bA (by omega) (by omega)))<|an (yV (aJ rfl rfl (bA (by omega) (by omega))) ((show Value.int .i64 (((l.getD 0 0).toNat:Int)-128+4)= .int .i64 (((l.getD 0 0).toNat-124:Nat):Int) by congr 1;omega)))<|an (aa rfl)<|an (aK rfl rfl Tryz.underlying27 eg hA_r (show((1:Nat):Int)=1 from rfl) (by omega))<|cd (fun m=>ar rfl iN ((m.rd 0 rfl).cell (bJ (by omega))))<|an (bU rfl Tryz.underlying5 Tryz.underlying3 (bA (by omega) (by omega)))<|an (aJ rfl rfl (bA (by omega) (by omega)))<|an (aa rfl)<|an (aK rfl rfl Tryz.underlying27 eg hA_r (show((2:Nat):Int)=2 from rfl) (by omega))<|cd (fun m=>ar rfl iN ((m.rd 0 rfl).cell (bJ (by omega))))<|an (bU rfl Tryz.underlying5 Tryz.underlying3 (bA (by omega) (by omega)))<|an (r5 (p:=256) rfl rfl (by decide) (by decide) (by decide) (bA (by omega) (by omega)))<|an (yV (aJ rfl rfl (bA (by omega) (by omega))) ((show Value.int .i64 (1+((l.getD 1 0).toNat:Int)+((l.getD 2 0).toNat:Int)*256)= .int .i64 ((1+(l.getD 1 0).toNat+256*(l.getD 2 0).toNat:Nat):Int) by congr 1;omega)))<|an (ab rfl)<|an (ab rfl)<|an (ab rfl)<|an (ab rfl)<|bq<|al (ρ' :=[(5,_),(4,_),(3,_),(2,_),(24,_),(12,_),(6,_),(0,_)]) ⟨rfl,rfl,rfl,rfl,rfl,rfl,rfl,rfl,trivial⟩<|ag<|aU<| ?_
   exact x8 trivial rfl rfl rfl rfl rfl [] rfl [] rfl ⟨rfl,rfl,rfl⟩
theorem AM{A:Option Addr}{c:Nat}{l:List UInt8}{z:Int}(hc:l.length≤c)(hn:l.length≤10000000)(hz:z≤10000000):cj Tryz.prog 214 [.slice A l.length c,.int .i64 z] [] [dr 1 A l.length (aZ l)] (fun v_ X_ S_=>∃v,v_=(.tuple #[v,.int .i64 (jE z l []).2])∧X_=[aH 5 1 v (jE z l []).1.length (aZ (jE z l []).1)]∧S_=[]):=by
 refine aO (N:=66) Tryz.func214 rfl rfl (by simp) fun b=> ?_
 refine ba (fun m=>gK (m.rd 0 rfl)) ?_
 rintro⟨hl_r,hA_r⟩
 refine ah<|aj<|hy (fun _=>ab rfl)<|hy (fun _=>ab rfl)<|ai<|ag<|ah<|aj<|hy (fun _=>ab rfl)<|ai<|ag<|ah<|aN<| ?_
 refine bu (fun w m=>m.dx (r' :=aH 5 1 (.slice none 0 0) 0 []) (.refl _ _) (Own.nil _ _ _ _) (fun k hk=>hk.elim)) ?_
 refine o1 (fun p o A2 c2 A3 c3=>p.length) (fun p o A2 c2 A3 c3=>[(0,.slice A2 p.length c2),(6,.slice A3 o.length c3)]) (fun p o A2 c2 A3 c3=>[aH 5 1 (.slice A3 o.length c3) o.length (aZ o)]) (fun p o A2 c2 A3 c3=>[dr 1 A2 p.length (aZ p)]) (fun p o A2 c2 A3 c3=>p.length≤c2∧p.length≤10000000∧o.length≤10000000∧jE z p o=jE z l []) l [] A c none 0 [(1,_)] ⟨rfl,trivial⟩ [0] rfl [0] rfl (⟨hc,hn,by decide,rfl⟩) ⟨rfl,rfl,trivial⟩ (fun p o A2 c2 A3 c3 ⟨hpc,hpn,hon,hU⟩=> ?_)
 refine ah<|ah<|aj<|hy (fun _=>aa rfl)<|hy (fun _=>aR rfl Tryz.underlying27)<|hy (fun _=>cW rfl rfl)<|ai<|al (ρ' :=[(14,_),(0,_),(6,_),(1,_)]) ⟨rfl,rfl,rfl,rfl,trivial⟩<|ag<| ?_
 refine cL rfl (fun hlt=> ?_) (fun hlt=> ?_)
 ·have hp0:p≠ []:=fun e=>by rw[e]at hlt;exact absurd hlt (by decide)
  obtain⟨ht1,ht2⟩:=Cc p
  refine aB<|ag<|aN<|ah<|aj<|hy (fun _=>aa rfl)<| ?_
  refine hx (ao rfl Tryz.call257 (B6 (by omega) (by omega)) [] rfl [0] rfl ?_)
  rintro _ _ _ ⟨rfl,rfl,rfl⟩
  refine hy (fun _=>aa rfl)<|hy (fun _=>aq rfl rfl)<|hy (fun _=>aq rfl rfl)<|hy (fun _=>aq rfl rfl)<|hy (fun _=>aq rfl rfl)<|hy (fun _=>ab rfl)<|hy (fun _=>ab rfl)<|hy (fun _=>ab rfl)<|hy (fun _=>ab rfl)<|ai<|al (ρ' :=[(10,_),(9,_),(8,_),(7,_),(14,_),(0,_),(6,_),(1,_)]) ⟨rfl,rfl,rfl,rfl,rfl,rfl,rfl,rfl,trivial⟩<|ak (X' :=[_]) (S' :=[_,_]) (fun _ m=>m)<|ag<|ah<|ah<|aj<|hy (fun _=>aa rfl)<|hy (fun _=>(fw rfl))<|hy (fun _=>aa rfl)<| ?_
  refine AL 24 rfl (fun hw=> ?_) (fun hw=> ?_)
  ·rw[kU hp0 (fun h=>by rw[h.1]at hw;cases hw)]at hU
   rw[←hU]
   refine bg rfl rfl rfl (by decide)<|bg rfl rfl rfl (by decide)<|bg rfl rfl rfl (by decide)<|bg rfl rfl rfl (by decide)<|hy (fun _=>bE rfl rfl)<|ai<|al (ρ' :=[(29,_),(10,_),(9,_),(8,_),(7,_),(14,_),(0,_),(6,_),(1,_)]) ⟨rfl,rfl,rfl,rfl,rfl,rfl,rfl,rfl,rfl,trivial⟩<|ag<| ?_
   refine fE rfl (rfl) ?_
   refine ah<|aj<|hy (fun _=>ab rfl)<|hy (fun _=>ab rfl)<|ai<|ag<|aU<|aw<|aV<|aw<|aV<|aw<| ?_
   refine ak (fun w m=>m.dx (r' :=aH 5 1 (.slice none 0 0) 0 []) (.refl _ _) (Own.nil _ _ _ _) (fun k hk=>hk.elim)) ?_
   exact dO trivial rfl rfl rfl [0] rfl [] rfl ⟨_,rfl,rfl,rfl⟩
  ·have hw1:(cO p).2.2.2=true:=by simpa using hw
   refine cx (o:=_) rfl rfl rfl (fun _=>aa rfl)<|cx (o:=_) rfl rfl rfl (fun _=>aa rfl)<|cx (o:=_) rfl rfl rfl (fun _=>aR rfl Tryz.underlying27)<|cx (o:=_) rfl rfl rfl (fun _=>cW rfl rfl)<|hy (fun _=>bp rfl rfl)<|ai<|al (ρ' :=[(29,_),(10,_),(9,_),(8,_),(7,_),(14,_),(0,_),(6,_),(1,_)]) ⟨rfl,rfl,rfl,rfl,rfl,rfl,rfl,rfl,rfl,trivial⟩<|ag<| ?_
   refine cL rfl (fun hd=> ?_) (fun hd=> ?_)
   ·rw[kU hp0 (fun h=>by omega)]at hU
    rw[←hU]
    refine ah<|aj<|hy (fun _=>ab rfl)<|hy (fun _=>ab rfl)<|ai<|ag<|aU<|aw<|aV<|aw<|aV<|aw<| ?_
    refine ak (fun w m=>m.dx (r' :=aH 5 1 (.slice none 0 0) 0 []) (.refl _ _) (Own.nil _ _ _ _) (fun k hk=>hk.elim)) ?_
    exact dO trivial rfl rfl rfl [0] rfl [] rfl ⟨_,rfl,rfl,rfl⟩
   ·have hd1:(cO p).2.2.1≤o.length:=by omega
    refine aB<|ag<|ah<|ah<|aj<|hy (fun _=>aa rfl)<|hy (fun _=>aR rfl Tryz.underlying27)<|hy (fun _=>aa rfl)<|hy (fun _=>aJ rfl rfl (bA (by omega) (by omega)))<|hy (fun _=>aa rfl)<|hy (fun _=>cW rfl rfl)<|ai<|al (ρ' :=[(35,_),(29,_),(10,_),(9,_),(8,_),(7,_),(14,_),(0,_),(6,_),(1,_)]) ⟨rfl,rfl,rfl,rfl,rfl,rfl,rfl,rfl,rfl,rfl,trivial⟩<|ag<| ?_
    refine cL rfl (fun hm=> ?_) (fun hm=> ?_)
    ·rw[nZ hp0 hw1 hd1 (by omega)]at hU
     rw[←hU]
     refine ah<|aj<|hy (fun _=>ab rfl)<|hy (fun _=>ab rfl)<|ai<|ag<|aU<|aw<|aV<|aw<|aV<|aw<| ?_
     refine ak (fun w m=>m.dx (r' :=aH 5 1 (.slice none 0 0) 0 []) (.refl _ _) (Own.nil _ _ _ _) (fun k hk=>hk.elim)) ?_
     exact dO trivial rfl rfl rfl [0] rfl [] rfl ⟨_,rfl,rfl,rfl⟩
    ·rw[mS hp0 hw1 hd1 (by omega)]at hU
     obtain⟨hs2,hs3⟩:=lf hw1
     have hml:=nE (o:=o) hw1
     have hmn:(made p o).length≤10000000:=by omega
     have hdl:p.length-(cO p).1=(p.drop (cO p).1).length:=by rw[List.length_drop]
     generalize hsz:(cO p).1=sz at hs2 hs3 hU hdl ⊢
     refine aB<|ag<|ah<|ah<|aj<|hy (fun _=>aa rfl)<|hy (fun _=>b7 rfl rfl)<|ai<|al (ρ' :=[(37,_),(35,_),(29,_),(10,_),(9,_),(8,_),(7,_),(14,_),(0,_),(6,_),(1,_)]) ⟨rfl,rfl,rfl,rfl,rfl,rfl,rfl,rfl,rfl,rfl,rfl,trivial⟩<|ag<| ?_
     refine cL rfl (fun hz0=> ?_) (fun hz0=> ?_)
     ·have hd0:(cO p).2.2.1=0:=by omega
      have hma:made p o=o++(p.drop 1).take (sz-1):=by rw[made,if_pos hd0,hsz]
      refine bu (fun w m=>m.gX 0 rfl (View.sub (n:=p.length) (c:=c2) (k:=1) (m:=sz-1) (by omega) (by omega))) ?_
      refine ba (fun m=>gK (m.rd 0 rfl)) ?_
      rintro⟨hl_q,hA_q⟩
      refine aj<|hy (fun _=>aa rfl)<|hy (fun _=>aa rfl)<|hy (fun _=>aa rfl)<|hy (fun _=>eH rfl rfl rfl Tryz.underlying27 eg (show((1:Nat):Int)=1 from rfl) (rfl:((sz:Nat):Int)=_) (by omega) (by omega))<| ?_
      refine hx (bB 0 rfl rfl rfl Tryz.underlying27 Tryz.underlying27 (by exact .inl rfl) eO rfl (fun m=>Src.bT (m.rd 0 rfl)) aY (by unfold maxLen;omega) (by omega) (fun u=> ?_))
      refine az (fun m=>(m.own 0 rfl).slice) ?_
      rintro⟨A_x,c_x,rfl,hc_x⟩
      refine az (fun m=>(m.ord 0 rfl).2.1) fun hA_x=> ?_
      have hlm:o.length+(sz-1)=(made p o).length:=by rw[hma,List.length_append,List.length_take,List.length_drop];omega
      rw[hlm]at hc_x hA_x ⊢
      refine aL (fun w m=>m.bM 0 rfl (show _=aH 5 1 (.slice A_x (made p o).length c_x) (made p o).length (aZ (made p o))from congrArg (aH _ _ _ _) (by rw[hma,bD]))) ?_
      refine hy (fun _=>ab rfl)<|ai<|al (ρ' :=[(6,_),(37,_),(35,_),(29,_),(10,_),(9,_),(8,_),(7,_),(14,_),(0,_),(1,_)]) ⟨rfl,rfl,rfl,rfl,rfl,rfl,rfl,rfl,rfl,rfl,rfl,trivial⟩<|ak (X' :=[_]) (S' :=[_,_,_]) (fun _ m=>m)<|ag<|ah<|ah<|aj<|hy (fun _=>ab rfl)<|ai<|ag<|aN<| ?_
      refine dR (fun k2=>1) (fun k2=>[(11,.int .i64 (k2:Nat)),(6,.slice A_x (made p o).length c_x)]) (fun k2=>[aH 5 1 (.slice A_x (made p o).length c_x) (made p o).length (aZ (made p o))]) (fun k2=>[]) (fun k2=>True) 0 [(37,_),(35,_),(29,_),(10,_),(9,_),(8,_),(7,_),(14,_),(0,_),(1,_)] ⟨rfl,rfl,rfl,rfl,rfl,rfl,rfl,rfl,rfl,rfl,trivial⟩ [0] rfl [] rfl (trivial) ⟨rfl,rfl,trivial⟩ (fun k2 _=> ?_)
      refine ah<|ah<|aj<|hy (fun _=>aa rfl)<|hy (fun _=>yF (cW rfl rfl) ((decide_eq_false (by omega))))<|hy (fun _=>aa rfl)<|bg rfl rfl rfl (by decide)<|bg rfl rfl rfl (by decide)<|bg rfl rfl rfl (by decide)<|hy (fun _=>bp rfl rfl)<|ai<|al (ρ' :=[(49,_),(11,_),(6,_),(37,_),(35,_),(29,_),(10,_),(9,_),(8,_),(7,_),(14,_),(0,_),(1,_)]) ⟨rfl,rfl,rfl,rfl,rfl,rfl,rfl,rfl,rfl,rfl,rfl,rfl,rfl,trivial⟩<|ag<| ?_
      refine di rfl (rfl) ?_
      refine bu (fun w m=>m.gX 1 rfl (View.drop (n:=p.length) (c:=c2) (k:=sz) (by omega) (by omega))) ?_
      refine ba (fun m=>gK (m.rd 0 rfl)) ?_
      rintro⟨hl_p2,hA_p2⟩
      refine bP<|au<|au<|aC<|ag<|aj<|hy (fun _=>aa rfl)<|hy (fun _=>aa rfl)<|hy (fun _=>dQ rfl rfl Tryz.underlying27 eg rfl (by omega))<|hy (fun _=>ab rfl)<|ai<|al (ρ' :=[(0,_),(49,_),(11,_),(6,_),(37,_),(35,_),(29,_),(10,_),(9,_),(8,_),(7,_),(14,_),(1,_)]) ⟨rfl,rfl,rfl,rfl,rfl,rfl,rfl,rfl,rfl,rfl,rfl,rfl,rfl,trivial⟩<|aQ<| ?_
      rw[hdl]
      refine eW (p.drop sz) (made p o) _ (c2-sz) A_x c_x ⟨rfl,rfl,rfl,trivial⟩ [0] rfl [0,3] rfl (⟨by rw[←hdl];omega,by rw[←hdl];omega,hmn,hU⟩) (by rw[←hdl];omega)
     ·have hd0:0<(cO p).2.2.1:=by omega
      have hma:made p o=again (cO p).2.2.1 (cO p).2.1 o:=by rw[made,if_neg (by omega)]
      generalize hdd:(cO p).2.2.1=dd at*
      generalize hnn:(cO p).2.1=nn at*
      refine aB<|ag<|ah<|ah<|aj<|hy (fun _=>ab rfl)<|ai<|ag<|aN<| ?_
      refine lH (fun k2 o2 A4 c4=>nn-k2) (fun k2 o2 A4 c4=>[(11,.int .i64 (k2:Nat)),(6,.slice A4 o2.length c4)]) (fun k2 o2 A4 c4=>[aH 5 1 (.slice A4 o2.length c4) o2.length (aZ o2)]) (fun k2 o2 A4 c4=>[]) (fun k2 o2 A4 c4=>k2≤nn∧o2.length=o.length+k2∧again dd (nn-k2) o2=made p o) 0 o A3 c3 [(37,_),(35,_),(29,_),(10,_),(9,_),(8,_),(7,_),(14,_),(0,_),(1,_)] ⟨rfl,rfl,rfl,rfl,rfl,rfl,rfl,rfl,rfl,rfl,trivial⟩ [0] rfl [] rfl (⟨Nat.zero_le _,rfl,hma.symm⟩) ⟨rfl,rfl,trivial⟩ (fun k2 o2 A4 c4 ⟨hk2,ho2,hag⟩=> ?_)
      refine ah<|ah<|aj<|hy (fun _=>aa rfl)<|hy (fun _=>yT (cW rfl rfl) ((decide_eq_true (by omega))))<|hy (fun _=>aa rfl)<|cx (o:=_) rfl rfl rfl (fun _=>aa rfl)<|cx (o:=_) rfl rfl rfl (fun _=>aa rfl)<|cx (o:=_) rfl rfl rfl (fun _=>br rfl rfl)<|hy (fun _=>bE rfl rfl)<|ai<|al (ρ' :=[(49,_),(11,_),(6,_),(37,_),(35,_),(29,_),(10,_),(9,_),(8,_),(7,_),(14,_),(0,_),(1,_)]) ⟨rfl,rfl,rfl,rfl,rfl,rfl,rfl,rfl,rfl,rfl,rfl,rfl,rfl,trivial⟩<|ag<| ?_
      refine cL rfl (fun hkn=> ?_) (fun hkn=> ?_)
      ·have hag2:again dd (nn-(k2+1)) (o2++[o2.getD (o2.length-dd) 0])=made p o:=by
        rw[←hag,show nn-k2=(nn-(k2+1))+1 by omega]
        rfl
       refine ba (fun m=>(m.ord 0 rfl).2.1) fun hA4=> ?_
       refine aB<|ag<|ah<|aN<|aj<|hy (fun _=>aa rfl)<|hy (fun _=>aa rfl)<|hy (fun _=>aa rfl)<|hy (fun _=>aR rfl Tryz.underlying27)<|hy (fun _=>aa rfl)<|hy (fun _=>cm rfl rfl (bA (by omega) (by omega)))<|hy (fun _=>aK rfl rfl Tryz.underlying27 eg hA4 (show((o2.length-dd:Nat):Int)=_ by omega) (by omega))<|hy (fun m=>ar rfl iN ((m.ord 0 rfl).cell (bJ (by omega))))<| ?_
       refine hx (b8 Tryz.underlying27 eO rfl rfl rfl (by simp[Value.cells,B8]) (by decide) (by decide) (fun g60=> ?_))
       have hA_b60:0<1→(some (⟨g60,0,none⟩:Addr))≠none:=fun _ h=>by cases h
       refine aL (fun w m=>m.bM 0 rfl (show _=aH 5 1 (.slice (some ⟨g60,0,none⟩) 1 1) 1 (aZ [o2.getD (o2.length-dd) 0])from rfl)) ?_
       refine hx (bB 1 rfl rfl rfl Tryz.underlying27 Tryz.underlying27 (by exact .inl rfl) eO rfl (fun m=>Src.bT (m.ord 0 rfl)) aY (by unfold maxLen;omega) (by omega) (fun u=> ?_))
       refine az (fun m=>(m.own 0 rfl).slice) ?_
       rintro⟨A_x,c_x,rfl,hc_x⟩
       refine az (fun m=>(m.ord 0 rfl).2.1) fun hA_x=> ?_
       refine aL (fun w m=>m.bM 0 rfl (show _=aH 5 1 (.slice A_x (o2.length+1) c_x) (o2.length+1) (aZ (o2++[o2.getD (o2.length-dd) 0]))from congrArg (aH _ _ _ _) (bD _ _).symm)) ?_
       have hl1:o2.length+1=(o2++[o2.getD (o2.length-dd) 0]).length:=by simp
       rw[hl1]at hc_x hA_x ⊢
       refine hy (fun _=>ab rfl)<|ai<|al (ρ' :=[(6,_),(49,_),(11,_),(37,_),(35,_),(29,_),(10,_),(9,_),(8,_),(7,_),(14,_),(0,_),(1,_)]) ⟨rfl,rfl,rfl,rfl,rfl,rfl,rfl,rfl,rfl,rfl,rfl,rfl,rfl,trivial⟩<|ak (X' :=[_,_]) (S' :=[_,_]) (fun _ m=>m)<|aQ<|ag<|aj<|hy (fun _=>aa rfl)<|hy (fun _=>aJ rfl rfl (bA (by omega) (by omega)))<|hy (fun _=>ab rfl)<|ai<|al (ρ' :=[(11,_),(6,_),(49,_),(37,_),(35,_),(29,_),(10,_),(9,_),(8,_),(7,_),(14,_),(0,_),(1,_)]) ⟨rfl,rfl,rfl,rfl,rfl,rfl,rfl,rfl,rfl,rfl,rfl,rfl,rfl,trivial⟩<| ?_
       refine fZ (k2+1) (o2++[o2.getD (o2.length-dd) 0]) A_x c_x ⟨rfl,rfl,rfl,rfl,rfl,rfl,rfl,rfl,rfl,rfl,rfl,rfl,trivial⟩ [0] rfl [0,1] rfl (⟨by omega,by rw[←hl1];omega,hag2⟩) (by omega)
      ·obtain rfl:k2=nn:=by omega
       have hag2:o2=made p o:=by rw[←hag,Nat.sub_self];rfl
       rw[hag2]
       refine bu (fun w m=>m.gX 0 rfl (View.drop (n:=p.length) (c:=c2) (k:=sz) (by omega) (by omega))) ?_
       refine ba (fun m=>gK (m.rd 0 rfl)) ?_
       rintro⟨hl_p2,hA_p2⟩
       refine bP<|au<|au<|aC<|ag<|aj<|hy (fun _=>aa rfl)<|hy (fun _=>aa rfl)<|hy (fun _=>dQ rfl rfl Tryz.underlying27 eg rfl (by omega))<|hy (fun _=>ab rfl)<|ai<|al (ρ' :=[(0,_),(49,_),(11,_),(6,_),(37,_),(35,_),(29,_),(10,_),(9,_),(8,_),(7,_),(14,_),(1,_)]) ⟨rfl,rfl,rfl,rfl,rfl,rfl,rfl,rfl,rfl,rfl,rfl,rfl,rfl,trivial⟩<|aQ<| ?_
       rw[hdl]
       refine eW (p.drop sz) (made p o) _ (c2-sz) A4 c4 ⟨rfl,rfl,rfl,trivial⟩ [0] rfl [0,2] rfl (⟨by rw[←hdl];omega,by rw[←hdl];omega,hmn,hU⟩) (by rw[←hdl];omega)
 ·have hp0:p=[]:=List.eq_nil_of_length_eq_zero (by omega)
  rw[hp0,n4]at hU
  rw[←hU]
  refine bP<|au<|au<|aC<|ag<|ah<|aj<|hy (fun _=>aa rfl)<|hy (fun _=>ab rfl)<|hy (fun _=>ab rfl)<|ai<|al (ρ' :=[(5,_),(4,_),(14,_),(0,_),(6,_),(1,_)]) ⟨rfl,rfl,rfl,rfl,rfl,rfl,trivial⟩<|ag<|aU<| ?_
  exact dO trivial rfl rfl rfl [0] rfl [] rfl ⟨_,rfl,rfl,rfl⟩
end Go.Proofs.YtmibdabdlgmafaaGreatDoor
end
section
set_option maxRecDepth 20000
set_option maxHeartbeats 4000000
namespace Go.Proofs.YtmibdabdlgmafaaGreatDoor
open Go.Eng Go.Hx
theorem o7{f:List UInt8}{most:Int}(h:gP f=none):da f most=([],2):=by unfold da;rw[h]
theorem p8{f:List UInt8}{most:Int}{k:Nat}(h:gP f=some k)(hm:most<(k:Int)):da f most=([],3):=by unfold da;rw[h];simp only;rw[if_pos hm]
theorem s4{f:List UInt8}{most:Int}{k:Nat}(h:gP f=some k)(hm:¬most<(k:Int)):da f most=fQ f k:=by unfold da;rw[h];simp only;rw[if_neg hm]
theorem sk{f:List UInt8}{k:Nat}(h:gP f=some k):10≤f.length∧k<4294967296:=by
 unfold gP at h
 split at h
 ·cases h
 ·rename_i hq
  cases h
  exact⟨by have:¬f.length<10:=fun e=>hq (.inl e);omega,zx _⟩
theorem DW{A:Option Addr}{c:Nat}{f:List UInt8}{most:Int}(hc:f.length≤c)(hn:f.length≤10000000)(hm:most≤1000000):cj Tryz.prog 155 [.slice A f.length c,.int .i64 most] [] [dr 1 A f.length (aZ f)] (fun v_ X_ S_=>∃v,v_=(.tuple #[v,.int .i64 (da f most).2])∧X_=[aH 5 1 v (da f most).1.length (aZ (da f most).1)]∧S_=[]):=by
 refine As (N:=54) Tryz.func155 rfl rfl (by simp) fun b=> ?_
 refine ba (fun m=>gK (m.rd 0 rfl)) ?_
 rintro⟨hl_r,hA_r⟩
 refine ah<|aj<| ?_
 refine hx (aM rH (fun g4=> ?_))
 refine aL (fun w m=>m.bM 0 rfl (show _=aG g4 27 [.slice none 0 0]from rfl)) ?_
 refine hx (aM Eh (fun g5=> ?_))
 refine aL (fun w m=>m.bM 0 rfl (show _=aG g5 47 [.int .i64 0]from rfl)) ?_
 rcases hL:gP f with _|k
 ·refine ai<|ak (X' :=[_,_]) (S' :=[_]) (fun _ m=>m)<|ag<|ah<|aj<|hy (fun _=>gA rfl rfl)<|u0 rfl rfl<|ai<|al (ρ' :=[(5,_),(4,_),(0,_),(1,_)]) ⟨rfl,rfl,rfl,rfl,trivial⟩<|ag<|ah<|aj<|hy (fun _=>aa rfl)<| ?_
  refine hx (ao rfl Tryz.call211 (re (by omega) (by omega) rfl) [] rfl [0] rfl ?_)
  rintro _ _ _ ⟨rfl,rfl,rfl⟩
  refine hy (fun _=>aa rfl)<|hy (fun _=>aq rfl rfl)<|hy (fun _=>aq rfl rfl)<|hy (fun _=>ab rfl)<| ?_
  refine cI (dG 0 rfl rfl rfl vO rfl (by first|exact Nat.le_of_ble_eq_true rfl|simp) ?_)
  refine ai<|al (ρ' :=[(6,_),(5,_),(4,_),(0,_),(1,_)]) ⟨rfl,rfl,rfl,rfl,rfl,trivial⟩<|ak (X' :=[_,_]) (S' :=[_]) (fun _ m=>m)<|ag<|ah<|aj<|hy (fun m=>ar rfl lh (ax (m.aT 0 rfl) rfl))<|hy (fun _=>b7 rfl rfl)<|hy (fun m=>ar rfl lh (ax (m.aT 0 rfl) rfl))<| ?_
  refine hx (gJ rfl Tryz.call212 (nz) [] rfl [] rfl ?_ ?_)
  ·rintro _ _ _ ⟨rfl,rfl,rfl,q1⟩
   refine ew<|iR<| ?_
   rw[hL]
   rw[(o7 hL)]
   refine l5 (by simp) Tryz.call210 (gg) [1,0] rfl [] rfl ?_
   rintro _ _ _ ⟨rfl,rfl,rfl⟩
   refine o6 (fun w m=>m.dx (r' :=aH 5 1 (.slice none 0 0) 0 []) (.refl _ _) (Own.nil _ _ _ _) (fun k hk=>hk.elim)) ?_
   exact gW rfl rfl rfl dY lh (fun m=>ax (m.aT 1 rfl) (i:=0) rfl) (fun m=>ax (m.aT 2 rfl) (i:=0) rfl) [0] rfl [] rfl ⟨_,rfl,rfl,rfl⟩
  ·rintro _ _ _ ⟨rfl,rfl,rfl,q1⟩
   exact absurd q1 (by rw[hL];simp)
 ·refine ai<|ak (X' :=[_,_]) (S' :=[_]) (fun _ m=>m)<|ag<|ah<|aj<|hy (fun _=>gA rfl rfl)<|u0 rfl rfl<|ai<|al (ρ' :=[(5,_),(4,_),(0,_),(1,_)]) ⟨rfl,rfl,rfl,rfl,trivial⟩<|ag<|ah<|aj<|hy (fun _=>aa rfl)<| ?_
  refine hx (ao rfl Tryz.call211 (re (by omega) (by omega) (by omega)) [] rfl [0] rfl ?_)
  rintro _ _ _ ⟨rfl,rfl,rfl⟩
  refine hy (fun _=>aa rfl)<|hy (fun _=>aq rfl rfl)<|hy (fun _=>aq rfl rfl)<|hy (fun _=>ab rfl)<| ?_
  refine cI (dG 0 rfl rfl rfl vO rfl (by first|exact Nat.le_of_ble_eq_true rfl|simp) ?_)
  refine ai<|al (ρ' :=[(6,_),(5,_),(4,_),(0,_),(1,_)]) ⟨rfl,rfl,rfl,rfl,rfl,trivial⟩<|ak (X' :=[_,_]) (S' :=[_]) (fun _ m=>m)<|ag<|ah<|aj<|hy (fun m=>ar rfl lh (ax (m.aT 0 rfl) rfl))<|hy (fun _=>b7 rfl rfl)<|hy (fun m=>ar rfl lh (ax (m.aT 0 rfl) rfl))<| ?_
  refine hx (gJ rfl Tryz.call212 (nz) [] rfl [] rfl ?_ ?_)
  ·rintro _ _ _ ⟨rfl,rfl,rfl,q1⟩
   refine ew<|iR<| ?_
   exact absurd q1 (by rw[hL];simp)
  ·rintro _ _ _ ⟨rfl,rfl,rfl,q1⟩
   rw[hL,Option.getD_some]
   refine ai<|al (ρ' :=[(6,_),(5,_),(4,_),(0,_),(1,_)]) ⟨rfl,rfl,rfl,rfl,rfl,trivial⟩<|ak (X' :=[_,_]) (S' :=[_]) (fun _ m=>m)<|ag<|ah<|aj<|hy (fun _=>aa rfl)<|hy (fun _=>aa rfl)<|hy (fun _=>nj rfl rfl)<| ?_
   refine hx (gJ rfl Tryz.call212 (nz) [] rfl [] rfl ?_ ?_)
   ·rintro _ _ _ ⟨rfl,rfl,rfl,q2⟩
    refine ew<|iR<| ?_
    rw[(p8 hL (Int.not_le.1 (of_decide_eq_false q2)))]
    refine l5 (by simp) Tryz.call210 (gg) [1,0] rfl [] rfl ?_
    rintro _ _ _ ⟨rfl,rfl,rfl⟩
    refine o6 (fun w m=>m.dx (r' :=aH 5 1 (.slice none 0 0) 0 []) (.refl _ _) (Own.nil _ _ _ _) (fun k hk=>hk.elim)) ?_
    exact gW rfl rfl rfl dY lh (fun m=>ax (m.aT 1 rfl) (i:=0) rfl) (fun m=>ax (m.aT 2 rfl) (i:=0) rfl) [0] rfl [] rfl ⟨_,rfl,rfl,rfl⟩
   ·rintro _ _ _ ⟨rfl,rfl,rfl,q2⟩
    obtain⟨h10,hk32⟩:=sk hL
    have hkm:(k:Int)≤most:=of_decide_eq_true q2
    have hopen:=s4 hL (Int.not_lt.2 hkm)
    refine aL (fun w m=>m.gX 0 rfl (View.sub (n:=f.length) (c:=c) (k:=6) (m:=f.length-10) (by omega) (by omega))) ?_
    refine az (fun m=>gK (m.rd 0 rfl)) ?_
    rintro⟨hl_p,hA_p⟩
    refine ai<|al (ρ' :=[(6,_),(5,_),(4,_),(0,_),(1,_)]) ⟨rfl,rfl,rfl,rfl,rfl,trivial⟩<|ak (X' :=[_,_]) (S' :=[_,_]) (fun _ m=>m)<|ag<|ah<|aj<|hy (fun _=>aa rfl)<|hy (fun _=>aa rfl)<|hy (fun _=>aR rfl Tryz.underlying27)<|hy (fun _=>yV (cm rfl rfl (bA (by omega) (by omega))) ((show Value.int .i64 ((f.length:Int)-4)= .int .i64 ((f.length-4:Nat):Int) by congr 1;omega)))<|hy (fun _=>yV (eH rfl rfl rfl Tryz.underlying27 eg (show((6:Nat):Int)=6 from rfl) rfl (by omega) (by omega)) ((show Value.slice (if c=6 then A else A.map (·.add (6*1))) (f.length-4-6) (c-6)= .slice (if c=6 then A else A.map (·.add (6*1))) (f.length-10) (c-6) by congr 1)))<| ?_
    refine hx (ao rfl Tryz.call117 (rq (by omega)) [] rfl [0] rfl ?_)
    rintro _ _ _ ⟨v,rfl,rfl,rfl⟩
    refine az (fun m=>(m.own 0 rfl).slice) ?_
    rintro⟨A_x,c_x,rfl,hc_x⟩
    refine az (fun m=>(m.ord 0 rfl).2.1) fun hA_x=> ?_
    have hbl:f.length-10=(dz f).length:=by unfold dz;rw[List.length_take,List.length_drop];omega
    have hb2:(f.drop 6).take (dz f).length=dz f:=by rw[←hbl];rfl
    rw[hbl,hb2]
    rw[hbl]at hc_x
    refine cI (dG 2 rfl rfl rfl nM rfl (by first|exact Nat.le_of_ble_eq_true rfl|simp) ?_)
    refine ai<|al (ρ' :=[(6,_),(5,_),(4,_),(0,_),(1,_)]) ⟨rfl,rfl,rfl,rfl,rfl,trivial⟩<|ak (X' :=[_,_,_]) (S' :=[_,_]) (fun _ m=>m)<|ag<|ah<|ah<|aj<|hy (fun _=>aa rfl)<| ?_
    refine hx (ao rfl Tryz.call213 (Ax (by omega) (by omega) rfl) [] rfl [1] rfl ?_)
    rintro _ _ _ ⟨rfl,rfl,rfl⟩
    refine ai<|al (ρ' :=[(28,_),(6,_),(5,_),(4,_),(0,_),(1,_)]) ⟨rfl,rfl,rfl,rfl,rfl,rfl,trivial⟩<|ak (X' :=[_,_,_]) (S' :=[_,_]) (fun _ m=>m)<|ag<| ?_
    refine cL rfl (fun hpk=> ?_) (fun hpk=> ?_)
    ·have hu:tZ f k=jE (k:Int) (dz f) []:=by
      unfold tZ
      exact if_pos hpk.2
     have hkz:(k:Int)≤10000000:=by omega
     have hul:=oc (most:=(k:Int)) (dz f) [] (by simp)
     have hbn:(dz f).length≤10000000:=by omega
     refine ah<|aj<|hy (fun m=>ar rfl dY (ax (m.aT 0 rfl) rfl))<|hy (fun _=>aa rfl)<| ?_
     refine hx (cF rfl Tryz.call214 (AM hc_x hbn hkz) [] rfl (.x 1 rfl .own .nil) ?_)
     rintro _ _ _ ⟨v2,rfl,rfl,rfl⟩
     refine⟨rfl, ?_⟩
     refine az (fun m=>(m.own 0 rfl).slice) ?_
     rintro⟨A_x2,c_x2,rfl,hc_x2⟩
     refine az (fun m=>(m.ord 0 rfl).2.1) fun hA_x2=> ?_
     refine hy (fun _=>aa rfl)<|hy (fun _=>aq rfl rfl)<|hy (fun _=>aq rfl rfl)<| ?_
     refine cI (dG 1 rfl rfl rfl nM rfl (by first|exact Nat.le_of_ble_eq_true rfl|simp) ?_)
     refine cI (dG 3 rfl rfl rfl vO rfl (by first|exact Nat.le_of_ble_eq_true rfl|simp) ?_)
     refine ai<|al (ρ' :=[(28,_),(6,_),(5,_),(4,_),(0,_),(1,_)]) ⟨rfl,rfl,rfl,rfl,rfl,rfl,trivial⟩<|ak (X' :=[_,_,_,_]) (S' :=[_,_]) (fun _ m=>m)<|ag<|aj<|hy (fun m=>ar rfl lh (ax (m.aT 0 rfl) rfl))<|hy (fun _=>b7 rfl rfl)<| ?_
     refine hx (gJ rfl Tryz.call212 (nz) [] rfl [] rfl ?_ ?_)
     ·rintro _ _ _ ⟨rfl,rfl,rfl,q3⟩
      refine ew<|iR<| ?_
      have hno:da f most=([],2):=by
       rw[hopen]
       unfold fQ
       rw[hu]
       exact if_pos (of_decide_eq_false q3)
      rw[hno]
      refine l5 (by simp) Tryz.call210 (gg) [1,0] rfl [] rfl ?_
      rintro _ _ _ ⟨rfl,rfl,rfl⟩
      refine o6 (fun w m=>m.dx (r' :=aH 5 1 (.slice none 0 0) 0 []) (.refl _ _) (Own.nil _ _ _ _) (fun k hk=>hk.elim)) ?_
      exact gW rfl rfl rfl dY lh (fun m=>ax (m.aT 1 rfl) (i:=0) rfl) (fun m=>ax (m.aT 2 rfl) (i:=0) rfl) [0] rfl [] rfl ⟨_,rfl,rfl,rfl⟩
     ·rintro _ _ _ ⟨rfl,rfl,rfl,q3⟩
      have hE0:(jE (k:Int) (dz f) []).2=0:=of_decide_eq_true q3
      obtain⟨u,hu2⟩:∃u,jE (k:Int) (dz f) []=(u,0):=⟨_,Prod.ext rfl hE0⟩
      rw[hu2]at hu hul
      rw[hu2]
      dsimp only
      have hun:u.length≤1000000:=by
       rcases hul.1 with h|h
       ·have h:(u.length:Int)≤k:=h
        omega
       ·have h:u=[]:=h
        rw[h];exact Nat.zero_le _
      refine ai<|al (ρ' :=[(28,_),(6,_),(5,_),(4,_),(0,_),(1,_)]) ⟨rfl,rfl,rfl,rfl,rfl,rfl,trivial⟩<|ak (X' :=[_,_,_,_]) (S' :=[_,_]) (fun _ m=>m)<|ag<|ah<|aj<|hy (fun m=>ar rfl dY (ax (m.aT 1 rfl) rfl))<|hy (fun _=>aR rfl Tryz.underlying27)<|hy (fun _=>aa rfl)<|hy (fun _=>b7 rfl rfl)<| ?_
      refine hx (gJ rfl Tryz.call212 (nz) [] rfl [] rfl ?_ ?_)
      ·rintro _ _ _ ⟨rfl,rfl,rfl,q4⟩
       refine ew<|iR<| ?_
       have hno:da f most=([],2):=by
        rw[hopen]
        unfold fQ
        rw[hu]
        exact(if_neg (by simp)).trans (if_pos (by have:=of_decide_eq_false q4;simp only;omega))
       rw[hno]
       refine l5 (by simp) Tryz.call210 (gg) [1,0] rfl [] rfl ?_
       rintro _ _ _ ⟨rfl,rfl,rfl⟩
       refine o6 (fun w m=>m.dx (r' :=aH 5 1 (.slice none 0 0) 0 []) (.refl _ _) (Own.nil _ _ _ _) (fun k hk=>hk.elim)) ?_
       exact gW rfl rfl rfl dY lh (fun m=>ax (m.aT 1 rfl) (i:=0) rfl) (fun m=>ax (m.aT 2 rfl) (i:=0) rfl) [0] rfl [] rfl ⟨_,rfl,rfl,rfl⟩
      ·rintro _ _ _ ⟨rfl,rfl,rfl,q4⟩
       have hlen:(u).length=k:=by have:=of_decide_eq_true q4;omega
       have hgo:da f most=if gz (cV u)≠f.drop (f.length-4)then([],7)else(u,0):=by
        rw[hopen]
        unfold fQ
        rw[hu]
        exact(if_neg (by simp)).trans (if_neg (by simp only;omega))
       refine aL (fun w m=>m.gX 1 rfl (View.drop (n:=f.length) (c:=c) (k:=f.length-4) (by omega) (by omega))) ?_
       refine az (fun m=>gK (m.rd 0 rfl)) ?_
       rintro⟨hl_t,hA_t⟩
       have hcl:=jk u
       refine ai<|al (ρ' :=[(28,_),(6,_),(5,_),(4,_),(0,_),(1,_)]) ⟨rfl,rfl,rfl,rfl,rfl,rfl,trivial⟩<|ak (X' :=[_,_,_,_]) (S' :=[_,_,_]) (fun _ m=>m)<|ag<|ah<|wU [43,44,45,46,47,48,49,50,51,52] [0,0,0,0] [0,1,2] rfl rfl [1,2,8,9] [(0,some 0),(3,some 2),(4,some 4),(5,some 2),(6,some 2),(7,some 2),(1,none),(2,none),(8,none),(9,none)] (by kernel_rfl) (by kernel_rfl) (by kernel_rfl) rfl 99<|cd (fun m=>ar rfl dY (ax (m.aT 1 rfl) rfl))<|an (aa rfl)<|an (aa rfl)<|an (aR rfl Tryz.underlying27)<|an (yV (cm rfl rfl (bA (by omega) (by omega))) ((show Value.int .i64 ((f.length:Int)-4)= .int .i64 ((f.length-4:Nat):Int) by congr 1;omega)))<|an (dQ rfl rfl Tryz.underlying27 eg rfl (by omega))<| ?_
       refine ee (cF rfl Tryz.call180 (nQ (by omega)) [] rfl (.x 2 rfl .own .nil) ?_)
       rintro _ _ _ ⟨rfl,rfl,rfl⟩
       refine⟨rfl, ?_⟩
       refine⟨(fun _=>wk [0,0,0,0] [0,1,2] rfl rfl), ?_⟩
       refine ee (ao rfl Tryz.call179 (jC (by omega)) [] rfl [] rfl ?_)
       rintro _ _ _ ⟨v3,rfl,rfl,rfl⟩
       refine⟨(fun _=>wk [1,1,1,1] [0,1,2] rfl rfl), ?_⟩
       refine cf (fun m=>(m.own 0 rfl).slice) ?_
       rintro⟨A_x3,c_x3,rfl,hc_x3⟩
       refine cf (fun m=>(m.ord 0 rfl).2.1) fun hA_x3=> ?_
       refine ee (cF rfl Tryz.call215 (na) [] rfl (.x 0 rfl .own (.s 0 rfl .nil)) ?_)
       rintro _ _ _ ⟨rfl,rfl,rfl⟩
       refine⟨rfl, ?_⟩
       refine⟨(fun _=>wk [1,1,1,1] [0,1,2] rfl rfl), ?_⟩
       refine ee (gJ rfl Tryz.call212 (nz) [] rfl [] rfl ?_ ?_)
       ·rintro _ _ _ ⟨rfl,rfl,rfl,q5⟩
        refine Bl<|ew<|iR<| ?_
        rw[(hgo.trans (if_pos (of_decide_eq_false q5)))]
        refine l5 (by simp) Tryz.call210 (gg) [2,1] rfl [] rfl ?_
        rintro _ _ _ ⟨rfl,rfl,rfl⟩
        refine o6 (fun w m=>m.dx (r' :=aH 5 1 (.slice none 0 0) 0 []) (.refl _ _) (Own.nil _ _ _ _) (fun k hk=>hk.elim)) ?_
        exact gW rfl rfl rfl dY lh (fun m=>ax (m.aT 1 rfl) (i:=0) rfl) (fun m=>ax (m.aT 2 rfl) (i:=0) rfl) [0] rfl [] rfl ⟨_,rfl,rfl,rfl⟩
       ·rintro _ _ _ ⟨rfl,rfl,rfl,q5⟩
        refine⟨(fun _=>wk [1,1,1,1] [0,1,2] rfl rfl), ?_⟩
        rw[hgo.trans (if_neg (fun h=>h (of_decide_eq_true q5)))]
        refine xB<|al (ρ' :=[(28,_),(6,_),(5,_),(4,_),(0,_),(1,_)]) ⟨rfl,rfl,rfl,rfl,rfl,rfl,trivial⟩<|ak (X' :=[_,_,_,_,_]) (S' :=[_,_,_]) (fun _ m=>m)<|ag<|ah<|aj<|hy (fun m=>ar rfl dY (ax (m.aT 2 rfl) rfl))<| ?_
        refine cI (dG 2 rfl rfl rfl nM rfl (by first|exact Nat.le_of_ble_eq_true rfl|simp) ?_)
        refine cI (dG 2 rfl rfl rfl vO rfl (by first|exact Nat.le_of_ble_eq_true rfl|simp) ?_)
        refine ai<|al (ρ' :=[(28,_),(6,_),(5,_),(4,_),(0,_),(1,_)]) ⟨rfl,rfl,rfl,rfl,rfl,rfl,trivial⟩<|ak (X' :=[_,_,_,_,_]) (S' :=[_,_,_]) (fun _ m=>m)<|ag<|aU<| ?_
        refine va trivial ?_
        refine l5 (by simp) Tryz.call210 (rJ) [1,0] rfl [] rfl ?_
        rintro _ _ _ ⟨rfl,rfl,rfl⟩
        exact gW rfl rfl rfl dY lh (fun m=>ax (m.aT 0 rfl) (i:=0) rfl) (fun m=>ax (m.aT 1 rfl) (i:=0) rfl) [3] rfl [] rfl ⟨_,rfl,rfl,rfl⟩
    ·have hu:tZ f k=(dz f,0):=by
      unfold tZ
      exact if_neg fun e=>hpk ⟨by rw[hL];rfl,e⟩
     refine aB<|ag<|ah<|aj<|hy (fun m=>ar rfl dY (ax (m.aT 0 rfl) rfl))<|hy (fun _=>aR rfl Tryz.underlying27)<|hy (fun _=>aa rfl)<|hy (fun _=>b7 rfl rfl)<| ?_
     refine hx (gJ rfl Tryz.call212 (nz) [] rfl [] rfl ?_ ?_)
     ·rintro _ _ _ ⟨rfl,rfl,rfl,q4⟩
      refine ew<|iR<| ?_
      have hno:da f most=([],2):=by
       rw[hopen]
       unfold fQ
       rw[hu]
       exact(if_neg (by simp)).trans (if_pos (by have:=of_decide_eq_false q4;simp only;omega))
      rw[hno]
      refine l5 (by simp) Tryz.call210 (gg) [0,1] rfl [] rfl ?_
      rintro _ _ _ ⟨rfl,rfl,rfl⟩
      refine o6 (fun w m=>m.dx (r' :=aH 5 1 (.slice none 0 0) 0 []) (.refl _ _) (Own.nil _ _ _ _) (fun k hk=>hk.elim)) ?_
      exact gW rfl rfl rfl dY lh (fun m=>ax (m.aT 1 rfl) (i:=0) rfl) (fun m=>ax (m.aT 2 rfl) (i:=0) rfl) [0] rfl [] rfl ⟨_,rfl,rfl,rfl⟩
     ·rintro _ _ _ ⟨rfl,rfl,rfl,q4⟩
      have hlen:((dz f)).length=k:=by have:=of_decide_eq_true q4;omega
      have hgo:da f most=if gz (cV (dz f))≠f.drop (f.length-4)then([],7)else((dz f),0):=by
       rw[hopen]
       unfold fQ
       rw[hu]
       exact(if_neg (by simp)).trans (if_neg (by simp only;omega))
      refine aL (fun w m=>m.gX 1 rfl (View.drop (n:=f.length) (c:=c) (k:=f.length-4) (by omega) (by omega))) ?_
      refine az (fun m=>gK (m.rd 0 rfl)) ?_
      rintro⟨hl_t,hA_t⟩
      have hcl:=jk (dz f)
      refine ai<|al (ρ' :=[(28,_),(6,_),(5,_),(4,_),(0,_),(1,_)]) ⟨rfl,rfl,rfl,rfl,rfl,rfl,trivial⟩<|ak (X' :=[_,_,_]) (S' :=[_,_,_]) (fun _ m=>m)<|ag<|ah<|wU [43,44,45,46,47,48,49,50,51,52] [0,0,0] [0,1,2] rfl rfl [1,2,8,9] [(0,some 0),(3,some 2),(4,some 4),(5,some 2),(6,some 2),(7,some 2),(1,none),(2,none),(8,none),(9,none)] (by kernel_rfl) (by kernel_rfl) (by kernel_rfl) rfl 99<|cd (fun m=>ar rfl dY (ax (m.aT 0 rfl) rfl))<|an (aa rfl)<|an (aa rfl)<|an (aR rfl Tryz.underlying27)<|an (yV (cm rfl rfl (bA (by omega) (by omega))) ((show Value.int .i64 ((f.length:Int)-4)= .int .i64 ((f.length-4:Nat):Int) by congr 1;omega)))<|an (dQ rfl rfl Tryz.underlying27 eg rfl (by omega))<| ?_
      refine ee (cF rfl Tryz.call180 (nQ (by omega)) [] rfl (.x 1 rfl .own .nil) ?_)
      rintro _ _ _ ⟨rfl,rfl,rfl⟩
      refine⟨rfl, ?_⟩
      refine⟨(fun _=>wk [0,0,0] [0,1,2] rfl rfl), ?_⟩
      refine ee (ao rfl Tryz.call179 (jC (by omega)) [] rfl [] rfl ?_)
      rintro _ _ _ ⟨v2,rfl,rfl,rfl⟩
      refine⟨(fun _=>wk [1,1,1] [0,1,2] rfl rfl), ?_⟩
      refine cf (fun m=>(m.own 0 rfl).slice) ?_
      rintro⟨A_x2,c_x2,rfl,hc_x2⟩
      refine cf (fun m=>(m.ord 0 rfl).2.1) fun hA_x2=> ?_
      refine ee (cF rfl Tryz.call215 (na) [] rfl (.x 0 rfl .own (.s 0 rfl .nil)) ?_)
      rintro _ _ _ ⟨rfl,rfl,rfl⟩
      refine⟨rfl, ?_⟩
      refine⟨(fun _=>wk [1,1,1] [0,1,2] rfl rfl), ?_⟩
      refine ee (gJ rfl Tryz.call212 (nz) [] rfl [] rfl ?_ ?_)
      ·rintro _ _ _ ⟨rfl,rfl,rfl,q5⟩
       refine Bl<|ew<|iR<| ?_
       rw[(hgo.trans (if_pos (of_decide_eq_false q5)))]
       refine l5 (by simp) Tryz.call210 (gg) [1,2] rfl [] rfl ?_
       rintro _ _ _ ⟨rfl,rfl,rfl⟩
       refine o6 (fun w m=>m.dx (r' :=aH 5 1 (.slice none 0 0) 0 []) (.refl _ _) (Own.nil _ _ _ _) (fun k hk=>hk.elim)) ?_
       exact gW rfl rfl rfl dY lh (fun m=>ax (m.aT 1 rfl) (i:=0) rfl) (fun m=>ax (m.aT 2 rfl) (i:=0) rfl) [0] rfl [] rfl ⟨_,rfl,rfl,rfl⟩
      ·rintro _ _ _ ⟨rfl,rfl,rfl,q5⟩
       refine⟨(fun _=>wk [1,1,1] [0,1,2] rfl rfl), ?_⟩
       rw[hgo.trans (if_neg (fun h=>h (of_decide_eq_true q5)))]
       refine xB<|al (ρ' :=[(28,_),(6,_),(5,_),(4,_),(0,_),(1,_)]) ⟨rfl,rfl,rfl,rfl,rfl,rfl,trivial⟩<|ak (X' :=[_,_,_,_]) (S' :=[_,_,_]) (fun _ m=>m)<|ag<|ah<|aj<|hy (fun m=>ar rfl dY (ax (m.aT 1 rfl) rfl))<| ?_
       refine cI (dG 1 rfl rfl rfl nM rfl (by first|exact Nat.le_of_ble_eq_true rfl|simp) ?_)
       refine cI (dG 3 rfl rfl rfl vO rfl (by first|exact Nat.le_of_ble_eq_true rfl|simp) ?_)
       refine ai<|al (ρ' :=[(28,_),(6,_),(5,_),(4,_),(0,_),(1,_)]) ⟨rfl,rfl,rfl,rfl,rfl,rfl,trivial⟩<|ak (X' :=[_,_,_,_]) (S' :=[_,_,_]) (fun _ m=>m)<|ag<|aU<| ?_
       refine va trivial ?_
       refine l5 (by simp) Tryz.call210 (rJ) [1,0] rfl [] rfl ?_
       rintro _ _ _ ⟨rfl,rfl,rfl⟩
       exact gW rfl rfl rfl dY lh (fun m=>ax (m.aT 0 rfl) (i:=0) rfl) (fun m=>ax (m.aT 1 rfl) (i:=0) rfl) [3] rfl [] rfl ⟨_,rfl,rfl,rfl⟩
end Go.Proofs.YtmibdabdlgmafaaGreatDoor
end
section
set_option maxRecDepth 20000
namespace Go.Proofs.YtmibdabdlgmafaaGreatDoor
open Go.Eng Go.Hx
structure sK where
 h:List UInt32
 n:Nat
 A:Option Addr
 c:Nat
 rest:List UInt8
def l9(h:List UInt32)(n:Nat)(A:Option Addr)(m c:Nat):List Value:=ei h++[.int .i64 (n:Int),.slice A m c]
abbrev mi(g:Nat)(s:sK):bh:=eK [aG g 308 (l9 s.h s.n s.A s.rest.length s.c),aH 5 1 (.slice s.A s.rest.length s.c) s.rest.length (aZ s.rest)]
structure sK.ok(s:sK)(all:List UInt8):Prop where
 len:s.h.length=8
 n:s.n=all.length
 Em:∃d,d++s.rest=all∧d.length % 64=0∧s.h=fP pC d
theorem jX{h:List UInt32}{n:Nat}{A:Option Addr}{m c:Nat}(hh:h.length=8):(l9 h n A m c).length=10:=by simp[l9,ei,hh]
theorem uj{h:List UInt32}{n:Nat}{A:Option Addr}{m c:Nat}(hh:h.length=8):(l9 h n A m c)[8]? =some (.int .i64 (n:Int)):=by
 rw[l9,List.getElem?_append_right (by rw[bw];omega),bw,hh];rfl
theorem sh{h:List UInt32}{n:Nat}{A:Option Addr}{m c:Nat}(hh:h.length=8):(l9 h n A m c)[9]? =some (.slice A m c):=by
 rw[l9,List.getElem?_append_right (by rw[bw];omega),bw,hh];rfl
theorem w7{h:List UInt32}{n:Nat}{A:Option Addr}{m c:Nat}{j:Nat}{u:Value}(hu:(ei h)[j]? =some u):(l9 h n A m c)[j]? =some u:=by
 rw[l9,List.getElem?_append_left ((List.getElem?_eq_some_iff.1 hu).1)];exact hu
theorem wO{h:List UInt32}{n n' :Nat}{A:Option Addr}{m c:Nat}(hh:h.length=8):(l9 h n A m c).set 8 (.int .i64 (n' :Int))=l9 h n' A m c:=by
 rw[l9,List.set_append_right _ _ (by rw[bw];omega),bw,hh];rfl
theorem sA{h:List UInt32}{n:Nat}{A A' :Option Addr}{m c m' c' :Nat}(hh:h.length=8):(l9 h n A m c).set 9 (.slice A' m' c')=l9 h n A' m' c' :=by
 rw[l9,List.set_append_right _ _ (by rw[bw];omega),bw,hh];rfl
theorem zM{h h' :List UInt32}{n:Nat}{A:Option Addr}{m c:Nat}(hh:h.length=8)(hh' :h'.length=8):cE (l9 h n A m c) 0 (ei h')=l9 h' n A m c:=by
 rw[cE,List.take_zero,List.nil_append,Nat.zero_add,bw,hh',l9,List.drop_append_of_le_length (by rw[bw];omega),List.drop_of_length_le (by rw[bw];omega)];rfl
theorem Dj:cj Tryz.prog 172 [] [] [] (fun v_ X_ S_=>∃g,v_=(.pointer (some ⟨g,0,none⟩))∧X_=[mi g ⟨pC,0,none,0,[]⟩]∧S_=[]):=by
 refine aO (N:=4) Tryz.func172 rfl rfl (by simp) fun b=> ?_
 refine ah<|aj<|hy (fun _=>ab rfl)<|ai<|ag<|ah<|aj<|hy (fun _=>yV (sC (n:=8) uL (by kernel_rfl) rfl (by kernel_rfl) rfl (by kernel_rfl) (by kernel_rfl) (qa (l:=[1779033703,3144134277,1013904242,2773480762,1359893119,2600822924,528734635,1541459225]))) ((rfl:_=Value.agg (ei pC).toArray)))<|hy (fun _=>yV (cM AY rfl rfl (by kernel_rfl) (.cons (o:=0) (sz:=8) (by kernel_rfl) rfl rfl (Nat.le_of_ble_eq_true rfl) .nil)) ((rfl:_=Value.agg (l9 pC 0 none 0 0).toArray)))<| ?_
 refine hx (cz rfl (fun g3=> ?_))
 refine hy (fun _=>ab rfl)<|ai<|al (ρ' :=[(0,_)]) ⟨rfl,trivial⟩<|ak (X' :=[_]) (S' :=[]) (fun _ m=>m)<|ag<|aU<| ?_
 refine ak (fun w m=>m.bM 0 rfl (show _=aG g3 308 (l9 pC 0 none 0 0)from congrArg (aG _ _) (bG _))) ?_
 refine ak (fun w m=>m.dx (r' :=aH 5 1 (.slice none 0 0) 0 []) (.refl _ _) (Own.nil _ _ _ _) (fun k hk=>hk.elim)) ?_
 refine ak (X' :=mi g3 ⟨pC,0,none,0,[]⟩::_) (fun w m=>(m.perm (av [1,0] _ [_,_] _ rfl)).pack) ?_
 exact bc trivial rfl rfl [0] rfl [] rfl ⟨_,rfl,rfl,rfl⟩
theorem BI:sK.ok ⟨pC,0,none,0,[]⟩ []:=⟨rfl,rfl,[],rfl,rfl,rfl⟩
theorem u6{g:Nat}{s:sK}{B:Option Addr}{mb mc:Nat}{l:List UInt8}(hh:s.h.length=8)(hn:s.n+mb≤1000000000000000)(hr:s.rest.length+mb≤140737488355328):cj Tryz.prog 173 [.pointer (some ⟨g,0,none⟩),.slice B mb mc] [mi g s] [dr 1 B mb (aZ l),fm] (fun v_ X_ S_=>∃s1,v_=(.tuple #[])∧X_=[mi g s1]∧S_=[]∧(s1.rest.length<64∧∀all,s.ok all→s1.ok (all++l))):=by
 refine aO (N:=49) Tryz.func173 rfl rfl (by simp) fun b=> ?_
 refine ba (fun m=>gK (m.rd 0 rfl)) ?_
 rintro⟨hl_r,hA_r⟩
 have hlm:l.length=mb:=hl_r
 have hl0:=jX (n:=s.n) (A:=s.A) (m:=s.rest.length) (c:=s.c) hh
 refine bu (fun w m=>(m.perm (av [0] _ [_] _ rfl)).unpack) ?_
 refine ah<|aj<|hy (fun _=>aa rfl)<|hy (fun _=>aW rfl)<|hy (fun _=>aD rfl mA (by decide))<|hy (fun m=>ar rfl eY ((m.aT 0 rfl).ay 8 _ (uj hh)))<|hy (fun _=>aa rfl)<|hy (fun _=>aR rfl Tryz.underlying27)<|hy (fun _=>aJ rfl rfl (bA (by omega) (by omega)))<|hy (fun _=>aW rfl)<|hy (fun _=>aD rfl mA (by decide))<| ?_
 refine cI (bR 0 rfl rfl rfl tf rfl (by rw[hl0];decide) ?_)
 refine ai<|al (ρ' :=[(0,_),(1,_)]) ⟨rfl,rfl,trivial⟩<|ak (X' :=[_,_]) (S' :=[_,_]) (fun _ m=>m)<|ag<|ah<|aj<| ?_
 refine aL (fun w m=>m.bM 0 rfl (show _=aG g 308 (l9 s.h (s.n+mb) s.A s.rest.length s.c)from by rw[Nat.zero_add,←Int.natCast_add,wO hh])) ?_
 refine hy (fun _=>aa rfl)<|hy (fun _=>aa rfl)<|hy (fun _=>aW rfl)<|hy (fun _=>aD rfl jW (by decide))<|hy (fun m=>ar rfl dY ((m.aT 0 rfl).ay 9 _ (sh hh)))<|hy (fun _=>aa rfl)<| ?_
 refine hx (bB 1 rfl rfl rfl Tryz.underlying27 Tryz.underlying27 (by exact .inl rfl) eO rfl (fun m=>Src.bT (m.rd 0 rfl)) aY (by unfold maxLen;omega) (by omega) (fun u=> ?_))
 refine az (fun m=>(m.own 0 rfl).slice) ?_
 rintro⟨A_d1,c_d1,rfl,hc_d1⟩
 refine az (fun m=>(m.ord 0 rfl).2.1) fun hA_d1=> ?_
 refine aL (fun w m=>m.bM 0 rfl (show _=aH 5 1 (.slice A_d1 (s.rest++l).length c_d1) (s.rest++l).length (aZ (s.rest++l))from by rw[List.length_append,hlm];simp[aZ])) ?_
 have hls:=jX (n:=s.n+mb) (A:=s.A) (m:=s.rest.length) (c:=s.c) hh
 refine hy (fun _=>aW rfl)<|hy (fun _=>aD rfl jW (by decide))<| ?_
 refine cI (bR 1 rfl rfl rfl nM rfl (by rw[hls];decide) ?_)
 refine ai<|al (ρ' :=[(0,_),(1,_)]) ⟨rfl,rfl,trivial⟩<|ak (X' :=[_,_]) (S' :=[_,_]) (fun _ m=>m)<|ag<|aN<| ?_
 refine bu (fun w m=>m.bM 0 rfl (show _=aG g 308 (l9 s.h (s.n+mb) A_d1 (s.rest++l).length c_d1)from by rw[Nat.zero_add,sA hh,List.length_append,hlm])) ?_
 have hlen:(s.rest++l).length=s.rest.length+mb:=by rw[List.length_append,hlm]
 refine rA (fun h A1 c1 q dn=>q.length) (fun h A1 c1 q dn=>[]) (fun h A1 c1 q dn=>[aG g 308 (l9 h (s.n+mb) A1 q.length c1),aH 5 1 (.slice A1 q.length c1) q.length (aZ q)]) (fun h A1 c1 q dn=>[]) (fun h A1 c1 q dn=>h.length=8∧q.length≤c1∧dn++q=s.rest++l∧dn.length % 64=0∧∀D,D.length % 64=0→s.h=fP pC D→h=fP pC (D++dn)) s.h A_d1 c_d1 (s.rest++l) [] [(0,_),(1,_)] ⟨rfl,rfl,trivial⟩ [0,0] rfl [] rfl (⟨hh,(by omega),rfl,rfl,fun D _ e=>by rw[List.append_nil];exact e⟩) trivial (fun h A1 c1 q dn ⟨h8,hqc,hdq,hd64,hD⟩=> ?_)
 have hls:=jX (n:=s.n+mb) (A:=A1) (m:=q.length) (c:=c1) h8
 refine ah<|ah<|aj<|hy (fun _=>aa rfl)<|hy (fun _=>aW rfl)<|hy (fun _=>aD rfl jW (by decide))<|hy (fun m=>ar rfl dY ((m.aT 0 rfl).ay 9 _ (sh h8)))<|hy (fun _=>aR rfl Tryz.underlying27)<|hy (fun _=>iD rfl rfl)<|ai<|al (ρ' :=[(27,_),(0,_),(1,_)]) ⟨rfl,rfl,rfl,trivial⟩<|ag<| ?_
 refine cL rfl (fun hge=> ?_) (fun hge=> ?_)
 ·have hq64:64≤q.length:=by omega
  refine aB<|ag<|aN<|ah<|cK [10,13] [(0,some 1),(1,some 0),(2,some 0),(3,some 0),(4,some 0),(5,some 1),(6,some 0),(7,some 0),(8,some 0),(9,some 0),(10,none),(11,some 1),(12,some 1),(13,none)] (by kernel_rfl) (by kernel_rfl) rfl 1<|an (aa rfl)<|an (aa rfl)<|an (aW rfl)<|an (aD rfl n7 (by decide))<|cd (fun m=>yV (aX rfl qe lu (by rw[bw,h8]) (fun j u hu=>(m.aT 0 rfl).ay j u (w7 hu))) ((rfl:_=Value.agg (ei h).toArray)))<|an (aa rfl)<|an (aW rfl)<|an (aD rfl jW (by decide))<|cd (fun m=>ar rfl dY ((m.aT 0 rfl).ay 9 _ (sh h8)))<|an (jS rfl rfl Tryz.underlying27 eg (show((64:Nat):Int)=64 from rfl) (by omega))<| ?_
  refine ee (cF rfl Tryz.call227 (Ex (by omega) h8 (l:=(q.take 64))) [] rfl (.x 1 rfl (View.own.trans (View.take hq64)) (.s 1 rfl .nil)) ?_)
  rintro _ _ _ ⟨rfl,rfl,rfl⟩
  refine⟨rfl, ?_⟩
  refine⟨(fun _=>wk [0,0] [0,1] rfl rfl), ?_⟩
  refine an (aW rfl)<|an (aD rfl n7 (by decide))<| ?_
  have hb8:=ji h8 (q.take 64)
  refine j5 (jG 0 rfl rfl rfl lu (by rw[bw,hb8]) ij (by rw[hls];decide) ⟨(fun h=>absurd h (by decide)), ?_⟩)
  refine jz (fun w m=>m.bM 0 rfl (show _=aG g 308 (l9 (eX h (q.take 64)) (s.n+mb) A1 q.length c1)from by rw[Nat.zero_add,zM h8 hb8])) ?_
  have hls2:=jX (n:=s.n+mb) (A:=A1) (m:=q.length) (c:=c1) hb8
  refine jz (X' :=aH 5 1 (.slice (if c1=64 then A1 else A1.map (·.add (64*1))) (q.length-64) (c1-64)) (q.length-64) ((aZ q).drop (64*1))::_) (fun w m=>(m.perm (av [1] _ [_] _ rfl)).yJ (View.qH hq64 hqc)) ?_
  refine bq<|al (ρ' :=[(27,_),(0,_),(1,_)]) ⟨rfl,rfl,rfl,trivial⟩<|ak (X' :=[_,_]) (S' :=[_,_]) (fun _ m=>m)<|ag<|aj<|hy (fun _=>aa rfl)<|hy (fun _=>aa rfl)<|hy (fun _=>aW rfl)<|hy (fun _=>aD rfl jW (by decide))<|hy (fun m=>ar rfl dY ((m.aT 1 rfl).ay 9 _ (sh hb8)))<|hy (fun _=>dQ rfl rfl Tryz.underlying27 eg (show((64:Nat):Int)=64 from rfl) (by omega))<|hy (fun _=>aW rfl)<|hy (fun _=>aD rfl jW (by decide))<| ?_
  refine cI (bR 1 rfl rfl rfl nM rfl (by rw[hls2];decide) ?_)
  refine ai<|al (ρ' :=[(27,_),(0,_),(1,_)]) ⟨rfl,rfl,rfl,trivial⟩<|ak (X' :=[_,_]) (S' :=[_,_]) (fun _ m=>m)<|aQ<| ?_
  have hqd:(q.drop 64).length=q.length-64:=List.length_drop
  have e9:(aZ q).drop (64*1)=aZ (q.drop 64):=by simp[aZ,List.map_drop]
  generalize hA2:(if c1=64 then A1 else A1.map (·.add (64*1)))=A2
  refine ak (fun w m=>m.bM 0 rfl (show _=aG g 308 (l9 (eX h (q.take 64)) (s.n+mb) A2 (q.drop 64).length (c1-64))from by rw[Nat.zero_add,sA hb8,hqd])) ?_
  refine ak (fun w m=>m.bM 1 rfl (show _=aH 5 1 (.slice A2 (q.drop 64).length (c1-64)) (q.drop 64).length (aZ (q.drop 64))from by rw[hqd,e9])) ?_
  refine ix (eX h (q.take 64)) A2 (c1-64) (q.drop 64) (dn++q.take 64) ⟨rfl,rfl,trivial⟩ [1,0] rfl [0,1] rfl (⟨hb8,by omega,by rw[List.append_assoc,List.take_append_drop];exact hdq,by rw[List.length_append,List.length_take];omega,fun D h1 h2=>by rw[←List.append_assoc,o3 (by rw[List.length_append];omega) (by rw[List.length_take];omega),←hD D h1 h2]⟩) (by omega)
 ·refine bP<|au<|au<|aC<| ?_
  have hok:∀all,s.ok all→sK.ok ⟨h,s.n+mb,A1,c1,q⟩ (all++l):=fun all ok=>by
   obtain⟨D,e1,e2,e3⟩:=ok.Em
   refine⟨h8, ?_,D++dn, ?_, ?_,hD D e2 e3⟩
   ·show s.n+mb=_
    rw[List.length_append,ok.n,hlm]
   ·show(D++dn)++q=_
    rw[List.append_assoc,hdq,←List.append_assoc,e1]
   ·rw[List.length_append];omega
  refine ak (X' :=mi g ⟨h,s.n+mb,A1,c1,q⟩::_) (fun w m=>(m.perm (av [0,0] _ [_,_] _ rfl)).pack) ?_
  exact fv trivial rfl [0] rfl [] rfl ⟨_,rfl,rfl,rfl,⟨(by show q.length<64;omega),hok⟩⟩
theorem Aj{h:List UInt32}{n:Nat}{A:Option Addr}{m c:Nat}(hh:h.length=8){z:List Value}(hz:z.length=10):cE (cE (cE z 0 (ei h)) 8 [.int .i64 (n:Int)]) 9 [.slice A m c]=l9 h n A m c:=by
 have hw:(ei h).length=8:=by rw[bw,hh]
 have e1:cE z 0 (ei h)=ei h++z.drop 8:=by simp[cE,hw]
 match hq:z.drop 8,(show(z.drop 8).length=2 by rw[List.length_drop,hz])with
 | [x,y],_=>
  rw[e1,hq]
  have e2:cE (ei h++[x,y]) 8 [.int .i64 (n:Int)]=ei h++[.int .i64 (n:Int),y]:=by
   rw[cE,List.take_append_of_le_length (by omega),List.take_of_length_le (by omega),List.drop_append,List.drop_of_length_le (by omega)]
   simp[hw]
  rw[e2,cE,List.take_append,List.take_of_length_le (by omega),List.drop_of_length_le (by simp[hw])]
  simp[hw,l9]
theorem CG{P:Program}{pl:Nat→Option (Nat×Nat)}{h:List UInt32}(hh:h.length=8){zs:List Value}(hz:zs.length=10)(p0:pl 0=some (0,8))(p1:pl 1=some (8,1))(p2:pl 2=some (9,1)){n:Nat}{A:Option Addr}{m c:Nat}:
  y8 P pl zs [(0,.agg (ei h).toArray),(1,.int .i64 (n:Int)),(2,.slice A m c)] (l9 h n A m c):=by
 have hw:(ei h).length=8:=by rw[bw,hh]
 have l1:(cE zs 0 (ei h)).length=10:=by rw[gn (by omega),hz]
 have l2:(cE (cE zs 0 (ei h)) 8 [Value.int .i64 (n:Int)]).length=10:=by rw[gn (by rw[l1];show 8+1≤10;decide),l1]
 refine .cons (vs:=ei h) p0 rfl hw (by omega) (.cons (vs:=[.int .i64 (n:Int)]) p1 rfl rfl (by omega) (.cons (vs:=[.slice A m c]) p2 rfl rfl (by omega) ?_))
 have e:=Aj (n:=n) (A:=A) (m:=m) (c:=c) hh hz
 show y8 P pl (cE (cE (cE zs 0 (ei h)) 8 [.int .i64 (n:Int)]) 9 [.slice A m c]) [] _
 rw[e]
 exact .nil
theorem zW{g:Nat}{s:sK}(hh:s.h.length=8)(hr:s.rest.length≤140737488351232):cj Tryz.prog 228 [.pointer (some ⟨g,0,none⟩)] [mi g s] [] (fun v_ X_ S_=>∃g2 s2,v_=(.pointer (some ⟨g2,0,none⟩))∧X_=[mi g s,mi g2 s2]∧S_=[]∧(s2.h=s.h∧s2.n=s.n∧s2.rest=s.rest)):=by
 refine aO (N:=18) Tryz.func228 rfl rfl (by simp) fun b=> ?_
 refine bu (fun w m=>(m.perm (av [0] _ [_] _ rfl)).unpack) ?_
 have hl0:=jX (n:=s.n) (A:=s.A) (m:=s.rest.length) (c:=s.c) hh
 refine ah<|aj<|hy (fun _=>ab rfl)<|ai<|ag<|ah<|cK [12,14] [(0,some 2),(1,some 1),(2,some 1),(3,some 1),(4,some 2),(5,some 1),(6,some 1),(7,some 1),(8,some 2),(9,some 2),(10,some 0),(11,some 0),(12,none),(13,some 1),(14,none),(15,some 2)] (by kernel_rfl) (by kernel_rfl) rfl 99<|an (aa rfl)<|an (aW rfl)<|an (aD rfl n7 (by decide))<|cd (fun m=>yV (aX rfl qe lu (by rw[bw,hh]) (fun j u hu=>(m.aT 0 rfl).ay j u (w7 hu))) ((rfl:_=Value.agg (ei s.h).toArray)))<|an (aa rfl)<|an (aW rfl)<|an (aD rfl mA (by decide))<|cd (fun m=>ar rfl eY ((m.aT 0 rfl).ay 8 _ (uj hh)))<|an (aa rfl)<|an (aW rfl)<|an (aD rfl jW (by decide))<|cd (fun m=>ar rfl dY ((m.aT 0 rfl).ay 9 _ (sh hh)))<| ?_
 refine ee (cF rfl Tryz.call117 (rq (by omega)) [] rfl (.x 1 rfl .own .nil) ?_)
 rintro _ _ _ ⟨v,rfl,rfl,rfl⟩
 refine⟨rfl, ?_⟩
 refine⟨(fun _=>wk [1,1] [] rfl rfl), ?_⟩
 refine cf (fun m=>(m.own 0 rfl).slice) ?_
 rintro⟨A_x,c_x,rfl,hc_x⟩
 refine cf (fun m=>(m.ord 0 rfl).2.1) fun hA_x=> ?_
 refine an (cM AY rfl rfl (by kernel_rfl) (CG hh rfl (by kernel_rfl) (by kernel_rfl) (by kernel_rfl)))<| ?_
 refine ee (cz rfl (fun g17=>⟨(fun _=>wk [2,2] [] rfl rfl), ?_⟩))
 refine an (ab rfl)<|bq<|al (ρ' :=[(2,_),(0,_)]) ⟨rfl,rfl,trivial⟩<|ak (X' :=[_,_,_,_]) (S' :=[]) (fun _ m=>m)<|ag<|aU<| ?_
 refine ak (fun w m=>m.bM 0 rfl (show _=aG g17 308 (l9 s.h s.n A_x s.rest.length c_x)from congrArg (aG _ _) (bG _))) ?_
 refine ak (X' :=mi g s::_) (fun w m=>(m.perm (av [2,2] _ [_,_] _ rfl)).pack) ?_
 refine ak (X' :=mi g17 ⟨s.h,s.n,A_x,c_x,s.rest⟩::_) (fun w m=>(m.perm (av [1,1] _ [_,_] _ rfl)).pack) ?_
 exact bc trivial rfl rfl [1,0] rfl [] rfl ⟨_,_,rfl,rfl,rfl,⟨rfl,rfl,rfl⟩⟩
end Go.Proofs.YtmibdabdlgmafaaGreatDoor
end
section
set_option maxRecDepth 20000
namespace Go.Proofs.YtmibdabdlgmafaaGreatDoor
open Go.Eng Go.Hx
theorem xm(n:Nat)(h:n<18446744073709551616):IntKind.u64.wrap (n:Int)=(n:Int):=by
 simp[IntKind.wrap,IntKind.signed,IntKind.bits];omega
theorem xF{n i:Nat}(hi:i<8):(rC n).take (i+1)=(rC n).take i++[UInt8.ofNat (n/256 ^ (7-i))]:=by
 rw[rC,←List.map_take,←List.map_take,List.take_range,List.take_range,show min (i+1) 8=i+1 by omega,show min i 8=i by omega,List.range_succ,List.map_append];rfl
theorem EN{i:Nat}(hi:i<8):2 ^ (56-8*i)=256 ^ (7-i):=by
 rw[show(256:Nat)=2 ^ 8 from rfl,←Nat.pow_mul];congr 1;omega
theorem uV(h:List UInt32)(j:Nat)(hj:j<h.length):eV (h.take (j+1))=eV (h.take j)++y0 (h.getD j 0):=by
 rw[List.take_succ_eq_append_getElem hj,eV,eV,List.flatMap_append]
 simp[List.getD,List.getElem?_eq_getElem hj]
theorem oI(h:List UInt32):∀j,j≤h.length→(eV (h.take j)).length=4*j
 |0,_=>rfl
 |j+1,hj=>by rw[uV h j (by omega),List.length_append,oI h j (by omega)];show 4*j+4=_;omega
theorem Ei{p r:List UInt8}{k:Nat}{a b c d x y z u:UInt8}(hp:p.length=k):
  ((((aZ (p++x::y::z::u::r)).set k (B8 a)).set (k+1) (B8 b)).set (k+2) (B8 c)).set (k+3) (B8 d)=aZ (p++a::b::c::d::r):=by
 subst hp
 simp[aZ,List.set_append]
theorem DD{g:Nat}{s:sK}{all:List UInt8}(ok:s.ok all)(hr:s.rest.length<64)(ha:all.length≤140737488351232):cj Tryz.prog 174 [.pointer (some ⟨g,0,none⟩)] [mi g s] [fm] (fun v_ X_ S_=>v_=(.agg (aZ (bF all)).toArray)∧X_=[mi g s]∧S_=[]):=by
 have hh:=ok.len
 have hsn:=ok.n
 have hl0:=jX (n:=s.n) (A:=s.A) (m:=s.rest.length) (c:=s.c) hh
 have hz64:iC s.n<64:=Nat.mod_lt _ (by decide)
 have hzp:(s.n+(1+iC s.n)) % 64=56:=by unfold iC;omega
 have hzm:∀j,j<iC s.n→(s.n+(1+j)) % 64≠56:=fun j hj=>by unfold iC at hj;omega
 refine aO (N:=83) Tryz.func174 rfl rfl (by simp) fun b=> ?_
 refine ah<|aj<| ?_
 refine hx (aM cX (fun g2=> ?_))
 refine ai<|ak (X' :=[_,_]) (S' :=[_]) (fun _ m=>m)<|ag<|ah<|aj<|hy (fun _=>aa rfl)<| ?_
 refine hx (ao rfl Tryz.call228 (zW (by omega) (by omega)) [1] rfl [] rfl ?_)
 rintro _ _ _ ⟨g22,s2,rfl,rfl,rfl,hp⟩
 refine hy (fun _=>ab rfl)<|ai<|al (ρ' :=[(3,_),(2,_),(0,_)]) ⟨rfl,rfl,rfl,trivial⟩<|ak (X' :=[_,_,_]) (S' :=[_]) (fun _ m=>m)<|ag<|ah<|aj<| ?_
 refine hx (b8 Tryz.underlying27 eO rfl rfl rfl (by simp[Value.cells,B8]) (by decide) (by decide) (fun g12=> ?_))
 have hA_b12:0<1→(some (⟨g12,0,none⟩:Addr))≠none:=fun _ h=>by cases h
 refine hy (fun _=>ab rfl)<|ai<|al (ρ' :=[(4,_),(3,_),(2,_),(0,_)]) ⟨rfl,rfl,rfl,rfl,trivial⟩<|ak (X' :=[_,_,_,_]) (S' :=[_]) (fun _ m=>m)<|ag<|ah<|aN<| ?_
 obtain⟨c1,c2,c3⟩:=hp
 refine bu (fun w m=>m.bM 0 rfl (show _=aH 5 1 (.slice (some ⟨g12,0,none⟩) 1 1) (1+0) (aZ (128::List.replicate 0 0))from rfl)) ?_
 refine iM (fun j A1 cc=>iC s.n-j) (fun j A1 cc=>[(4,.slice A1 (1+j) cc)]) (fun j A1 cc=>[aH 5 1 (.slice A1 (1+j) cc) (1+j) (aZ (128::List.replicate j 0)),mi g s]) (fun j A1 cc=>[]) (fun j A1 cc=>j≤iC s.n) 0 (some ⟨g12,0,none⟩) 1 [(3,_),(2,_),(0,_)] ⟨rfl,rfl,rfl,trivial⟩ [0,0] rfl [] rfl (Nat.zero_le _) ⟨rfl,trivial⟩ (fun j A1 cc hjz=> ?_)
 refine bu (fun w m=>(m.perm (av [1] _ [_] _ rfl)).unpack) ?_
 refine ah<|ah<|aj<|hy (fun _=>aa rfl)<|hy (fun _=>aW rfl)<|hy (fun _=>aD rfl mA (by decide))<|hy (fun m=>ar rfl eY ((m.aT 0 rfl).ay 8 _ (uj hh)))<|hy (fun _=>aa rfl)<|hy (fun _=>aR rfl Tryz.underlying27)<|hy (fun _=>aJ rfl rfl (bA (by omega) (by omega)))<|hy (fun _=>gC rfl rfl (by omega) (by omega))<|hy (fun _=>de rfl rfl)<|ai<|al (ρ' :=[(21,_),(4,_),(3,_),(2,_),(0,_)]) ⟨rfl,rfl,rfl,rfl,rfl,trivial⟩<|ag<| ?_
 refine bu (X' :=mi g s::_) (fun w m=>(m.perm (av [0,0] _ [_,_] _ rfl)).pack) ?_
 refine cL rfl (fun hne=> ?_) (fun hne=> ?_)
 ·have hj:j<iC s.n:=by
   rcases Nat.lt_or_eq_of_le hjz with h|h
   ·exact h
   ·rw[←h]at hzp;omega
  refine aB<|ag<|aN<|aj<|hy (fun _=>aa rfl)<| ?_
  refine hx (b8 Tryz.underlying27 eO rfl rfl rfl (by simp[Value.cells,B8]) (by decide) (by decide) (fun g23=> ?_))
  have hA_b23:0<1→(some (⟨g23,0,none⟩:Addr))≠none:=fun _ h=>by cases h
  refine aL (fun w m=>m.bM 0 rfl (show _=aH 5 1 (.slice (some ⟨g23,0,none⟩) 1 1) 1 (aZ [0])from rfl)) ?_
  refine hx (bB 2 rfl rfl rfl Tryz.underlying27 Tryz.underlying27 (by exact .inl rfl) eO rfl (fun m=>Src.bT (m.ord 0 rfl)) aY (by unfold maxLen;omega) (by omega) (fun u=> ?_))
  refine az (fun m=>(m.own 0 rfl).slice) ?_
  rintro⟨A_b12,c_b12,rfl,hc_b12⟩
  refine az (fun m=>(m.ord 0 rfl).2.1) fun hA_b12=> ?_
  refine hy (fun _=>ab rfl)<|ai<|al (ρ' :=[(4,_),(21,_),(3,_),(2,_),(0,_)]) ⟨rfl,rfl,rfl,rfl,rfl,trivial⟩<|ak (X' :=[_,_,_,_,_]) (S' :=[_]) (fun _ m=>m)<|aQ<| ?_
  refine ak (fun w m=>m.bM 0 rfl (show _=aH 5 1 (.slice A_b12 (1+(j+1)) c_b12) (1+(j+1)) (aZ (128::List.replicate (j+1) 0))from by rw[Nat.add_assoc,List.replicate_succ',aZ,aZ,aZ,←List.map_append];rfl)) ?_
  refine fY (j+1) A_b12 c_b12 ⟨rfl,rfl,rfl,rfl,trivial⟩ [0,1,1,1] rfl [0] rfl (by omega) (by omega)
 ·have hj:j=iC s.n:=by
   refine Decidable.byContradiction fun hn=> ?_
   have:=hzm j (by omega)
   omega
  subst hj
  have hsl:IntKind.u64.wrap ((s.n:Int)*8)=((8*s.n:Nat):Int):=by
   rw[show(s.n:Int)*8=((8*s.n:Nat):Int) by omega]
   exact xm _ (by omega)
  refine bP<|au<|au<|aC<|ag<|ah<|aj<|hy (fun _=>aa rfl)<|hy (fun _=>aW rfl)<|hy (fun _=>aD rfl mA (by decide))<|hy (fun m=>ar rfl eY ((show eU _ _ _ _ from m.Ed 0 rfl 0 rfl).ay 8 _ (uj hh)))<|hy (fun _=>bU rfl Tryz.underlying3 Tryz.underlying310 (xm s.n (by omega)))<|hy (fun _=>r5 (p:=8) rfl rfl (by decide) (by decide) (by decide) hsl)<|hy (fun _=>ab rfl)<|ai<|al (ρ' :=[(5,_),(21,_),(4,_),(3,_),(2,_),(0,_)]) ⟨rfl,rfl,rfl,rfl,rfl,rfl,trivial⟩<|ag<|ah<|ah<|aj<|hy (fun _=>aa rfl)<|ai<|ag<|aN<| ?_
  generalize hz:iC s.n=z at hz64
  refine bu (fun w m=>m.bM 1 rfl (show _=aH 5 1 (.slice A1 (1+z+0) cc) (1+z+0) (aZ (128::List.replicate z 0++(rC (8*s.n)).take 0))from by rw[List.take_zero,List.append_nil];rfl)) ?_
  refine iM (fun i A2 ce=>8-i) (fun i A2 ce=>[(4,.slice A2 (1+z+i) ce),(31,.int .i64 (i:Nat))]) (fun i A2 ce=>[aH 5 1 (.slice A2 (1+z+i) ce) (1+z+i) (aZ (128::List.replicate z 0++(rC (8*s.n)).take i))]) (fun i A2 ce=>[]) (fun i A2 ce=>i≤8) 0 A1 cc [(5,_),(21,_),(3,_),(2,_),(0,_)] ⟨rfl,rfl,rfl,rfl,rfl,trivial⟩ [0] rfl [] rfl (Nat.zero_le _) ⟨rfl,rfl,trivial⟩ (fun i A2 ce hi8=> ?_)
  refine ah<|aj<|hy (fun _=>br rfl rfl)<|ai<|ag<|ah<| ?_
  refine cL rfl (fun hi=> ?_) (fun hi=> ?_)
  ·have hcv:IntKind.u8.wrap (((8*s.n:Nat):Int)/((2 ^ (56-8*i):Nat):Int))=((UInt8.ofNat (8*s.n/256 ^ (7-i))).toNat:Int):=by
    rw[←Int.natCast_ediv,EN (by omega)]
    exact gV _
   have hsb:(56:Int)-8*(i:Int)=((56-8*i:Nat):Int):=by omega
   refine aB<|ag<|ah<|aN<|ah<|aj<|hy (fun _=>aa rfl)<|hy (fun _=>ab rfl)<|ai<|al (ρ' :=[(6,_),(32,_),(4,_),(31,_),(5,_),(21,_),(3,_),(2,_),(0,_)]) ⟨rfl,rfl,rfl,rfl,rfl,rfl,rfl,rfl,rfl,trivial⟩<|ag<|aj<|hy (fun _=>aa rfl)<|hy (fun _=>aa rfl)<|hy (fun _=>aa rfl)<|hy (fun _=>fD rfl rfl (bA (by omega) (by omega)))<|hy (fun _=>cm rfl rfl (bA (by omega) (by omega)))<| ?_
   rw[hsb]
   refine hy (fun _=>ny rfl rfl (by omega) (by simp[IntKind.bits];omega) (show(2:Int) ^ (((56-8*i:Nat):Int)).toNat=((2 ^ (56-8*i):Nat):Int) by rw[Int.toNat_natCast];simp))<|hy (fun _=>bU rfl Tryz.underlying310 Tryz.underlying5 hcv)<| ?_
   refine hx (b8 Tryz.underlying27 eO rfl rfl rfl (by simp[Value.cells,B8]) (by decide) (by decide) (fun g41=> ?_))
   have hA_b41:0<1→(some (⟨g41,0,none⟩:Addr))≠none:=fun _ h=>by cases h
   refine aL (fun w m=>m.bM 0 rfl (show _=aH 5 1 (.slice (some ⟨g41,0,none⟩) 1 1) 1 (aZ [UInt8.ofNat (8*s.n/256 ^ (7-i))])from rfl)) ?_
   refine hx (bB 1 rfl rfl rfl Tryz.underlying27 Tryz.underlying27 (by exact .inl rfl) eO rfl (fun m=>Src.bT (m.ord 0 rfl)) aY (by unfold maxLen;omega) (by omega) (fun u=> ?_))
   refine az (fun m=>(m.own 0 rfl).slice) ?_
   rintro⟨A_b12,c_b12,rfl,hc_b12⟩
   refine az (fun m=>(m.ord 0 rfl).2.1) fun hA_b12=> ?_
   refine hy (fun _=>ab rfl)<|ai<|al (ρ' :=[(4,_),(6,_),(32,_),(31,_),(5,_),(21,_),(3,_),(2,_),(0,_)]) ⟨rfl,rfl,rfl,rfl,rfl,rfl,rfl,rfl,rfl,trivial⟩<|ak (X' :=[_,_,_,_,_]) (S' :=[_]) (fun _ m=>m)<|aQ<|ag<|aj<|hy (fun _=>aJ rfl rfl (bA (by omega) (by omega)))<|hy (fun _=>aa rfl)<|ai<|al (ρ' :=[(31,_),(4,_),(6,_),(32,_),(5,_),(21,_),(3,_),(2,_),(0,_)]) ⟨rfl,rfl,rfl,rfl,rfl,rfl,rfl,rfl,rfl,trivial⟩<| ?_
   refine ak (fun w m=>m.bM 0 rfl (show _=aH 5 1 (.slice A_b12 (1+z+(i+1)) c_b12) (1+z+(i+1)) (aZ (128::List.replicate z 0++(rC (8*s.n)).take (i+1)))from by rw[xF (by omega),←List.append_assoc];simp[aZ,Nat.add_assoc])) ?_
   refine fY (i+1) A_b12 c_b12 ⟨rfl,rfl,rfl,rfl,rfl,rfl,rfl,trivial⟩ [0,1,1,1] rfl [0] rfl (by omega) (by omega)
  ·obtain rfl:i=8:=by omega
   have hpad:all++(128::List.replicate z 0++(rC (8*s.n)).take 8)=jo all:=by
    rw[List.take_of_length_le (by simp[rC]),jo,←hsn,hz,List.append_assoc]
   refine bP<|au<|au<|aC<|ag<|ah<|aj<|hy (fun _=>aa rfl)<|hy (fun _=>aa rfl)<| ?_
   refine hx (cF rfl Tryz.call173 (u6 (by rw[c1];exact hh) (by rw[c2];omega) (by rw[c3];omega) (s:=s2) (l:=(128::List.replicate z 0++(rC (8*s.n)).take 8))) [2] rfl (.x 0 rfl .own (.s 0 rfl .nil)) ?_)
   rintro _ _ _ ⟨s1,rfl,rfl,rfl,hw⟩
   refine⟨rfl, ?_⟩
   obtain⟨hw1,hw2⟩:=hw
   have ok2:s2.ok all:=⟨by rw[c1];exact hh,by rw[c2];exact hsn,by rw[c1,c3];exact ok.Em⟩
   have ok3:=hw2 all ok2
   rw[hpad]at ok3
   have hh3:=ok3.len
   have hfin:s1.h=fP pC (jo all):=by
    obtain⟨D,e1,e2,e3⟩:=ok3.Em
    have hl:=congrArg List.length e1
    rw[List.length_append]at hl
    have hp:=nv all
    have:s1.rest=[]:=List.eq_nil_of_length_eq_zero (by omega)
    rw[this,List.append_nil]at e1
    rw[e3,e1]
   have hsha:eV s1.h=bF all:=by rw[hfin];rfl
   have hd32:=oI s1.h
   have hl3:=jX (n:=s1.n) (A:=s1.A) (m:=s1.rest.length) (c:=s1.c) hh3
   refine aL (fun w m=>(m.perm (av [0] _ [_] _ rfl)).unpack) ?_
   refine ai<|al (ρ' :=[(32,_),(4,_),(31,_),(5,_),(21,_),(3,_),(2,_),(0,_)]) ⟨rfl,rfl,rfl,rfl,rfl,rfl,rfl,rfl,trivial⟩<|ak (X' :=[_,_,_,_,_]) (S' :=[_]) (fun _ m=>m)<|ag<|ah<|aj<| ?_
   refine hx (aM cX (fun g7=> ?_))
   refine aL (fun w m=>m.bM 0 rfl (show _=aG g7 53 (aZ (eV (s1.h.take 0)++List.replicate (32-4*0) 0))from rfl)) ?_
   refine ai<|ak (X' :=[_,_,_,_,_,_]) (S' :=[_]) (fun _ m=>m)<|ag<|ah<|ah<|aj<|hy (fun _=>aa rfl)<|hy (fun _=>aW rfl)<|hy (fun _=>aD rfl n7 (by decide))<|hy (fun m=>yV (aX rfl qe lu (by rw[bw,hh3]) (fun j u hu=>(m.aT 1 rfl).ay j u (w7 hu))) ((rfl:_=Value.agg (ei s1.h).toArray)))<|hy (fun _=>aa rfl)<|ai<|al (ρ' :=[(51,_),(50,_),(7,_),(32,_),(4,_),(31,_),(5,_),(21,_),(3,_),(2,_),(0,_)]) ⟨rfl,rfl,rfl,rfl,rfl,rfl,rfl,rfl,rfl,rfl,rfl,trivial⟩<|ag<|aN<| ?_
   refine dR (fun k=>8-k) (fun k=>[(51,.int .i64 (k:Nat))]) (fun k=>[aG g7 53 (aZ (eV (s1.h.take k)++List.replicate (32-4*k) 0))]) (fun k=>[]) (fun k=>k≤8) 0 [(50,_),(7,_),(32,_),(4,_),(31,_),(5,_),(21,_),(3,_),(2,_),(0,_)] ⟨rfl,rfl,rfl,rfl,rfl,rfl,rfl,rfl,rfl,rfl,trivial⟩ [0] rfl [] rfl (Nat.zero_le _) ⟨rfl,trivial⟩ (fun k hk8=> ?_)
   refine ah<|aj<|hy (fun _=>br rfl rfl)<|ai<|ag<|ah<| ?_
   refine cL rfl (fun hk=> ?_) (fun hk=> ?_)
   ·have hdk:=hd32 k (by omega)
    have hr4:List.replicate (32-4*k) (0:UInt8)=0::0::0::0::List.replicate (32-4*(k+1)) 0:=by
     rw[show 32-4*k=(32-4*(k+1))+4 by omega];rfl
    refine aB<|ag<|ah<|aN<|ah<|aj<|hy (fun _=>aa rfl)<|hy (fun _=>yV (Cx rfl rfl Tryz.underlying306 bN bW rfl (by omega) (bk (by omega))) ((rfl:_=Wd (s1.h.getD k 0))))<|hy (fun _=>ab rfl)<|hy (fun _=>ab rfl)<|ai<|al (ρ' :=[(9,_),(8,_),(52,_),(51,_),(50,_),(7,_),(32,_),(4,_),(31,_),(5,_),(21,_),(3,_),(2,_),(0,_)]) ⟨rfl,rfl,rfl,rfl,rfl,rfl,rfl,rfl,rfl,rfl,rfl,rfl,rfl,rfl,trivial⟩<|ag<|aj<|hy (fun _=>aa rfl)<|hy (fun _=>fD rfl rfl (bA (by omega) (by omega)))<|hy (fun _=>aa rfl)<|hy (fun _=>fD rfl rfl (bA (by omega) (by omega)))<|hy (fun _=>aJ rfl rfl (bA (by omega) (by omega)))<|hy (fun _=>aa rfl)<|hy (fun _=>fD rfl rfl (bA (by omega) (by omega)))<|hy (fun _=>aJ rfl rfl (bA (by omega) (by omega)))<|hy (fun _=>aa rfl)<|hy (fun _=>fD rfl rfl (bA (by omega) (by omega)))<|hy (fun _=>aJ rfl rfl (bA (by omega) (by omega)))<|hy (fun _=>aa rfl)<|hy (fun _=>lT (k:=24) (b:=16777216) (by decide) rfl rfl rfl)<|hy (fun _=>wQ rfl Tryz.underlying166 Tryz.underlying5)<|hy (fun _=>aa rfl)<|hy (fun _=>lT (k:=16) (b:=65536) (by decide) rfl rfl rfl)<|hy (fun _=>wQ rfl Tryz.underlying166 Tryz.underlying5)<|hy (fun _=>aa rfl)<|hy (fun _=>lT (k:=8) (b:=256) (by decide) rfl rfl rfl)<|hy (fun _=>wQ rfl Tryz.underlying166 Tryz.underlying5)<|hy (fun _=>aa rfl)<|hy (fun _=>wQ rfl Tryz.underlying166 Tryz.underlying5)<|hy (fun _=>bY rfl rfl Tryz.underlying53 eg (show((4*k:Nat):Int)=_ by omega) (by omega))<| ?_
    refine cI (bR 0 rfl rfl rfl eg rfl (by simp[aZ];omega) ?_)
    refine hy (fun _=>bY rfl rfl Tryz.underlying53 eg (show((4*k+1:Nat):Int)=_ by omega) (by omega))<| ?_
    refine cI (bR 0 rfl rfl rfl eg rfl (by simp[aZ];omega) ?_)
    refine hy (fun _=>bY rfl rfl Tryz.underlying53 eg (show((4*k+2:Nat):Int)=_ by omega) (by omega))<| ?_
    refine cI (bR 0 rfl rfl rfl eg rfl (by simp[aZ];omega) ?_)
    refine hy (fun _=>bY rfl rfl Tryz.underlying53 eg (show((4*k+3:Nat):Int)=_ by omega) (by omega))<| ?_
    refine cI (bR 0 rfl rfl rfl eg rfl (by simp[aZ];omega) ?_)
    refine ai<|al (ρ' :=[(9,_),(8,_),(52,_),(51,_),(50,_),(7,_),(32,_),(4,_),(31,_),(5,_),(21,_),(3,_),(2,_),(0,_)]) ⟨rfl,rfl,rfl,rfl,rfl,rfl,rfl,rfl,rfl,rfl,rfl,rfl,rfl,rfl,trivial⟩<|ak (X' :=[_,_,_,_,_,_]) (S' :=[_]) (fun _ m=>m)<|aQ<|ag<|aj<|hy (fun _=>aJ rfl rfl (bA (by omega) (by omega)))<|hy (fun _=>aa rfl)<|ai<|al (ρ' :=[(51,_),(9,_),(8,_),(52,_),(50,_),(7,_),(32,_),(4,_),(31,_),(5,_),(21,_),(3,_),(2,_),(0,_)]) ⟨rfl,rfl,rfl,rfl,rfl,rfl,rfl,rfl,rfl,rfl,rfl,rfl,rfl,rfl,trivial⟩<| ?_
    refine ak (fun w m=>m.bM 0 rfl (show _=aG g7 53 (aZ (eV (s1.h.take (k+1))++List.replicate (32-4*(k+1)) 0))from by rw[hr4,Nat.zero_add,Nat.zero_add,Nat.zero_add,Nat.zero_add,Ei hdk,uV _ _ (by omega)];simp[y0])) ?_
    refine cZ (k+1) ⟨rfl,rfl,rfl,rfl,rfl,rfl,rfl,rfl,rfl,rfl,rfl,trivial⟩ [0,0,0,0,0,0] rfl [0] rfl (by omega) (by omega)
   ·obtain rfl:k=8:=by omega
    refine bu (fun w m=>m.bM 0 rfl (show _=aG g7 53 (aZ (bF all))from by rw[List.take_of_length_le (by omega),hsha];simp)) ?_
    refine bP<|au<|au<|aC<|ag<|ah<|aj<|hy (fun m=>yV (aX rfl ct bn (by rw[aF,bC]) ((m.aT 0 rfl).ay)) ((rfl:_=Value.agg (aZ (bF all)).toArray)))<| ?_
    refine cI (aI 5 rfl rfl rfl bn (by rw[aF,bC]) aY rfl ?_)
    refine ai<|al (ρ' :=[(52,_),(51,_),(50,_),(7,_),(32,_),(4,_),(31,_),(5,_),(21,_),(3,_),(2,_),(0,_)]) ⟨rfl,rfl,rfl,rfl,rfl,rfl,rfl,rfl,rfl,rfl,rfl,rfl,trivial⟩<|ak (X' :=[_,_,_,_,_,_]) (S' :=[_]) (fun _ m=>m)<|ag<|aU<| ?_
    exact fC trivial rfl rfl ct bn (by rw[aF,bC]) (fun m=>(m.aT 0 rfl).ay) [5] rfl [] rfl ⟨rfl,rfl,rfl⟩
theorem uE{A:Option Addr}{n c:Nat}{l:List UInt8}(hn:n≤140737488351232):cj Tryz.prog 102 [.slice A n c] [] [dr 1 A n (aZ l),fm] (fun v_ X_ S_=>v_=(.agg (aZ (bF l)).toArray)∧X_=[]∧S_=[]):=by
 refine aO (N:=10) Tryz.func102 rfl rfl (by simp) fun b=> ?_
 refine ba (fun m=>gK (m.rd 0 rfl)) ?_
 rintro⟨hl_r,hA_r⟩
 have hln:l.length=n:=hl_r
 refine ah<|aj<| ?_
 refine hx (aM cX (fun g2=> ?_))
 refine ai<|ak (X' :=[_]) (S' :=[_,_]) (fun _ m=>m)<|ag<|ah<|aj<| ?_
 refine hx (ao rfl Tryz.call172 (Dj) [] rfl [] rfl ?_)
 rintro _ _ _ ⟨g,rfl,rfl,rfl⟩
 refine hy (fun _=>ab rfl)<|ai<|al (ρ' :=[(3,_),(2,_),(0,_)]) ⟨rfl,rfl,rfl,trivial⟩<|ak (X' :=[_,_]) (S' :=[_,_]) (fun _ m=>m)<|ag<|ah<|aj<|hy (fun _=>aa rfl)<|hy (fun _=>aa rfl)<| ?_
 refine hx (ao rfl Tryz.call173 (u6 rfl (by show 0+n≤_;omega) (by show 0+n≤_;omega) (s:=⟨pC,0,none,0,[]⟩)) [0] rfl [0,1] rfl ?_)
 rintro _ _ _ ⟨s1,rfl,rfl,rfl,hw⟩
 refine ai<|al (ρ' :=[(3,_),(2,_),(0,_)]) ⟨rfl,rfl,rfl,trivial⟩<|ak (X' :=[_,_]) (S' :=[_,_]) (fun _ m=>m)<|ag<|ah<|aj<| ?_
 obtain⟨hw1,hw2⟩:=hw
 have ok1:=hw2 [] BI
 rw[List.nil_append]at ok1
 refine hy (fun _=>aa rfl)<| ?_
 refine hx (ao rfl Tryz.call174 (DD ok1 hw1 (by omega) (all:=l)) [0] rfl [1] rfl ?_)
 rintro _ _ _ ⟨rfl,rfl,rfl⟩
 refine cI (aI 1 rfl rfl rfl bn (by rw[aF,bC]) aY rfl ?_)
 refine ai<|al (ρ' :=[(3,_),(2,_),(0,_)]) ⟨rfl,rfl,rfl,trivial⟩<|ak (X' :=[_,_]) (S' :=[_,_]) (fun _ m=>m)<|ag<|aU<| ?_
 exact fC trivial rfl rfl ct bn (by rw[aF,bC]) (fun m=>(m.aT 0 rfl).ay) [] rfl [] rfl ⟨rfl,rfl,rfl⟩
end Go.Proofs.YtmibdabdlgmafaaGreatDoor
end
section
set_option maxRecDepth 20000
set_option maxHeartbeats 4000000
namespace Go.Proofs.YtmibdabdlgmafaaGreatDoor
open Go.Eng Go.Hx
theorem BM{g:Nat}{st:cH}{d:RD}{kk:Nat}{nm:List UInt8}(hD:DS st d kk)(hm:nm.length=32):cj Tryz.prog 73 [.pointer (some ⟨g,0,none⟩),.agg (aZ nm).toArray] [bm g st] [fm] (fun v_ X_ S_=>∃v,v_=(.tuple #[v,.int .i64 (d.ib nm)])∧X_=[bm g st,aH 5 1 v (d.r7 nm).length (aZ (d.r7 nm))]∧S_=[]):=by
 have hlen:=hD.tm (bd nm)
 have hol:=qj (f:=d.cJ (bd nm)) (most:=4096) (by decide)
 refine aO (N:=33) Tryz.func73 rfl rfl (by simp) fun b=> ?_
 refine ah<|aj<| ?_
 refine hx (cz rfl (fun g3=> ?_))
 refine aL (fun w m=>m.bM 0 rfl (show _=aG g3 53 (aZ nm)from congrArg (aG _ _) (bG _))) ?_
 refine hy (fun _=>ab rfl)<|hy (fun _=>ab rfl)<|ai<|ak (X' :=[_,_]) (S' :=[_]) (fun _ m=>m)<|ag<|ah<|aj<|hy (fun _=>aa rfl)<|hy (fun m=>aX rfl ct bn (by rw[aF];exact hm) ((m.aT 0 rfl).ay))<| ?_
 refine hx (ao rfl Tryz.call94 (qR hm) [] rfl [] rfl ?_)
 rintro _ _ _ ⟨rfl,rfl,rfl⟩
 refine hx (ao rfl Tryz.call90 (xo hD) [1] rfl [] rfl ?_)
 rintro _ _ _ ⟨v,rfl,rfl,rfl⟩
 refine az (fun m=>(m.own 1 rfl).slice) ?_
 rintro⟨A_x,c_x,rfl,hc_x⟩
 refine az (fun m=>(m.ord 1 rfl).2.1) fun hA_x=> ?_
 refine hy (fun _=>aa rfl)<|hy (fun _=>aq rfl rfl)<|hy (fun _=>aq rfl rfl)<|hy (fun _=>ab rfl)<|hy (fun _=>ab rfl)<|ai<|al (ρ' :=[(7,_),(6,_),(5,_),(4,_),(3,_),(0,_),(1,_)]) ⟨rfl,rfl,rfl,rfl,rfl,rfl,rfl,trivial⟩<|ak (X' :=[_,_,_]) (S' :=[_]) (fun _ m=>m)<|ag<|ah<|ah<|aj<|hy (fun _=>aa rfl)<|hy (fun _=>de rfl rfl)<|ai<|al (ρ' :=[(17,_),(7,_),(6,_),(5,_),(4,_),(3,_),(0,_),(1,_)]) ⟨rfl,rfl,rfl,rfl,rfl,rfl,rfl,rfl,trivial⟩<|ag<| ?_
 refine cL rfl (fun h1=> ?_) (fun h1=> ?_)
 ·rw[jD h1,ld (by rw[jD h1];exact h1)]
  refine ah<|aj<|hy (fun _=>aa rfl)<|hy (fun _=>ab rfl)<|hy (fun _=>ab rfl)<|ai<|al (ρ' :=[(5,_),(4,_),(17,_),(7,_),(6,_),(3,_),(0,_),(1,_)]) ⟨rfl,rfl,rfl,rfl,rfl,rfl,rfl,rfl,trivial⟩<|ag<|aU<|aw<| ?_
  refine ak (fun w m=>m.dx (r' :=aH 5 1 (.slice none 0 0) 0 []) (.refl _ _) (Own.nil _ _ _ _) (fun k hk=>hk.elim)) ?_
  exact dO trivial rfl rfl rfl [1,0] rfl [] rfl ⟨_,rfl,rfl,rfl⟩
 ·have h1:=Decidable.not_not.1 h1
  refine aB<|ag<|ah<|aj<|hy (fun _=>aa rfl)<| ?_
  refine hx (cF rfl Tryz.call155 (DW hc_x (by omega) (show(4096:Int)≤1000000 by decide)) [] rfl (.x 1 rfl .own .nil) ?_)
  rintro _ _ _ ⟨v2,rfl,rfl,rfl⟩
  refine⟨rfl, ?_⟩
  refine az (fun m=>(m.own 0 rfl).slice) ?_
  rintro⟨A_x2,c_x2,rfl,hc_x2⟩
  refine az (fun m=>(m.ord 0 rfl).2.1) fun hA_x2=> ?_
  refine hy (fun _=>aa rfl)<|hy (fun _=>aq rfl rfl)<|hy (fun _=>aq rfl rfl)<|hy (fun _=>ab rfl)<|hy (fun _=>ab rfl)<|ai<|al (ρ' :=[(7,_),(8,_),(17,_),(6,_),(5,_),(4,_),(3,_),(0,_),(1,_)]) ⟨rfl,rfl,rfl,rfl,rfl,rfl,rfl,rfl,rfl,trivial⟩<|ak (X' :=[_,_,_,_]) (S' :=[_]) (fun _ m=>m)<|ag<|ah<|ah<|cK [4] [(0,some 0),(1,some 0),(2,some 0),(3,some 0),(5,some 1),(4,none),(6,some 1),(7,some 1)] (by kernel_rfl) (by kernel_rfl) rfl 99<|an (aa rfl)<|an (de rfl rfl)<|an (aa rfl)<| ?_
  refine hO 26 rfl (fun h2=> ?_) (fun h2=> ?_)
  ·have hE:=ml (d:=d) (nm:=nm) h1 (.inl h2)
   rw[hE,ld (by rw[hE];decide)]
   refine aP rfl rfl rfl (by decide)<|aP rfl rfl rfl (by decide)<|uW rfl rfl rfl (by decide) (fun _=>wk [0,0,0,0] [0] rfl rfl)<|aP rfl rfl rfl (by decide)<|an (bE rfl rfl)<|bq<|al (ρ' :=[(31,_),(7,_),(8,_),(17,_),(6,_),(5,_),(4,_),(3,_),(0,_),(1,_)]) ⟨rfl,rfl,rfl,rfl,rfl,rfl,rfl,rfl,rfl,rfl,trivial⟩<|ag<| ?_
   refine fE rfl (rfl) ?_
   refine ah<|aj<|hy (fun _=>ab rfl)<|hy (fun _=>ab rfl)<|ai<|ag<|aU<|aw<| ?_
   refine ak (fun w m=>m.dx (r' :=aH 5 1 (.slice none 0 0) 0 []) (.refl _ _) (Own.nil _ _ _ _) (fun k hk=>hk.elim)) ?_
   exact dO trivial rfl rfl rfl [2,0] rfl [] rfl ⟨_,rfl,rfl,rfl⟩
  ·have h2:=Decidable.not_not.1 h2
   refine bj (o:=_) rfl rfl rfl (aa rfl)<|iJ (o:=_) rfl rfl rfl (fun m=>aX rfl ct bn (by rw[aF];exact hm) ((m.aT 3 rfl).ay))<| ?_
   refine vu (o:=_) rfl rfl rfl (cF rfl Tryz.call102 (uE (by omega)) [] rfl (.x 0 rfl .own (.s 0 rfl .nil)) ?_)
   rintro _ _ _ ⟨rfl,rfl,rfl⟩
   refine⟨rfl, ?_⟩
   refine⟨(fun _=>wk [0,0,0,0] [0] rfl rfl), ?_⟩
   refine bj (o:=_) rfl rfl rfl (qU rfl rfl (bC _) hm)<|an (bp rfl rfl)<|bq<|al (ρ' :=[(31,_),(7,_),(8,_),(17,_),(6,_),(5,_),(4,_),(3,_),(0,_),(1,_)]) ⟨rfl,rfl,rfl,rfl,rfl,rfl,rfl,rfl,rfl,rfl,trivial⟩<|ak (X' :=[_,_,_,_]) (S' :=[_]) (fun _ m=>m)<|ag<| ?_
   refine cL rfl (fun h3=> ?_) (fun h3=> ?_)
   ·have hE:=ml (d:=d) (nm:=nm) h1 (.inr h3)
    rw[hE,ld (by rw[hE];decide)]
    refine ah<|aj<|hy (fun _=>ab rfl)<|hy (fun _=>ab rfl)<|ai<|ag<|aU<|aw<| ?_
    refine ak (fun w m=>m.dx (r' :=aH 5 1 (.slice none 0 0) 0 []) (.refl _ _) (Own.nil _ _ _ _) (fun k hk=>hk.elim)) ?_
    exact dO trivial rfl rfl rfl [2,0] rfl [] rfl ⟨_,rfl,rfl,rfl⟩
   ·have hE:=qI (d:=d) (nm:=nm) h1 (fun q=>q.elim (fun q=>q h2) h3)
    rw[hE,qQ hE]
    refine aB<|ag<|ah<|aj<|hy (fun _=>aa rfl)<|hy (fun _=>ab rfl)<|hy (fun _=>ab rfl)<|ai<|al (ρ' :=[(5,_),(4,_),(31,_),(7,_),(8,_),(17,_),(6,_),(3,_),(0,_),(1,_)]) ⟨rfl,rfl,rfl,rfl,rfl,rfl,rfl,rfl,rfl,rfl,trivial⟩<|ag<|aU<| ?_
    exact dO trivial rfl rfl rfl [1,0] rfl [] rfl ⟨_,rfl,rfl,rfl⟩
end Go.Proofs.YtmibdabdlgmafaaGreatDoor
end
section
set_option maxRecDepth 20000
set_option maxHeartbeats 4000000
namespace Go.Proofs.YtmibdabdlgmafaaGreatDoor
open Go.Eng Go.Hx
theorem Du:dL Tryz.prog 179=some false:=by kernel_rfl
theorem DE:fM Tryz.prog 179=some 1:=by kernel_rfl
theorem sb:TI Tryz.prog 179 .nilFunc 1 8:=by unfold TI;kernel_rfl
def oR(g:Nat)(L:List bh)(v:Value)(F:RD→RD×Int):Prop:=∃(f:Nat) (first cap:List Value),v= .func (.func f) first.toArray cap.toArray∧(∀args w,(callFunc f args).run Tryz.prog w= .ok (.enter f args) w)∧
 ∀(st:cH) (d:RD) (kk:Nat),DS st d kk→kk≤99000→cj Tryz.prog f (first++[]++cap) [bm g st] [rf L] (fun v_ X_ S_=>∃st1,v_= .int .i64 (F d).2∧X_=[bm g st1]∧S_=[]∧DS st1 (F d).1 (kk+1))
theorem DF{g:Nat}{st:cH}{d:RD}{kk:Nat}{A:Option Addr}{n c:Nat}{fs:List Value}{Fs:List (RD→RD×Int)}{L:List bh}(hD:DS st d kk)(hkk:kk+n≤99000)(hn:n≤100000)(hF:Fs.length=n)(hfs:∀(i:Nat) (F:RD→RD×Int),Fs[i]? =some F→∃v,fs[i]? =some v∧oR g L v F):cj Tryz.prog 109 [.slice A n c] [bm g st] [dr 1 A n fs,rf L] (fun v_ X_ S_=>∃st1,v_=(.int .i64 (dK Fs d).2)∧X_=[bm g st1]∧S_=[]∧(DS st1 (dK Fs d).1 (kk+n))):=by
 obtain⟨d0,hd0⟩:∃d0,d0=dK Fs d:=⟨_,rfl⟩
 rw[←hd0]
 refine aO (N:=18) Tryz.func109 rfl rfl (by simp) fun b=> ?_
 refine ba (fun m=>ik (m.rd 0 rfl)) ?_
 rintro⟨hl_f,hA_f⟩
 refine ah<|aj<|hy (fun _=>ab rfl)<|ai<|ag<|ah<|ah<|aj<|hy (fun _=>aa rfl)<|hy (fun _=>aR rfl Tryz.underlying239)<|hy (fun _=>aa rfl)<|ai<|ag<|aN<| ?_
 refine iM (fun k st d=>n-k) (fun k st d=>[(8,.int .i64 (k:Nat))]) (fun k st d=>[bm g st]) (fun k st d=>[]) (fun k st d=>k≤n∧DS st d (kk+k)∧dK (Fs.drop k) d=d0) 0 st d [(7,_),(6,_),(0,_)] ⟨rfl,rfl,rfl,trivial⟩ [0] rfl [] rfl (⟨Nat.zero_le _,hD,hd0.symm⟩) ⟨rfl,trivial⟩ (fun k st d ⟨hk,hD,hR⟩=> ?_)
 refine ah<|aj<|hy (fun _=>br rfl rfl)<|ai<|ag<|ah<| ?_
 refine cL rfl (fun hlt=> ?_) (fun hlt=> ?_)
 ·obtain⟨F,hFk⟩:∃F,Fs[k]? =some F:=⟨_,List.getElem?_eq_getElem (by omega)⟩
  obtain⟨v,hv,f,first,cap,rfl,hcall,hcon⟩:=hfs k F hFk
  have hdr:Fs.drop k=F::Fs.drop (k+1):=by
   have hlt2:k<Fs.length:=by omega
   rw[List.drop_eq_getElem_cons hlt2]
   congr 1
   exact Option.some.inj ((List.getElem?_eq_getElem hlt2).symm.trans hFk)
  rw[hdr]at hR
  refine aB<|ag<|ah<|aN<|ah<|aj<|hy (fun _=>aK rfl rfl Tryz.underlying239 DE hA_f rfl (by omega))<|hy (fun m=>ar rfl Du ((m.rd 0 rfl).cell hv))<|hy (fun _=>ab rfl)<|ai<|al (ρ' :=[(4,_),(9,_),(8,_),(7,_),(6,_),(0,_)]) ⟨rfl,rfl,rfl,rfl,rfl,rfl,trivial⟩<|ag<|ah<|aj<|hy (fun _=>aa rfl)<| ?_
  refine hx (kq rfl rfl hcall (hcon st d (kk+k) hD (by omega)) [0] rfl [1] rfl ?_)
  rintro _ _ _ ⟨st1,rfl,rfl,rfl,hD1⟩
  refine hy (fun _=>ab rfl)<|ai<|al (ρ' :=[(5,_),(4,_),(9,_),(8,_),(7,_),(6,_),(0,_)]) ⟨rfl,rfl,rfl,rfl,rfl,rfl,rfl,trivial⟩<|ak (X' :=[_]) (S' :=[_,_]) (fun _ m=>m)<|ag<|ah<|aj<|hy (fun _=>aa rfl)<|hy (fun _=>de rfl rfl)<|ai<|al (ρ' :=[(15,_),(5,_),(4,_),(9,_),(8,_),(7,_),(6,_),(0,_)]) ⟨rfl,rfl,rfl,rfl,rfl,rfl,rfl,rfl,trivial⟩<|ag<| ?_
  refine cL rfl (fun he=> ?_) (fun he=> ?_)
  ·have e0:dK (F::Fs.drop (k+1)) d=F d:=if_pos he
   rw[e0]at hR
   rw[←hR]
   refine ah<|aj<|hy (fun _=>aa rfl)<|hy (fun _=>ab rfl)<|ai<|al (ρ' :=[(2,_),(15,_),(5,_),(4,_),(9,_),(8,_),(7,_),(6,_),(0,_)]) ⟨rfl,rfl,rfl,rfl,rfl,rfl,rfl,rfl,rfl,trivial⟩<|ag<|aU<|aV<|aw<|aw<|aV<|aw<| ?_
   exact bc trivial rfl rfl [0] rfl [] rfl ⟨st1,rfl,rfl,rfl,(hD1.le (by omega))⟩
  ·have e0:dK (F::Fs.drop (k+1)) d=dK (Fs.drop (k+1)) (F d).1:=if_neg he
   rw[e0]at hR
   refine aB<|aQ<|ag<|aj<|hy (fun _=>aJ rfl rfl (bA (by omega) (by omega)))<|hy (fun _=>aa rfl)<|ai<|al (ρ' :=[(8,_),(15,_),(5,_),(4,_),(9,_),(7,_),(6,_),(0,_)]) ⟨rfl,rfl,rfl,rfl,rfl,rfl,rfl,rfl,trivial⟩<| ?_
   refine fY (k+1) st1 (F d).1 ⟨rfl,rfl,rfl,rfl,trivial⟩ [0] rfl [0,1] rfl (⟨by omega,hD1,hR⟩) (by omega)
 ·obtain rfl:k=n:=by omega
  rw[List.drop_of_length_le (by omega)]at hR
  have hR:(d,0)=d0:=hR
  rw[←hR]
  refine bP<|au<|au<|aC<|ag<|ah<|aj<|hy (fun _=>ab rfl)<|ai<|ag<|aU<| ?_
  exact bc trivial rfl rfl [0] rfl [] rfl ⟨st,rfl,rfl,rfl,hD⟩
end Go.Proofs.YtmibdabdlgmafaaGreatDoor
end
section
set_option maxRecDepth 20000
set_option maxHeartbeats 4000000
namespace Go.Proofs.YtmibdabdlgmafaaGreatDoor
open Go.Eng Go.Hx
theorem D3{g g2 g9 g3:Nat}{st:cH}{d:RD}{kk:Nat}{p:List UInt8}{A:Option Addr}{n c:Nat}{bb:List UInt8}(hD:DS st d kk)(hkk:kk≤99000)(hc:n≤c)(hl:bb.length=n)(hn:n≤4096):cj Tryz.prog 105 [.pointer (some ⟨g2,0,none⟩),.pointer (some ⟨g9,0,none⟩),.pointer (some ⟨g3,0,none⟩)] [bm g st] [aG g2 35 [.pointer (some ⟨g,0,none⟩)],aG g9 9 [SV p],aG g3 27 [.slice A n c],dr 1 A n (aZ bb)] (fun v_ X_ S_=>∃st1,v_=(.int .i64 (d.bH p (bI bb)))∧X_=[bm g st1]∧S_=[]∧(DS st1 (d.write p (bI bb)) (kk+1))):=by
 have hsl:=kj bb
 refine aO (N:=9) Tryz.func105 rfl rfl (by simp) fun b=> ?_
 refine ba (fun m=>gK (m.rd 3 rfl)) ?_
 rintro⟨hl_r,hA_r⟩
 refine ah<|aj<|hy (fun _=>ab rfl)<|ai<|ag<|ah<|cK [3,4] [(0,some 1),(1,some 1),(2,some 0),(3,none),(4,none),(5,some 2)] (by kernel_rfl) (by kernel_rfl) rfl 1<|cd (fun m=>ar rfl ia (ax (m.rl 0 rfl) (i:=0) rfl))<|cd (fun m=>ar rfl gU (ax (m.rl 1 rfl) (i:=0) rfl))<|cd (fun m=>ar rfl dY (ax (m.rl 2 rfl) (i:=0) rfl))<| ?_
 refine ee (ao rfl Tryz.call106 (Dp (by omega) (by omega) hl) [] rfl [3] rfl ?_)
 rintro _ _ _ ⟨v,rfl,rfl,rfl⟩
 refine⟨(fun _=>wk [1] [0,1,2,3] rfl rfl), ?_⟩
 refine cf (fun m=>(m.own 0 rfl).slice) ?_
 rintro⟨A_x,c_x,rfl,hc_x⟩
 refine cf (fun m=>(m.ord 0 rfl).2.1) fun hA_x=> ?_
 refine ee (cF rfl Tryz.call33 (uS hD (by omega) rfl (by omega)) [1] rfl (.x 0 rfl .own .nil) ?_)
 rintro _ _ _ ⟨st1,rfl,rfl,rfl,hp⟩
 refine⟨rfl, ?_⟩
 refine⟨(fun h=>absurd h (by decide)), ?_⟩
 refine an (ab rfl)<|bq<|al (ρ' :=[(3,_),(0,_),(1,_),(2,_)]) ⟨rfl,rfl,rfl,rfl,trivial⟩<|ak (X' :=[_,_]) (S' :=[_,_,_,_]) (fun _ m=>m)<|ag<|aU<| ?_
 exact bc trivial rfl rfl [0] rfl [] rfl ⟨st1,rfl,rfl,rfl,hp⟩
theorem Dh{g g2 g9 g6:Nat}{st:cH}{d:RD}{kk:Nat}{p nm:List UInt8}(hD:DS st d kk)(hkk:kk≤99000)(hm:nm.length=32):cj Tryz.prog 107 [.pointer (some ⟨g2,0,none⟩),.pointer (some ⟨g9,0,none⟩),.pointer (some ⟨g6,0,none⟩)] [bm g st] [aG g2 35 [.pointer (some ⟨g,0,none⟩)],aG g9 9 [SV p],aG g6 53 (aZ nm)] (fun v_ X_ S_=>∃st1,v_=(.int .i64 (d.bZ p (bd nm)))∧X_=[bm g st1]∧S_=[]∧(DS st1 (d.rename p (bd nm)) (kk+1))):=by
 refine aO (N:=9) Tryz.func107 rfl rfl (by simp) fun b=> ?_
 refine ah<|aj<|hy (fun _=>ab rfl)<|ai<|ag<|ah<|cK [3,4] [(0,some 1),(1,some 1),(2,some 0),(3,none),(4,none),(5,some 2)] (by kernel_rfl) (by kernel_rfl) rfl 1<|cd (fun m=>ar rfl ia (ax (m.rl 0 rfl) (i:=0) rfl))<|cd (fun m=>ar rfl gU (ax (m.rl 1 rfl) (i:=0) rfl))<|cd (fun m=>aX rfl ct bn (by rw[aF];exact hm) ((m.rl 2 rfl).ay))<| ?_
 refine ee (ao rfl Tryz.call94 (qR hm) [] rfl [] rfl ?_)
 rintro _ _ _ ⟨rfl,rfl,rfl⟩
 refine⟨(fun _=>wk [0] [0,1,2] rfl rfl), ?_⟩
 refine ee (ao rfl Tryz.call108 (yR hD (by omega) (a:=p) (c:=bd nm)) [0] rfl [] rfl ?_)
 rintro _ _ _ ⟨st1,rfl,rfl,rfl,hp⟩
 refine⟨(fun h=>absurd h (by decide)), ?_⟩
 refine an (ab rfl)<|bq<|al (ρ' :=[(3,_),(0,_),(1,_),(2,_)]) ⟨rfl,rfl,rfl,rfl,trivial⟩<|ak (X' :=[_]) (S' :=[_,_,_]) (fun _ m=>m)<|ag<|aU<| ?_
 exact bc trivial rfl rfl [0] rfl [] rfl ⟨st1,rfl,rfl,rfl,hp⟩
abbrev jw(g g2 g9 g3 g6:Nat)(A:Option Addr)(n c:Nat)(bb nm p:List UInt8):List bh:=[aG g2 35 [.pointer (some ⟨g,0,none⟩)],aG g9 9 [SV p],aG g3 27 [.slice A n c],aG g6 53 (aZ nm),dr 1 A n (aZ bb)]
theorem ud{g g2 g9 g3 g6:Nat}{A:Option Addr}{n c:Nat}{bb nm p:List UInt8}(hc:n≤c)(hl:bb.length=n)(hn:n≤4096):
  oR g (jw g g2 g9 g3 g6 A n c bb nm p) (.func (.func 105) #[] #[.pointer (some ⟨g2,0,none⟩),.pointer (some ⟨g9,0,none⟩),.pointer (some ⟨g3,0,none⟩)]) (qN p (bI bb)):=
 ⟨105,[],[.pointer (some ⟨g2,0,none⟩),.pointer (some ⟨g9,0,none⟩),.pointer (some ⟨g3,0,none⟩)],rfl,Tryz.call105,fun st d kk hD hk=>cj.qM (D3 hD hk hc hl hn) (by
  intro s hs
  simp only[List.mem_cons,List.not_mem_nil,or_false]at hs
  rcases hs with rfl|rfl|rfl|rfl
  ·exact⟨_,List.mem_singleton.2 rfl,View.nJ 0 rfl⟩
  ·exact⟨_,List.mem_singleton.2 rfl,View.nJ 1 rfl⟩
  ·exact⟨_,List.mem_singleton.2 rfl,View.nJ 2 rfl⟩
  ·exact⟨_,List.mem_singleton.2 rfl,View.nJ 4 rfl⟩) (fun v X S h=>by
  obtain⟨st1,h1,h2,h3,h4⟩:=h
  exact⟨[],⟨st1,h1,h2,rfl,h4⟩,pD.nil⟩)⟩
theorem vn{g g2 g9 g3 g6:Nat}{A:Option Addr}{n c:Nat}{bb nm p:List UInt8}(hm:nm.length=32):
  oR g (jw g g2 g9 g3 g6 A n c bb nm p) (.func (.func 107) #[] #[.pointer (some ⟨g2,0,none⟩),.pointer (some ⟨g9,0,none⟩),.pointer (some ⟨g6,0,none⟩)]) (qP p (bd nm)):=
 ⟨107,[],[.pointer (some ⟨g2,0,none⟩),.pointer (some ⟨g9,0,none⟩),.pointer (some ⟨g6,0,none⟩)],rfl,Tryz.call107,fun st d kk hD hk=>cj.qM (Dh hD hk hm) (by
  intro s hs
  simp only[List.mem_cons,List.not_mem_nil,or_false]at hs
  rcases hs with rfl|rfl|rfl
  ·exact⟨_,List.mem_singleton.2 rfl,View.nJ 0 rfl⟩
  ·exact⟨_,List.mem_singleton.2 rfl,View.nJ 1 rfl⟩
  ·exact⟨_,List.mem_singleton.2 rfl,View.nJ 3 rfl⟩) (fun v X S h=>by
  obtain⟨st1,h1,h2,h3,h4⟩:=h
  exact⟨[],⟨st1,h1,h2,rfl,h4⟩,pD.nil⟩)⟩
theorem mZ{g:Nat}{L:List bh}:oR g L (.func (.func 110) #[.pointer (some ⟨g,0,none⟩)] #[]) fq:=
 ⟨110,[.pointer (some ⟨g,0,none⟩)],[],rfl,Tryz.call110,fun st d kk hD hk=>cj.qM (Ca hD) (fun s hs=>by cases hs) (fun v X S h=>by
  obtain⟨st1,h1,h2,h3,h4⟩:=h
  exact⟨[],⟨st1,h1,h2,rfl,h4.le (by omega)⟩,pD.nil⟩)⟩
theorem ef:dJ.length=32:=List.length_replicate
theorem vG:(aZ dJ).length=32:=by rw[aF,ef]
theorem uC{d:RD}{b:List UInt8}(h:4096<b.length):d.put b=(d,dJ,3):=by unfold RD.put;rw[if_pos h]
theorem yH{d:RD}{b:List UInt8}(h:¬4096<b.length)(h6:d.ib (bF b)=6):d.put b=(d,dJ,6):=by unfold RD.put;rw[if_neg h,if_pos h6]
theorem wo{d:RD}{b:List UInt8}(h:¬4096<b.length)(h6:d.ib (bF b)=0):d.put b=(d,bF b,0):=by unfold RD.put;rw[if_neg h,if_neg (by rw[h6];decide),if_pos h6]
theorem zF{d:RD}{b:List UInt8}(h:¬4096<b.length)(h6:¬d.ib (bF b)=6)(h0:¬d.ib (bF b)=0):d.put b=((d.iO b).1,if(d.iO b).2=0 then bF b else dJ,(d.iO b).2):=by unfold RD.put;rw[if_neg h,if_neg h6,if_neg h0]
abbrev w8(g g2 g9 g3 g6:Nat):List Value:=[.func (.func 105) #[] #[.pointer (some ⟨g2,0,none⟩),.pointer (some ⟨g9,0,none⟩),.pointer (some ⟨g3,0,none⟩)],.func (.func 110) #[.pointer (some ⟨g,0,none⟩)] #[],.func (.func 107) #[] #[.pointer (some ⟨g2,0,none⟩),.pointer (some ⟨g9,0,none⟩),.pointer (some ⟨g6,0,none⟩)],.func (.func 110) #[.pointer (some ⟨g,0,none⟩)] #[]]
abbrev ur(p b nm:List UInt8):List (RD→RD×Int):=[qN p (bI b),fq,qP p (bd nm),fq]
theorem v8{g g2 g9 g3 g6:Nat}{A:Option Addr}{n c:Nat}{bb nm p:List UInt8}(hc:n≤c)(hl:bb.length=n)(hn:n≤4096)(hm:nm.length=32):
  ∀(i:Nat) (F:RD→RD×Int),(ur p bb nm)[i]? =some F→∃v,(w8 g g2 g9 g3 g6)[i]? =some v∧oR g (jw g g2 g9 g3 g6 A n c bb nm p) v F:=by
 intro i F h
 match i with
 |0=>cases h;exact⟨_,rfl,ud hc hl hn⟩
 |1=>cases h;exact⟨_,rfl,mZ⟩
 |2=>cases h;exact⟨_,rfl,vn hm⟩
 |3=>cases h;exact⟨_,rfl,mZ⟩
 |i+4=>cases h
theorem uv{g:Nat}{st:cH}{d:RD}{kk:Nat}{A:Option Addr}{n c:Nat}{bb:List UInt8}(hD:DS st d kk)(hkk:kk≤90000)(hc:n≤c)(hl:bb.length=n)(hn:n≤100000):cj Tryz.prog 28 [.pointer (some ⟨g,0,none⟩),.slice A n c] [bm g st] [dr 1 A n (aZ bb),fm] (fun v_ X_ S_=>∃st1,v_=(.tuple #[.agg (aZ (d.put bb).2.1).toArray,.int .i64 (d.put bb).2.2])∧X_=[bm g st1]∧S_=[]∧(DS st1 (d.put bb).1 (kk+4))):=by
 have h32:(aZ (bF bb)).length=32:=by rw[aF,bC]
 have hhl:(b9 (bF bb)).length=64:=by rw[dh,bC]
 refine aO (N:=53) Tryz.func28 rfl rfl (by simp) fun b=> ?_
 refine ba (fun m=>gK (m.rd 0 rfl)) ?_
 rintro⟨hl_r,hA_r⟩
 refine ah<|aj<| ?_
 refine hx (cz rfl (fun g2=> ?_))
 refine aL (fun w m=>m.bM 0 rfl (show _=aG g2 35 [.pointer (some ⟨g,0,none⟩)]from rfl)) ?_
 refine hx (cz rfl (fun g3=> ?_))
 refine aL (fun w m=>m.bM 0 rfl (show _=aG g3 27 [.slice A n c]from rfl)) ?_
 refine hx (aM cX (fun g4=> ?_))
 refine hy (fun _=>ab rfl)<|ai<|ak (X' :=[_,_,_,_]) (S' :=[_,_]) (fun _ m=>m)<|ag<|ah<|ah<|aj<|hy (fun m=>ar rfl dY (ax (m.aT 1 rfl) rfl))<|hy (fun _=>aR rfl Tryz.underlying27)<|hy (fun _=>cW rfl rfl)<|ai<|al (ρ' :=[(15,_),(5,_),(4,_),(3,_),(2,_),(0,_),(1,_)]) ⟨rfl,rfl,rfl,rfl,rfl,rfl,rfl,trivial⟩<|ag<| ?_
 refine cL rfl (fun h1=> ?_) (fun h1=> ?_)
 ·have hb:4096<bb.length:=by omega
  rw[uC hb]
  refine ah<|aj<|hy (fun _=>yV (eb cX rfl (by kernel_rfl)) ((rfl:_=Value.agg (aZ dJ).toArray)))<| ?_
  refine cI (aI 0 rfl rfl rfl bn vG aY rfl ?_)
  refine hy (fun _=>ab rfl)<|ai<|al (ρ' :=[(5,_),(15,_),(4,_),(3,_),(2,_),(0,_),(1,_)]) ⟨rfl,rfl,rfl,rfl,rfl,rfl,rfl,trivial⟩<|ak (X' :=[_,_,_,_]) (S' :=[_,_]) (fun _ m=>m)<|ag<|aU<|aw<| ?_
  exact dV trivial rfl rfl rfl ct bn vG (fun m=>(m.aT 0 rfl).ay) [3] rfl [] rfl ⟨st,rfl,rfl,rfl,(hD.le (by omega))⟩
 ·have hb:¬4096<bb.length:=by omega
  refine aB<|ag<|ah<|aj<|hy (fun m=>ar rfl dY (ax (m.aT 1 rfl) rfl))<| ?_
  refine hx (ao rfl Tryz.call102 (uE (by omega)) [] rfl [0,1] rfl ?_)
  rintro _ _ _ ⟨rfl,rfl,rfl⟩
  refine hx (aM cX (fun g6=> ?_))
  refine cI (aI 0 rfl rfl rfl bn h32 aY rfl ?_)
  refine ai<|al (ρ' :=[(6,_),(15,_),(5,_),(4,_),(3,_),(2,_),(0,_),(1,_)]) ⟨rfl,rfl,rfl,rfl,rfl,rfl,rfl,rfl,trivial⟩<|ak (X' :=[_,_,_,_,_]) (S' :=[_,_]) (fun _ m=>m)<|ag<|ah<|aj<|hy (fun m=>ar rfl ia (ax (m.aT 3 rfl) rfl))<|hy (fun m=>aX rfl ct bn h32 ((m.aT 0 rfl).ay))<| ?_
  refine hx (ao rfl Tryz.call73 (BM hD (bC _)) [4] rfl [1] rfl ?_)
  rintro _ _ _ ⟨v,rfl,rfl,rfl⟩
  refine az (fun m=>(m.own 1 rfl).slice) ?_
  rintro⟨A_x,c_x,rfl,hc_x⟩
  refine az (fun m=>(m.ord 1 rfl).2.1) fun hA_x=> ?_
  refine hy (fun _=>aa rfl)<|hy (fun _=>aq rfl rfl)<|hy (fun _=>aq rfl rfl)<|hy (fun _=>ab rfl)<|hy (fun _=>ab rfl)<|ai<|al (ρ' :=[(8,_),(6,_),(15,_),(5,_),(4,_),(3,_),(2,_),(0,_),(1,_)]) ⟨rfl,rfl,rfl,rfl,rfl,rfl,rfl,rfl,rfl,trivial⟩<|ak (X' :=[_,_,_,_,_,_]) (S' :=[_,_]) (fun _ m=>m)<|ag<|ah<|ah<|aj<|hy (fun _=>aa rfl)<|hy (fun _=>kd rfl Tryz.underlying47 (fun _ h=>by cases h))<|hy (fun _=>kd rfl Tryz.underlying47 (fun _ h=>by cases h))<| ?_
  refine hx (ao rfl Tryz.call103 (BG) [] rfl [] rfl ?_)
  rintro _ _ _ ⟨rfl,rfl,rfl⟩
  refine ai<|al (ρ' :=[(28,_),(8,_),(6,_),(15,_),(5,_),(4,_),(3,_),(2,_),(0,_),(1,_)]) ⟨rfl,rfl,rfl,rfl,rfl,rfl,rfl,rfl,rfl,rfl,trivial⟩<|ak (X' :=[_,_,_,_,_,_]) (S' :=[_,_]) (fun _ m=>m)<|ag<| ?_
  refine cL rfl (fun h6=> ?_) (fun h6=> ?_)
  ·rw[yH hb h6]
   have h6' :d.ib (bF bb)=6:=h6
   rw[h6']
   refine ah<|aj<|hy (fun _=>yV (eb cX rfl (by kernel_rfl)) ((rfl:_=Value.agg (aZ dJ).toArray)))<|hy (fun _=>aa rfl)<| ?_
   refine cI (aI 3 rfl rfl rfl bn vG aY rfl ?_)
   refine hy (fun _=>ab rfl)<|ai<|al (ρ' :=[(5,_),(28,_),(8,_),(6,_),(15,_),(4,_),(3,_),(2,_),(0,_),(1,_)]) ⟨rfl,rfl,rfl,rfl,rfl,rfl,rfl,rfl,rfl,rfl,trivial⟩<|ak (X' :=[_,_,_,_,_,_]) (S' :=[_,_]) (fun _ m=>m)<|ag<|aU<|aw<| ?_
   exact dV trivial rfl rfl rfl ct bn vG (fun m=>(m.aT 0 rfl).ay) [1] rfl [] rfl ⟨st,rfl,rfl,rfl,(hD.le (by omega))⟩
  ·refine aB<|ag<|ah<|ah<|aj<|hy (fun _=>aa rfl)<|hy (fun _=>b7 rfl rfl)<|ai<|al (ρ' :=[(32,_),(28,_),(8,_),(6,_),(15,_),(5,_),(4,_),(3,_),(2,_),(0,_),(1,_)]) ⟨rfl,rfl,rfl,rfl,rfl,rfl,rfl,rfl,rfl,rfl,rfl,trivial⟩<|ag<| ?_
   refine cL rfl (fun h0=> ?_) (fun h0=> ?_)
   ·rw[wo hb h0]
    have h0' :d.ib (bF bb)=0:=h0
    rw[h0']
    refine ah<|aj<|hy (fun m=>aX rfl ct bn h32 ((m.aT 2 rfl).ay))<|hy (fun _=>aa rfl)<| ?_
    refine cI (aI 3 rfl rfl rfl bn h32 aY rfl ?_)
    refine hy (fun _=>ab rfl)<|ai<|al (ρ' :=[(5,_),(32,_),(28,_),(8,_),(6,_),(15,_),(4,_),(3,_),(2,_),(0,_),(1,_)]) ⟨rfl,rfl,rfl,rfl,rfl,rfl,rfl,rfl,rfl,rfl,rfl,trivial⟩<|ak (X' :=[_,_,_,_,_,_]) (S' :=[_,_]) (fun _ m=>m)<|ag<|aU<|aw<| ?_
    exact dV trivial rfl rfl rfl ct bn h32 (fun m=>(m.aT 0 rfl).ay) [1] rfl [] rfl ⟨st,rfl,rfl,rfl,(hD.le (by omega))⟩
   ·rw[zF hb h6 h0]
    refine aB<|ag<|ah<|aj<|hy (fun m=>aX rfl ct bn h32 ((m.aT 2 rfl).ay))<| ?_
    refine hx (ao rfl Tryz.call104 (yC (bC _)) [] rfl [] rfl ?_)
    rintro _ _ _ ⟨rfl,rfl,rfl⟩
    refine hy (fun _=>yV (ep rfl rfl (dS (a:=[116,47]) (b:=b9 (bF bb)) (by simp[hhl]))) ((show Value.string (strOf [116,47]++strOf (b9 (bF bb)))=SV (bV (bF bb))from congrArg Value.string (bQ _ _))))<| ?_
    refine hx (aM CW (fun g9=> ?_))
    refine cI (dG 0 rfl rfl rfl yB rfl (by first|exact Nat.le_of_ble_eq_true rfl|simp) ?_)
    refine ai<|al (ρ' :=[(9,_),(32,_),(28,_),(8,_),(6,_),(15,_),(5,_),(4,_),(3,_),(2,_),(0,_),(1,_)]) ⟨rfl,rfl,rfl,rfl,rfl,rfl,rfl,rfl,rfl,rfl,rfl,rfl,trivial⟩<|ak (X' :=[_,_,_,_,_,_,_]) (S' :=[_,_]) (fun _ m=>m)<|ag<|ah<|aj<|hy (fun _=>gA rfl rfl)<|hy (fun _=>ab rfl)<|ai<|al (ρ' :=[(10,_),(9,_),(32,_),(28,_),(8,_),(6,_),(15,_),(5,_),(4,_),(3,_),(2,_),(0,_),(1,_)]) ⟨rfl,rfl,rfl,rfl,rfl,rfl,rfl,rfl,rfl,rfl,rfl,rfl,rfl,trivial⟩<|ag<|ah<|aj<|hy (fun _=>gA rfl rfl)<|hy (fun _=>ab rfl)<|ai<|al (ρ' :=[(11,_),(10,_),(9,_),(32,_),(28,_),(8,_),(6,_),(15,_),(5,_),(4,_),(3,_),(2,_),(0,_),(1,_)]) ⟨rfl,rfl,rfl,rfl,rfl,rfl,rfl,rfl,rfl,rfl,rfl,rfl,rfl,rfl,trivial⟩<|ag<|ah<|ah<|aj<|hy (fun _=>aa rfl)<|hy (fun m=>ar rfl ia (ax (m.aT 6 rfl) rfl))<|hy (fun _=>gA rfl rfl)<|hy (fun _=>aa rfl)<|hy (fun m=>ar rfl ia (ax (m.aT 6 rfl) rfl))<|hy (fun _=>gA rfl rfl)<| ?_
    refine hx (b8 Tryz.underlying239 sb rfl rfl rfl (by simp[Value.cells,B8]) (by decide) (by decide) (fun g46=> ?_))
    have hA_b46:0<4→(some (⟨g46,0,none⟩:Addr))≠none:=fun _ h=>by cases h
    refine aL (fun w m=>m.bM 1 rfl (show _=aG g9 9 [SV (bV (bF bb))]from rfl)) ?_
    refine aL (fun w m=>m.bM 4 rfl (show _=aG g6 53 (aZ (bF bb))from rfl)) ?_
    refine aL (fun w m=>m.bM 2 rfl (show _=aH 179 1 (.slice (some ⟨g46,0,none⟩) 4 4) 4 (w8 g g2 g9 g3 g6)from rfl)) ?_
    refine aL (fun w m=>(m.perm (av [7] _ [_] _ rfl)).freeze) ?_
    refine aL (fun w m=>(m.perm (av [2] _ [_] _ rfl)).freeze) ?_
    refine aL (fun w m=>(m.perm (av [5] _ [_] _ rfl)).freeze) ?_
    refine aL (fun w m=>(m.perm (av [1] _ [_] _ rfl)).freeze) ?_
    refine aL (S' :=rf (jw g g2 g9 g3 g6 A n c bb (bF bb) (bV (bF bb)))::_) (fun w m=>m.zp [3,2,1,0,4] rfl) ?_
    refine hx (cF rfl Tryz.call109 (DF hD (by omega) (show 4≤100000 by decide) rfl (v8 hc hl (by omega) (bC _)) (kk:=kk) (Fs:=(ur (bV (bF bb)) bb (bF bb))) (fs:=(w8 g g2 g9 g3 g6)) (L:=(jw g g2 g9 g3 g6 A n c bb (bF bb) (bV (bF bb))))) [1] rfl (.x 0 rfl .own (.s 0 rfl .nil)) ?_)
    rintro _ _ _ ⟨st1,rfl,rfl,rfl,hD1⟩
    refine⟨rfl, ?_⟩
    refine hy (fun _=>ab rfl)<|ai<|al (ρ' :=[(12,_),(11,_),(10,_),(9,_),(32,_),(28,_),(8,_),(6,_),(15,_),(5,_),(4,_),(3,_),(2,_),(0,_),(1,_)]) ⟨rfl,rfl,rfl,rfl,rfl,rfl,rfl,rfl,rfl,rfl,rfl,rfl,rfl,rfl,rfl,trivial⟩<|ak (X' :=[_,_,_,_]) (S' :=[_,_,_,_,_,_,_]) (fun _ m=>m)<|ag<|ah<|aj<|hy (fun _=>aa rfl)<|hy (fun _=>de rfl rfl)<|ai<|al (ρ' :=[(49,_),(12,_),(11,_),(10,_),(9,_),(32,_),(28,_),(8,_),(6,_),(15,_),(5,_),(4,_),(3,_),(2,_),(0,_),(1,_)]) ⟨rfl,rfl,rfl,rfl,rfl,rfl,rfl,rfl,rfl,rfl,rfl,rfl,rfl,rfl,rfl,rfl,trivial⟩<|ag<| ?_
    refine cL rfl (fun h2=> ?_) (fun h2=> ?_)
    ·have hn2:¬(d.iO bb).2=0:=h2
     rw[if_neg hn2]
     refine ah<|aj<|hy (fun _=>yV (eb cX rfl (by kernel_rfl)) ((rfl:_=Value.agg (aZ dJ).toArray)))<|hy (fun _=>aa rfl)<| ?_
     refine cI (aI 3 rfl rfl rfl bn vG aY rfl ?_)
     refine hy (fun _=>ab rfl)<|ai<|al (ρ' :=[(5,_),(49,_),(12,_),(11,_),(10,_),(9,_),(32,_),(28,_),(8,_),(6,_),(15,_),(4,_),(3,_),(2,_),(0,_),(1,_)]) ⟨rfl,rfl,rfl,rfl,rfl,rfl,rfl,rfl,rfl,rfl,rfl,rfl,rfl,rfl,rfl,rfl,trivial⟩<|ak (X' :=[_,_,_,_]) (S' :=[_,_,_,_,_,_,_]) (fun _ m=>m)<|ag<|aU<|aw<| ?_
     exact dV trivial rfl rfl rfl ct bn vG (fun m=>(m.aT 0 rfl).ay) [1] rfl [] rfl ⟨st1,rfl,rfl,rfl,hD1⟩
    ·have h2:=Decidable.not_not.1 h2
     have h2' :(dK (ur (bV (bF bb)) bb (bF bb)) d).2=0:=h2
     have h2'' :(d.iO bb).2=0:=h2'
     rw[if_pos h2'',h2'']
     refine aB<|ag<|ah<|aj<|hy (fun m=>aX rfl ct bn h32 ((m.rl 1 rfl).ay))<| ?_
     refine cI (aI 3 rfl rfl rfl bn h32 aY rfl ?_)
     refine hy (fun _=>ab rfl)<|ai<|al (ρ' :=[(5,_),(49,_),(12,_),(11,_),(10,_),(9,_),(32,_),(28,_),(8,_),(6,_),(15,_),(4,_),(3,_),(2,_),(0,_),(1,_)]) ⟨rfl,rfl,rfl,rfl,rfl,rfl,rfl,rfl,rfl,rfl,rfl,rfl,rfl,rfl,rfl,rfl,trivial⟩<|ak (X' :=[_,_,_,_]) (S' :=[_,_,_,_,_,_,_]) (fun _ m=>m)<|ag<|aU<| ?_
     exact dV trivial rfl rfl rfl ct bn h32 (fun m=>(m.aT 0 rfl).ay) [1] rfl [] rfl ⟨st1,rfl,rfl,rfl,hD1⟩
end Go.Proofs.YtmibdabdlgmafaaGreatDoor
end
section
set_option maxRecDepth 20000
namespace Go.Proofs.YtmibdabdlgmafaaGreatDoor
open Go.Eng Go.Hx
def ss(l:List (List UInt8)):List Value:=l.map SV
theorem ph{l:List (List UInt8)}{i:Nat}(h:i<l.length):(ss l)[i]? =some (SV (l.getD i [])):=by simp[ss,List.getElem?_map,List.getElem?_eq_getElem h,List.getD]
theorem BY{l:List (List UInt8)}:∀u∈ss l,u.oneCell' =true:=by
 intro u hu
 obtain⟨x,_,rfl⟩:=List.mem_map.1 hu
 rfl
end Go.Proofs.YtmibdabdlgmafaaGreatDoor
end
section
namespace Go.Proofs
open Go.Shelf
def Tryz.sr:Go.Shelf.Ren:=⟨fun|190=>165|125=>207|258=>223|128=>254|129=>255|302=>258|303=>259|304=>260|305=>261|306=>262|307=>263|308=>264|309=>265|310=>266|333=>291|329=>287|330=>288|334=>292|335=>293|336=>294|344=>307|n=>n,fun|31=>152|9=>9|3=>3|46=>263|0=>0|51=>166|53=>310|4=>4|183=>339|182=>338|131=>343|5=>5|218=>376|222=>380|228=>391|229=>324|n=>n,fun|n=>n⟩
theorem Tryz.zf:Go.Proofs.Lays.n190 Tryz.prog Tryz.sr:={
 mixed:=by kernel_rfl
 f125:=Tryz.func207.trans (congrArg some (by kernel_rfl))
 f128:=Tryz.func254.trans (congrArg some (by kernel_rfl))
 f129:=Tryz.func255.trans (congrArg some (by kernel_rfl))
 f190:=Tryz.func165.trans (congrArg some (by kernel_rfl))
 f258:=Tryz.func223.trans (congrArg some (by kernel_rfl))
 f302:=Tryz.func258.trans (congrArg some (by kernel_rfl))
 f303:=Tryz.func259.trans (congrArg some (by kernel_rfl))
 f304:=Tryz.func260.trans (congrArg some (by kernel_rfl))
 f305:=Tryz.func261.trans (congrArg some (by kernel_rfl))
 f306:=Tryz.func262.trans (congrArg some (by kernel_rfl))
 f307:=Tryz.func263.trans (congrArg some (by kernel_rfl))
 f308:=Tryz.func264.trans (congrArg some (by kernel_rfl))
 f309:=Tryz.func265.trans (congrArg some (by kernel_rfl))
 f310:=Tryz.func266.trans (congrArg some (by kernel_rfl))
 f329:=Tryz.func287.trans (congrArg some (by kernel_rfl))
 f330:=Tryz.func288.trans (congrArg some (by kernel_rfl))
 f333:=Tryz.func291.trans (congrArg some (by kernel_rfl))
 f334:=Tryz.func292.trans (congrArg some (by kernel_rfl))
 f335:=Tryz.func293.trans (congrArg some (by kernel_rfl))
 f336:=Tryz.func294.trans (congrArg some (by kernel_rfl))
 f344:=Tryz.func307.trans (congrArg some (by kernel_rfl))
 t0:=Tryz.underlying0
 a0:=Tryz.isAgg0
 z0:=Tryz.sizeOf0
 v0:=Tryz.zeroValue0
 t3:=Tryz.underlying3
 a3:=Tryz.isAgg3
 z3:=Tryz.sizeOf3
 v3:=Tryz.zeroValue3
 t4:=Tryz.underlying4
 a4:=Tryz.isAgg4
 z4:=Tryz.sizeOf4
 v4:=Tryz.zeroValue4
 t5:=Tryz.underlying5
 a5:=Tryz.isAgg5
 z5:=Tryz.sizeOf5
 v5:=Tryz.zeroValue5
 t9:=Tryz.underlying9
 a9:=Tryz.isAgg9
 z9:=Tryz.sizeOf9
 v9:=Tryz.zeroValue9
 t31:=Tryz.underlying152
 a31:=Tryz.isAgg152
 z31:=Tryz.sizeOf152
 v31:=Tryz.zeroValue152
 t46:=Tryz.underlying263
 a46:=Tryz.isAgg263
 z46:=Tryz.sizeOf263
 v46:=Tryz.zeroValue263
 t51:=Tryz.underlying166
 a51:=Tryz.isAgg166
 z51:=Tryz.sizeOf166
 v51:=Tryz.zeroValue166
 t53:=Tryz.underlying310
 a53:=Tryz.isAgg310
 z53:=Tryz.sizeOf310
 v53:=Tryz.zeroValue310
 t131:=Tryz.underlying343
 a131:=Tryz.isAgg343
 z131:=Tryz.sizeOf343
 v131:=Tryz.zeroValue343
 t182:=Tryz.underlying338
 a182:=Tryz.isAgg338
 z182:=Tryz.sizeOf338
 v182:=Tryz.zeroValue338
 t183:=Tryz.underlying339
 a183:=Tryz.isAgg339
 z183:=Tryz.sizeOf339
 v183:=Tryz.zeroValue339
 t218:=Tryz.underlying376
 a218:=Tryz.isAgg376
 z218:=Tryz.sizeOf376
 v218:=Tryz.zeroValue376
 t222:=Tryz.underlying380
 a222:=Tryz.isAgg380
 z222:=Tryz.sizeOf380
 v222:=Tryz.zeroValue380
 t228:=Tryz.underlying391
 a228:=Tryz.isAgg391
 z228:=Tryz.sizeOf391
 v228:=Tryz.zeroValue391
 t229:=Tryz.underlying324
 a229:=Tryz.isAgg324
 z229:=Tryz.sizeOf324
 v229:=Tryz.zeroValue324}
end Go.Proofs
end
section
set_option maxRecDepth 20000
namespace Go.Proofs.YtmibdabdlgmafaaGreatDoor
open Go.Eng Go.Hx Go.Sort
def tc(l:List (List UInt8)):List (List UInt8):=l.mergeSort fun x y=>decide (x≤y)
theorem wF{w:World}{g n o:Nat}{os:Array Obj}{cur:Array Value}{e:TypeId}{fr:Nat×Nat}(d:Array (List UInt8))(hb:w.heap[g]? =some (.cells cur e fr)):
  (grow (putRow encStr (Go.Sort.ahead w n) g o d) os).heap[g]? =some (.cells (putCells encStr o d cur) e fr):=by
 have hg:g<w.heap.size:=(Array.getElem?_eq_some_iff.1 hb).1
 rw[heap_grow_old _ _ (by simpa using hg)]
 simp[putRow,mapBlock,Go.Sort.ahead,Array.getElem?_modify,hb,onCells]
theorem BD{w:World}{g n o:Nat}{os:Array Obj}(d:Array (List UInt8)):Fr (fun k=>k=g) w (grow (putRow encStr (Go.Sort.ahead w n) g o d) os):=by
 refine⟨rfl,rfl,rfl,by simp,fun k hk hne=> ?_⟩
 rw[heap_grow_old _ _ (by simpa using hk)]
 have:g≠k:=fun e=>hne e.symm
 simp[putRow,mapBlock,Go.Sort.ahead,Array.getElem?_modify,this]
theorem xc(cur:List Value)(o:Nat)(ts:List (List UInt8))(h:o+ts.length≤cur.length):((putCells encStr o ts.toArray cur.toArray).toList.drop o).take ts.length=ss ts:=by
 apply List.ext_getElem?
 intro j
 by_cases hj:j<ts.length
 ·rw[List.getElem?_take_of_lt hj,List.getElem?_drop,Array.getElem?_toList]
  simp[putCells,hj,ss,show o+j<cur.length by omega,SV,strOf]
 ·rw[List.getElem?_take_eq_none (by omega),List.getElem?_eq_none (by simp[ss];omega)]
theorem qT(l:List (List UInt8)):(tc l).length=l.length:=List.length_mergeSort ..
theorem BN{A:Option Addr}{n c base:Nat}{e:TypeId}{l:List (List UInt8)}{w:World}(h:Go.Eng.Own w base e 1 (.slice A n c) n (ss l))(hn6:n≤1000000):
  Calls Tryz.prog 165 #[.slice A n c] w fun r w' =>r= .returned (.tuple #[])∧Go.Eng.Own w' base e 1 (.slice A n c) n (ss (tc l))∧Fr (j4 (.slice A n c)) w w' :=by
 obtain⟨h1,h2⟩:=h
 have hl:l.length=n:=by simpa[ss]using h1
 rcases h2 with⟨hv,hn⟩|⟨g,o,cap,cur,hv,hb,⟨fr,hh,hf,hfl⟩,hnc,hcm,hfit,hcs⟩
 ·cases hv
  obtain rfl:l=[]:=List.eq_nil_of_length_eq_zero hl
  refine Calls.mono (qm Aw (by intro s hs;cases hs)) (fun r w' ⟨hr,hf⟩=>⟨hr,⟨by simp[tc,ss],.inl ⟨rfl,rfl⟩⟩,hf.mono (fun _ _ e=>e.elim)⟩)
 ·cases hv
  subst hl
  have hB:eU w g e cur:=⟨fr,hh,hf,hfl⟩
  have hH:Holds encStr w g o l.toArray:=by
   intro j hj
   have hj' :j<l.length:=by simpa using hj
   have h3:((cur.drop o).take (l.length*1))[j]? =(ss l)[j]? :=by rw[hcs]
   rw[List.getElem?_take_of_lt (by omega),List.getElem?_drop,ph hj']at h3
   refine⟨?_,hB.frozen (by omega)⟩
   rw[hB.cell h3]
   simp[List.getD,List.getElem?_eq_getElem hj',hj',SV,strOf]
  refine Calls.mono (Any.slices_Sort_string Tryz.zf g o c l w hH hB.lt (by omega)) ?_
  rintro r w' ⟨hr,k,os,rfl⟩
  refine⟨hr,⟨by simp[ss,qT],.inr ⟨g,o,c,(putCells encStr o (tc l).toArray cur.toArray).toList,rfl,hb, ?_,hnc,hcm,by simp[putCells];omega, ?_⟩⟩,BD _⟩
  ·have:=wF (n:=k) (o:=o) (os:=os) (tc l).toArray hh
   exact⟨fr,by simpa[tc]using this,fun i hi=>hf i (by simpa[putCells]using hi),by simpa[putCells]using hfl⟩
  ·have:=xc cur o (tc l) (by rw[qT];omega)
   rw[qT]at this
   rw[Nat.mul_one];exact this
theorem Dg{A:Option Addr}{n c:Nat}{e:TypeId}{l:List (List UInt8)}(hn:n≤1000000):cj Tryz.prog 165 [.slice A n c] [aH e 1 (.slice A n c) n (ss l)] [] (fun v_ X_ S_=>v_=(.tuple #[])∧X_=[aH e 1 (.slice A n c) n (ss (tc l))]∧S_=[]):=by
 refine fun w m=>Calls.mono (BN (m.own 0 rfl) hn) ?_
 rintro r w' ⟨hr,ho,hf⟩
 exact⟨_,_,_,hr,⟨rfl,rfl,rfl⟩,m.change (r' :=aH e 1 (.slice A n c) n (ss (tc l))) hf ho (fun k hk=>.inl hk)⟩
end Go.Proofs.YtmibdabdlgmafaaGreatDoor
end
