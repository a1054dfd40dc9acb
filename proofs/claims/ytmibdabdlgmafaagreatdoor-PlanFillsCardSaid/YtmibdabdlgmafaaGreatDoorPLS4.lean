/- Part. -/
import Derived.Test.YtmibdabdlgmafaaGreatDoorPLS3
import Derived.OrdersIn
import Derived.RangeFuncNested
import Derived.RangeFuncLeaves
import Derived.RangeFuncCalls
import Derived.RangeFuncBox
import Derived.Shelf.Abstract
import Derived.WalkKit
import Derived.OwnWalkIn
import Derived.TacticsInMore
import Derived.LoopNIn
import Derived.LoopIn
import Derived.ScopeJumps
import Derived.Shelf.Sort.Plain
import Derived.Test.YtmibdabdlgmafaaGreatDoorProg
import Derived.Sort.OwnSorted
set_option linter.all false
section
set_option maxRecDepth 20000
set_option maxHeartbeats 2000000
namespace Go.Proofs.YtmibdabdlgmafaaGreatDoor
open Go.Eng Go.Hx
theorem FF{A:Option Addr}{n c i k:Nat}{l:List UInt8}(hn:n≤1000000000)(hl:l.length=n)(hi:i≤n)(hk:k≤i):b7 Tryz.prog 272 [.slice A n c,.int .i64 (i:Nat),.int .i64 (k:Nat)] [] [cL 1 A n (aW l)] (fun v_ X_ S_=>v_=(.int .i64 (mO l i k:Nat))∧X_=[]∧S_=[]):=by
 refine aM (N:=36) Tryz.func272 rfl rfl (by simp) fun b=> ?_
 refine a6 (fun m=>eG (m.rd 0 rfl)) ?_
 rintro⟨hl_r,hA_r⟩
 refine ae<|ai<|aG rfl<|ag<|ab<|ae<|ai<|aG rfl<|ag<|ab<|ae<|aN<| ?_
 refine de (fun m=>131-m) (fun m=>[(7,.int .i64 (m:Nat))]) (fun m=>[]) (fun m=>[]) (fun m=>m≤131∧i+m≤n∧lT l i k (131-m) m=mO l i k) 0 [(6,_),(0,_),(1,_),(2,_)] ⟨rfl,rfl,rfl,rfl,trivial⟩ [] rfl [] rfl (⟨by decide,hi,rfl⟩) ⟨rfl,trivial⟩ (fun m ⟨hm,him,hL⟩=> ?_)
 refine ae<|ae<|cD [] [(0,some 0),(1,some 0),(2,some 0),(3,some 0),(4,some 0),(5,some 0),(6,some 0),(7,some 0),(8,some 0),(9,some 0),(10,some 0),(11,some 0),(12,some 0),(13,some 0),(14,some 0),(15,some 0),(16,some 0),(17,some 0),(18,some 0),(19,some 0),(20,some 0),(21,some 0),(22,some 0),(23,some 0),(24,some 0)] (by kernel_rfl) (by kernel_rfl) rfl 99<|ak (ah rfl)<|ak (bw rfl rfl)<|ak (ah rfl)<| ?_
 refine iu 10 rfl (fun h1=> ?_) (fun h1=> ?_)
 ·refine bB (o:=_) rfl rfl rfl (ah rfl)<|bB (o:=_) rfl rfl rfl (ah rfl)<|bB (o:=_) rfl rfl rfl (aP rfl rfl (bA (by omega) (by omega)))<|bB (o:=_) rfl rfl rfl (ah rfl)<|bB (o:=_) rfl rfl rfl (aY rfl Tryz.underlying27)<|bB (o:=_) rfl rfl rfl (bw rfl rfl)<|ak (bC rfl rfl)<|ak (ah rfl)<| ?_
  refine iu 18 rfl (fun h2=> ?_) (fun h2=> ?_)
  ·refine bB (o:=_) rfl rfl rfl (ah rfl)<|bB (o:=_) rfl rfl rfl (ah rfl)<|bB (o:=_) rfl rfl rfl (ah rfl)<|bB (o:=_) rfl rfl rfl (aP rfl rfl (bA (by omega) (by omega)))<|bB (o:=_) rfl rfl rfl (aZ rfl rfl Tryz.underlying27 dU hA_r (show((i+m:Nat):Int)=_ by omega) (by omega))<|iW (o:=_) rfl rfl rfl (fun m=>ao rfl iO ((m.rd 0 rfl).cell (bM (by omega))))<|bB (o:=_) rfl rfl rfl (ah rfl)<|bB (o:=_) rfl rfl rfl (ah rfl)<|bB (o:=_) rfl rfl rfl (ah rfl)<|bB (o:=_) rfl rfl rfl (aP rfl rfl (bA (by omega) (by omega)))<|bB (o:=_) rfl rfl rfl (aZ rfl rfl Tryz.underlying27 dU hA_r (show((k+m:Nat):Int)=_ by omega) (by omega))<|iW (o:=_) rfl rfl rfl (fun m=>ao rfl iO ((m.rd 0 rfl).cell (bM (by omega))))<|bB (o:=_) rfl rfl rfl (cx rfl rfl)<|ak (bC rfl rfl)<|bq<|aB [32,7,6,0,1,2] rfl<|ab<| ?_
   refine cB rfl (fun h3=> ?_) (fun h3=> ?_)
   ·have e3:l.getD (i+m) 0=l.getD (k+m) 0:=UInt8.toNat_inj.1 (by omega)
    rw[iC (by omega) ⟨by omega,e3⟩]at hL
    refine aC<|ab<|aN<|ai<|aw rfl<|hy (fun _=>aP rfl rfl (bA (by omega) (by omega)))<|aG rfl<|ag<|aB [7,32,6,0,1,2] rfl<|aS<| ?_
    refine cM (m+1) ⟨rfl,rfl,rfl,rfl,rfl,trivial⟩ [] rfl [0] rfl (⟨by omega,by omega,by rw[←hL];rfl⟩) (by omega)
   ·rw[lO (fun q=>h3 (by rw[q.2]))]at hL
    rw[←hL]
    refine bG<|an<|an<|aE<|ab<|ae<|ai<|aw rfl<|aG rfl<|ag<|aB [6,32,7,0,1,2] rfl<|ab<|aV<| ?_
    exact bc trivial rfl rfl [] rfl [] rfl ⟨rfl,rfl,rfl⟩
  ·rw[lO (fun q=>h2 (by omega))]at hL
   rw[←hL]
   refine aX rfl rfl rfl (by decide)<|aX rfl rfl rfl (by decide)<|aX rfl rfl rfl (by decide)<|aX rfl rfl rfl (by decide)<|aX rfl rfl rfl (by decide)<|aX rfl rfl rfl (by decide)<|aX rfl rfl rfl (by decide)<|aX rfl rfl rfl (by decide)<|aX rfl rfl rfl (by decide)<|aX rfl rfl rfl (by decide)<|aX rfl rfl rfl (by decide)<|aX rfl rfl rfl (by decide)<|aX rfl rfl rfl (by decide)<|ak (bo rfl rfl)<|bq<|aB [32,7,6,0,1,2] rfl<|ab<| ?_
   refine cN rfl (rfl) ?_
   refine bG<|an<|an<|aE<|ab<|ae<|ai<|aw rfl<|aG rfl<|ag<|aB [6,32,7,0,1,2] rfl<|ab<|aV<| ?_
   exact bc trivial rfl rfl [] rfl [] rfl ⟨rfl,rfl,rfl⟩
 ·obtain rfl:m=131:=by omega
  have hL:131=mO l i k:=hL
  rw[←hL]
  refine aX rfl rfl rfl (by decide)<|aX rfl rfl rfl (by decide)<|aX rfl rfl rfl (by decide)<|aX rfl rfl rfl (by decide)<|aX rfl rfl rfl (by decide)<|aX rfl rfl rfl (by decide)<|ak (bo rfl rfl)<|ak (ah rfl)<| ?_
  refine aX rfl rfl rfl (by decide)<|aX rfl rfl rfl (by decide)<|aX rfl rfl rfl (by decide)<|aX rfl rfl rfl (by decide)<|aX rfl rfl rfl (by decide)<|aX rfl rfl rfl (by decide)<|aX rfl rfl rfl (by decide)<|aX rfl rfl rfl (by decide)<|aX rfl rfl rfl (by decide)<|aX rfl rfl rfl (by decide)<|aX rfl rfl rfl (by decide)<|aX rfl rfl rfl (by decide)<|aX rfl rfl rfl (by decide)<|ak (bo rfl rfl)<|bq<|aB [32,7,6,0,1,2] rfl<|ab<| ?_
  refine cN rfl (rfl) ?_
  refine bG<|an<|an<|aE<|ab<|ae<|ai<|aw rfl<|aG rfl<|ag<|aB [6,32,7,0,1,2] rfl<|ab<|aV<| ?_
  exact bc trivial rfl rfl [] rfl [] rfl ⟨rfl,rfl,rfl⟩
structure kM where
 A:Option Addr
 c:Nat
 l:List Nat
def kM.val(r:kM):Value:=.slice r.A r.l.length r.c
def Ej(l:List Nat):List Value:=l.map fun n=>Value.int .i64 (n:Nat)
theorem yv{l:List Nat}:∀u∈Ej l,u.oneCell' =true:=by
 intro u hu
 obtain⟨n,_,rfl⟩:=List.mem_map.1 hu
 rfl
def kM.res(r:kM):bl:=aK 3 1 (.slice r.A r.l.length r.c) r.l.length (Ej r.l)
abbrev xc:=List (Bn 4×kM)
def jQ(es:xc):List (Bn 4×Value):=es.map fun x=>(x.1,x.2.val)
def gz(es:xc):List bl:=es.map fun x=>x.2.res
abbrev oC(g gm:Nat)(A:Option Addr)(n c m:Nat)(es:xc):bl:=eY [aH g 359 [.slice A n c,.map (some gm),.int .i64 (m:Nat)],dV (KN (n:=4)) gm (jQ es),eY (gz es)]
def z1(l:List UInt8)(m:Nat)(es:xc):Prop:=∀k:Bn 4,((bO es k).map kM.l).getD []=lg l m k.1
theorem lI(k:Bn 4):∀es:xc,bO (jQ es) k=(bO es k).map kM.val
 | []=>rfl
 |(q,r)::t=>by
  have ih:=lI k t
  unfold jQ at ih ⊢
  simp only[List.map_cons,bO]
  split
  ·rfl
  ·exact ih
theorem oB(k:Bn 4)(r:kM):∀es:xc,cP (jQ es) k r.val=jQ (cP es k r)
 | []=>rfl
 |(q,x)::t=>by
  have ih:=oB k r t
  unfold jQ at ih ⊢
  simp only[List.map_cons,cP]
  split
  ·rfl
  ·rw[ih];rfl
theorem qQ{k:Bn 4}(r:kM):∀{es:xc},bO es k=none→gz (cP es k r)=gz es++[r.res]
 | [],_=>rfl
 |(q,x)::t,h=>by
  simp only[bO]at h
  split at h
  ·cases h
  ·rename_i hq
   have ih:=qQ r h
   unfold gz at ih ⊢
   simp only[cP,if_neg hq,List.map_cons,ih,List.cons_append]
theorem kU{k:Bn 4}:∀{es:xc} {x:kM},bO es k=some x→∃i,(gz es)[i]? =some x.res∧∀r:kM,gz (cP es k r)=(gz es).set i r.res
 | [],_,h=>by cases h
 |(q,y)::t,x,h=>by
  simp only[bO]at h
  split at h
  ·rename_i hq
   cases h
   exact⟨0,rfl,fun r=>by simp[gz,cP,hq]⟩
  ·rename_i hq
   obtain⟨i,h1,h2⟩:=kU h
   refine⟨i+1,by simpa[gz]using h1,fun r=> ?_⟩
   have h2:=h2 r
   unfold gz at h2 ⊢
   simp only[cP,if_neg hq,List.map_cons,h2,List.set_cons_succ]
theorem set_perm{α:Type}:∀(l:List α) (i:Nat) (x:α),i<l.length→(l.set i x).Perm (x::l.eraseIdx i)
 | [],i,x,h=>by simp at h
 |a::t,0,x,h=>by simp
 |a::t,i+1,x,h=>by
  have:=set_perm t i x (by simpa using h)
  simp only[List.set_cons_succ,List.eraseIdx_cons_succ]
  exact(this.cons a).trans (List.Perm.swap ..)
theorem xF{l:List UInt8}{m:Nat}{es:xc}{A:Option Addr}{c:Nat}(h:z1 l m es)(hm:m+4≤l.length):z1 l (m+1) (cP es ⟨eI l m,bW hm⟩ ⟨A,c,lg l m (eI l m)++[m]⟩):=by
 intro k
 rw[lx,zg]
 by_cases hk:eI l m=k.1
 ·rw[if_pos (Subtype.ext hk),if_pos hk,←hk];rfl
 ·rw[if_neg (fun e=>hk (congrArg Subtype.val e)),if_neg hk,List.append_nil]
  exact h k
theorem Et(l:List UInt8):z1 l 0 []:=fun k=>rfl
theorem uV{es:xc}{l:List UInt8}{m:Nat}{k:Bn 4}{r:kM}(h:z1 l m es)(hr:bO es k=some r):r.l=lg l m k.1:=by
 have:=h k
 rw[hr]at this
 exact this
theorem sa{es:xc}{l:List UInt8}{m:Nat}{k:Bn 4}(h:z1 l m es)(hr:bO es k=none):lg l m k.1=[]:=by
 have:=h k
 rw[hr]at this
 exact this.symm
theorem Ja{g gm:Nat}{A:Option Addr}{n c p i:Nat}{l:List UInt8}{es:xc}(hc:n≤c)(hn:n≤1000000000)(hl:l.length=n)(hpi:p≤i)(hi:i+4≤n)(hF:z1 l p es):b7 Tryz.prog 270 [.pointer (some ⟨g,0,none⟩),.int .i64 (i:Nat)] [oC g gm A n c p es] [cL 1 A n (aW l)] (fun v_ X_ S_=>∃es1,v_=(.tuple #[])∧X_=[oC g gm A n c i es1]∧S_=[]∧(z1 l i es1)):=by
 refine aM (N:=61) Tryz.func270 rfl rfl (by simp) fun b=> ?_
 refine a6 (fun m=>eG (m.rd 0 rfl)) ?_
 rintro⟨hl_r,hA_r⟩
 refine bk (fun w m=>(m.perm (ar [0] _ [_] _ rfl)).unpack) ?_
 refine aN<| ?_
 refine mq (fun p es=>i-p) (fun p es=>[]) (fun p es=>[aH g 359 [.slice A n c,.map (some gm),.int .i64 (p:Nat)],dV (KN (n:=4)) gm (jQ es),eY (gz es)]) (fun p es=>[]) (fun p es=>p≤i∧z1 l p es) p es [(0,_),(1,_)] ⟨rfl,rfl,trivial⟩ [0,0,0] rfl [] rfl (⟨hpi,hF⟩) trivial (fun p es ⟨hpi,hF⟩=> ?_)
 refine ae<|ae<|cD [] [(0,some 0),(1,some 0),(2,some 0),(3,some 0),(4,some 0),(5,some 0),(6,some 0),(7,some 0),(8,some 0),(9,some 0),(10,some 0),(11,some 0),(12,some 0),(13,some 0),(14,some 0),(15,some 0),(16,some 0),(17,some 0),(18,some 0)] (by kernel_rfl) (by kernel_rfl) rfl 99<|ak (ah rfl)<|ak (aO rfl)<|ak (aF rfl iv (by decide))<|bZ (fun m=>ao rfl dD (aA (m.aU 0 rfl) rfl))<|ak (ah rfl)<|ak (bw rfl rfl)<|ak (ah rfl)<| ?_
 refine iu 11 rfl (fun h1=> ?_) (fun h1=> ?_)
 ·refine bB (o:=_) rfl rfl rfl (ah rfl)<|bB (o:=_) rfl rfl rfl (aO rfl)<|bB (o:=_) rfl rfl rfl (aF rfl iv (by decide))<|iW (o:=_) rfl rfl rfl (fun m=>ao rfl dD (aA (m.aU 0 rfl) rfl))<|bB (o:=_) rfl rfl rfl (aP rfl rfl (bA (by omega) (by omega)))<|bB (o:=_) rfl rfl rfl (ah rfl)<|bB (o:=_) rfl rfl rfl (aO rfl)<|bB (o:=_) rfl rfl rfl (aF rfl kc (by decide))<|iW (o:=_) rfl rfl rfl (fun m=>ao rfl dB (aA (m.aU 0 rfl) rfl))<|bB (o:=_) rfl rfl rfl (aY rfl Tryz.underlying27)<|bB (o:=_) rfl rfl rfl (mh rfl rfl)<|ak (bC rfl rfl)<|bq<|aB [23,0,1] rfl<|ab<| ?_
  refine fq rfl ((decide_eq_true (by omega))) ?_
  refine a6 (fun m=>(m.rd 0 rfl).some (by omega)) fun h_=> ?_
  obtain⟨a,rfl⟩:∃a_,A=some a_:=⟨_,h_⟩
  clear h_
  refine aC<|ab<|ae<|aN<|ae<|cD [16,17] [(0,some 1),(1,some 1),(2,some 1),(3,some 1),(4,some 1),(5,some 1),(6,some 1),(7,some 1),(8,some 1),(9,some 1),(10,some 1),(11,some 1),(12,some 1),(13,some 1),(14,some 1),(15,some 1),(16,none),(17,none)] (by kernel_rfl) (by kernel_rfl) rfl 1<|ak (ah rfl)<|ak (aO rfl)<|ak (aF rfl kc (by decide))<|bZ (fun m=>ao rfl dB (aA (m.aU 0 rfl) rfl))<|ak (ah rfl)<|ak (aO rfl)<|ak (aF rfl iv (by decide))<|bZ (fun m=>ao rfl dD (aA (m.aU 0 rfl) rfl))<|ak (ah rfl)<|ak (aO rfl)<|ak (aF rfl iv (by decide))<|bZ (fun m=>ao rfl dD (aA (m.aU 0 rfl) rfl))<|ak (aP rfl rfl (bA (by omega) (by omega)))<|ak (yV (ey rfl rfl rfl Tryz.underlying27 dU rfl (show((p+4:Nat):Int)=_ by omega) (by omega) (by omega)) ((show Value.slice (if c=p then some a else(some a).map (·.add (p*1))) (p+4-p) (c-p)= .slice (some (a.add p)) 4 (c-p) by rw[if_neg (by omega),Nat.mul_one,Nat.add_sub_cancel_left];rfl)))<|ak (p8 rfl Tryz.underlying364 (by omega))<|bZ (fun m=>yV (aQ rfl xw vh (by rw[ax];exact bW (by omega)) (Rd.part (m.rd 0 rfl))) ((rfl:Value.agg _= .agg (aW (eI l p)).toArray)))<| ?_
  refine dF (bf I8 (fun g4=>⟨(fun _=>wk [1,1,1] [0] rfl rfl), ?_⟩))
  refine gu (ba 0 rfl rfl rfl vh (by rw[ax];exact bW (by omega)) bn rfl ⟨(fun h=>absurd h (by decide)), ?_⟩)
  refine bq<|aB [4,23,0,1] rfl<|aj (X' :=[_,_,_,_]) (S' :=[_]) (fun _ m=>m)<|ab<| ?_
  refine cD [9,10,12,14] [(0,some 1),(1,some 1),(2,some 1),(3,some 1),(4,some 1),(5,some 0),(6,some 0),(7,some 0),(8,some 0),(9,none),(10,none),(11,some 2),(13,some 3),(12,none),(14,none)] (by kernel_rfl) (by kernel_rfl) rfl 1<|ak (ah rfl)<|ak (aO rfl)<|ak (aF rfl tG (by decide))<|bZ (fun m=>ao rfl AS (aA (m.aU 1 rfl) rfl))<|bZ (fun m=>yV (aQ rfl xw vh (by rw[ax];exact bW (by omega)) ((m.aU 0 rfl).au)) ((rfl:Value.agg _=KN ⟨eI l p,bW (by omega)⟩)))<|ak (ah rfl)<|ak (aO rfl)<|ak (aF rfl iv (by decide))<|bZ (fun m=>ao rfl dD (aA (m.aU 1 rfl) rfl))<| ?_
  refine dF (bQ Tryz.underlying44 HU rfl rfl rfl (by simp[Value.cells,B8]) (by decide) (by decide) (fun g57=>⟨(fun _=>wk [1,1,1,1] [0] rfl rfl), ?_⟩))
  have hA_b57:0<1→(some (⟨g57,0,none⟩:Addr))≠none:=fun _ h=>by cases h
  refine ez (fun w m=>m.bz 0 rfl (show _=aK 3 1 (.slice (some ⟨g57,0,none⟩) 1 1) 1 (Ej [p])from rfl)) ?_
  refine dF (CO (enc:=(KN (n:=4))) (k:=⟨eI l p,bW (by omega)⟩) 3 rfl rfl rfl Tryz.underlying357 Gt (AX Tryz.underlying364 Tryz.underlying5 (by kernel_rfl) (by kernel_rfl) (by kernel_rfl)) (fun st58=>⟨(fun h=>absurd h (by decide)), ?_⟩))
  rw[lI]
  rcases hq:bO es ⟨eI l p,bW (by omega)⟩with _|x
  ·have e0:=sa hF hq
   refine ez (fun w m=>m.cQ (r' :=aK 3 1 (.slice none 0 0) 0 []) (.refl _ _) (Own.nil _ _ _ _) (fun k hk=>hk.elim)) ?_
   refine ak (aD rfl rfl)<|ak (aD rfl rfl)<| ?_
   refine dF (bs 0 rfl rfl rfl Tryz.underlying44 Tryz.underlying44 (by exact .inl rfl) HU rfl (fun m=>Src.bJ (m.ord 2 rfl)) (yv (l:=[p])) (by unfold maxLen;omega) (by omega) (fun u=>⟨(fun h=>absurd h (by decide)), ?_⟩))
   refine cd (fun m=>(m.own 0 rfl).slice) ?_
   rintro⟨A_x,c_x,rfl,hc_x⟩
   refine cd (fun m=>(m.ord 0 rfl).2.1) fun hA_x=> ?_
   refine gu (rZ (enc:=(KN (n:=4))) 1 rfl rfl rfl rfl ⟨(fun h=>absurd h (by decide)), ?_⟩)
   refine bq<|aB [4,23,0,1] rfl<|aj (X' :=[_,_,_,_,_,_]) (S' :=[_]) (fun _ m=>m)<|aS<|ab<|ai<|aw rfl<|hy (fun _=>aO rfl)<|hy (fun _=>aF rfl iv (by decide))<|hy (fun m=>ao rfl dD (aA (m.aU 4 rfl) rfl))<|hy (fun _=>aP rfl rfl (bA (by omega) (by omega)))<|hy (fun _=>aO rfl)<|hy (fun _=>aF rfl iv (by decide))<| ?_
   refine cI (b9 4 rfl rfl rfl ue rfl (by first|exact Nat.le_of_ble_eq_true rfl|simp) ?_)
   refine ag<|aB [4,23,0,1] rfl<|aj (X' :=[_,_,_,_,_,_]) (S' :=[_]) (fun _ m=>m)<| ?_
   refine aj (fun w m=>m.bz 0 rfl (show _=aH g 359 [.slice (some a) n c,.map (some gm),.int .i64 ((p+1:Nat):Int)]from rfl)) ?_
   refine aj (fun w m=>m.bz 1 rfl (show _=dV (KN (n:=4)) gm (jQ (cP es ⟨eI l p,bW (by omega)⟩ ⟨A_x,c_x,[p]⟩))from congrArg (dV _ _) (sJ.trans (oB _ ⟨A_x,c_x,[p]⟩ es)))) ?_
   refine aj (X' :=eY (gz (cP es ⟨eI l p,bW (by omega)⟩ ⟨A_x,c_x,[p]⟩))::_) (fun w m=>(Mem.tg (m.perm (ar [2,4] _ [_,_] _ rfl))).nw (by rw[qQ _ hq];exact(List.perm_append_singleton _ _).symm)) ?_
   refine jt (p+1) (cP es ⟨eI l p,bW (by omega)⟩ ⟨A_x,c_x,[p]⟩) ⟨rfl,rfl,trivial⟩ [2,1,0] rfl [0] rfl (⟨by omega,by have:=xF (A:=A_x) (c:=c_x) hF (by omega);rw[e0]at this;exact this⟩) (by omega)
  ·obtain⟨j,hj1,hj2⟩:=kU hq
   have e0:=uV hF hq
   have hxl:x.l.length≤n:=by rw[e0];exact Nat.le_trans (oW _ _ _) (by omega)
   refine ez (X' :=aK 3 1 (.slice x.A x.l.length x.c) x.l.length (Ej x.l)::_) (fun w m=>(m.perm (ar [4] _ [_] _ rfl)).vp j hj1) ?_
   refine ak (aD rfl rfl)<|ak (aD rfl rfl)<| ?_
   refine dF (bs 0 rfl rfl rfl Tryz.underlying44 Tryz.underlying44 (by exact .inl rfl) HU rfl (fun m=>Src.bJ (m.ord 3 rfl)) (yv (l:=[p])) (by unfold maxLen;omega) (by omega) (fun u=>⟨(fun h=>absurd h (by decide)), ?_⟩))
   refine cd (fun m=>(m.own 0 rfl).slice) ?_
   rintro⟨A_y,c_y,rfl,hc_y⟩
   refine cd (fun m=>(m.ord 0 rfl).2.1) fun hA_y=> ?_
   refine gu (rZ (enc:=(KN (n:=4))) 2 rfl rfl rfl rfl ⟨(fun h=>absurd h (by decide)), ?_⟩)
   refine bq<|aB [4,23,0,1] rfl<|aj (X' :=[_,_,_,_,_,_]) (S' :=[_]) (fun _ m=>m)<|aS<|ab<|ai<|aw rfl<|hy (fun _=>aO rfl)<|hy (fun _=>aF rfl iv (by decide))<|hy (fun m=>ao rfl dD (aA (m.aU 5 rfl) rfl))<|hy (fun _=>aP rfl rfl (bA (by omega) (by omega)))<|hy (fun _=>aO rfl)<|hy (fun _=>aF rfl iv (by decide))<| ?_
   refine cI (b9 5 rfl rfl rfl ue rfl (by first|exact Nat.le_of_ble_eq_true rfl|simp) ?_)
   refine ag<|aB [4,23,0,1] rfl<|aj (X' :=[_,_,_,_,_,_]) (S' :=[_]) (fun _ m=>m)<| ?_
   refine aj (fun w m=>m.bz 0 rfl (show _=aH g 359 [.slice (some a) n c,.map (some gm),.int .i64 ((p+1:Nat):Int)]from rfl)) ?_
   have h1e:cP (jQ es) ⟨eI l p,bW (by omega)⟩ (.slice A_y (x.l.length+1) c_y)=jQ (cP es ⟨eI l p,bW (by omega)⟩ ⟨A_y,c_y,x.l++[p]⟩):=by rw[←oB];simp[kM.val]
   refine aj (fun w m=>m.bz 1 rfl (show _=dV (KN (n:=4)) gm (jQ (cP es ⟨eI l p,bW (by omega)⟩ ⟨A_y,c_y,x.l++[p]⟩))from congrArg (dV _ _) (sJ.trans h1e))) ?_
   have h2e:aK 3 1 (.slice A_y (x.l.length+1) c_y) (x.l.length+1) (Ej x.l++Ej [p])=(⟨A_y,c_y,x.l++[p]⟩:kM).res:=by simp[kM.res,Ej]
   refine aj (fun w m=>m.bz 2 rfl (show _=(⟨A_y,c_y,x.l++[p]⟩:kM).res from h2e)) ?_
   have hjl:=(List.getElem?_eq_some_iff.1 hj1).1
   refine aj (X' :=eY (gz (cP es ⟨eI l p,bW (by omega)⟩ ⟨A_y,c_y,x.l++[p]⟩))::_) (fun w m=>(Mem.tg (m.perm (ar [0,2] _ [_,_] _ rfl))).nw (by rw[hj2];exact(set_perm _ _ _ hjl).symm)) ?_
   refine jt (p+1) (cP es ⟨eI l p,bW (by omega)⟩ ⟨A_y,c_y,x.l++[p]⟩) ⟨rfl,rfl,trivial⟩ [2,1,0] rfl [0] rfl (⟨by omega,by have:=xF (A:=A_y) (c:=c_y) hF (by omega);rw[←e0]at this;exact this⟩) (by omega)
 ·obtain rfl:p=i:=by omega
  refine aX rfl rfl rfl (by decide)<|aX rfl rfl rfl (by decide)<|aX rfl rfl rfl (by decide)<|aX rfl rfl rfl (by decide)<|aX rfl rfl rfl (by decide)<|aX rfl rfl rfl (by decide)<|aX rfl rfl rfl (by decide)<|aX rfl rfl rfl (by decide)<|aX rfl rfl rfl (by decide)<|aX rfl rfl rfl (by decide)<|aX rfl rfl rfl (by decide)<|ak (bo rfl rfl)<|bq<|aB [23,0,1] rfl<|ab<| ?_
  refine cN rfl (rfl) ?_
  refine bG<|an<|an<|aE<| ?_
  refine aj (X' :=oC g gm A n c p es::_) (fun w m=>(m.perm (ar [0,0,0] _ [_,_,_] _ rfl)).pack) ?_
  exact eU trivial rfl [0] rfl [] rfl ⟨es,rfl,rfl,rfl,hF⟩
end Go.Proofs.YtmibdabdlgmafaaGreatDoor
end
section
namespace Go.Eng
open Go.RowKit
def mS:Op→Bool
 | .defer _=>true
 |_=>false
abbrev oG(l:Nat):Fence:=Fence.wide.inRound l
section
variable{P:Program}{Q:Exit→Act→World→Prop}{a:Act}{w:World}{l n:Nat}
theorem Jf{o:Oper}{next next' :Act→World→Prop}(h:o.wp P a w next Q)(hd:mS o.op=false)(hn:∀a w,next a w→next' a w):o.wpIn (oG l) n P a w next' Q:=by
 refine⟨fun _ _=>trivial, ?_⟩
 have e:o.semAt (oG l).round a.eval=execOp a.eval o:=Oper.semAt_eq _ _ _ (fun c hc=>by rw[hc]at hd;cases hd)
 rw[e]
 unfold Oper.wp at h
 generalize(execOp a.eval o).run P w=r at h
 match r,h with
 | .ok (.value v) w',h=>exact hn _ _ h
 | .ok .skip w',h=>exact hn _ _ h
 | .ok (.defer d) w',h=>exact hn _ _ h
 | .ok (.enter f args) w',h=>
  refine⟨fun h=>by simp[Fence.wide]at h,CallsIn.inRound l (callsIn_wide.2 (Calls.mono h ?_))⟩
  intro e w'' q
  cases e with
  |returned v=>exact hn _ _ q
  |panicked c=>exact q
  |outgrown=>exact q
 | .ok (.row row args) w',h=>exact⟨fun h=>by simp[Fence.wide]at h,fun c cs _=>let⟨v,w'',r,s⟩:=h c cs;⟨v,w'',hn _ _ r,stepsIn_wide.2 s⟩⟩
 | .halt (.panic v) w',h=>exact h
theorem oA{ops:Array Oper}(hQ:¬LetsOut Q)(hd:ops.toList.all (fun o=> !mS o.op)=true):∀(il:List Nat) (a:Act) (w:World),wpOps P ops Q il a w→wpOpsIn (oG l) n P ops Q il a w
 | [],a,w,h=>h
 |i::rest,a,w,h=>by
  unfold wpOps at h
  unfold wpOpsIn
  cases ho:ops[i]? with
  |none=>simp only[ho]at h ⊢;exact oA hQ hd rest a w h
  |some o=>
   simp only[ho]at h ⊢
   have hod:mS o.op=false:=by
    have h1:=List.all_eq_true.1 hd o (by obtain⟨hi,he⟩:=Array.getElem?_eq_some_iff.1 ho;rw[←he];exact Array.getElem_mem_toList ..)
    simpa using h1
   split
   ·rename_i hw
    rw[if_pos hw]at h
    rcases h with h|⟨_,h⟩
    ·exact Jf h hod (fun a w h=>oA hQ hd rest a w h)
    ·exact absurd h hQ
   ·rename_i hw
    rw[if_neg hw]at h
    exact⟨fun _ _=>trivial,oA hQ hd rest _ w h⟩
end
def s9(l n:Nat)(P:Program)(Q:Exit→Act→World→Prop)(N:Nat)(D:List Deferred)(c:Code)(ρ:Env)(b:ct)(X S:List bl):Prop:=
 ¬LetsOut Q→∀w,Mem b X S w→∀a,Ag N D ρ a→c.wpIn (oG l) n P Q a w
section
variable{P:Program}{Q:Exit→Act→World→Prop}{N:Nat}{D:List Deferred}{ρ ρ' :Env}{b:ct}{X X' X1 Xr S S' S1:List bl}{c c' :Code}{l n:Nat}{ops:Array Oper}
theorem tE{K:Act→World→Prop}:LetsOut (Exit.then K Q)→LetsOut Q:=fun⟨a,w,h⟩=>⟨a,w,h⟩
theorem rz{id:Nat}:LetsOut (Exit.inBlock id Q)→LetsOut Q:=fun⟨a,w,h⟩=>⟨a,w,h⟩
theorem mg:LetsOut (eR Q)→LetsOut Q:=fun⟨a,w,h⟩=>⟨a,w,by first|exact h|exact h.elim⟩
theorem oZ(h:s9 l n P (Exit.then (fun a w=>¬LetsOut Q→c'.wpIn (oG l) n P Q a w) Q) N D c ρ b X S):s9 l n P Q N D (.seq c c') ρ b X S:=fun hQ w m a ha=>
 wpIn_seq (wpIn_mono (h (fun k=>hQ (tE k)) w m a ha) (fun e a w q=>by cases e <;> first|exact q hQ|exact q))
theorem qd{id:Nat}{il:List Oper}(h:HL P il.toArray Q N D il ρ b X S)(hd:il.all (fun o=> !mS o.op)=true:=by rfl):s9 l n P Q N D (.region id il.toArray false) ρ b X S:=fun hQ w m a ha=>by
 refine wpIn_region (oA hQ (by simpa using hd) _ _ _ ?_)
 have h1:=h w m a ha
 rw[List.range_eq_range',←Array.length_toList,wpOps_eq_wpList il.toArray.toList 0 (by simp)]
 simpa using h1
theorem p6(h:HQ Q N D .normal ρ b X S):s9 l n P Q N D .skip ρ b X S:=fun hQ w m a ha=>wpIn_skip (h w m a ha)
theorem Bm{id:Nat}(h:HQ Q N D (.exit id) ρ b X S):s9 l n P Q N D (.exit id) ρ b X S:=fun hQ w m a ha=>wpIn_exit (h w m a ha)
theorem tJ{id:Nat}(h:s9 l n P (Exit.inBlock id Q) N D c ρ b X S):s9 l n P Q N D (.block id c) ρ b X S:=fun hQ w m a ha=>wpIn_block (h (fun k=>hQ (rz k)) w m a ha)
theorem DE{p:Prop}[Decidable p]{x:Operand}(hc:ev ρ x=some (.bool (decide p)))(ht:p→s9 l n P Q N D c ρ b X S)(he:¬p→s9 l n P Q N D c' ρ b X S):s9 l n P Q N D (.cond x c c') ρ b X S:=
 fun hQ w m a ha=>wpIn_cond_split (ha.eval hc) (fun h=>ht (of_decide_eq_true h) hQ w m a ha) (fun h=>he (of_decide_eq_false h) hQ w m a ha)
theorem k6(h:s9 l n P Q N D c ρ b X S):HQ (Exit.then (fun a w=>¬LetsOut Q→c.wpIn (oG l) n P Q a w) Q) N D .normal ρ b X S:=fun w m a ha hQ=>h hQ w m a ha
theorem EP{p:Prop}(h:∀{w},Mem b X S w→p)(k:p→s9 l n P Q N D c ρ b X S):s9 l n P Q N D c ρ b X S:=fun hQ w m=>k (h m) hQ w m
theorem CX{id:Nat}{il:List (Option Nat×Oper)}(Xs:List Nat)(L:List (Nat×Option Nat))(hm:P.follows .mixedOrders=true)(hk:(Region.noSelect ops && eM ops Xs L (Array.replicate ops.size false) && decide (L.length≤ops.size))=true)
  (hp:iG ops L=some il) (cc:Nat) (h:HT P ops (eR Q) (TT b X S cc) N D 0 il ρ b X S) (hd:ops.toList.all (fun o=> !mS o.op)=true:=by rfl):s9 l n P Q N D (.region id ops true) ρ b X S:=fun hQ w m a ha=>by
 simp only[Bool.and_eq_true,decide_eq_true_eq]at hk
 refine wpIn_mono (Q:=eR Q) ?_ (fun e a w q=>by cases e <;> first|exact q|exact q.elim)
 refine wpIn_region_draw fun t=>oA (fun k=>hQ (mg k)) hd _ _ _ ?_
 simp only[Region.schedule,hm,Bool.true_or,if_true]
 refine wpAny_sound ops.size t _ a _ ?_
 refine fb _ _ _ _ (gL (X:=Xs) hk.1.1 (fun c a d v w q=>q.elim) L il _ a _ _ 0 hp hk.1.2 hk.2 ?_ ?_ (T:=TT b X S cc) (fun _=>m.lift (Fr.drew w)) (h _ (m.lift (Fr.drew w)) a ha))
 ·intro j hj
  simp[Array.getElem?_replicate]at hj
  split at hj <;> cases hj
 ·unfold jw
  rw[List.countP_eq_zero]
  intro x _
  simp[Array.getElem?_replicate]
  split <;> rfl
theorem BR{id:Nat}{il:List (Option Nat×Oper)}(is js:List Nat)(hX:bT is X=some (X1,Xr))(hS:dy js S=some S1)(Xs:List Nat)(L:List (Nat×Option Nat))(hm:P.follows .mixedOrders=true)(hk:(Region.noSelect ops && eM ops Xs L (Array.replicate ops.size false) && decide (L.length≤ops.size))=true)
  (hp:iG ops L=some il) (cc:Nat) (h:HT P ops (eR Q) (TT b X1 S1 cc) N D 0 il ρ b X S) (hd:ops.toList.all (fun o=> !mS o.op)=true:=by rfl):s9 l n P Q N D (.region id ops true) ρ b X S:=fun hQ w m a ha=>by
 simp only[Bool.and_eq_true,decide_eq_true_eq]at hk
 refine wpIn_mono (Q:=eR Q) ?_ (fun e a w q=>by cases e <;> first|exact q|exact q.elim)
 refine wpIn_region_draw fun t=>oA (fun k=>hQ (mg k)) hd _ _ _ ?_
 simp only[Region.schedule,hm,Bool.true_or,if_true]
 refine wpAny_sound ops.size t _ a _ ?_
 refine fb _ _ _ _ (gL (X:=Xs) hk.1.1 (fun c a d v w q=>q.elim) L il _ a _ _ 0 hp hk.1.2 hk.2 ?_ ?_ (T:=TT b X1 S1 cc) (fun _=>(wk is js hX hS).mem (m.lift (Fr.drew w))) (h _ (m.lift (Fr.drew w)) a ha))
 ·intro j hj
  simp[Array.getElem?_replicate]at hj
  split at hj <;> cases hj
 ·unfold jw
  rw[List.countP_eq_zero]
  intro x _
  simp[Array.getElem?_replicate]
  split <;> rfl
end
end Go.Eng
end
section
namespace Go.Eng
open Go.RowKit
def kD(D:Nat):bl where
 dA k:=k=D
 holds w:=w.heap[D]? =some (.deferred (some []))
 iw:=fun{S w w'} f h e=>by
  have hlt:=(Array.getElem?_eq_some_iff.1 e).1
  exact(f.block D hlt (h D rfl)).trans e
 low:=fun{w k} e hk=>by
  have hk' :k=D:=hk
  rw[hk'];exact(Array.getElem?_eq_some_iff.1 e).1
theorem Mem.grown{b:ct}{X S:List bl}{w w' :World}{R:Nat→Prop}(m:Mem b X S w)(f:Fr R w w')(h1:∀k,R k→b.w.heap.size≤k)(h2:∀k,R k→∀x∈X,¬x.dA k)(h3:∀k,R k→∀s∈S,¬s.dA k):Mem b X S w' :=
 ⟨m.fr.trans f (fun _ e=>e) (fun i hi e=>absurd (h1 i e) (by omega)),m.xx,m.xs,fun x hx=>x.iw f (fun k hk hr=>h2 k hr x hx hk) (m.hx x hx),fun s hs=>s.iw f (fun k hk hr=>h3 k hr s hs hk) (m.hs s hs),m.nx,m.ns⟩
theorem vV{w w' :World}{row:Option Nat}(h:w.grownBy w' row):Fr (fun k=>row=some k) w w' :=⟨h.os,h.tape,h.output,h.size,fun k hk hn=>h.block k hk (fun e=>hn e.symm)⟩
def IT(B:Nat)(M:Nat→Prop)(W W' :World):Prop:=∀k,k<B→¬M k→W'.heap[k]? =W.heap[k]?
def vt(ps:Array Tmp)(vs:List Value):Env:=(ps.toList.zip vs)
theorem Mem.Bu{b:ct}{X S:List bl}{w:World}{D B:Nat}(m:Mem b X S w)(hb:b.w.heap.size≤B)(hD:B≤D)(hx:∀x∈X,∀k,x.dA k→k<B)(hs:∀s∈S,∀k,s.dA k→k<B)(h:w.heap[D]? =some (.deferred (some []))):Mem b (kD D::X) S w:=by
 refine⟨m.fr,List.pairwise_cons.2 ⟨fun y hy k hk hy' => ?_,m.xx⟩,fun x hx' s hs' k hk hk' => ?_,fun x hx' => ?_,m.hs,fun x hx' k hk=> ?_,m.ns⟩
 ·have hk' :k=D:=hk
  have:=hx y hy k hy'
  omega
 ·rcases List.mem_cons.1 hx' with rfl|hx'
  ·have h1:k=D:=hk
   have:=hs s hs' k hk'
   omega
  ·exact m.xs x hx' s hs' k hk hk'
 ·rcases List.mem_cons.1 hx' with rfl|hx'
  ·exact h
  ·exact m.hx x hx'
 ·rcases List.mem_cons.1 hx' with rfl|hx'
  ·have h1:k=D:=hk
   exact .inr (by omega)
  ·exact m.nx x hx' k hk
theorem Mem.off{b:ct}{X S X1 Xr:List bl}{w:World}{is:List Nat}(m:Mem b X S w)(hX:bT is X=some (X1,Xr))(j:Nat){r:bl}(hj:Xr[j]? =some r){k:Nat}(hk:r.dA k):¬dp X1 k:=by
 have m1:=m.perm (ar _ _ _ _ hX)
 rintro⟨x,hx,hxk⟩
 exact(List.pairwise_append.1 m1.xx).2.2 x hx r (List.mem_of_getElem? hj) k hxk hk
def RQ{α σ:Type}(b:ct)(X1:σ→List bl)(Sb:List bl)(id:Nat)(step:σ→α→σ)(brk:σ→α→Prop)(s:σ)(x:α):Exit→Act→World→Prop
 | .normal,_,w=>Mem b (X1 (step s x)) Sb w
 | .exit i,_,w=>i=id∧Mem b (X1 s) Sb w∧brk s x
 |_,_,_=>False
theorem lB{α σ:Type}{b:ct}{X1:σ→List bl}{Sb:List bl}{id:Nat}{step:σ→α→σ}{brk:σ→α→Prop}{s:σ}{x:α}{N:Nat}{D:List Deferred}{ρ:Env}{X S Xz:List bl}(s' :σ)(he:step s x=s')(is:List Nat)(hX:bT is X=some (X1 s',Xz))(js:List Nat)(hS:dy js S=some Sb):
  HQ (RQ b X1 Sb id step brk s x) N D .normal ρ b X S:=fun w m a ha=>by
 show Mem b (X1 (step s x)) Sb w
 rw[he]
 exact m.out is hX js hS
theorem sy{α σ:Type}{b:ct}{X1:σ→List bl}{Sb:List bl}{id:Nat}{step:σ→α→σ}{brk:σ→α→Prop}{s:σ}{x:α}{N:Nat}{D:List Deferred}{ρ:Env}{X S Xz:List bl}(is:List Nat)(hX:bT is X=some (X1 s,Xz))(js:List Nat)(hS:dy js S=some Sb)(hb:brk s x):
  HQ (RQ b X1 Sb id step brk s x) N D (.exit id) ρ b X S:=fun w m a ha=>⟨rfl,m.out is hX js hS,hb⟩
section
variable{P:Program}{Q:Exit→Act→World→Prop}{N:Nat}{D:List Deferred}{ρ ρ' :Env}{b:ct}{X X' Xr S S' Sb:List bl}
theorem z7{α σ:Type}{g gf id:Nat}{ps:Array Tmp}{assign body:Code}{lb:List Value}(X1:σ→List bl)(s0:σ)(step:σ→α→σ)(brk:σ→α→Prop)(encs:α→List Value)(xs:List α)(ρx:α→Env)(ρk:Env)(hk:eD ρk ρ)
  (hv:get ρ g=some (.func (.func gf) #[] lb.toArray)) (heg:∀args w,(callFunc gf args).run P w= .ok (.enter gf args) w)
  (is:List Nat) (hX:bT is X=some (X1 s0,Xr)) (hft:∀s k,dp (X1 s) k↔dp (X1 s0) k) (js:List Nat) (hS:dy js S=some Sb)
  (ae:∀w,Mem b X S w→SeqStopsK Fence.wide 2 P gf lb.toArray (fun x=>(encs x).toArray) (IT w.heap.size (dp (X1 s0))) (fun ys=>ys=xs) (fun pre=>pre<+:xs) xs.length w)
  (hps:∀x,(encs x).length=ps.size) (hpn:∀p∈ps.toList,p<N) (hnd:∀x (a:Act),Ag N D ρ a→Ag N [] (ρ' ++vt ps (encs x)++ρ) {tmps:=(ps.zip (encs x).toArray).foldl (fun t (p,v)=>t.setIfInBounds p v) a.tmps,defers:=[]})
  (hasg:∀(l:Nat) (b' :ct) (s:σ) (x:α) (Q' :Exit→Act→World→Prop),HQ Q' N [] .normal (ρx x++ρk) b' (X1 s) Sb→s9 l 1 P Q' N [] assign (ρ' ++vt ps (encs x)++ρ) b' (X1 s) Sb)
  (hbody:∀(l:Nat) (b' :ct) (s:σ) (x:α),s9 l 1 P (RQ b' X1 Sb id step brk s x) N [] body (ρx x++ρk) b' (X1 s) Sb)
  (k:∀(Dk:Nat) (s:σ),(s=xs.foldl step s0∨∃pre x rest,xs=pre++x::rest∧s=pre.foldl step s0∧brk s x)→HQ Q N (⟨.collected Dk, #[]⟩::D) .normal ρ b (kD Dk::(X1 s++Xr)) S):
  HC P Q N D (.block id (.rangeFunc (.tmp g) ps assign body)) ρ b X S:=by
 intro w m a ha
 have m1:=m.perm (ar _ _ _ _ hX)
 have hSb:=cm _ _ _ hS
 obtain⟨M,hM⟩:∃M,M=dp (X1 s0):=⟨_,rfl⟩
 have hbz:b.w.heap.size≤w.heap.size:=m.fr.size
 have lowM:∀k,M k→k<w.heap.size:=by
  rw[hM]
  rintro k ⟨x,hx,hk⟩
  exact x.low (m1.hx x (List.mem_append_left _ hx)) hk
 have lowX:∀s x,x∈X1 s++Xr→∀k,x.dA k→k<w.heap.size:=by
  intro s x hx k hk
  rcases List.mem_append.1 hx with hx|hx
  ·exact lowM k (by rw[hM];exact(hft s k).1 ⟨x,hx,hk⟩)
  ·exact x.low (m1.hx x (List.mem_append_right _ hx)) hk
 have lowS:∀s∈S,∀k,s.dA k→k<w.heap.size:=fun s hs k hk=>s.low (m.hs s hs) hk
 refine wpIn_wide (n:=3).1 (wpIn_block ?_)
 have hown:∀{s:σ} {W W' :World} {row:Option Nat},Mem b (X1 s++Xr) S W→W.grownBy W' row→(∀r,row=some r→w.heap.size≤r∧∃o:Obj,W.heap[r]? =some o∧o.isCells=false)→Mem b (X1 s++Xr) S W' :=by
  intro s W W' row mW hg hr
  refine mW.grown (vV hg) (fun k e=>Nat.le_trans hbz (hr k e).1) (fun k e x hx hk=> ?_) (fun k e x hx hk=> ?_)
  ·have h1:=lowX s x hx k hk
   have h2:=(hr k e).1
   omega
  ·have h1:=lowS x hx k hk
   have h2:=(hr k e).1
   omega
 have hround:∀{s:σ} {W W' :World} {Y:List bl},Mem b (X1 s++Xr) S W→w.heap.size≤W.heap.size→Mem ⟨W,dp (X1 s),dp Sb⟩ Y Sb W' →KeepsFrom w.heap.size W W' ∧IT w.heap.size M W W' ∧Mem b (Y++Xr) S W' :=by
  intro s W W' Y mW hsz mY
  have e:∀k,dp (X1 s) k↔M k:=fun k=>by rw[hM];exact hft s k
  refine⟨⟨mY.fr.size,fun k o hk ho _=> ?_⟩,fun k hk hn=> ?_,(mW.frame hSb mY).jo (fun x hx=>List.mem_append_right _ hx)⟩
  ·have hlt:=(Array.getElem?_eq_some_iff.1 ho).1
   exact(mY.fr.block k hlt (fun q=>by have:=lowM k ((e k).1 q);omega)).trans ho
  ·exact mY.fr.block k (by show k<W.heap.size;omega) (fun q=>hn ((e k).1 q))
 refine wpIn_rangeFunc_ownH (n:=3) (α:=α) (gf:=gf) (lb:=lb.toArray) rfl (by decide) (ha.eval hv) trivial heg (ae w m)
  (fun{A B C} h1 h2 k hk hn=>(h2 k hk hn).trans (h1 k hk hn)) (fun W l o o' hl ho _ _ k hk hn=>World.putObj_heap_other (by omega)) (Below.refl _ w) (fun x=>by simpa using hps x)
  (fun pre W=>w.heap.size≤W.heap.size∧Mem b (X1 (pre.foldl step s0)++Xr) S W) (fun c pre W=>c= .exit id∧∃pre' x,pre=pre' ++[x]∧Mem b (X1 (pre'.foldl step s0)++Xr) S W∧brk (pre'.foldl step s0) x)
  (fun pre W W' row h hg hr=>⟨Nat.le_trans h.1 hg.size,hown h.2 hg hr⟩)
  (fun c pre W W' row h hg hr=>by
   obtain⟨hc,pre',x,e,h1,h2⟩:=h
   exact⟨hc,pre',x,e,hown h1 hg hr,h2⟩)
  ⟨Nat.le_refl _,m1⟩ (fun x a' _=>Ag N [] (ρx x++ρk) a') (fun x a' =>ownFrom_pure _ (fun _=>Ag N [] (ρx x++ρk) a')) ?_ ?_ ?_ ?_
 ·rintro l pre x W K ⟨hsz,mW⟩ hK
  refine hasg l ⟨W,dp (X1 (pre.foldl step s0)),dp Sb⟩ (pre.foldl step s0) x _ (fun W' m' a' ha' => ?_) (fun⟨_,_,h⟩=>h) W (mW.part hSb) _ (hnd x a ha)
  obtain⟨h1,h2,h3⟩:=hround mW hsz m'
  exact hK a' W' h1 (by rw[←hM];exact h2) ⟨Nat.le_trans hsz h1.size,h3⟩ ha'
 ·rintro l pre x a' W _ _ ⟨hsz,mW⟩ hax _
  refine wpIn_mono (hbody l ⟨W,dp (X1 (pre.foldl step s0)),dp Sb⟩ (pre.foldl step s0) x (fun⟨_,_,h⟩=>h) W (mW.part hSb) a' hax) ?_
  intro e a2 W2 q
  cases e with
  |normal=>
   have q' :Mem _ (X1 (step (pre.foldl step s0) x)) Sb W2:=q
   obtain⟨h1,h2,h3⟩:=hround mW hsz q'
   refine⟨h1,by rw[←hM];exact h2,Nat.le_trans hsz h1.size, ?_⟩
   rw[List.foldl_append]
   exact h3
  |exit i=>
   obtain⟨rfl,q1,q2⟩:=q
   obtain⟨h1,h2,h3⟩:=hround mW hsz q1
   exact⟨h1,rfl,pre,x,rfl,h3,q2⟩
  |ret=>exact q.elim
  |goto t=>exact q.elim
  |panic c=>exact q.elim
  |outgrown=>exact q.elim
 ·rintro Dk ys W hD rfl ⟨hsz,mW⟩ hdef
  exact k Dk _ (.inl rfl) W (mW.Bu hbz hD (lowX _) lowS hdef) _ ⟨ha.sz,by rw[ha.df],ha.gt⟩
 ·rintro Dk c pre W hD hpre ⟨rfl,pre',x,rfl,mW,hb⟩ hdef
  obtain⟨rest,hr⟩:=hpre
  refine wpIn_exit ?_
  have hq:=k Dk _ (.inr ⟨pre',x,rest,by rw[←hr];simp,rfl,hb⟩) W (mW.Bu hbz hD (lowX _) lowS hdef) {a with defers:=⟨.collected Dk, #[]⟩::a.defers} ⟨ha.sz,by show _::a.defers=_;rw[ha.df],ha.gt⟩
  show(Exit.inBlock id Q) (.exit id) _ W
  simp only[Exit.inBlock,if_pos]
  exact hq
end
theorem Cv{N p q:Nat}{D:List Deferred}{ρ:Env}{a:Act}{u v:Value}(hpq:(p == q)=false)(hp:p<N)(hq:q<N)(ha:Ag N D ρ a):
  Ag N [] ([]++vt #[p,q] [u,v]++ρ) {tmps:=((#[p,q]:Array Tmp).zip [u,v].toArray).foldl (fun t (p,v)=>t.setIfInBounds p v) a.tmps,defers:=[]}:=by
 have hne:p≠q:=by simpa using hpq
 have e:(((#[p,q]:Array Tmp).zip [u,v].toArray).foldl (fun t (p,v)=>t.setIfInBounds p v) a.tmps)=(a.tmps.setIfInBounds p u).setIfInBounds q v:=by simp
 rw[e]
 have hsz:=ha.sz
 refine⟨by simpa using hsz,rfl,fun t z ht=> ?_⟩
 simp only[vt,List.nil_append,List.zip_cons_cons,List.zip_nil_right,List.cons_append,get]at ht
 show((a.tmps.setIfInBounds p u).setIfInBounds q v)[t]? =some z
 cases h1:Nat.beq p t with
 |true=>
  rw[h1]at ht
  have h1' :p=t:=Nat.eq_of_beq_eq_true h1
  simp only[cond_true,Option.some.injEq]at ht
  subst h1';subst ht
  rw[Array.getElem?_setIfInBounds_ne (Ne.symm hne),Array.getElem?_setIfInBounds_self_of_lt (by omega)]
 |false=>
  rw[h1]at ht
  simp only[cond_false]at ht
  have h1' :p≠t:=Nat.ne_of_beq_eq_false h1
  cases h2:Nat.beq q t with
  |true=>
   rw[h2]at ht
   have h2' :q=t:=Nat.eq_of_beq_eq_true h2
   simp only[cond_true,Option.some.injEq]at ht
   subst h2';subst ht
   rw[Array.getElem?_setIfInBounds_self_of_lt (by simp;omega)]
  |false=>
   rw[h2]at ht
   have h2' :q≠t:=Nat.ne_of_beq_eq_false h2
   rw[Array.getElem?_setIfInBounds_ne h2',Array.getElem?_setIfInBounds_ne h1']
   exact ha.gt t z (by simpa using ht)
theorem yq{P:Program}{f:Nat}{fn:Func}{c:Code}{vs:List Value}{R:Value→List bl→List bl→Prop}{N:Nat}{X0 S0:List bl}(hf:P.funcs[f]? =some fn)(hb:fn.body=some c)(hN:fn.ntmps=N)(hl:vs.length≤N)
  (h:∀b,HC P (bodyPostM Fence.wide 3 P fn (RB b R)) N [] c (gh vs 0) b X0 S0):b7 P f vs X0 S0 R:=fun w m=>by
 refine callsIn_wide (n:=3).1 (callsIn_of_wp_marks hf hb trivial (wpIn_wide.2 (h _ w m _ ⟨?_,rfl,fun t v ht=> ?_⟩)))
 ·simp[hN];omega
 ·obtain⟨_,h2⟩:=gY vs 0 t v ht
  have hlt:=(List.getElem?_eq_some_iff.1 h2).1
  rw[Array.getElem?_append_left (by simpa using hlt)]
  simpa using h2
section
variable{P:Program}{fn:Func}{R:Value→List bl→List bl→Prop}{N n:Nat}{D:List Deferred}{ρ:Env}{b:ct}{X X' Xz S S' :List bl}{e:Exit}
theorem GW{Dk:Nat}(he:Leaves e)(is:List Nat)(hX:bT is X=some ([kD Dk],X'))(k:HQ (bodyPostM Fence.wide n P fn (RB b R)) N D e ρ b X' S):HQ (bodyPostM Fence.wide n P fn (RB b R)) N (⟨.collected Dk, #[]⟩::D) e ρ b X S:=by
 intro w m a ha
 have m1:=m.perm (ar _ _ _ _ hX)
 have hc:w.heap[Dk]? =some (.deferred (some [])):=m1.hx (kD Dk) (by simp)
 have hx1:=(List.pairwise_cons.1 m1.xx).1
 have hr:=run_takeDeferred (P:=P) hc
 have hf:Fr (fun k=>k=Dk) w (w.putObj Dk (.deferred none)):=⟨rfl,rfl,rfl,by simp,fun k _ hk=>World.putObj_heap_other hk⟩
 have hbz:b.w.heap.size≤Dk∨b.M Dk:=(m1.nx (kD Dk) (by simp) Dk rfl).symm
 have m2:Mem b X' S (w.putObj Dk (.deferred none)):=by
  refine⟨m1.fr.trans hf (fun _ e=>e) (fun i hi e=> ?_),(List.pairwise_cons.1 m1.xx).2,fun x hx=>m1.xs x (List.mem_cons_of_mem _ hx),fun x hx=>x.iw hf (fun k hk e=> ?_) (m1.hx x (List.mem_cons_of_mem _ hx)),fun s hs=>s.iw hf (fun k hk e=> ?_) (m1.hs s hs),fun x hx=>m1.nx x (List.mem_cons_of_mem _ hx),m1.ns⟩
  ·subst e
   rcases hbz with h|h
   ·omega
   ·exact h
  ·exact hx1 x hx k e hk
  ·exact m1.xs (kD Dk) (by simp) s hs k e hk
 have hk:=k _ m2 {a with defers:=D} ⟨ha.sz,rfl,ha.gt⟩
 cases e with
 |normal=>
  show LeavesInM Fence.wide n P fn a.tmps _ a.defers .returning w
  rw[ha.df]
  exact⟨by simp,.inl ⟨Dk,_,rfl,hr,hk⟩⟩
 |ret=>
  show LeavesInM Fence.wide n P fn a.tmps _ a.defers .returning w
  rw[ha.df]
  exact⟨by simp,.inl ⟨Dk,_,rfl,hr,hk⟩⟩
 |_=>exact he.elim
theorem IE{v:Value}(he:Leaves e)(h:∀a,Ag N [] ρ a→∀w,(results fn a.tmps).run P w= .ok v w)(is:List Nat)(hX:bT is X=some (X',Xz))(js:List Nat)(hS:dy js S=some S')(hR:R v X' S'):HQ (bodyPostM Fence.wide n P fn (RB b R)) N [] e ρ b X S:=by
 intro w m a ha
 have hm:=m.out is hX js hS
 cases e with
 |normal=>
  show LeavesInM Fence.wide n P fn a.tmps _ a.defers .returning w
  rw[ha.df]
  exact⟨v,h a ha w,_,_,_,rfl,hR,hm⟩
 |ret=>
  show LeavesInM Fence.wide n P fn a.tmps _ a.defers .returning w
  rw[ha.df]
  exact⟨v,h a ha w,_,_,_,rfl,hR,hm⟩
 |_=>exact he.elim
theorem tZ{t t' :Nat}{v v' :Value}(he:Leaves e)(hr:fn.results= #[.tmp t,.tmp t'])(hv:get ρ t=some v)(hv' :get ρ t' =some v')(is:List Nat)(hX:bT is X=some (X',Xz))(js:List Nat)(hS:dy js S=some S')(hR:R (.tuple #[v,v']) X' S'):HQ (bodyPostM Fence.wide n P fn (RB b R)) N [] e ρ b X S:=
 IE he (fun a ha w=>by have h1:=ha.getD hv;have h2:=ha.getD hv';simp at h1 h2;simp[results,hr,h1,h2]) is hX js hS hR
end
end Go.Eng
end
section
namespace Go.Proofs.YtmibdabdlgmafaaGreatDoor
open Go.Eng Go.RowKit Go.Shelf
attribute [local go_sem] Oper.semAt_some
set_option maxRecDepth 100000 in
set_option maxHeartbeats 4000000 in
theorem CW(F:Fence)(n:Nat)(h7:F.fn 297)(hro:F.round=none)(hn:1≤n)(l Bs B b off cap:Nat)(M:Nat→Prop)(zs:List Int){α:Type}(L:List α)(encs:α→List Value)(hL:L.length=zs.length)(henc:∀(k:Nat) (x:α),L[k]? =some x→encs x=[.int .i64 ((zs.length-1-k:Nat):Int),.int .i64 (zs[zs.length-1-k]?.getD 0)])(hreach:zs.length*8≤140737488351232)(hbs:Bs<B∧¬M Bs)(hb:b<B∧¬M b)(J Jx:List α→World→Prop)
  (hY:∀pre x W,J pre W→pre.length<L.length→YieldAt F (n-1) Tryz.prog l (encs x).toArray W fun e W' =>
   (e= .returned (.bool true)∧J (pre++[x]) W' ∧IT B M W W')∨(e= .returned (.bool false)∧Jx (pre++[x]) W'))
  (W:World) (hBs:W.cell? ⟨Bs,0,none⟩=some (.slice (some ⟨b,off,none⟩) zs.length cap)) (hc:∀j,j<zs.length→W.cell? ⟨b,off+j,none⟩=some (.int .i64 (zs[j]?.getD 0))) (h0:J [] W):
  CallsIn F n Tryz.prog 297 #[.func (.yield l) #[] #[],.pointer (some ⟨Bs,0,none⟩)] W fun e W' =>(∃v,e= .returned v)∧
   ((∃ys,ys=L∧J ys W')∨(∃pre,pre<+:L∧Jx pre W')):=by
 refine callsIn_of_wp Tryz.func297 rfl h7 ?_ hro
 simp only[Tryz.ntmps297,List.size_toArray,List.length_cons,List.length_nil,Nat.reduceAdd,Nat.reduceSub,Array.replicate_succ,Array.replicate_zero,List.push_toArray,List.append_toArray,List.nil_append,List.cons_append]
 gi_wp2
 gi_loopw [3] (fun i wr=>∃k:Nat,k≤zs.length∧i= .int .i64 ((zs.length:Int)-1-(k:Int))∧J (L.take k) wr∧IT B M W wr)
  (fun i _=>(intOf i+1).toNat)
 case atStart=>exact⟨0,Nat.zero_le _,by simp,h0,fun _ _ _=>rfl⟩
 case round=>
  obtain⟨k,hk,rfl,hJs,hnx⟩:=hrel
  have hBs' :wr.cell? ⟨Bs,0,none⟩=some (.slice (some ⟨b,off,none⟩) zs.length cap):=by rw[←hBs];simp only[World.cell?,hnx Bs hbs.1 hbs.2]
  have hcx:∀j,j<zs.length→wr.cell? ⟨b,off+j,none⟩=some (.int .i64 (zs[j]?.getD 0)):=fun j h=>by rw[←hc j h];simp only[World.cell?,hnx b hb.1 hb.2]
  by_cases hlt:k<zs.length
  ·obtain⟨j,hj⟩:∃j:Nat,j+1+k=zs.length:=⟨zs.length-1-k,by omega⟩
   have hjk:zs.length-1-k=j:=by omega
   have hji:(zs.length:Int)-1-(k:Int)=(j:Int):=by omega
   obtain⟨x,hx⟩:∃x,L[k]? =some x:=⟨_,List.getElem?_eq_getElem (by omega)⟩
   have htk:L.take (k+1)=L.take k++[x]:=by rw[List.take_add_one,hx];rfl
   obtain⟨fn,tmps,assign,body,hy,hR⟩:=hY _ x wr hJs (by rw[List.length_take];omega)
   rw[henc k x hx,hjk]at hy
   have hcx' :=hcx j (by omega)
   obtain⟨z,hz⟩:∃z,zs[j]?.getD 0=z:=⟨_,rfl⟩
   rw[hz]at hcx' hy
   clear hcx hz hc
   rw[hji]
   have hge:¬((j:Int)<0):=by omega
   have hjl:j<zs.length:=by omega
   gi_wp2
   refine hR.mono ?_
   rintro e W3 (⟨rfl,hJ3,hk3⟩|⟨rfl,hJx3⟩)
   ·gi_wp2
    go_roundw
    case rel=>exact⟨k+1,by omega,by congr 1 <;> omega,by rw[htk];exact hJ3,fun q h1 h2=>(hk3 q h1 h2).trans (hnx q h1 h2)⟩
    case measure=>simp[intOf] <;> omega
   ·gi_wp2
    refine bodyPost_ret (results_none rfl _ _ _) rfl ?_
    exact⟨⟨_,rfl⟩,.inr ⟨_,by rw[←htk];exact List.take_prefix _ _,hJx3⟩⟩
  ·obtain rfl:k=zs.length:=by omega
   have hge:¬((zs.length:Int)-1-(zs.length:Int)≥0):=by omega
   gi_wp2
   go_end0
   exact⟨⟨_,rfl⟩,.inl (by rw[←hL,List.take_length]at hJs;exact hJs)⟩
set_option maxRecDepth 100000 in
set_option maxHeartbeats 4000000 in
theorem ux(F:Fence)(n:Nat)(h7:F.fn 297)(hro:F.round=none)(l Bs cap:Nat)(A:Option Addr)(J:World→Prop)
  (W:World) (hBs:W.cell? ⟨Bs,0,none⟩=some (.slice A 0 cap)) (h0:J W):
  CallsIn F n Tryz.prog 297 #[.func (.yield l) #[] #[],.pointer (some ⟨Bs,0,none⟩)] W fun e W' =>(∃v,e= .returned v)∧J W' :=by
 refine callsIn_of_wp Tryz.func297 rfl h7 ?_ hro
 simp only[Tryz.ntmps297,List.size_toArray,List.length_cons,List.length_nil,Nat.reduceAdd,Nat.reduceSub,Array.replicate_succ,Array.replicate_zero,List.push_toArray,List.append_toArray,List.nil_append,List.cons_append]
 gi_wp2
 gi_loopw [3] (fun i wr=>i= .int .i64 (-1)∧J wr) (fun _ _=>0)
 case atStart=>exact⟨by simp,h0⟩
 case round=>
  obtain⟨rfl,hJs⟩:=hrel
  gi_wp2
  go_end0
  exact⟨⟨_,rfl⟩,hJs⟩
theorem qV(F:Fence)(n:Nat)(h7:F.fn 297)(hro:F.round=none)(hn:1≤n){w:World}{Bs e:Nat}{v:Value}{zs:List Int}{M:Nat→Prop}{α:Type}(L:List α)(encs:α→List Value)(hL:L.length=zs.length)(henc:∀(k:Nat) (x:α),L[k]? =some x→encs x=[.int .i64 ((zs.length-1-k:Nat):Int),.int .i64 (zs[zs.length-1-k]?.getD 0)])(hreach:zs.length*8≤140737488351232)
  (hBs:w.cell? ⟨Bs,0,none⟩=some v) (hMB:¬M Bs) (h:Go.Eng.Own w 0 e 1 v zs.length (zs.map (Value.int .i64))) (hMA:∀k,kC v k→¬M k):
  SeqStopsK F n Tryz.prog 297 #[.pointer (some ⟨Bs,0,none⟩)] (fun x=>(encs x).toArray) (IT w.heap.size M) (fun ys=>ys=L) (fun pre=>pre<+:L) L.length w:=by
 intro l J Jx W hW _ _ hY h0
 have hlt:=mJ hBs
 have hc' :W.cell? ⟨Bs,0,none⟩=some v:=(hW.cell (p:=⟨Bs,0,none⟩) hlt).trans hBs
 obtain⟨hl,⟨rfl,hz⟩|⟨g,o,cap,cur,rfl,_,hb,hcap,hml,hcl,hx⟩⟩:=h
 ·have hL0:L=[]:=List.eq_nil_of_length_eq_zero (by omega)
  subst hL0
  exact(ux F n h7 hro l Bs 0 none (J []) W hc' h0).mono fun e W' ⟨he,hj⟩=>⟨he,.inl ⟨_,rfl,hj⟩⟩
 ·by_cases hz:zs.length=0
  ·have hL0:L=[]:=List.eq_nil_of_length_eq_zero (by omega)
   subst hL0
   rw[hz]at hc'
   exact(ux F n h7 hro l Bs cap _ (J []) W hc' h0).mono fun e W' ⟨he,hj⟩=>⟨he,.inl ⟨_,rfl,hj⟩⟩
  ·have hcs:∀j,j<zs.length→W.cell? ⟨g,o+j,none⟩=some (.int .i64 (zs[j]?.getD 0)):=fun j hj=>by
    refine(hW.cell (p:=⟨g,o+j,none⟩) hb.lt).trans (hb.cell ?_)
    have h1:((cur.drop o).take (zs.length*1))[j]? =(zs.map (Value.int .i64))[j]? :=by rw[hx]
    rw[List.getElem?_take,if_pos (by omega),List.getElem?_drop,List.getElem?_map,List.getElem?_eq_getElem hj]at h1
    rw[h1,List.getElem?_eq_getElem hj]
    rfl
   have hsz:=hW.size
   have:=CW F n h7 hro hn l Bs w.heap.size g o cap M zs L encs hL henc hreach ⟨hlt,hMB⟩ ⟨hb.lt,hMA g rfl⟩ J Jx hY W hc' hcs h0
   refine this.mono ?_
   rintro e W' ⟨he,⟨ys,rfl,hj⟩|⟨pre,hp,hj⟩⟩
   ·exact⟨he,.inl ⟨_,rfl,hj⟩⟩
   ·exact⟨he,.inr ⟨_,hp,hj⟩⟩
end Go.Proofs.YtmibdabdlgmafaaGreatDoor
end
section
set_option maxRecDepth 20000
set_option maxHeartbeats 2000000
namespace Go.Proofs.YtmibdabdlgmafaaGreatDoor
open Go.Eng Go.Hx
def fg(zs:List Nat)(i:Nat)(h:∀z∈zs,z<i):List {x:Nat×Nat//x.2<i}:=(zs.attach.zipIdx.map fun x=>(⟨(x.2,x.1.1),h _ x.1.2⟩:{x:Nat×Nat//x.2<i})).reverse
theorem iS(zs:List Nat)(i:Nat)(h:∀z∈zs,z<i):(fg zs i h).length=zs.length:=by simp[fg]
theorem o4(zs:List Nat)(i:Nat)(h:∀z∈zs,z<i):(fg zs i h).map (fun x=>x.1.2)=zs.reverse:=by
 unfold fg
 rw[List.map_reverse,List.map_map]
 congr 1
 apply List.ext_getElem
 ·simp
 ·intro j h1 h2
  simp
theorem ur(zs:List Nat)(i:Nat)(h:∀z∈zs,z<i)(k:Nat)(x:{x:Nat×Nat//x.2<i})(hx:(fg zs i h)[k]? =some x):k<zs.length∧x.1.1=zs.length-1-k∧zs[zs.length-1-k]? =some x.1.2:=by
 have hk:k<zs.length:=by rw[←iS zs i h];exact(List.getElem?_eq_some_iff.1 hx).1
 unfold fg at hx
 rw[List.getElem?_reverse (by simpa using hk)]at hx
 simp only[List.length_map,List.length_zipIdx,List.length_attach,List.getElem?_map,List.getElem?_zipIdx,Nat.zero_add]at hx
 have hlt:zs.length-1-k<zs.attach.length:=by simp;omega
 rw[List.getElem?_eq_getElem hlt]at hx
 simp only[Option.map_some,Option.some.injEq]at hx
 subst hx
 refine⟨hk,rfl, ?_⟩
 rw[List.getElem?_eq_getElem (by simpa using hlt)]
 simp
theorem l6(f:Nat×Nat→Nat→Nat×Nat)(s:Nat×Nat)(i:Nat)(L:List {x:Nat×Nat//x.2<i}):L.foldl (fun s x=>f s x.1.2) s=(L.map (fun x=>x.1.2)).foldl f s:=by rw[List.foldl_map]
theorem q9{l:List UInt8}{i:Nat}{zs:List Nat}(hz:zs=lg l i (eI l i))(hi:i+4≤l.length)(h:∀z∈zs,z<i){s:Nat×Nat}
  (hs:s=(fg zs i h).foldl (fun s x=>gx l i s x.1.2) (0,0)∨∃pre x rest,fg zs i h=pre++x::rest∧s=pre.foldl (fun s x=>gx l i s x.1.2) (0,0)∧1024<i-x.1.2):s=bh l i:=by
 subst hz
 rcases hs with rfl|⟨pre,x,rest,e,rfl,hb⟩
 ·rw[l6,o4,uz hi]
 ·have e2:=congrArg (List.map fun x=>x.1.2) e
  rw[o4,List.map_append,List.map_cons]at e2
  rw[l6,←uz hi]
  exact(zM e2 hb).symm
def lX(l:List Nat):List Int:=l.map fun n:Nat=>(n:Int)
theorem ff(l:List Nat):(lX l).length=l.length:=List.length_map ..
theorem B1{w:World}{e:TypeId}{v:Value}{l:List Nat}(h:Go.Eng.Own w 0 e 1 v l.length (Ej l)):Go.Eng.Own w 0 e 1 v (lX l).length ((lX l).map (Value.int .i64)):=by
 rw[ff]
 unfold lX
 rw[List.map_map]
 exact h
theorem G8{es:xc}{j:Nat}{x:kM}(h:(gz es)[j]? =some x.res):(x.res::(gz es).eraseIdx j).Perm (gz es):=by
 obtain⟨h1,h2⟩:=List.getElem?_eq_some_iff.1 h
 have:=gQ (gz es) j h1
 rwa [h2]at this
theorem Fp{A:Option Addr}{n c:Nat}:b7 Tryz.prog 271 [.slice A n c] [] [] (fun v_ X_ S_=>∃gB,v_=(.func (.func 297) #[] #[.pointer (some ⟨gB,0,none⟩)])∧X_=[aH gB 44 [.slice A n c]]∧S_=[]):=by
 refine aM (N:=4) Tryz.func271 rfl rfl (by simp) fun b=> ?_
 refine ae<|ai<| ?_
 refine hx (bu rfl (fun g1=> ?_))
 refine aG rfl<|ag<|aj (X' :=[_]) (S' :=[]) (fun _ m=>m)<|ab<|ae<|ai<|hy (fun _=>fU rfl rfl)<|aG rfl<|ag<|aB [2,1,0] rfl<|ab<|aV<| ?_
 refine aj (fun w m=>m.bz 0 rfl (show _=aH g1 44 [.slice A n c]from rfl)) ?_
 exact bc trivial rfl rfl [0] rfl [] rfl ⟨_,rfl,rfl,rfl⟩
theorem II{A:Option Addr}{n c:Nat}:b7 Tryz.prog 229 [.slice A n c] [] [] (fun v_ X_ S_=>∃g gm,v_=(.pointer (some ⟨g,0,none⟩))∧X_=[oC g gm A n c 0 []]∧S_=[]):=by
 refine aM (N:=7) Tryz.func229 rfl rfl (by simp) fun b=> ?_
 refine ae<|ai<|aG rfl<|ag<|ab<|ae<|ai<|aw rfl<| ?_
 refine hx (nK (KN (n:=4)) (fun g4=> ?_))
 refine hy (fun _=>bU JB rfl rfl (by kernel_rfl) (.cons (o:=0) (sz:=1) (by kernel_rfl) rfl rfl (Nat.le_of_ble_eq_true rfl) (.cons (o:=1) (sz:=1) (by kernel_rfl) rfl rfl (Nat.le_of_ble_eq_true rfl) .nil)))<| ?_
 refine hx (bu rfl (fun g6=> ?_))
 refine aG rfl<|ag<|aB [2,0] rfl<|aj (X' :=[_,_]) (S' :=[]) (fun _ m=>m)<|ab<|aV<| ?_
 refine aj (fun w m=>m.En) ?_
 refine aj (fun w m=>m.bz 1 rfl (show _=aH g6 359 [.slice A n c,.map (some g4),.int .i64 ((0:Nat):Int)]from rfl)) ?_
 refine aj (X' :=oC g6 g4 A n c 0 []::_) (fun w m=>(m.perm (ar [0,1,0] _ [_,_,_] _ rfl)).pack) ?_
 exact bc trivial rfl rfl [0] rfl [] rfl ⟨_,_,rfl,rfl,rfl⟩
theorem BP(zs:List Nat)(i:Nat)(h:∀z∈zs,z<i)(k:Nat)(x:{x:Nat×Nat//x.2<i})(hx:(fg zs i h)[k]? =some x):[Value.int .i64 (x.1.1:Nat),.int .i64 (x.1.2:Nat)]=[.int .i64 (((lX zs).length-1-k:Nat):Int),.int .i64 ((lX zs)[(lX zs).length-1-k]?.getD 0)]:=by
 obtain⟨h1,h2,h3⟩:=ur zs i h k x hx
 rw[ff]
 unfold lX
 rw[List.getElem?_map,h3,h2]
 rfl
theorem Gm{g gm:Nat}{A:Option Addr}{n c p i:Nat}{l:List UInt8}{es:xc}(hc:n≤c)(hn:n≤1000000000)(hl:l.length=n)(hpi:p≤i)(hi:i≤n)(hF:z1 l p es):b7 Tryz.prog 231 [.pointer (some ⟨g,0,none⟩),.int .i64 (i:Nat)] [oC g gm A n c p es] [cL 1 A n (aW l)] (fun v_ X_ S_=>∃p1 es1,v_=(.tuple #[.int .i64 ((bh l i).1:Nat),.int .i64 ((bh l i).2:Nat)])∧X_=[oC g gm A n c p1 es1]∧S_=[]∧(p1≤i∧z1 l p1 es1)):=by
 refine yq (N:=60) Tryz.func231 rfl rfl (by simp) fun b=> ?_
 refine a6 (fun m=>eG (m.rd 0 rfl)) ?_
 rintro⟨hl_r,hA_r⟩
 refine bk (fun w m=>(m.perm (ar [0] _ [_] _ rfl)).unpack) ?_
 refine ae<|ai<| ?_
 refine hx (bu rfl (fun g2=> ?_))
 refine hx (bu rfl (fun g3=> ?_))
 refine aG rfl<|aG rfl<|ag<|aj (X' :=[_,_,_,_,_]) (S' :=[_]) (fun _ m=>m)<|ab<|ae<|ae<|cD [] [(0,some 0),(1,some 0),(2,some 0),(3,some 0),(4,some 0),(5,some 0),(6,some 0),(7,some 0)] (by kernel_rfl) (by kernel_rfl) rfl 99<|bZ (fun m=>ao rfl dD (aA (m.aU 0 rfl) rfl))<|ak (aP rfl rfl (bA (by omega) (by omega)))<|bZ (fun m=>ao rfl oR (aA (m.aU 1 rfl) rfl))<|ak (aO rfl)<|ak (aF rfl kc (by decide))<|bZ (fun m=>ao rfl dB (aA (m.aU 2 rfl) rfl))<|ak (aY rfl Tryz.underlying27)<|ak (cW rfl rfl)<|bq<|aB [18,5,4,3,2,0,1] rfl<|ab<| ?_
 refine cB rfl (fun h1=> ?_) (fun h1=> ?_)
 ·have e:=ug (b:=l) (i:=i) (by omega) (by omega)
  rw[e]
  refine ae<|ai<|aG rfl<|aG rfl<|ag<|ab<|aV<|ay<| ?_
  refine aj (X' :=oC g gm A n c p es::_) (fun w m=>(m.perm (ar [2,2,2] _ [_,_,_] _ rfl)).pack) ?_
  exact tZ trivial rfl rfl rfl [0] rfl [] rfl ⟨p,es,rfl,rfl,rfl,⟨hpi,hF⟩⟩
 ·have hi4:i+4≤n:=by omega
  refine aC<|ab<|ae<| ?_
  refine bk (X' :=oC g gm A n c p es::_) (fun w m=>(m.perm (ar [2,2,2] _ [_,_,_] _ rfl)).pack) ?_
  refine ai<|hy (fun m=>ao rfl oR (aA (m.aU 2 rfl) rfl))<|hy (fun m=>ao rfl dD (aA (m.aU 1 rfl) rfl))<| ?_
  refine hx (aq rfl Tryz.call270 (Ja (by omega) (by omega) hl (by omega) (by omega) hF) [0] rfl [0] rfl ?_)
  rintro _ _ _ ⟨es1,rfl,rfl,rfl,hp⟩
  have hF1:=hp
  refine ag<|aB [18,5,4,3,2,0,1] rfl<|aj (X' :=[_,_,_]) (S' :=[_]) (fun _ m=>m)<|ab<|ae<|ai<| ?_
  refine hx (bf HU (fun g6=> ?_))
  refine hx (bf HU (fun g7=> ?_))
  refine cI (dI 1 rfl rfl rfl ue rfl (by first|exact Nat.le_of_ble_eq_true rfl|simp) ?_)
  refine cI (dI 1 rfl rfl rfl ue rfl (by first|exact Nat.le_of_ble_eq_true rfl|simp) ?_)
  refine ag<|aj (X' :=[_,_,_,_,_]) (S' :=[_]) (fun _ m=>m)<|ab<|ae<|ae<| ?_
  refine bk (fun w m=>(m.perm (ar [2] _ [_] _ rfl)).unpack) ?_
  refine a6 (fun m=>(m.rd 0 rfl).some (by omega)) fun h_=> ?_
  obtain⟨a,rfl⟩:∃a_,A=some a_:=⟨_,h_⟩
  clear h_
  rcases hq:bO es1 ⟨eI l i,bW (by omega)⟩with _|x
  ·have e0:=sa hF1 hq
   refine cD [15] [(0,some 1),(1,some 0),(2,some 0),(3,some 0),(4,some 1),(5,some 1),(6,some 1),(7,some 1),(8,some 1),(9,some 1),(10,some 1),(11,some 0),(12,some 0),(13,some 0),(14,some 0),(15,none)] (by kernel_rfl) (by kernel_rfl) rfl 99<|bZ (fun m=>ao rfl oR (aA (m.aU 6 rfl) rfl))<|ak (aO rfl)<|ak (aF rfl tG (by decide))<|bZ (fun m=>ao rfl AS (aA (m.aU 0 rfl) rfl))<|bZ (fun m=>ao rfl oR (aA (m.aU 6 rfl) rfl))<|ak (aO rfl)<|ak (aF rfl kc (by decide))<|bZ (fun m=>ao rfl dB (aA (m.aU 0 rfl) rfl))<|bZ (fun m=>ao rfl dD (aA (m.aU 5 rfl) rfl))<|bZ (fun m=>ao rfl dD (aA (m.aU 5 rfl) rfl))<|ak (aP rfl rfl (bA (by omega) (by omega)))<|ak (yV (ey rfl rfl rfl Tryz.underlying27 dU rfl (show((i+4:Nat):Int)=_ by omega) (by omega) (by omega)) ((show Value.slice (if c=i then some a else(some a).map (·.add (i*1))) (i+4-i) (c-i)= .slice (some (a.add i)) 4 (c-i) by rw[if_neg (by omega),Nat.mul_one,Nat.add_sub_cancel_left];rfl)))<|ak (p8 rfl Tryz.underlying364 (by omega))<|bZ (fun m=>yV (aQ rfl xw vh (by rw[ax];exact bW (by omega)) (Rd.part (m.rd 0 rfl))) ((show Value.agg (aW ((l.drop i).take 4)).toArray=KN ⟨eI l i,bW (by omega)⟩from rfl)))<|bZ (fun m=>yV (fy (enc:=(KN (n:=4))) (k:=⟨eI l i,bW (by omega)⟩) rfl rfl Tryz.underlying357 Gt (AX Tryz.underlying364 Tryz.underlying5 (by kernel_rfl) (by kernel_rfl) (by kernel_rfl)) (m.lS 1 rfl)) ((show eN false (.slice none 0 0) (bO (jQ es1) ⟨eI l i,bW (by omega)⟩)= .slice none 0 0 by rw[lI,hq];rfl)))<| ?_
   refine dF (aq rfl Tryz.call271 (Fp) [] rfl [] rfl ?_)
   rintro _ _ _ ⟨gB,rfl,rfl,rfl⟩
   refine⟨(fun _=>wk [1,1,1,1,1,1,1] [0] rfl rfl), ?_⟩
   refine bq<|aB [37,7,6,18,5,4,3,2,0,1] rfl<|aj (X' :=[_,_,_,_,_,_,_,_]) (S' :=[_]) (fun _ m=>m)<|ab<| ?_
   have hlt:∀z∈([]:List Nat),z<i:=fun z hz=>by cases hz
   refine z7 (σ:=Nat×Nat) (α:={x:Nat×Nat//x.2<i}) (ρ' :=[]) (fun s_:Nat×Nat=>[aH g6 3 [.int .i64 (s_.1:Nat)],aH g7 3 [.int .i64 (s_.2:Nat)],aH g3 3 [.int .i64 (i:Nat)],aH g2 322 [.pointer (some ⟨g,0,none⟩)],aH g 359 [.slice (some a) n c,.map (some gm),.int .i64 (i:Nat)]]) (0,0) (fun s_ x_=>gx l i s_ x_.1.2) (fun s_ x_=>1024<i-x_.1.2) (fun x_=>[.int .i64 (x_.1.1:Nat),.int .i64 (x_.1.2:Nat)]) (fg (([]:List Nat)) i hlt) (fun x_=>[(9,.int .i64 (x_.1.2:Nat))]) [(37,_),(7,_),(6,_),(18,_),(5,_),(4,_),(3,_),(2,_),(0,_),(1,_)] ⟨rfl,rfl,rfl,rfl,rfl,rfl,rfl,rfl,rfl,rfl,trivial⟩ rfl Tryz.call297 [5,4,4,4,1] rfl (fun s_ k_=>by simp[dp,aH]) [0] rfl (fun w m=>qV Fence.wide 2 trivial rfl (by decide) (zs:=lX (([]:List Nat))) (e:=3) (fg (([]:List Nat)) i hlt) (fun x_=>[.int .i64 (x_.1.1:Nat),.int .i64 (x_.1.2:Nat)]) (by rw[iS,ff]) (BP _ _ _) (by rw[ff];first|omega|simp) (aA (m.aU 0 rfl) rfl) (m.off (is:=[5,4,4,4,1]) rfl 0 rfl rfl) (Go.Eng.Own.nil _ _ _ _) (fun k hk=>hk.elim)) (fun _=>rfl) (by decide) (fun _ _ ha_=>Cv rfl (by decide) (by decide) ha_) (fun l_ b_ s_ x_ Q_ h_=> ?_) (fun l_ b s_ x_=> ?_) (fun Dk_ s_ hs_=> ?_)
   ·exact qd (aG rfl ((ag (by refine kE ?_ h_;exact⟨rfl,rfl,rfl,rfl,rfl,rfl,rfl,rfl,rfl,rfl,rfl,trivial⟩))))
   ·obtain⟨u1,u2⟩:=s_
    obtain⟨⟨j,q⟩,hq2⟩:=x_
    try dsimp only
    have hq2:q<i:=hq2
    refine tJ<|oZ<|oZ<|qd<|hy (fun m=>ao rfl dD (aA (m.aU 2 rfl) rfl))<|aw rfl<|hy (fun _=>cn rfl rfl (bA (by omega) (by omega)))<|hy (fun _=>cW rfl rfl)<|ag<|aB [43,9,37,7,6,18,5,4,3,2,0,1] rfl<|k6<| ?_
    refine DE rfl (fun hb=> ?_) (fun hb=> ?_)
    ·refine Bm<|an<|me (by decide)<| ?_
     exact sy [0,0,0,0,0] rfl [0] rfl ((show 1024<i-q by omega))
    ·refine p6<|k6<|oZ<|CX [6] [(0,some 0),(1,some 0),(2,some 0),(3,some 0),(4,some 0),(5,some 0),(6,none),(7,some 1)] (by kernel_rfl) (by kernel_rfl) rfl 99<|bZ (fun m=>ao rfl oR (aA (m.aU 3 rfl) rfl))<|ak (aO rfl)<|ak (aF rfl kc (by decide))<|bZ (fun m=>ao rfl dB (aA (m.aU 4 rfl) rfl))<|bZ (fun m=>ao rfl dD (aA (m.aU 2 rfl) rfl))<|ak (ah rfl)<| ?_
     refine dF (aq rfl Tryz.call272 (FF (by omega) hl (by omega) (by omega)) [] rfl [0] rfl ?_)
     rintro _ _ _ ⟨rfl,rfl,rfl⟩
     refine⟨(fun _=>wk [0,0,0,0,0] [0] rfl rfl), ?_⟩
     refine ak (al rfl)<|bq<|aB [10,43,9,37,7,6,18,5,4,3,2,0,1] rfl<|aj (X' :=[_,_,_,_,_]) (S' :=[_]) (fun _ m=>m)<|k6<|oZ<|qd<|aw rfl<|hy (fun m=>ao rfl dD (aA (m.aU 0 rfl) rfl))<|hy (fun _=>cW rfl rfl)<|ag<|aB [53,10,43,9,37,7,6,18,5,4,3,2,0,1] rfl<|k6<| ?_
     refine DE rfl (fun hx1=> ?_) (fun hx1=> ?_)
     ·refine BR [2,2,2] [0] rfl rfl [4,5] [(0,some 0),(1,some 1),(2,some 1),(3,some 1),(4,none),(5,none)] (by kernel_rfl) (by kernel_rfl) rfl 99<|ak (ah rfl)<|bZ (fun m=>ao rfl dD (aA (m.aU 0 rfl) rfl))<|ak (ah rfl)<|ak (yV (cn rfl rfl (bA (by omega) (by omega))) ((show Value.int .i64 ((i:Int)-(q:Int))= .int .i64 ((i-q:Nat):Int) by congr 1;omega)))<| ?_
      refine gu (dI 0 rfl rfl rfl ue rfl (by first|exact Nat.le_of_ble_eq_true rfl|simp) ⟨(fun _=>wk [2,2,2] [0] rfl rfl), ?_⟩)
      refine gu (dI 1 rfl rfl rfl ue rfl (by first|exact Nat.le_of_ble_eq_true rfl|simp) ⟨(fun _=>wk [2,2,2] [0] rfl rfl), ?_⟩)
      refine bq<|aB [53,10,43,9,37,7,6,18,5,4,3,2,0,1] rfl<|aj (X' :=[_,_,_,_,_]) (S' :=[_]) (fun _ m=>m)<|aS<| ?_
      exact lB (mO l i q,i-q) (by show gx l i (u1,u2) q=_;unfold gx;rw[if_neg (by omega),if_pos (by show u1<_;omega)]) [1,0,0,0,0] rfl [0] rfl
     ·refine p6<|aS<| ?_
      exact lB (u1,u2) (by show gx l i (u1,u2) q=_;unfold gx;rw[if_neg (by omega),if_neg (by show¬u1<_;omega)]) [0,0,0,0,0] rfl [0] rfl
   ·obtain⟨u1,u2⟩:=s_
    have ag:=q9 e0.symm (by omega) hlt hs_
    have hu1:u1=(bh l i).1:=congrArg Prod.fst ag
    have hu2:u2=(bh l i).2:=congrArg Prod.snd ag
    refine ab<|ae<|cD [] [(0,some 0),(1,some 0),(2,some 0),(3,some 0)] (by kernel_rfl) (by kernel_rfl) rfl 99<|bZ (fun m=>ao rfl dD (aA (m.aU 1 rfl) rfl))<|bZ (fun m=>ao rfl dD (aA (m.aU 2 rfl) rfl))<|ak (al rfl)<|ak (al rfl)<|bq<|aB [5,4,37,7,6,18,3,2,0,1] rfl<|ab<|aV<| ?_
    refine GW trivial [0] rfl ?_
    skip
    refine aj (X' :=oC g gm (some a) n c i es1::_) (fun w m=>(m.perm (ar [4,5,5] _ [_,_,_] _ rfl)).pack) ?_
    exact tZ trivial rfl rfl rfl [0] rfl [] rfl ⟨i,es1,(by rw[←hu1,←hu2]),rfl,rfl,⟨Nat.le_refl _,hF1⟩⟩
  ·have e0:=uV hF1 hq
   refine cD [15] [(0,some 1),(1,some 0),(2,some 0),(3,some 0),(4,some 1),(5,some 1),(6,some 1),(7,some 1),(8,some 1),(9,some 1),(10,some 1),(11,some 0),(12,some 0),(13,some 0),(14,some 0),(15,none)] (by kernel_rfl) (by kernel_rfl) rfl 99<|bZ (fun m=>ao rfl oR (aA (m.aU 6 rfl) rfl))<|ak (aO rfl)<|ak (aF rfl tG (by decide))<|bZ (fun m=>ao rfl AS (aA (m.aU 0 rfl) rfl))<|bZ (fun m=>ao rfl oR (aA (m.aU 6 rfl) rfl))<|ak (aO rfl)<|ak (aF rfl kc (by decide))<|bZ (fun m=>ao rfl dB (aA (m.aU 0 rfl) rfl))<|bZ (fun m=>ao rfl dD (aA (m.aU 5 rfl) rfl))<|bZ (fun m=>ao rfl dD (aA (m.aU 5 rfl) rfl))<|ak (aP rfl rfl (bA (by omega) (by omega)))<|ak (yV (ey rfl rfl rfl Tryz.underlying27 dU rfl (show((i+4:Nat):Int)=_ by omega) (by omega) (by omega)) ((show Value.slice (if c=i then some a else(some a).map (·.add (i*1))) (i+4-i) (c-i)= .slice (some (a.add i)) 4 (c-i) by rw[if_neg (by omega),Nat.mul_one,Nat.add_sub_cancel_left];rfl)))<|ak (p8 rfl Tryz.underlying364 (by omega))<|bZ (fun m=>yV (aQ rfl xw vh (by rw[ax];exact bW (by omega)) (Rd.part (m.rd 0 rfl))) ((show Value.agg (aW ((l.drop i).take 4)).toArray=KN ⟨eI l i,bW (by omega)⟩from rfl)))<|bZ (fun m=>yV (fy (enc:=(KN (n:=4))) (k:=⟨eI l i,bW (by omega)⟩) rfl rfl Tryz.underlying357 Gt (AX Tryz.underlying364 Tryz.underlying5 (by kernel_rfl) (by kernel_rfl) (by kernel_rfl)) (m.lS 1 rfl)) ((show eN false (.slice none 0 0) (bO (jQ es1) ⟨eI l i,bW (by omega)⟩)= .slice x.A x.l.length x.c by rw[lI,hq];rfl)))<| ?_
   refine dF (aq rfl Tryz.call271 (Fp) [] rfl [] rfl ?_)
   rintro _ _ _ ⟨gB,rfl,rfl,rfl⟩
   refine⟨(fun _=>wk [1,1,1,1,1,1,1] [0] rfl rfl), ?_⟩
   refine bq<|aB [37,7,6,18,5,4,3,2,0,1] rfl<|aj (X' :=[_,_,_,_,_,_,_,_]) (S' :=[_]) (fun _ m=>m)<|ab<| ?_
   have hlt:∀z∈x.l,z<i:=fun z hz=>(Eb (e0▸hz)).1
   have hxl:x.l.length≤n:=by rw[e0];exact Nat.le_trans (oW _ _ _) (by omega)
   obtain⟨j,hj1,_⟩:=kU hq
   refine bk (X' :=aK 3 1 (.slice x.A x.l.length x.c) x.l.length (Ej x.l)::_) (fun w m=>(m.perm (ar [3] _ [_] _ rfl)).vp j hj1) ?_
   refine z7 (σ:=Nat×Nat) (α:={x:Nat×Nat//x.2<i}) (ρ' :=[]) (fun s_:Nat×Nat=>[aH g6 3 [.int .i64 (s_.1:Nat)],aH g7 3 [.int .i64 (s_.2:Nat)],aH g3 3 [.int .i64 (i:Nat)],aH g2 322 [.pointer (some ⟨g,0,none⟩)],aH g 359 [.slice (some a) n c,.map (some gm),.int .i64 (i:Nat)]]) (0,0) (fun s_ x_=>gx l i s_ x_.1.2) (fun s_ x_=>1024<i-x_.1.2) (fun x_=>[.int .i64 (x_.1.1:Nat),.int .i64 (x_.1.2:Nat)]) (fg (x.l) i hlt) (fun x_=>[(9,.int .i64 (x_.1.2:Nat))]) [(37,_),(7,_),(6,_),(18,_),(5,_),(4,_),(3,_),(2,_),(0,_),(1,_)] ⟨rfl,rfl,rfl,rfl,rfl,rfl,rfl,rfl,rfl,rfl,trivial⟩ rfl Tryz.call297 [6,5,5,5,3] rfl (fun s_ k_=>by simp[dp,aH]) [0] rfl (fun w m=>qV Fence.wide 2 trivial rfl (by decide) (zs:=lX (x.l)) (e:=3) (fg (x.l) i hlt) (fun x_=>[.int .i64 (x_.1.1:Nat),.int .i64 (x_.1.2:Nat)]) (by rw[iS,ff]) (BP _ _ _) (by rw[ff];first|omega|simp) (aA (m.aU 2 rfl) rfl) (m.off (is:=[6,5,5,5,3]) rfl 2 rfl rfl) (B1 (m.own 0 rfl)) (fun k hk=>m.off (is:=[6,5,5,5,3]) rfl 0 rfl hk)) (fun _=>rfl) (by decide) (fun _ _ ha_=>Cv rfl (by decide) (by decide) ha_) (fun l_ b_ s_ x_ Q_ h_=> ?_) (fun l_ b s_ x_=> ?_) (fun Dk_ s_ hs_=> ?_)
   ·exact qd (aG rfl ((ag (by refine kE ?_ h_;exact⟨rfl,rfl,rfl,rfl,rfl,rfl,rfl,rfl,rfl,rfl,rfl,trivial⟩))))
   ·obtain⟨u1,u2⟩:=s_
    obtain⟨⟨j,q⟩,hq2⟩:=x_
    try dsimp only
    have hq2:q<i:=hq2
    refine tJ<|oZ<|oZ<|qd<|hy (fun m=>ao rfl dD (aA (m.aU 2 rfl) rfl))<|aw rfl<|hy (fun _=>cn rfl rfl (bA (by omega) (by omega)))<|hy (fun _=>cW rfl rfl)<|ag<|aB [43,9,37,7,6,18,5,4,3,2,0,1] rfl<|k6<| ?_
    refine DE rfl (fun hb=> ?_) (fun hb=> ?_)
    ·refine Bm<|an<|me (by decide)<| ?_
     exact sy [0,0,0,0,0] rfl [0] rfl ((show 1024<i-q by omega))
    ·refine p6<|k6<|oZ<|CX [6] [(0,some 0),(1,some 0),(2,some 0),(3,some 0),(4,some 0),(5,some 0),(6,none),(7,some 1)] (by kernel_rfl) (by kernel_rfl) rfl 99<|bZ (fun m=>ao rfl oR (aA (m.aU 3 rfl) rfl))<|ak (aO rfl)<|ak (aF rfl kc (by decide))<|bZ (fun m=>ao rfl dB (aA (m.aU 4 rfl) rfl))<|bZ (fun m=>ao rfl dD (aA (m.aU 2 rfl) rfl))<|ak (ah rfl)<| ?_
     refine dF (aq rfl Tryz.call272 (FF (by omega) hl (by omega) (by omega)) [] rfl [0] rfl ?_)
     rintro _ _ _ ⟨rfl,rfl,rfl⟩
     refine⟨(fun _=>wk [0,0,0,0,0] [0] rfl rfl), ?_⟩
     refine ak (al rfl)<|bq<|aB [10,43,9,37,7,6,18,5,4,3,2,0,1] rfl<|aj (X' :=[_,_,_,_,_]) (S' :=[_]) (fun _ m=>m)<|k6<|oZ<|qd<|aw rfl<|hy (fun m=>ao rfl dD (aA (m.aU 0 rfl) rfl))<|hy (fun _=>cW rfl rfl)<|ag<|aB [53,10,43,9,37,7,6,18,5,4,3,2,0,1] rfl<|k6<| ?_
     refine DE rfl (fun hx1=> ?_) (fun hx1=> ?_)
     ·refine BR [2,2,2] [0] rfl rfl [4,5] [(0,some 0),(1,some 1),(2,some 1),(3,some 1),(4,none),(5,none)] (by kernel_rfl) (by kernel_rfl) rfl 99<|ak (ah rfl)<|bZ (fun m=>ao rfl dD (aA (m.aU 0 rfl) rfl))<|ak (ah rfl)<|ak (yV (cn rfl rfl (bA (by omega) (by omega))) ((show Value.int .i64 ((i:Int)-(q:Int))= .int .i64 ((i-q:Nat):Int) by congr 1;omega)))<| ?_
      refine gu (dI 0 rfl rfl rfl ue rfl (by first|exact Nat.le_of_ble_eq_true rfl|simp) ⟨(fun _=>wk [2,2,2] [0] rfl rfl), ?_⟩)
      refine gu (dI 1 rfl rfl rfl ue rfl (by first|exact Nat.le_of_ble_eq_true rfl|simp) ⟨(fun _=>wk [2,2,2] [0] rfl rfl), ?_⟩)
      refine bq<|aB [53,10,43,9,37,7,6,18,5,4,3,2,0,1] rfl<|aj (X' :=[_,_,_,_,_]) (S' :=[_]) (fun _ m=>m)<|aS<| ?_
      exact lB (mO l i q,i-q) (by show gx l i (u1,u2) q=_;unfold gx;rw[if_neg (by omega),if_pos (by show u1<_;omega)]) [1,0,0,0,0] rfl [0] rfl
     ·refine p6<|aS<| ?_
      exact lB (u1,u2) (by show gx l i (u1,u2) q=_;unfold gx;rw[if_neg (by omega),if_neg (by show¬u1<_;omega)]) [0,0,0,0,0] rfl [0] rfl
   ·obtain⟨u1,u2⟩:=s_
    have ag:=q9 e0 (by omega) hlt hs_
    have hu1:u1=(bh l i).1:=congrArg Prod.fst ag
    have hu2:u2=(bh l i).2:=congrArg Prod.snd ag
    refine ab<|ae<|cD [] [(0,some 0),(1,some 0),(2,some 0),(3,some 0)] (by kernel_rfl) (by kernel_rfl) rfl 99<|bZ (fun m=>ao rfl dD (aA (m.aU 1 rfl) rfl))<|bZ (fun m=>ao rfl dD (aA (m.aU 2 rfl) rfl))<|ak (al rfl)<|ak (al rfl)<|bq<|aB [5,4,37,7,6,18,3,2,0,1] rfl<|ab<|aV<| ?_
    refine GW trivial [0] rfl ?_
    refine aj (X' :=eY (gz es1)::_) (fun w m=>(Mem.tg (m.perm (ar [5,5] _ [_,_] _ rfl))).nw (G8 hj1)) ?_
    refine aj (X' :=oC g gm (some a) n c i es1::_) (fun w m=>(m.perm (ar [5,6,0] _ [_,_,_] _ rfl)).pack) ?_
    exact tZ trivial rfl rfl rfl [0] rfl [] rfl ⟨i,es1,(by rw[←hu1,←hu2]),rfl,rfl,⟨Nat.le_refl _,hF1⟩⟩
end Go.Proofs.YtmibdabdlgmafaaGreatDoor
end
section
namespace Go.Eng
open Go.RowKit
theorem tU{P:Program}{Q:Exit→Act→World→Prop}{ι:Type}{c rest:Code}(l:Nat)(J:ι→Act→World→Prop)(μ:ι→Nat)(hf:findLabel c l=some rest){a:Act}{w:World}
  (first:c.wp P (Exit.jump l (fun a w=>∃j,J j a w) Q) a w)
  (pass:∀i a w,J i a w→rest.wp P (Exit.jump l (fun a' w' =>∃j,J j a' w' ∧μ j<μ i) Q) a w):(Code.scope c).wp P Q a w:=by
 intro b k cs
 have hg:gotoIn l (.inScope c::k)=some (.code rest:: .inScope c::k):=by simp[gotoIn,hf]
 have key:∀n i a w,μ i=n→J i a w→∃e a' w',Q e a' w' ∧Arrives P (lone (b.at a (.code rest:: .inScope c::k)) cs w) b k cs e a' w' :=by
  intro n
  induction n using Nat.strongRecOn with
  |_ n ih=>
   intro i a w hn hJ
   obtain⟨e,a₁,w₁,hq,harr⟩:=pass i a w hJ b (.inScope c::k) cs
   cases e with
   |normal=>exact⟨.normal,a₁,w₁,hq,Steps.trans harr (.one step_inScope)⟩
   |exit id=>exact⟨.exit id,a₁,w₁,hq,fun k' hk=>harr k' (by simp[exitTo,hk])⟩
   |goto l' =>
    obtain⟨rfl,j,hJ',hlt⟩:=hq
    obtain⟨e₂,a₂,w₂,hq₂,harr₂⟩:=ih _ (by omega) j a₁ w₁ rfl hJ'
    exact⟨e₂,a₂,w₂,hq₂,.of_steps (harr _ hg) harr₂⟩
   |ret=>exact⟨_,a₁,w₁,hq,harr⟩
   |panic ch=>exact⟨_,a₁,w₁,hq,harr⟩
   |outgrown=>exact⟨_,a₁,w₁,hq,harr⟩
 obtain⟨e,a₁,w₁,hq,harr⟩:=first b (.inScope c::k) cs
 cases e with
 |normal=>exact⟨.normal,a₁,w₁,hq,.head step_scope (Steps.trans harr (.one step_inScope))⟩
 |exit id=>exact⟨.exit id,a₁,w₁,hq,fun k' hk=>.head step_scope (harr k' (by simp[exitTo,hk]))⟩
 |goto l' =>
  obtain⟨rfl,j,hJ'⟩:=hq
  obtain⟨e₂,a₂,w₂,hq₂,harr₂⟩:=key _ j a₁ w₁ rfl hJ'
  exact⟨e₂,a₂,w₂,hq₂,.of_steps (.head step_scope (harr _ hg)) harr₂⟩
 |ret=>exact⟨_,a₁,w₁,hq,.of_steps (.one step_scope) harr⟩
 |panic ch=>exact⟨_,a₁,w₁,hq,.of_steps (.one step_scope) harr⟩
 |outgrown=>exact⟨_,a₁,w₁,hq,.of_steps (.one step_scope) harr⟩
section
variable{P:Program}{Q:Exit→Act→World→Prop}{N:Nat}{D:List Deferred}{ρ:Env}{b:ct}{X S:List bl}{c:Code}
theorem G6{ι:Type}{l:Nat}{rest:Code}(μ:ι→Nat)(R:ι→Env)(X1 S1:ι→List bl)(I:ι→Prop)(ρk:Env)(Xr Sr:List bl)(hf:findLabel c l=some rest)
  (first:HC P (Exit.jump l (fun a' w' =>∃j,Ag N D (R j++ρk) a' ∧Mem b (X1 j++Xr) (S1 j++Sr) w' ∧I j) Q) N D c ρ b X S)
  (pass:∀i,I i→HC P (Exit.jump l (fun a' w' =>∃j,Ag N D (R j++ρk) a' ∧Mem b (X1 j++Xr) (S1 j++Sr) w' ∧I j∧μ j<μ i) Q) N D rest (R i++ρk) b (X1 i++Xr) (S1 i++Sr)):HC P Q N D (.scope c) ρ b X S:=fun w m a ha=>
 tU l (fun j a' w' =>Ag N D (R j++ρk) a' ∧Mem b (X1 j++Xr) (S1 j++Sr) w' ∧I j) μ hf (first w m a ha)
  (fun i a' w' h=>Code.wp_mono (fun e a' w' q=>by
   cases e <;> first|exact q|(obtain⟨h0,j,h1,h2,h3,h4⟩:=q;exact⟨h0,j,⟨h1,h2,h3⟩,h4⟩)) (pass i h.2.2 w' h.2.1 a' h.1))
theorem AB{l:Nat}(h:HQ Q N D (.goto l) ρ b X S):HC P Q N D (.goto l) ρ b X S:=fun w m a ha=>wp_goto (h w m a ha)
theorem wm{K:Act→World→Prop}{l:Nat}(h:HQ Q N D (.goto l) ρ b X S):HQ (Exit.then K Q) N D (.goto l) ρ b X S:=h
theorem zS{l:Nat}{J:Act→World→Prop}(h:HQ Q N D .ret ρ b X S):HQ (Exit.jump l J Q) N D .ret ρ b X S:=h
theorem Ht{l:Nat}{J:Act→World→Prop}{r:Code}(h:HQ (Exit.jump l J Q) N D (.goto l) ρ b X S)(k:∀a w,J a w→r.wp P (Exit.jump l J Q) a w):HC P (Exit.jump l J Q) N D (.seq (.label l) r) ρ b X S:=fun w m a ha=>wp_seq (wp_label (k a w (h w m a ha).2))
theorem Es{α:Type}{l:Nat}{rest:Code}(μ:α→Nat)(R:α→Env)(X1 S1:α→List bl)(I:α→Prop)(ρk:Env)(Xr Sr:List bl)(hf:findLabel c l=some rest)
  (first:HC P (Exit.jump l (fun a' w' =>∃x,Ag N D (R x++ρk) a' ∧Mem b (X1 x++Xr) (S1 x++Sr) w' ∧I x) Q) N D c ρ b X S)
  (pass:∀a,I a→HC P (Exit.jump l (fun a' w' =>∃x,Ag N D (R x++ρk) a' ∧Mem b (X1 x++Xr) (S1 x++Sr) w' ∧I x∧μ x<μ a) Q) N D rest (R a++ρk) b (X1 a++Xr) (S1 a++Sr)):HC P Q N D (.scope c) ρ b X S:=
 G6 (ι:=α) (fun i=>μ i) (fun i=>R i) (fun i=>X1 i) (fun i=>S1 i) (fun i=>I i) ρk Xr Sr hf
  (fun w m a ha=>Code.wp_mono (fun e a' w' q=>by
   cases e <;> first|exact q|(obtain⟨h0,x,h⟩:=q;exact⟨h0,x,h⟩)) (first w m a ha))
  (fun i hi w m a ha=>Code.wp_mono (fun e a' w' q=>by
   cases e <;> first|exact q|(obtain⟨h0,x,h⟩:=q;exact⟨h0,x,h⟩)) (pass i hi w m a ha))
theorem CC{α:Type}{l:Nat}{r:Code}(μ:α→Nat)(R:α→Env)(X1 S1:α→List bl)(I:α→Prop)(ρk:Env)(hk:eD ρk ρ)(is:List Nat){Xt Xr:List bl}(hX:bT is X=some (Xt,Xr))(hf:findLabel c l=some (.seq .skip r))
  (pass:∀a,I a→HC P (Exit.jump l (fun a' w' =>∃x,Ag N D (R x++ρk) a' ∧Mem b (X1 x++Xr) (S1 x++S) w' ∧I x∧μ x<μ a) Q) N D r (R a++ρk) b (X1 a++Xr) (S1 a++S))
  (first:(∀a w,(∃x,Ag N D (R x++ρk) a∧Mem b (X1 x++Xr) (S1 x++S) w∧I x)→r.wp P (Exit.jump l (fun a' w' =>∃x,Ag N D (R x++ρk) a' ∧Mem b (X1 x++Xr) (S1 x++S) w' ∧I x) Q) a w)→
   HC P (Exit.jump l (fun a' w' =>∃x,Ag N D (R x++ρk) a' ∧Mem b (X1 x++Xr) (S1 x++S) w' ∧I x) Q) N D c ρ b X S):HC P Q N D (.scope c) ρ b X S:=
 Es (l:=l) (rest:=.seq .skip r) μ R X1 S1 I ρk Xr S hf
  (first fun a w h=>by
   obtain⟨x,h1,h2,h3⟩:=h
   exact Code.wp_mono (fun e a' w' q=>by
    cases e <;> first|exact q|(obtain⟨h0,x_,g1,g2,g3,g4⟩:=q;exact⟨h0,x_,g1,g2,g3⟩)) (pass x h3 w h2 a h1))
  (fun a h=>fun w m a9 ha=>wp_seq (wp_skip (pass a h w m a9 ha)))
theorem Bz{α:Type}{l M:Nat}{μ:α→Nat}{R:α→Env}{X1 S1:α→List bl}{Xr Sr:List bl}{ρ0:Env}{I:α→Prop}(x:α)(hs:eD (R x++ρ0) ρ)(is:List Nat){Xz:List bl}(hX:bT is X=some (X1 x++Xr,Xz))(js:List Nat)(hS:dy js S=some (S1 x++Sr))(hI:I x)(hlt:μ x<M):
  HQ (Exit.jump l (fun a' w' =>∃x,Ag N D (R x++ρ0) a' ∧Mem b (X1 x++Xr) (S1 x++Sr) w' ∧I x∧μ x<M) Q) N D (.goto l) ρ b X S:=
 fun w m a ha=>⟨rfl,x,ha.sub hs.sub,((m.perm (ar _ _ _ _ hX)).jU).jo (cm _ _ _ hS),hI,hlt⟩
theorem Hl{α:Type}{l:Nat}{R:α→Env}{X1 S1:α→List bl}{Xr Sr:List bl}{ρ0:Env}{I:α→Prop}(x:α)(hs:eD (R x++ρ0) ρ)(is:List Nat){Xz:List bl}(hX:bT is X=some (X1 x++Xr,Xz))(js:List Nat)(hS:dy js S=some (S1 x++Sr))(hI:I x):
  HQ (Exit.jump l (fun a' w' =>∃x,Ag N D (R x++ρ0) a' ∧Mem b (X1 x++Xr) (S1 x++Sr) w' ∧I x) Q) N D (.goto l) ρ b X S:=
 fun w m a ha=>⟨rfl,x,ha.sub hs.sub,((m.perm (ar _ _ _ _ hX)).jU).jo (cm _ _ _ hS),hI⟩
end
end Go.Eng
end
section
set_option maxRecDepth 20000
set_option maxHeartbeats 2000000
namespace Go.Proofs.YtmibdabdlgmafaaGreatDoor
open Go.Eng Go.Hx
theorem H8{g0 g1:Nat}{A1 A2:Option Addr}{c1 c2:Nat}{own out:List UInt8}(hlen:out.length+2*own.length≤4000000000):b7 Tryz.prog 230 [.pointer (some ⟨g0,0,none⟩),.pointer (some ⟨g1,0,none⟩)] [aH g0 27 [.slice A1 own.length c1],aK 5 1 (.slice A1 own.length c1) own.length (aW own),aH g1 27 [.slice A2 out.length c2],aK 5 1 (.slice A2 out.length c2) out.length (aW out)] [] (fun v_ X_ S_=>∃A3 A4 c3 c4,v_=(.tuple #[])∧X_=[aH g0 27 [.slice A3 0 c3],aK 5 1 (.slice A3 0 c3) 0 [],aH g1 27 [.slice A4 (out++fm own).length c4],aK 5 1 (.slice A4 (out++fm own).length c4) (out++fm own).length (aW (out++fm own))]∧S_=[]):=by
 obtain⟨o0,ho0⟩:∃o0,o0=out++fm own:=⟨_,rfl⟩
 rw[←ho0]
 refine aM (N:=22) Tryz.func230 rfl rfl (by simp) fun b=> ?_
 refine aN<| ?_
 refine tk (fun own out A1 c1 A2 c2=>own.length) (fun own out A1 c1 A2 c2=>[]) (fun own out A1 c1 A2 c2=>[aH g0 27 [.slice A1 own.length c1],aK 5 1 (.slice A1 own.length c1) own.length (aW own),aH g1 27 [.slice A2 out.length c2],aK 5 1 (.slice A2 out.length c2) out.length (aW out)]) (fun own out A1 c1 A2 c2=>[]) (fun own out A1 c1 A2 c2=>out.length+2*own.length≤4000000000∧out++fm own=o0) own out A1 c1 A2 c2 [(0,_),(1,_)] ⟨rfl,rfl,trivial⟩ [0,0,0,0] rfl [] rfl (⟨hlen,ho0.symm⟩) trivial (fun own out A1 c1 A2 c2 ⟨hlen,hE⟩=> ?_)
 refine ae<|ae<|ai<|hy (fun m=>ao rfl dB (aA (m.aU 0 rfl) rfl))<|hy (fun _=>aY rfl Tryz.underlying27)<|hy (fun _=>cW rfl rfl)<|ag<|aB [5,0,1] rfl<|ab<| ?_
 refine cB rfl (fun h0=> ?_) (fun h0=> ?_)
 ·have hne:own≠ []:=fun e=>by rw[e]at h0;exact absurd h0 (by decide)
  rw[om hne]at hE
  obtain⟨k,hk⟩:∃k,k=min own.length 128:=⟨_,rfl⟩
  have hk1:1≤k∧k≤128∧k≤own.length:=by omega
  rw[←hk]at hE
  have htk:own.take 128=own.take k:=by
   rcases Nat.lt_or_ge own.length 128 with h|h
   ·rw[List.take_of_length_le (by omega),List.take_of_length_le (by omega)]
   ·rw[show k=128 by omega]
  have hdk:own.drop 128=own.drop k:=by
   rcases Nat.lt_or_ge own.length 128 with h|h
   ·rw[List.drop_of_length_le (by omega),List.drop_of_length_le (by omega)]
   ·rw[show k=128 by omega]
  rw[htk,hdk]at hE
  refine a6 (fun m=>(Own.rd (m.own 1 rfl)).2.1) fun hc1=> ?_
  refine aC<|ab<|aN<|ae<|ai<|hy (fun m=>ao rfl dB (aA (m.aU 0 rfl) rfl))<|hy (fun _=>aY rfl Tryz.underlying27)<|hy (fun _=>yV (uI rfl rfl) ((show Value.int .i64 _= .int .i64 (k:Nat) by congr 1;omega)))<|aG rfl<|ag<|aB [2,5,0,1] rfl<|ab<|ae<|py [0,0,0] [] rfl rfl [4,5,9,10] [(0,some 1),(1,some 3),(2,some 0),(3,some 0),(6,some 2),(7,some 2),(8,some 2),(4,none),(5,none),(9,none),(10,none)] (by kernel_rfl) (by kernel_rfl) rfl 3<|bZ (fun m=>ao rfl dB (aA (m.aU 2 rfl) rfl))<|ak (ah rfl)<|ak (yV (cn rfl rfl (bA (by omega) (by omega))) ((show Value.int .i64 ((k:Int)-1)= .int .i64 ((k-1:Nat):Int) by congr 1;omega)))<|ak (yV (bY rfl Tryz.underlying3 Tryz.underlying5 (jm (k-1))) ((show Value.int .u8 _=B8 (UInt8.ofNat (k-1))from rfl)))<|bZ (fun m=>ao rfl dB (aA (m.aU 0 rfl) rfl))<|ak (ah rfl)<|ak (kq rfl rfl Tryz.underlying27 dU rfl (by omega))<| ?_
  refine dF (bQ Tryz.underlying27 fi rfl rfl rfl (by simp[Value.cells,B8]) (by decide) (by decide) (fun g13=>⟨(fun _=>wk [1,1,1] [] rfl rfl), ?_⟩))
  have hA_b13:0<1→(some (⟨g13,0,none⟩:Addr))≠none:=fun _ h=>by cases h
  refine dF (bs 4 rfl rfl rfl Tryz.underlying27 Tryz.underlying27 (by exact .inl rfl) fi rfl (fun m=>Src.bJ (m.ord 0 rfl)) (bn (l:=[UInt8.ofNat (k-1)])) (by unfold maxLen;omega) (by omega) (fun u=>⟨(fun _=>wk [2,2,2] [] rfl rfl), ?_⟩))
  refine cd (fun m=>(m.own 0 rfl).slice) ?_
  rintro⟨A_y,c_y,rfl,hc_y⟩
  refine cd (fun m=>(m.ord 0 rfl).2.1) fun hA_y=> ?_
  refine dF (bs 0 rfl rfl rfl Tryz.underlying27 Tryz.underlying27 (by exact .inl rfl) fi rfl (fun m=>Src.bJ (Rd.FG (m.ord 3 rfl) hk1.2.2)) bn (by unfold maxLen;omega) (by omega) (fun u2=>⟨(fun _=>wk [2,2,2] [] rfl rfl), ?_⟩))
  refine cd (fun m=>(m.own 0 rfl).slice) ?_
  rintro⟨A_y2,c_y2,rfl,hc_y⟩
  refine cd (fun m=>(m.ord 0 rfl).2.1) fun hA_y=> ?_
  refine gu (dI 4 rfl rfl rfl iY rfl (by first|exact Nat.le_of_ble_eq_true rfl|simp) ⟨(fun h=>absurd h (by decide)), ?_⟩)
  refine bq<|aB [2,5,0,1] rfl<|aj (X' :=[_,_,_,_,_]) (S' :=[]) (fun _ m=>m)<|ab<|ai<|hy (fun m=>ao rfl dB (aA (m.aU 3 rfl) rfl))<|aw rfl<|hy (fun _=>dP rfl rfl Tryz.underlying27 dU rfl (by omega))<| ?_
  refine cI (dI 3 rfl rfl rfl iY rfl (by first|exact Nat.le_of_ble_eq_true rfl|simp) ?_)
  refine ag<|aB [2,5,0,1] rfl<|aj (X' :=[_,_,_,_,_]) (S' :=[]) (fun _ m=>m)<|aS<| ?_
  refine aj (X' :=aK 5 1 (.slice (if c1=k then A1 else A1.map (·.add (k*1))) (own.length-k) (c1-k)) (own.length-k) ((aW own).drop (k*1))::_) (fun w m=>(m.perm (ar [4] _ [_] _ rfl)).AZ (View.tj hk1.2.2 hc1)) ?_
  have hdl:own.length-k=(own.drop k).length:=by rw[List.length_drop]
  have hol:out.length+1+k=(out++(UInt8.ofNat (k-1)::own.take k)).length:=by simp;omega
  rw[hdl,hol]
  refine aj (fun w m=>m.bz 0 rfl (show _=aK 5 1 (.slice (if c1=k then A1 else A1.map (·.add (k*1))) (own.drop k).length (c1-k)) (own.drop k).length (aW (own.drop k))from congrArg (aK _ _ _ _) (by rw[Nat.mul_one,qL]))) ?_
  refine aj (fun w m=>m.bz 3 rfl (show _=aK 5 1 (.slice A_y2 (out++(UInt8.ofNat (k-1)::own.take k)).length c_y2) (out++(UInt8.ofNat (k-1)::own.take k)).length (aW (out++(UInt8.ofNat (k-1)::own.take k)))from congrArg (aK _ _ _ _) (show aW out++aW [UInt8.ofNat (k-1)]++aW (own.take k)=_ by rw[←bR,←bR,List.append_assoc];rfl))) ?_
  refine iP (own.drop k) (out++(UInt8.ofNat (k-1)::own.take k)) _ _ _ _ ⟨rfl,rfl,trivial⟩ [2,1,1,0] rfl [] rfl (⟨by rw[←hdl,←hol];omega,by rw[←hE];simp⟩) (by rw[←hdl];omega)
 ·have hne:own=[]:=List.eq_nil_of_length_eq_zero (by omega)
  rw[hne,qj,List.append_nil]at hE
  subst hne
  subst hE
  refine bG<|an<|an<|aE<| ?_
  exact eU trivial rfl [0,0,0,0] rfl [] rfl ⟨_,_,_,_,rfl,rfl,rfl⟩
structure EX where
 g:Nat
 gm:Nat
 g4:Nat
 g5:Nat
 i:Nat
 p:Nat
 c1:Nat
 c2:Nat
 A1:Option Addr
 A2:Option Addr
 own:List UInt8
 out:List UInt8
 es:xc
theorem Ir{A:Option Addr}{n c:Nat}{l:List UInt8}(hc:n≤c)(hn:n≤500000000)(hl:l.length=n):b7 Tryz.prog 178 [.slice A n c] [] [cL 1 A n (aW l)] (fun v_ X_ S_=>∃v,v_=v∧X_=[aK 5 1 v (e8 l).length (aW (e8 l))]∧S_=[]):=by
 refine aM (N:=56) Tryz.func178 rfl rfl (by simp) fun b=> ?_
 refine a6 (fun m=>eG (m.rd 0 rfl)) ?_
 rintro⟨hl_r,hA_r⟩
 refine ae<|ai<|aG rfl<|ag<|ab<| ?_
 refine CC (l:=0) (fun(t:EX)=>n-t.i) (fun(t:EX)=>[(7,.int .i64 (t.i:Nat)),(3,.pointer (some ⟨t.g,0,none⟩)),(4,.pointer (some ⟨t.g4,0,none⟩)),(5,.pointer (some ⟨t.g5,0,none⟩)),(6,.func (.func 230) #[] #[.pointer (some ⟨t.g5,0,none⟩),.pointer (some ⟨t.g4,0,none⟩)])]) (fun(t:EX)=>[oC t.g t.gm A n c t.p t.es,aH t.g5 27 [.slice t.A1 t.own.length t.c1],aK 5 1 (.slice t.A1 t.own.length t.c1) t.own.length (aW t.own),aH t.g4 27 [.slice t.A2 t.out.length t.c2],aK 5 1 (.slice t.A2 t.out.length t.c2) t.out.length (aW t.out)]) (fun(t:EX)=>[]) (fun(t:EX)=>t.i≤n∧t.p≤t.i∧z1 l t.p t.es∧t.out.length+2*t.own.length≤2*t.i∧iq l t.i t.own t.out=e8 l) [(0,_)] ⟨rfl,trivial⟩ [] rfl rfl (fun t ⟨hin,hpi,hF,hlen,hE⟩=> ?_) (fun hfall_=> ?_)
 ·obtain⟨g,gm,g4,g5,i,p,c1,c2,A1,A2,own,out,es⟩:=t
  dsimp only at hin hpi hF hlen hE ⊢
  refine ae<|ae<|ai<|aw rfl<|aw rfl<|hy (fun _=>aY rfl Tryz.underlying27)<|hy (fun _=>cx rfl rfl)<|ag<|aB [16,7,3,4,5,6,0] rfl<|ab<| ?_
  refine zw rfl (fun hfin=> ?_) (fun hfin=> ?_)
  ·have hi:i=n:=by have:=of_decide_eq_true hfin;omega
   rw[oq (by omega)]at hE
   refine ae<|ai<|aw rfl<| ?_
   refine hx (eT rfl rfl Tryz.call230 (H8 (by omega)) [1,1,1,1] rfl [] rfl ?_)
   rintro _ _ _ ⟨A3,A4,c3,c4,rfl,rfl,rfl⟩
   rw[hE]
   refine ag<|aB [16,7,3,4,5,6,0] rfl<|aj (X' :=[_,_,_,_,_]) (S' :=[_]) (fun _ m=>m)<|ab<|ae<|ai<|hy (fun m=>ao rfl dB (aA (m.aU 2 rfl) rfl))<|aG rfl<|ag<|aB [2,16,7,3,4,5,6,0] rfl<|ab<|aV<|ay<|zS<| ?_
   exact bc trivial rfl rfl [3] rfl [] rfl ⟨_,rfl,rfl,rfl⟩
  ·have hi:i<n:=by have:=of_decide_eq_false hfin;omega
   refine aC<|ab<|ae<|ai<|aw rfl<|aw rfl<| ?_
   refine hx (aq rfl Tryz.call231 (Gm (by omega) (by omega) hl (by omega) (by omega) hF) [0] rfl [0] rfl ?_)
   rintro _ _ _ ⟨p1,es1,rfl,rfl,rfl,hp⟩
   obtain⟨hp1,hF1⟩:=hp
   refine aw rfl<|hy (fun _=>aD rfl rfl)<|hy (fun _=>aD rfl rfl)<|aG rfl<|aG rfl<|ag<|aB [9,8,16,7,3,4,5,6,0] rfl<|aj (X' :=[_,_,_,_,_]) (S' :=[_]) (fun _ m=>m)<|ab<|ae<|ae<|ai<|aw rfl<|hy (fun _=>cx rfl rfl)<|ag<|aB [27,9,8,16,7,3,4,5,6,0] rfl<|ab<| ?_
   refine cB rfl (fun h0=> ?_) (fun h0=> ?_)
   ·rw[oO (by omega) (by omega)]at hE
    refine ae<|py [0,0,1,1] [0] rfl rfl [5,6,7] [(0,some 1),(1,some 0),(2,some 0),(3,some 0),(4,some 0),(5,none),(6,none),(7,none)] (by kernel_rfl) (by kernel_rfl) rfl 2<|bZ (fun m=>ao rfl dB (aA (m.aU 1 rfl) rfl))<|ak (ah rfl)<|ak (ah rfl)<|ak (aZ rfl rfl Tryz.underlying27 dU hA_r rfl (by omega))<|bZ (fun m=>ao rfl iO ((m.rd 0 rfl).cell (bM (by omega))))<| ?_
    refine dF (bQ Tryz.underlying27 fi rfl rfl rfl (by simp[Value.cells,B8]) (by decide) (by decide) (fun g33=>⟨(fun _=>wk [1,1,2,2] [0] rfl rfl), ?_⟩))
    have hA_b33:0<1→(some (⟨g33,0,none⟩:Addr))≠none:=fun _ h=>by cases h
    refine ez (fun w m=>m.bz 0 rfl (show _=aK 5 1 (.slice (some ⟨g33,0,none⟩) 1 1) 1 (aW [l.getD i 0])from rfl)) ?_
    refine dF (bs 3 rfl rfl rfl Tryz.underlying27 Tryz.underlying27 (by exact .inl rfl) fi rfl (fun m=>Src.bJ (m.ord 0 rfl)) bn (by unfold maxLen;omega) (by omega) (fun u=>⟨(fun _=>wk [2,2,2,2] [0] rfl rfl), ?_⟩))
    refine cd (fun m=>(m.own 0 rfl).slice) ?_
    rintro⟨A_x,c_x,rfl,hc_x⟩
    refine cd (fun m=>(m.ord 0 rfl).2.1) fun hA_x=> ?_
    refine gu (dI 3 rfl rfl rfl iY rfl (by first|exact Nat.le_of_ble_eq_true rfl|simp) ⟨(fun h=>absurd h (by decide)), ?_⟩)
    refine bq<|aB [27,9,8,16,7,3,4,5,6,0] rfl<|aj (X' :=[_,_,_,_,_,_]) (S' :=[_]) (fun _ m=>m)<|ab<|ae<|ai<|aw rfl<|hy (fun _=>aP rfl rfl (bA (by omega) (by omega)))<|aG rfl<|ag<|aB [7,27,9,8,16,3,4,5,6,0] rfl<|ab<|AB<|wm<| ?_
    have hol:own.length+1=(own++[l.getD i 0]).length:=by simp
    rw[hol]
    refine aj (fun w m=>m.bz 1 rfl (show _=aK 5 1 (.slice A_x (own++[l.getD i 0]).length c_x) (own++[l.getD i 0]).length (aW (own++[l.getD i 0]))from congrArg (aK _ _ _ _) (bR _ _).symm)) ?_
    exact Bz (⟨g,gm,g4,g5,i+1,p1,c_x,c2,A_x,A2,own++[l.getD i 0],out,es1⟩) ⟨rfl,rfl,rfl,rfl,rfl,rfl,trivial⟩ [3,1,0,1,1] rfl [0] rfl (⟨hi,Nat.le_succ_of_le hp1,hF1,by show out.length+2*(own++[l.getD i 0]).length≤2*(i+1);rw[←hol];omega,hE⟩) (by show n-(i+1)<n-i;omega)
   ·have hm:=oH (b:=l) (i:=i) (by omega)
    rw[kN (by omega) (by omega)]at hE
    obtain⟨m1,m2,m3,m4,m5,m6⟩:=hm.resolve_left (fun e=>h0 (by rw[e];rfl))
    refine aC<|ab<|ae<|ai<|aw rfl<| ?_
    refine hx (eT rfl rfl Tryz.call230 (H8 (by omega)) [1,1,1,1] rfl [] rfl ?_)
    rintro _ _ _ ⟨A3,A4,c3,c4,rfl,rfl,rfl⟩
    refine ag<|aB [27,9,8,16,7,3,4,5,6,0] rfl<|aj (X' :=[_,_,_,_,_]) (S' :=[_]) (fun _ m=>m)<|ab<|ae<|ai<|hy (fun m=>ao rfl dB (aA (m.aU 2 rfl) rfl))<|aw rfl<|hy (fun _=>aP rfl rfl (bA (by omega) (by omega)))<|hy (fun _=>yV (cn rfl rfl (bA (by omega) (by omega))) ((show Value.int .i64 (128+((bh l i).1:Int)-4)= .int .i64 ((124+(bh l i).1:Nat):Int) by congr 1;omega)))<|hy (fun _=>yV (bY rfl Tryz.underlying3 Tryz.underlying5 (jm _)) ((show Value.int .u8 _=B8 (UInt8.ofNat (124+(bh l i).1))from rfl)))<|aw rfl<|hy (fun _=>yV (cn rfl rfl (bA (by omega) (by omega))) ((show Value.int .i64 (((bh l i).2:Int)-1)= .int .i64 (((bh l i).2-1:Nat):Int) by congr 1;omega)))<|hy (fun _=>yV (bY rfl Tryz.underlying3 Tryz.underlying5 (jm _)) ((show Value.int .u8 _=B8 (UInt8.ofNat ((bh l i).2-1))from rfl)))<|aw rfl<|hy (fun _=>yV (cn rfl rfl (bA (by omega) (by omega))) ((show Value.int .i64 (((bh l i).2:Int)-1)= .int .i64 (((bh l i).2-1:Nat):Int) by congr 1;omega)))<|hy (fun _=>yV (nt (p:=256) rfl rfl (by decide) (by decide) (by decide)) ((show Value.int .i64 ((((bh l i).2-1:Nat):Int)/256)= .int .i64 ((((bh l i).2-1)/256:Nat):Int) by congr 1)))<|hy (fun _=>yV (bY rfl Tryz.underlying3 Tryz.underlying5 (jm _)) ((show Value.int .u8 _=B8 (UInt8.ofNat (((bh l i).2-1)/256))from rfl)))<| ?_
    refine hx (bQ Tryz.underlying27 fi rfl rfl rfl (by simp[Value.cells,B8]) (by decide) (by decide) (fun g51=> ?_))
    have hA_b51:0<3→(some (⟨g51,0,none⟩:Addr))≠none:=fun _ h=>by cases h
    refine aJ (fun w m=>m.bz 0 rfl (show _=aK 5 1 (.slice (some ⟨g51,0,none⟩) 3 3) 3 (aW (iD (bh l i)))from rfl)) ?_
    have hll:=fM own
    have hlo:(out++fm own).length=out.length+(fm own).length:=by simp
    refine hx (bs 4 rfl rfl rfl Tryz.underlying27 Tryz.underlying27 (by exact .inl rfl) fi rfl (fun m=>Src.bJ (m.ord 0 rfl)) bn (by unfold maxLen;omega) (by omega) (fun u=> ?_))
    refine az (fun m=>(m.own 0 rfl).slice) ?_
    rintro⟨A_y,c_y,rfl,hc_y⟩
    refine az (fun m=>(m.ord 0 rfl).2.1) fun hA_y=> ?_
    refine cI (dI 4 rfl rfl rfl iY rfl (by first|exact Nat.le_of_ble_eq_true rfl|simp) ?_)
    refine ag<|aB [27,9,8,16,7,3,4,5,6,0] rfl<|aj (X' :=[_,_,_,_,_,_]) (S' :=[_]) (fun _ m=>m)<|ab<|ae<|ai<|aw rfl<|aw rfl<|hy (fun _=>yV (aP rfl rfl (bA (by omega) (by omega))) ((show Value.int .i64 ((i:Int)+((bh l i).1:Int))= .int .i64 ((i+(bh l i).1:Nat):Int) by congr 1)))<|aG rfl<|ag<|aB [7,27,9,8,16,3,4,5,6,0] rfl<|ab<|AB<| ?_
    have hol:(out++fm own).length+3=(out++fm own++iD (bh l i)).length:=by simp[iD];omega
    rw[hol]
    refine aj (fun w m=>m.bz 1 rfl (show _=aK 5 1 (.slice A_y (out++fm own++iD (bh l i)).length c_y) (out++fm own++iD (bh l i)).length (aW (out++fm own++iD (bh l i)))from congrArg (aK _ _ _ _) (bR _ _).symm)) ?_
    exact Bz (⟨g,gm,g4,g5,i+(bh l i).1,p1,c3,c_y,A3,A_y,[],out++fm own++iD (bh l i),es1⟩) ⟨rfl,rfl,rfl,rfl,rfl,rfl,trivial⟩ [5,3,3,1,0] rfl [0] rfl (⟨by show i+(bh l i).1≤n;omega,by show p1≤i+(bh l i).1;omega,hF1,by show(out++fm own++iD (bh l i)).length+2*0≤2*(i+(bh l i).1);rw[←hol];omega,hE⟩) (by show n-(i+(bh l i).1)<n-i;omega)
 ·refine ae<|ai<|aw rfl<| ?_
  refine hx (aq rfl Tryz.call229 (II) [] rfl [] rfl ?_)
  rintro _ _ _ ⟨g,gm,rfl,rfl,rfl⟩
  refine aG rfl<|ag<|aB [3,2,0] rfl<|aj (X' :=[_]) (S' :=[_]) (fun _ m=>m)<|ab<|ae<|ai<| ?_
  refine hx (bf kZ (fun g4=> ?_))
  refine hx (bf kZ (fun g5=> ?_))
  refine ag<|aj (X' :=[_,_,_]) (S' :=[_]) (fun _ m=>m)<|ab<|ae<|ai<|hy (fun _=>fU rfl rfl)<|aG rfl<|ag<|aB [6,5,4,3,2,0] rfl<|ab<|ae<|ai<|aG rfl<|ag<|ab<| ?_
  refine bk (fun w m=>m.bz 1 rfl (show _=aH g4 27 [.slice none 0 0]from rfl)) ?_
  refine bk (fun w m=>m.bz 1 rfl (show _=aH g5 27 [.slice none 0 0]from rfl)) ?_
  refine bk (fun w m=>m.cQ (r' :=aK 5 1 (.slice none 0 0) 0 []) (.refl _ _) (Own.nil _ _ _ _) (fun k hk=>hk.elim)) ?_
  refine bk (fun w m=>m.cQ (r' :=aK 5 1 (.slice none 0 0) 0 []) (.refl _ _) (Own.nil _ _ _ _) (fun k hk=>hk.elim)) ?_
  exact Ht (Hl (R:=fun(t:EX)=>[(7,.int .i64 (t.i:Nat)),(3,.pointer (some ⟨t.g,0,none⟩)),(4,.pointer (some ⟨t.g4,0,none⟩)),(5,.pointer (some ⟨t.g5,0,none⟩)),(6,.func (.func 230) #[] #[.pointer (some ⟨t.g5,0,none⟩),.pointer (some ⟨t.g4,0,none⟩)])]) (X1:=fun(t:EX)=>[oC t.g t.gm A n c t.p t.es,aH t.g5 27 [.slice t.A1 t.own.length t.c1],aK 5 1 (.slice t.A1 t.own.length t.c1) t.own.length (aW t.own),aH t.g4 27 [.slice t.A2 t.out.length t.c2],aK 5 1 (.slice t.A2 t.out.length t.c2) t.out.length (aW t.out)]) (S1:=fun(t:EX)=>[]) (I:=fun(t:EX)=>t.i≤n∧t.p≤t.i∧z1 l t.p t.es∧t.out.length+2*t.own.length≤2*t.i∧iq l t.i t.own t.out=e8 l) (⟨g,gm,g4,g5,0,0,0,0,none,none,[],[],[]⟩) ⟨rfl,rfl,rfl,rfl,rfl,rfl,trivial⟩ [4,2,1,1,0] rfl [0] rfl (⟨Nat.zero_le _,Nat.le_refl _,Et _,Nat.le_refl _,rfl⟩)) hfall_
end Go.Proofs.YtmibdabdlgmafaaGreatDoor
end
section
set_option maxRecDepth 20000
set_option maxHeartbeats 2000000
namespace Go.Proofs.YtmibdabdlgmafaaGreatDoor
open Go.Eng Go.Hx
theorem pM{A:Option Addr}{n c:Nat}{l:List UInt8}(hn:n≤70368744177664):b7 Tryz.prog 180 [.slice A n c] [] [cL 1 A n (aW l)] (fun v_ X_ S_=>v_=(.int .u32 (dE l:Nat))∧X_=[]∧S_=[]):=by
 exact fZ fun m=>Calls.mono (Cz A n c l _ (m.rd 0 rfl) (by omega)) (fun e w' ⟨h,hf⟩=>⟨_,h,⟨rfl,rfl,rfl⟩,hf⟩)
theorem jG{k:Nat}(hk:k<4294967296):b7 Tryz.prog 179 [.int .u32 (k:Nat)] [] [] (fun v_ X_ S_=>∃v,v_=v∧X_=[aK 5 1 v 4 (aW (jY k))]∧S_=[]):=by
 refine aM (N:=15) Tryz.func179 rfl rfl (by simp) fun b=> ?_
 refine ae<|ai<|aG rfl<|ag<|ab<|ae<|ai<|aw rfl<|hy (fun _=>yV (bY rfl Tryz.underlying166 Tryz.underlying5 (jm _)) ((show Value.int .u8 _=B8 (UInt8.ofNat k)from rfl)))<|aw rfl<|hy (fun _=>yV (nt (p:=256) rfl rfl (by decide) (by decide) (by decide)) ((show Value.int .u32 ((k:Int)/256)= .int .u32 ((k/256:Nat):Int) by congr 1)))<|hy (fun _=>yV (bY rfl Tryz.underlying166 Tryz.underlying5 (jm _)) ((show Value.int .u8 _=B8 (UInt8.ofNat (k/256))from rfl)))<|aw rfl<|hy (fun _=>yV (nt (p:=65536) rfl rfl (by decide) (by decide) (by decide)) ((show Value.int .u32 ((k:Int)/65536)= .int .u32 ((k/65536:Nat):Int) by congr 1)))<|hy (fun _=>yV (bY rfl Tryz.underlying166 Tryz.underlying5 (jm _)) ((show Value.int .u8 _=B8 (UInt8.ofNat (k/65536))from rfl)))<|aw rfl<|hy (fun _=>yV (nt (p:=16777216) rfl rfl (by decide) (by decide) (by decide)) ((show Value.int .u32 ((k:Int)/16777216)= .int .u32 ((k/16777216:Nat):Int) by congr 1)))<|hy (fun _=>yV (bY rfl Tryz.underlying166 Tryz.underlying5 (jm _)) ((show Value.int .u8 _=B8 (UInt8.ofNat (k/16777216))from rfl)))<| ?_
 refine hx (bQ Tryz.underlying27 fi rfl rfl rfl (by simp[Value.cells,B8]) (by decide) (by decide) (fun g14=> ?_))
 have hA_b14:0<4→(some (⟨g14,0,none⟩:Addr))≠none:=fun _ h=>by cases h
 refine aG rfl<|ag<|aB [2,0] rfl<|aj (X' :=[_]) (S' :=[]) (fun _ m=>m)<|ab<|aV<| ?_
 refine aj (fun w m=>m.bz 0 rfl (show _=aK 5 1 (.slice (some ⟨g14,0,none⟩) 4 4) 4 (aW (jY k))from rfl)) ?_
 exact bc trivial rfl rfl [0] rfl [] rfl ⟨_,rfl,rfl,rfl⟩
theorem I1{A:Option Addr}{n c:Nat}{l:List UInt8}(hc:n≤c)(hn:n≤100000000)(hl:l.length=n):b7 Tryz.prog 106 [.slice A n c] [] [cL 1 A n (aW l)] (fun v_ X_ S_=>∃v,v_=v∧X_=[aK 5 1 v (cr l).length (aW (cr l))]∧S_=[]):=by
 have hpl:=nU l
 have hlt:n<4294967296:=by omega
 have hcl:=jW l
 refine aM (N:=31) Tryz.func106 rfl rfl (by simp) fun b=> ?_
 refine a6 (fun m=>eG (m.rd 0 rfl)) ?_
 rintro⟨hl_r,hA_r⟩
 refine ae<|ai<|aG rfl<|ag<|ab<|ae<|ai<|aw rfl<|aG rfl<|aG rfl<|ag<|aB [4,3,2,0] rfl<|ab<|ae<|ae<|ai<|aw rfl<| ?_
 refine hx (aq rfl Tryz.call178 (Ir (by omega) (by omega) (by omega)) [] rfl [0] rfl ?_)
 rintro _ _ _ ⟨v,rfl,rfl,rfl⟩
 refine az (fun m=>(m.own 0 rfl).slice) ?_
 rintro⟨A_y,c_y,rfl,hc_y⟩
 refine az (fun m=>(m.ord 0 rfl).2.1) fun hA_y=> ?_
 refine aG rfl<|ag<|aB [5,4,3,2,0] rfl<|aj (X' :=[_]) (S' :=[_]) (fun _ m=>m)<|ab<|ae<|ai<|aw rfl<|hy (fun _=>aY rfl Tryz.underlying27)<|aw rfl<|hy (fun _=>aY rfl Tryz.underlying27)<|hy (fun _=>bw rfl rfl)<|ag<|aB [14,5,4,3,2,0] rfl<|ab<| ?_
 refine cB rfl (fun hp=> ?_) (fun hp=> ?_)
 ·have hq:cr l=[76,1]++jY l.length++e8 l++jY (dE l):=by
   have:Cc l=true:=by unfold Cc;exact decide_eq_true (by omega)
   unfold cr oU
   rw[this];rfl
  refine ai<|aw rfl<|aG rfl<|aG rfl<|ag<|aB [4,3,14,5,2,0] rfl<|ab<|ae<|ai<|aw rfl<| ?_
  refine hx (bQ Tryz.underlying27 fi rfl rfl rfl (by simp[Value.cells,B8]) (by decide) (by decide) (fun g17=> ?_))
  have hA_b17:0<2→(some (⟨g17,0,none⟩:Addr))≠none:=fun _ h=>by cases h
  refine aw rfl<|hy (fun _=>aY rfl Tryz.underlying27)<|hy (fun _=>bY rfl Tryz.underlying3 Tryz.underlying166 (yw (by omega) (by omega)))<| ?_
  refine hx (aq rfl Tryz.call179 (jG (by omega)) [] rfl [] rfl ?_)
  rintro _ _ _ ⟨v2,rfl,rfl,rfl⟩
  refine az (fun m=>(m.own 0 rfl).slice) ?_
  rintro⟨A_x,c_x,rfl,hc_x⟩
  refine az (fun m=>(m.ord 0 rfl).2.1) fun hA_x=> ?_
  refine aJ (fun w m=>m.bz 1 rfl (show _=aK 5 1 (.slice (some ⟨g17,0,none⟩) 2 2) 2 (aW [76,1])from rfl)) ?_
  refine hx (bs 0 rfl rfl rfl Tryz.underlying27 Tryz.underlying27 (by exact .inl rfl) fi rfl (fun m=>Src.bJ (m.ord 1 rfl)) bn (by unfold maxLen;omega) (by omega) (fun u=> ?_))
  refine az (fun m=>(m.own 0 rfl).slice) ?_
  rintro⟨A_b17,c_b17,rfl,hc_b17⟩
  refine az (fun m=>(m.ord 0 rfl).2.1) fun hA_b17=> ?_
  refine aG rfl<|ag<|aB [6,4,3,14,5,2,0] rfl<|aj (X' :=[_,_,_]) (S' :=[_]) (fun _ m=>m)<|ab<|ae<|ai<|aw rfl<|aw rfl<| ?_
  refine hx (bs 0 rfl rfl rfl Tryz.underlying27 Tryz.underlying27 (by exact .inl rfl) fi rfl (fun m=>Src.bJ (m.ord 2 rfl)) bn (by unfold maxLen;omega) (by omega) (fun u2=> ?_))
  refine az (fun m=>(m.own 0 rfl).slice) ?_
  rintro⟨A_b172,c_b172,rfl,hc_b17⟩
  refine az (fun m=>(m.ord 0 rfl).2.1) fun hA_b17=> ?_
  refine aG rfl<|ag<|aB [6,4,3,14,5,2,0] rfl<|aj (X' :=[_,_,_]) (S' :=[_]) (fun _ m=>m)<|ab<|ae<|ai<|aw rfl<|aw rfl<| ?_
  refine hx (aq rfl Tryz.call180 (pM (by omega)) [] rfl [0] rfl ?_)
  rintro _ _ _ ⟨rfl,rfl,rfl⟩
  refine hx (aq rfl Tryz.call179 (jG (by omega)) [] rfl [] rfl ?_)
  rintro _ _ _ ⟨v3,rfl,rfl,rfl⟩
  refine az (fun m=>(m.own 0 rfl).slice) ?_
  rintro⟨A_x2,c_x2,rfl,hc_x2⟩
  refine az (fun m=>(m.ord 0 rfl).2.1) fun hA_x2=> ?_
  refine hx (bs 1 rfl rfl rfl Tryz.underlying27 Tryz.underlying27 (by exact .inl rfl) fi rfl (fun m=>Src.bJ (m.ord 0 rfl)) bn (by unfold maxLen;omega) (by omega) (fun u3=> ?_))
  refine az (fun m=>(m.own 0 rfl).slice) ?_
  rintro⟨A_b173,c_b173,rfl,hc_b17⟩
  refine az (fun m=>(m.ord 0 rfl).2.1) fun hA_b17=> ?_
  refine aG rfl<|ag<|aB [2,6,4,3,14,5,0] rfl<|aj (X' :=[_,_,_,_]) (S' :=[_]) (fun _ m=>m)<|ab<|aV<| ?_
  have hol:2+4+(e8 l).length+4=(cr l).length:=by rw[hq];simp[iI,hl];try omega
  rw[hol]
  have hsl:aW [76,1]++aW (jY n)++aW (e8 l)++aW (jY (dE l))=aW (cr l):=by rw[hq,hl,bR,bR,bR]
  rw[hsl]
  exact bc trivial rfl rfl [0] rfl [] rfl ⟨_,rfl,rfl,rfl⟩
 ·have hq:cr l=[76,0]++jY l.length++l++jY (dE l):=by
   have:Cc l=false:=by unfold Cc;exact decide_eq_false (by omega)
   unfold cr oU
   rw[this];rfl
  refine aC<|ab<|ae<|ai<|aw rfl<| ?_
  refine hx (bQ Tryz.underlying27 fi rfl rfl rfl (by simp[Value.cells,B8]) (by decide) (by decide) (fun g17=> ?_))
  have hA_b17:0<2→(some (⟨g17,0,none⟩:Addr))≠none:=fun _ h=>by cases h
  refine aw rfl<|hy (fun _=>aY rfl Tryz.underlying27)<|hy (fun _=>bY rfl Tryz.underlying3 Tryz.underlying166 (yw (by omega) (by omega)))<| ?_
  refine hx (aq rfl Tryz.call179 (jG (by omega)) [] rfl [] rfl ?_)
  rintro _ _ _ ⟨v2,rfl,rfl,rfl⟩
  refine az (fun m=>(m.own 0 rfl).slice) ?_
  rintro⟨A_x,c_x,rfl,hc_x⟩
  refine az (fun m=>(m.ord 0 rfl).2.1) fun hA_x=> ?_
  refine aJ (fun w m=>m.bz 1 rfl (show _=aK 5 1 (.slice (some ⟨g17,0,none⟩) 2 2) 2 (aW [76,0])from rfl)) ?_
  refine hx (bs 0 rfl rfl rfl Tryz.underlying27 Tryz.underlying27 (by exact .inl rfl) fi rfl (fun m=>Src.bJ (m.ord 1 rfl)) bn (by unfold maxLen;omega) (by omega) (fun u=> ?_))
  refine az (fun m=>(m.own 0 rfl).slice) ?_
  rintro⟨A_b17,c_b17,rfl,hc_b17⟩
  refine az (fun m=>(m.ord 0 rfl).2.1) fun hA_b17=> ?_
  refine aG rfl<|ag<|aB [6,14,5,4,3,2,0] rfl<|aj (X' :=[_,_,_]) (S' :=[_]) (fun _ m=>m)<|ab<|ae<|ai<|aw rfl<|aw rfl<| ?_
  refine hx (bs 0 rfl rfl rfl Tryz.underlying27 Tryz.underlying27 (by exact .inl rfl) fi rfl (fun m=>Src.bJ (m.rd 0 rfl)) bn (by unfold maxLen;omega) (by omega) (fun u2=> ?_))
  refine az (fun m=>(m.own 0 rfl).slice) ?_
  rintro⟨A_b172,c_b172,rfl,hc_b17⟩
  refine az (fun m=>(m.ord 0 rfl).2.1) fun hA_b17=> ?_
  refine aG rfl<|ag<|aB [6,14,5,4,3,2,0] rfl<|aj (X' :=[_,_,_]) (S' :=[_]) (fun _ m=>m)<|ab<|ae<|ai<|aw rfl<|aw rfl<| ?_
  refine hx (aq rfl Tryz.call180 (pM (by omega)) [] rfl [0] rfl ?_)
  rintro _ _ _ ⟨rfl,rfl,rfl⟩
  refine hx (aq rfl Tryz.call179 (jG (by omega)) [] rfl [] rfl ?_)
  rintro _ _ _ ⟨v3,rfl,rfl,rfl⟩
  refine az (fun m=>(m.own 0 rfl).slice) ?_
  rintro⟨A_x2,c_x2,rfl,hc_x2⟩
  refine az (fun m=>(m.ord 0 rfl).2.1) fun hA_x2=> ?_
  refine hx (bs 1 rfl rfl rfl Tryz.underlying27 Tryz.underlying27 (by exact .inl rfl) fi rfl (fun m=>Src.bJ (m.ord 0 rfl)) bn (by unfold maxLen;omega) (by omega) (fun u3=> ?_))
  refine az (fun m=>(m.own 0 rfl).slice) ?_
  rintro⟨A_b173,c_b173,rfl,hc_b17⟩
  refine az (fun m=>(m.ord 0 rfl).2.1) fun hA_b17=> ?_
  refine aG rfl<|ag<|aB [2,6,14,5,4,3,0] rfl<|aj (X' :=[_,_,_,_]) (S' :=[_]) (fun _ m=>m)<|ab<|aV<| ?_
  have hol:2+4+n+4=(cr l).length:=by rw[hq];simp[iI,hl];try omega
  rw[hol]
  have hsl:aW [76,0]++aW (jY n)++aW l++aW (jY (dE l))=aW (cr l):=by rw[hq,hl,bR,bR,bR]
  rw[hsl]
  exact bc trivial rfl rfl [0] rfl [] rfl ⟨_,rfl,rfl,rfl⟩
theorem ly{f:List UInt8}(h:f.length<10∨f.getD 0 0≠76∨1<(f.getD 1 0).toNat):iF f=none:=by unfold iF;rw[if_pos h]
theorem zc{f:List UInt8}(h:¬(f.length<10∨f.getD 0 0≠76∨1<(f.getD 1 0).toNat)):iF f=some (pE (f.drop 2)):=by unfold iF;rw[if_neg h]
theorem s7{A:Option Addr}{n c:Nat}{f:List UInt8}(hc:n≤c)(hn:n≤1000000000)(hl:f.length=n):b7 Tryz.prog 211 [.slice A n c] [] [cL 1 A n (aW f)] (fun v_ X_ S_=>v_=(.tuple #[.int .i64 (((iF f).getD 0:Nat):Int),.int .i64 (if(iF f).isSome then 0 else 2)])∧X_=[]∧S_=[]):=by
 have b0:=(f.getD 0 0).toNat_lt
 have b1:=(f.getD 1 0).toNat_lt
 refine aM (N:=34) Tryz.func211 rfl rfl (by simp) fun b=> ?_
 refine a6 (fun m=>eG (m.rd 0 rfl)) ?_
 rintro⟨hl_r,hA_r⟩
 refine ae<|ai<|aG rfl<|aG rfl<|ag<|ab<|ae<|ae<|ai<|aw rfl<|hy (fun _=>aY rfl Tryz.underlying27)<|hy (fun _=>bw rfl rfl)<|aw rfl<| ?_
 refine fj 9 rfl (fun h1=> ?_) (fun h1=> ?_)
 ·refine bg rfl rfl rfl (by decide)<|bg rfl rfl rfl (by decide)<|bg rfl rfl rfl (by decide)<|bg rfl rfl rfl (by decide)<|hy (fun _=>bC rfl rfl)<|aw rfl<| ?_
  rw[ly (.inl (by omega))]
  refine bg rfl rfl rfl (by decide)<|bg rfl rfl rfl (by decide)<|bg rfl rfl rfl (by decide)<|bg rfl rfl rfl (by decide)<|hy (fun _=>bC rfl rfl)<|ag<|aB [20,3,2,0] rfl<|ab<| ?_
  refine fq rfl (rfl) ?_
  refine ae<|ai<|aG rfl<|aG rfl<|ag<|ab<|aV<|ay<| ?_
  exact db trivial rfl rfl rfl [] rfl [] rfl ⟨rfl,rfl,rfl⟩
 ·refine cy (o:=_) rfl rfl rfl (fun _=>ah rfl)<|cy (o:=_) rfl rfl rfl (fun _=>aZ rfl rfl Tryz.underlying27 dU hA_r (show((0:Nat):Int)=0 from rfl) (by omega))<|cy (o:=_) rfl rfl rfl (fun m=>ao rfl iO ((m.rd 0 rfl).cell (bM (by omega))))<|cy (o:=_) rfl rfl rfl (fun _=>cT rfl rfl)<|hy (fun _=>bo rfl rfl)<|aw rfl<| ?_
  refine fj 15 rfl (fun h2=> ?_) (fun h2=> ?_)
  ·rw[ly (.inr (.inl (fun e=>h2 (by rw[e];rfl))))]
   refine bg rfl rfl rfl (by decide)<|bg rfl rfl rfl (by decide)<|bg rfl rfl rfl (by decide)<|bg rfl rfl rfl (by decide)<|hy (fun _=>bC rfl rfl)<|ag<|aB [20,3,2,0] rfl<|ab<| ?_
   refine fq rfl (rfl) ?_
   refine ae<|ai<|aG rfl<|aG rfl<|ag<|ab<|aV<|ay<| ?_
   exact db trivial rfl rfl rfl [] rfl [] rfl ⟨rfl,rfl,rfl⟩
  ·refine cy (o:=_) rfl rfl rfl (fun _=>ah rfl)<|cy (o:=_) rfl rfl rfl (fun _=>aZ rfl rfl Tryz.underlying27 dU hA_r (show((1:Nat):Int)=1 from rfl) (by omega))<|cy (o:=_) rfl rfl rfl (fun m=>ao rfl iO ((m.rd 0 rfl).cell (bM (by omega))))<|cy (o:=_) rfl rfl rfl (fun _=>cW rfl rfl)<|hy (fun _=>bo rfl rfl)<|ag<|aB [20,3,2,0] rfl<|ab<| ?_
   refine cB rfl (fun h3=> ?_) (fun h3=> ?_)
   ·rw[ly (.inr (.inr (by omega)))]
    refine ae<|ai<|aG rfl<|aG rfl<|ag<|ab<|aV<|ay<| ?_
    exact db trivial rfl rfl rfl [] rfl [] rfl ⟨rfl,rfl,rfl⟩
   ·have h2' :f.getD 0 0=76:=UInt8.toNat_inj.1 (by have:=Decidable.not_not.1 h2;show _=76;omega)
    rw[zc (by rintro(q|q|q);omega;exact q h2';omega)]
    refine aC<|ab<|ae<|ai<|aG rfl<|ag<|ab<|ae<|ae<|ai<|aG rfl<|ag<|ab<|aN<| ?_
    refine de (fun j=>4-j) (fun j=>[(4,.int .i64 ((acc ((f.drop 2).take 4) j:Nat):Int)),(5,.int .i64 (5-(j:Int)))]) (fun j=>[]) (fun j=>[]) (fun j=>j≤4) 0 [(20,_),(3,_),(2,_),(0,_)] ⟨rfl,rfl,rfl,rfl,trivial⟩ [] rfl [] rfl (Nat.zero_le _) ⟨rfl,rfl,trivial⟩ (fun j hI=> ?_)
    refine ae<|ae<|ai<|aw rfl<|hy (fun _=>cW rfl rfl)<|ag<|aB [22,4,5,20,3,2,0] rfl<|ab<| ?_
    refine cB rfl (fun hj=> ?_) (fun hj=> ?_)
    ·have hl4:((f.drop 2).take 4).length=4:=by rw[List.length_take,List.length_drop];omega
     have hac:=Gb ((f.drop 2).take 4) (show j≤4 by omega)
     have hby:(((f.drop 2).take 4).getD (3-j) 0).toNat<256:=UInt8.toNat_lt _
     have hget:f.getD (5-j) 0=((f.drop 2).take 4).getD (3-j) 0:=by
      simp only[List.getD,List.getElem?_take,List.getElem?_drop]
      rw[if_pos (by omega),show 2+(3-j)=5-j by omega]
     refine aC<|ab<|ae<|aN<|ai<|aw rfl<|hy (fun _=>vg (p:=256) rfl rfl (by decide) (by decide) (by decide) (bA (by omega) (by omega)))<|aw rfl<|aw rfl<|hy (fun _=>aZ rfl rfl Tryz.underlying27 dU hA_r (show((5-j:Nat):Int)=_ by omega) (by omega))<|hy (fun m=>yV (ao rfl iO ((m.rd 0 rfl).cell (bM (by omega)))) ((show B8 (f.getD (5-j) 0)=B8 (((f.drop 2).take 4).getD (3-j) 0) by rw[hget])))<|hy (fun _=>bY rfl Tryz.underlying5 Tryz.underlying3 (C3 _))<|hy (fun _=>gH (by simp) rfl rfl (Dh _ _ hac hby))<|aG rfl<|ag<|aB [4,22,5,20,3,2,0] rfl<|aS<|ab<|ai<|aw rfl<|hy (fun _=>yV (cn rfl rfl (bA (by omega) (by omega))) ((show Value.int .i64 ((5-(j:Int))-1)= .int .i64 (5-((j+1:Nat):Int)) by congr 1;omega)))<|aG rfl<|ag<|aB [5,4,22,20,3,2,0] rfl<| ?_
     refine cM (j+1) ⟨rfl,rfl,rfl,rfl,rfl,rfl,trivial⟩ [] rfl [0] rfl (by omega) (by omega)
    ·obtain rfl:j=4:=by omega
     have e4:acc ((f.drop 2).take 4) 4=pE (f.drop 2):=by
      rw[JZ]
      have hx:∀q:Nat,q<4→((f.drop 2).take 4).getD q 0=(f.drop 2).getD q 0:=fun q hq=>by simp only[List.getD,List.getElem?_take,if_pos hq]
      unfold pE
      rw[hx 0 (by decide),hx 1 (by decide),hx 2 (by decide),hx 3 (by decide)]
     rw[e4]
     refine bG<|an<|an<|aE<|ab<|ae<|ai<|aw rfl<|aG rfl<|aG rfl<|ag<|aB [3,2,22,4,5,20,0] rfl<|ab<|aV<| ?_
     exact db trivial rfl rfl rfl [] rfl [] rfl ⟨rfl,rfl,rfl⟩
theorem DF{A:Option Addr}{n c:Nat}{f:List UInt8}(hc:n≤c)(hn:n≤1000000000)(hl:f.length=n):b7 Tryz.prog 213 [.slice A n c] [] [cL 1 A n (aW f)] (fun v_ X_ S_=>v_=(.bool (decide ((iF f).isSome∧f.getD 1 0=1)))∧X_=[]∧S_=[]):=by
 refine aM (N:=18) Tryz.func213 rfl rfl (by simp) fun b=> ?_
 refine a6 (fun m=>eG (m.rd 0 rfl)) ?_
 rintro⟨hl_r,hA_r⟩
 refine ae<|ai<|aG rfl<|ag<|ab<|ae<|ai<|aw rfl<| ?_
 refine hx (aq rfl Tryz.call211 (s7 (by omega) (by omega) (by omega)) [] rfl [0] rfl ?_)
 rintro _ _ _ ⟨rfl,rfl,rfl⟩
 refine aw rfl<|hy (fun _=>aD rfl rfl)<|hy (fun _=>aD rfl rfl)<|aG rfl<|aG rfl<|ag<|aB [4,2,0] rfl<|aj (X' :=[]) (S' :=[_]) (fun _ m=>m)<|ab<|ae<|ai<|aw rfl<|hy (fun _=>cx rfl rfl)<|aw rfl<| ?_
 refine fj 12 rfl (fun hs=> ?_) (fun hs=> ?_)
 ·have hs1:(iF f).isSome=true:=by
   cases h:(iF f).isSome with
   |true=>rfl
   |false=>rw[h]at hs;exact absurd hs (by decide)
  have hn10:¬n<10:=fun h=>by rw[ly (.inl (by omega))]at hs1;cases hs1
  have hd:decide ((iF f).isSome∧f.getD 1 0=1)=decide (((f.getD 1 0).toNat:Int)=1):=decide_eq_decide.2 ⟨fun h=>by rw[h.2];rfl,fun h=>⟨hs1,UInt8.toNat_inj.1 (by show _=1;omega)⟩⟩
  rw[hd]
  refine cy (o:=_) rfl rfl rfl (fun _=>ah rfl)<|cy (o:=_) rfl rfl rfl (fun _=>aZ rfl rfl Tryz.underlying27 dU hA_r (show((1:Nat):Int)=1 from rfl) (by omega))<|cy (o:=_) rfl rfl rfl (fun m=>ao rfl iO ((m.rd 0 rfl).cell (bM (by omega))))<|cy (o:=_) rfl rfl rfl (fun _=>cx rfl rfl)<|hy (fun _=>bC rfl rfl)<|aG rfl<|ag<|aB [2,4,0] rfl<|ab<|aV<| ?_
  exact bc trivial rfl rfl [] rfl [] rfl ⟨rfl,rfl,rfl⟩
 ·have hd:decide ((iF f).isSome∧f.getD 1 0=1)=false:=decide_eq_false fun h=>hs (by rw[h.1];rfl)
  rw[hd]
  refine bg rfl rfl rfl (by decide)<|bg rfl rfl rfl (by decide)<|bg rfl rfl rfl (by decide)<|bg rfl rfl rfl (by decide)<|hy (fun _=>bo rfl rfl)<|aG rfl<|ag<|aB [2,4,0] rfl<|ab<|aV<| ?_
  exact bc trivial rfl rfl [] rfl [] rfl ⟨rfl,rfl,rfl⟩
end Go.Proofs.YtmibdabdlgmafaaGreatDoor
end
section
set_option maxRecDepth 20000
set_option maxHeartbeats 2000000
namespace Go.Proofs.YtmibdabdlgmafaaGreatDoor
open Go.Eng Go.Hx
theorem IN{v:Value}(h:v.oneCell' =true:=by rfl):∀u∈ [v],u.oneCell' =true:=fun u hu=>by rw[List.mem_singleton.1 hu];exact h
theorem pb{q:Bool}{e:Int}:F7 Tryz.prog 212 [.bool q,.int .i64 e] [] [] (fun v_ X_ S_=>v_=(.tuple #[])∧X_=[]∧S_=[]∧(q=true)) (fun v_ X_ S_=>v_=(.iface 288 (.agg #[.int .i64 e]))∧X_=[]∧S_=[]∧(q=false)):=by
 refine D8 (N:=9) Tryz.func212 rfl rfl (by simp) fun b=> ?_
 refine ae<|ai<|aw rfl<|hy (fun _=>(iK rfl))<|ag<|aB [5,0,1] rfl<|ab<| ?_
 refine zw rfl (fun hq=> ?_) (fun hq=> ?_)
 ·refine ai<|aw rfl<|hy (fun _=>bU ym rfl rfl (by kernel_rfl) (.cons (o:=0) (sz:=1) (by kernel_rfl) rfl rfl (Nat.le_of_ble_eq_true rfl) .nil))<|hy (fun _=>l9 rfl Tryz.underlying288 (fun _ h=>by cases h))<| ?_
  refine cI (Aa rfl ?_)
  exact IW [] rfl [] rfl ⟨rfl,rfl,rfl,(by simpa using hq)⟩
 ·refine aC<| ?_
  refine IF ?_
  exact eU trivial rfl [] rfl [] rfl ⟨rfl,rfl,rfl,(by simpa using hq)⟩
theorem gM{g4 g5:Nat}{v:Value}{e0 e:Int}:Dc Tryz.prog 210 [.pointer (some ⟨g4,0,none⟩),.pointer (some ⟨g5,0,none⟩)] (.panicking (Ij (.iface 288 (.agg #[.int .i64 e])))) [aH g4 27 [v],aH g5 47 [.int .i64 e0]] [] (fun u_ X_ S_=>u_= .returning∧X_=[aH g4 27 [.slice none 0 0],aH g5 47 [.int .i64 e]]∧S_=[]):=by
 refine xM (N:=12) Tryz.func210 rfl rfl (by simp) fun b c_0 cs_ hu_=> ?_
 show v8 _ _ _ _ _ [0,1,2,3,4,5,6,7] _ _ _ _ _
 refine EZ rfl hu_ ?_
 refine lZ rfl (fun _=>sb rfl (Cx Tryz.underlying288))<|lZ rfl (fun _=>ah rfl)<|lZ rfl (fun _=>aD rfl rfl)<|lZ rfl (fun _=>aD rfl rfl)<| ?_
 refine FD rfl (bf ym (fun g2=> ?_))
 refine BQ rfl (ba 0 rfl rfl rfl FL rfl IN rfl ?_)
 refine HG (fun w m=>m.bz 0 rfl (show _=aH g2 288 [.int .i64 e]from rfl)) ?_
 refine lZ rfl (fun _=>al rfl)<|vZ<|bk (X' :=[_,_,_]) (S' :=[]) (fun _ m=>m)<|ae<|ai<|aw rfl<|ag<|aB [9,3,2,0,1] rfl<|ab<| ?_
 refine fq rfl (rfl) ?_
 refine py [0] [] rfl rfl [2,3] [(0,some 1),(1,some 1),(2,none),(3,none)] (by kernel_rfl) (by kernel_rfl) rfl 99<|ak (aF rfl E8 (by decide))<|bZ (fun m=>ao rfl lU (aA (m.aU 0 rfl) (i:=0) rfl))<| ?_
 refine gu (dI 1 rfl rfl rfl iY rfl (by first|exact Nat.le_of_ble_eq_true rfl|simp) ⟨(fun _=>wk [1] [] rfl rfl), ?_⟩)
 refine gu (dI 2 rfl rfl rfl y5 rfl (by first|exact Nat.le_of_ble_eq_true rfl|simp) ⟨(fun _=>wk [2] [] rfl rfl), ?_⟩)
 refine bq<|aB [9,3,2,0,1] rfl<|aj (X' :=[_,_,_]) (S' :=[]) (fun _ m=>m)<| ?_
 exact eU trivial rfl [1,0] rfl [] rfl ⟨rfl,rfl,rfl,rfl⟩
theorem vO{g4 g5:Nat}{v:Value}{e:Int}:Dc Tryz.prog 210 [.pointer (some ⟨g4,0,none⟩),.pointer (some ⟨g5,0,none⟩)] .returning [aH g4 27 [v],aH g5 47 [.int .i64 e]] [] (fun u_ X_ S_=>u_= .returning∧X_=[aH g4 27 [v],aH g5 47 [.int .i64 e]]∧S_=[]):=by
 refine xM (N:=12) Tryz.func210 rfl rfl (by simp) fun b c_0 cs_ hu_=> ?_
 show v8 _ _ _ _ _ [0,1,2,3,4,5,6,7] _ _ _ _ _
 refine BV rfl hu_ ?_
 refine lZ rfl (fun _=>sb rfl (B7 Tryz.underlying288 ym))<|lZ rfl (fun _=>ah rfl)<|lZ rfl (fun _=>aD rfl rfl)<|lZ rfl (fun _=>aD rfl rfl)<| ?_
 refine FD rfl (bf ym (fun g2=> ?_))
 refine BQ rfl (ba 0 rfl rfl rfl FL rfl IN rfl ?_)
 refine lZ rfl (fun _=>al rfl)<|vZ<|bk (X' :=[_,_,_]) (S' :=[]) (fun _ m=>m)<|ae<|ai<|aw rfl<|ag<|aB [9,3,2,0,1] rfl<|ab<| ?_
 refine cN rfl (rfl) ?_
 refine aC<| ?_
 exact eU trivial rfl [1,1] rfl [] rfl ⟨rfl,rfl,rfl,rfl⟩
end Go.Proofs.YtmibdabdlgmafaaGreatDoor
end
section
set_option maxRecDepth 20000
set_option maxHeartbeats 2000000
namespace Go.Proofs.YtmibdabdlgmafaaGreatDoor
open Go.Eng Go.Hx
theorem Ho{A:Option Addr}{n c:Nat}{l:List UInt8}(h0:0<n)(hn:n≤140737488351232):b7 Tryz.prog 257 [.slice A n c] [] [cL 1 A n (aW l)] (fun v_ X_ S_=>v_=(.tuple #[.int .i64 ((cX l).1:Nat),.int .i64 ((cX l).2.1:Nat),.int .i64 ((cX l).2.2.1:Nat),.bool (cX l).2.2.2])∧X_=[]∧S_=[]):=by
 have b0:=(l.getD 0 0).toNat_lt
 have b1:=(l.getD 1 0).toNat_lt
 have b2:=(l.getD 2 0).toNat_lt
 refine aM (N:=39) Tryz.func257 rfl rfl (by simp) fun b=> ?_
 refine a6 (fun m=>eG (m.rd 0 rfl)) ?_
 rintro⟨hl_r,hA_r⟩
 refine ae<|ai<|aG rfl<|aG rfl<|aG rfl<|aG rfl<|ag<|ab<|ae<|ai<|aw rfl<|hy (fun _=>aZ rfl rfl Tryz.underlying27 dU hA_r (show((0:Nat):Int)=0 from rfl) (by omega))<|hy (fun m=>ao rfl iO ((m.rd 0 rfl).cell (bM (by omega))))<|hy (fun _=>bY rfl Tryz.underlying5 Tryz.underlying3 (bA (by omega) (by omega)))<|aG rfl<|ag<|aB [6,5,4,3,2,0] rfl<|ab<|ae<|ae<|ai<|aw rfl<|hy (fun _=>bw rfl rfl)<|ag<|aB [12,6,5,4,3,2,0] rfl<|ab<| ?_
 refine cB rfl (fun h1=> ?_) (fun h1=> ?_)
 ·have e:cX l=((l.getD 0 0).toNat+2,(l.getD 0 0).toNat+1,0,decide ((l.getD 0 0).toNat+2≤l.length)):=by rw[cX,if_pos (by omega)]
  rw[e]
  refine ae<|ai<|aw rfl<|hy (fun _=>aP rfl rfl (bA (by omega) (by omega)))<|aw rfl<|hy (fun _=>aP rfl rfl (bA (by omega) (by omega)))<|aw rfl<|hy (fun _=>aY rfl Tryz.underlying27)<|aw rfl<|hy (fun _=>aP rfl rfl (bA (by omega) (by omega)))<|hy (fun _=>yV (dL rfl rfl) ((congrArg Value.bool (decide_eq_decide.2 (by omega)):Value.bool (decide ((n:Int)≥((l.getD 0 0).toNat:Int)+2))= .bool (decide ((l.getD 0 0).toNat+2≤l.length)))))<|aG rfl<|aG rfl<|aG rfl<|aG rfl<|ag<|aB [5,4,3,2,12,6,0] rfl<|ab<|aV<|ay<| ?_
  exact Ce trivial rfl rfl rfl rfl rfl [] rfl [] rfl ⟨rfl,rfl,rfl⟩
 ·refine aC<|ab<|ae<|ae<|ai<|aw rfl<|hy (fun _=>aY rfl Tryz.underlying27)<|hy (fun _=>bw rfl rfl)<|ag<|aB [24,12,6,5,4,3,2,0] rfl<|ab<| ?_
  refine cB rfl (fun h3=> ?_) (fun h3=> ?_)
  ·have e:cX l=(0,0,0,false):=by rw[cX,if_neg (by omega),if_pos (by omega)]
   rw[e]
   refine ae<|ai<|aG rfl<|aG rfl<|aG rfl<|aG rfl<|ag<|ab<|aV<|ay<| ?_
   exact Ce trivial rfl rfl rfl rfl rfl [] rfl [] rfl ⟨rfl,rfl,rfl⟩
  ·have e:cX l=(3,(l.getD 0 0).toNat-124,1+(l.getD 1 0).toNat+256*(l.getD 2 0).toNat,true):=by rw[cX,if_neg (by omega),if_neg (by omega)]
   rw[e]
   refine aC<|ab<|ae<|cD [] [(0,some 0),(1,some 0),(2,some 0),(3,some 0),(4,some 0),(5,some 0),(6,some 0),(7,some 0),(8,some 0),(9,some 0),(10,some 0),(11,some 0),(12,some 0),(13,some 0),(14,some 0),(15,some 0),(16,some 0),(17,some 0)] (by kernel_rfl) (by kernel_rfl) rfl 99<|ak (ah rfl)<|ak (cn rfl rfl (bA (by omega) (by omega)))<|ak (yV (aP rfl rfl (bA (by omega) (by omega))) ((show Value.int .i64 (((l.getD 0 0).toNat:Int)-128+4)= .int .i64 (((l.getD 0 0).toNat-124:Nat):Int) by congr 1;omega)))<|ak (ah rfl)<|ak (aZ rfl rfl Tryz.underlying27 dU hA_r (show((1:Nat):Int)=1 from rfl) (by omega))<|bZ (fun m=>ao rfl iO ((m.rd 0 rfl).cell (bM (by omega))))<|ak (bY rfl Tryz.underlying5 Tryz.underlying3 (bA (by omega) (by omega)))<|ak (aP rfl rfl (bA (by omega) (by omega)))<|ak (ah rfl)<|ak (aZ rfl rfl Tryz.underlying27 dU hA_r (show((2:Nat):Int)=2 from rfl) (by omega))<|bZ (fun m=>ao rfl iO ((m.rd 0 rfl).cell (bM (by omega))))<|ak (bY rfl Tryz.underlying5 Tryz.underlying3 (bA (by omega) (by omega)))<|ak (vg (p:=256) rfl rfl (by decide) (by decide) (by decide) (bA (by omega) (by omega)))<|ak (yV (aP rfl rfl (bA (by omega) (by omega))) ((show Value.int .i64 (1+((l.getD 1 0).toNat:Int)+((l.getD 2 0).toNat:Int)*256)= .int .i64 ((1+(l.getD 1 0).toNat+256*(l.getD 2 0).toNat:Nat):Int) by congr 1;omega)))<|ak (al rfl)<|ak (al rfl)<|ak (al rfl)<|ak (al rfl)<|bq<|aB [5,4,3,2,24,12,6,0] rfl<|ab<|aV<| ?_
   exact Ce trivial rfl rfl rfl rfl rfl [] rfl [] rfl ⟨rfl,rfl,rfl⟩
theorem DP{A:Option Addr}{c:Nat}{l:List UInt8}{z:Int}(hc:l.length≤c)(hn:l.length≤10000000)(hz:z≤10000000):b7 Tryz.prog 214 [.slice A l.length c,.int .i64 z] [] [cL 1 A l.length (aW l)] (fun v_ X_ S_=>∃v,v_=(.tuple #[v,.int .i64 (lD z l []).2])∧X_=[aK 5 1 v (lD z l []).1.length (aW (lD z l []).1)]∧S_=[]):=by
 refine aM (N:=66) Tryz.func214 rfl rfl (by simp) fun b=> ?_
 refine a6 (fun m=>eG (m.rd 0 rfl)) ?_
 rintro⟨hl_r,hA_r⟩
 refine ae<|ai<|aG rfl<|aG rfl<|ag<|ab<|ae<|ai<|aG rfl<|ag<|ab<|ae<|aN<| ?_
 refine bk (fun w m=>m.cQ (r' :=aK 5 1 (.slice none 0 0) 0 []) (.refl _ _) (Own.nil _ _ _ _) (fun k hk=>hk.elim)) ?_
 refine tk (fun p o A2 c2 A3 c3=>p.length) (fun p o A2 c2 A3 c3=>[(0,.slice A2 p.length c2),(6,.slice A3 o.length c3)]) (fun p o A2 c2 A3 c3=>[aK 5 1 (.slice A3 o.length c3) o.length (aW o)]) (fun p o A2 c2 A3 c3=>[cL 1 A2 p.length (aW p)]) (fun p o A2 c2 A3 c3=>p.length≤c2∧p.length≤10000000∧o.length≤10000000∧lD z p o=lD z l []) l [] A c none 0 [(1,_)] ⟨rfl,trivial⟩ [0] rfl [0] rfl (⟨hc,hn,by decide,rfl⟩) ⟨rfl,rfl,trivial⟩ (fun p o A2 c2 A3 c3 ⟨hpc,hpn,hon,hU⟩=> ?_)
 refine ae<|ae<|ai<|aw rfl<|hy (fun _=>aY rfl Tryz.underlying27)<|hy (fun _=>cW rfl rfl)<|ag<|aB [14,0,6,1] rfl<|ab<| ?_
 refine cB rfl (fun hlt=> ?_) (fun hlt=> ?_)
 ·have hp0:p≠ []:=fun e=>by rw[e]at hlt;exact absurd hlt (by decide)
  obtain⟨ht1,ht2⟩:=Gr p
  refine aC<|ab<|aN<|ae<|ai<|aw rfl<| ?_
  refine hx (aq rfl Tryz.call257 (Ho (by omega) (by omega)) [] rfl [0] rfl ?_)
  rintro _ _ _ ⟨rfl,rfl,rfl⟩
  refine aw rfl<|hy (fun _=>aD rfl rfl)<|hy (fun _=>aD rfl rfl)<|hy (fun _=>aD rfl rfl)<|hy (fun _=>aD rfl rfl)<|aG rfl<|aG rfl<|aG rfl<|aG rfl<|ag<|aB [10,9,8,7,14,0,6,1] rfl<|aj (X' :=[_]) (S' :=[_,_]) (fun _ m=>m)<|ab<|ae<|ae<|ai<|aw rfl<|hy (fun _=>(iK rfl))<|aw rfl<| ?_
  refine Dp 24 rfl (fun hw=> ?_) (fun hw=> ?_)
  ·rw[lN hp0 (fun h=>by rw[h.1]at hw;cases hw)]at hU
   rw[←hU]
   refine bg rfl rfl rfl (by decide)<|bg rfl rfl rfl (by decide)<|bg rfl rfl rfl (by decide)<|bg rfl rfl rfl (by decide)<|hy (fun _=>bC rfl rfl)<|ag<|aB [29,10,9,8,7,14,0,6,1] rfl<|ab<| ?_
   refine fq rfl (rfl) ?_
   refine ae<|ai<|aG rfl<|aG rfl<|ag<|ab<|aV<|ay<|a7<|ay<|a7<|ay<| ?_
   refine aj (fun w m=>m.cQ (r' :=aK 5 1 (.slice none 0 0) 0 []) (.refl _ _) (Own.nil _ _ _ _) (fun k hk=>hk.elim)) ?_
   exact db trivial rfl rfl rfl [0] rfl [] rfl ⟨_,rfl,rfl,rfl⟩
  ·have hw1:(cX p).2.2.2=true:=by simpa using hw
   refine cy (o:=_) rfl rfl rfl (fun _=>ah rfl)<|cy (o:=_) rfl rfl rfl (fun _=>ah rfl)<|cy (o:=_) rfl rfl rfl (fun _=>aY rfl Tryz.underlying27)<|cy (o:=_) rfl rfl rfl (fun _=>cW rfl rfl)<|hy (fun _=>bo rfl rfl)<|ag<|aB [29,10,9,8,7,14,0,6,1] rfl<|ab<| ?_
   refine cB rfl (fun hd=> ?_) (fun hd=> ?_)
   ·rw[lN hp0 (fun h=>by omega)]at hU
    rw[←hU]
    refine ae<|ai<|aG rfl<|aG rfl<|ag<|ab<|aV<|ay<|a7<|ay<|a7<|ay<| ?_
    refine aj (fun w m=>m.cQ (r' :=aK 5 1 (.slice none 0 0) 0 []) (.refl _ _) (Own.nil _ _ _ _) (fun k hk=>hk.elim)) ?_
    exact db trivial rfl rfl rfl [0] rfl [] rfl ⟨_,rfl,rfl,rfl⟩
   ·have hd1:(cX p).2.2.1≤o.length:=by omega
    refine aC<|ab<|ae<|ae<|ai<|aw rfl<|hy (fun _=>aY rfl Tryz.underlying27)<|aw rfl<|hy (fun _=>aP rfl rfl (bA (by omega) (by omega)))<|aw rfl<|hy (fun _=>cW rfl rfl)<|ag<|aB [35,29,10,9,8,7,14,0,6,1] rfl<|ab<| ?_
    refine cB rfl (fun hm=> ?_) (fun hm=> ?_)
    ·rw[pY hp0 hw1 hd1 (by omega)]at hU
     rw[←hU]
     refine ae<|ai<|aG rfl<|aG rfl<|ag<|ab<|aV<|ay<|a7<|ay<|a7<|ay<| ?_
     refine aj (fun w m=>m.cQ (r' :=aK 5 1 (.slice none 0 0) 0 []) (.refl _ _) (Own.nil _ _ _ _) (fun k hk=>hk.elim)) ?_
     exact db trivial rfl rfl rfl [0] rfl [] rfl ⟨_,rfl,rfl,rfl⟩
    ·rw[tc hp0 hw1 hd1 (by omega)]at hU
     obtain⟨hs2,hs3⟩:=lz hw1
     have hml:=o6 (o:=o) hw1
     have hmn:(made p o).length≤10000000:=by omega
     have hdl:p.length-(cX p).1=(p.drop (cX p).1).length:=by rw[List.length_drop]
     generalize hsz:(cX p).1=sz at hs2 hs3 hU hdl ⊢
     refine aC<|ab<|ae<|ae<|ai<|aw rfl<|hy (fun _=>cx rfl rfl)<|ag<|aB [37,35,29,10,9,8,7,14,0,6,1] rfl<|ab<| ?_
     refine cB rfl (fun hz0=> ?_) (fun hz0=> ?_)
     ·have hd0:(cX p).2.2.1=0:=by omega
      have hma:made p o=o++(p.drop 1).take (sz-1):=by rw[made,if_pos hd0,hsz]
      refine bk (fun w m=>m.fA 0 rfl (View.sub (n:=p.length) (c:=c2) (k:=1) (m:=sz-1) (by omega) (by omega))) ?_
      refine a6 (fun m=>eG (m.rd 0 rfl)) ?_
      rintro⟨hl_q,hA_q⟩
      refine ai<|aw rfl<|aw rfl<|aw rfl<|hy (fun _=>ey rfl rfl rfl Tryz.underlying27 dU (show((1:Nat):Int)=1 from rfl) (rfl:((sz:Nat):Int)=_) (by omega) (by omega))<| ?_
      refine hx (bs 0 rfl rfl rfl Tryz.underlying27 Tryz.underlying27 (by exact .inl rfl) fi rfl (fun m=>Src.bJ (m.rd 0 rfl)) bn (by unfold maxLen;omega) (by omega) (fun u=> ?_))
      refine az (fun m=>(m.own 0 rfl).slice) ?_
      rintro⟨A_x,c_x,rfl,hc_x⟩
      refine az (fun m=>(m.ord 0 rfl).2.1) fun hA_x=> ?_
      have hlm:o.length+(sz-1)=(made p o).length:=by rw[hma,List.length_append,List.length_take,List.length_drop];omega
      rw[hlm]at hc_x hA_x ⊢
      refine aJ (fun w m=>m.bz 0 rfl (show _=aK 5 1 (.slice A_x (made p o).length c_x) (made p o).length (aW (made p o))from congrArg (aK _ _ _ _) (by rw[hma,bR]))) ?_
      refine aG rfl<|ag<|aB [6,37,35,29,10,9,8,7,14,0,1] rfl<|aj (X' :=[_]) (S' :=[_,_,_]) (fun _ m=>m)<|ab<|ae<|ae<|ai<|aG rfl<|ag<|ab<|aN<| ?_
      refine de (fun k2=>1) (fun k2=>[(11,.int .i64 (k2:Nat)),(6,.slice A_x (made p o).length c_x)]) (fun k2=>[aK 5 1 (.slice A_x (made p o).length c_x) (made p o).length (aW (made p o))]) (fun k2=>[]) (fun k2=>True) 0 [(37,_),(35,_),(29,_),(10,_),(9,_),(8,_),(7,_),(14,_),(0,_),(1,_)] ⟨rfl,rfl,rfl,rfl,rfl,rfl,rfl,rfl,rfl,rfl,trivial⟩ [0] rfl [] rfl (trivial) ⟨rfl,rfl,trivial⟩ (fun k2 _=> ?_)
      refine ae<|ae<|ai<|aw rfl<|hy (fun _=>yF (cW rfl rfl) ((decide_eq_false (by omega))))<|aw rfl<|bg rfl rfl rfl (by decide)<|bg rfl rfl rfl (by decide)<|bg rfl rfl rfl (by decide)<|hy (fun _=>bo rfl rfl)<|ag<|aB [49,11,6,37,35,29,10,9,8,7,14,0,1] rfl<|ab<| ?_
      refine cN rfl (rfl) ?_
      refine bk (fun w m=>m.fA 1 rfl (View.drop (n:=p.length) (c:=c2) (k:=sz) (by omega) (by omega))) ?_
      refine a6 (fun m=>eG (m.rd 0 rfl)) ?_
      rintro⟨hl_p2,hA_p2⟩
      refine bG<|an<|an<|aE<|ab<|ai<|aw rfl<|aw rfl<|hy (fun _=>dP rfl rfl Tryz.underlying27 dU rfl (by omega))<|aG rfl<|ag<|aB [0,49,11,6,37,35,29,10,9,8,7,14,1] rfl<|aS<| ?_
      rw[hdl]
      refine iP (p.drop sz) (made p o) _ (c2-sz) A_x c_x ⟨rfl,rfl,rfl,trivial⟩ [0] rfl [0,3] rfl (⟨by rw[←hdl];omega,by rw[←hdl];omega,hmn,hU⟩) (by rw[←hdl];omega)
     ·have hd0:0<(cX p).2.2.1:=by omega
      have hma:made p o=again (cX p).2.2.1 (cX p).2.1 o:=by rw[made,if_neg (by omega)]
      generalize hdd:(cX p).2.2.1=dd at*
      generalize hnn:(cX p).2.1=nn at*
      refine aC<|ab<|ae<|ae<|ai<|aG rfl<|ag<|ab<|aN<| ?_
      refine j3 (fun k2 o2 A4 c4=>nn-k2) (fun k2 o2 A4 c4=>[(11,.int .i64 (k2:Nat)),(6,.slice A4 o2.length c4)]) (fun k2 o2 A4 c4=>[aK 5 1 (.slice A4 o2.length c4) o2.length (aW o2)]) (fun k2 o2 A4 c4=>[]) (fun k2 o2 A4 c4=>k2≤nn∧o2.length=o.length+k2∧again dd (nn-k2) o2=made p o) 0 o A3 c3 [(37,_),(35,_),(29,_),(10,_),(9,_),(8,_),(7,_),(14,_),(0,_),(1,_)] ⟨rfl,rfl,rfl,rfl,rfl,rfl,rfl,rfl,rfl,rfl,trivial⟩ [0] rfl [] rfl (⟨Nat.zero_le _,rfl,hma.symm⟩) ⟨rfl,rfl,trivial⟩ (fun k2 o2 A4 c4 ⟨hk2,ho2,hag⟩=> ?_)
      refine ae<|ae<|ai<|aw rfl<|hy (fun _=>yT (cW rfl rfl) ((decide_eq_true (by omega))))<|aw rfl<|cy (o:=_) rfl rfl rfl (fun _=>ah rfl)<|cy (o:=_) rfl rfl rfl (fun _=>ah rfl)<|cy (o:=_) rfl rfl rfl (fun _=>bw rfl rfl)<|hy (fun _=>bC rfl rfl)<|ag<|aB [49,11,6,37,35,29,10,9,8,7,14,0,1] rfl<|ab<| ?_
      refine cB rfl (fun hkn=> ?_) (fun hkn=> ?_)
      ·have hag2:again dd (nn-(k2+1)) (o2++[o2.getD (o2.length-dd) 0])=made p o:=by
        rw[←hag,show nn-k2=(nn-(k2+1))+1 by omega]
        rfl
       refine a6 (fun m=>(m.ord 0 rfl).2.1) fun hA4=> ?_
       refine aC<|ab<|ae<|aN<|ai<|aw rfl<|aw rfl<|aw rfl<|hy (fun _=>aY rfl Tryz.underlying27)<|aw rfl<|hy (fun _=>cn rfl rfl (bA (by omega) (by omega)))<|hy (fun _=>aZ rfl rfl Tryz.underlying27 dU hA4 (show((o2.length-dd:Nat):Int)=_ by omega) (by omega))<|hy (fun m=>ao rfl iO ((m.ord 0 rfl).cell (bM (by omega))))<| ?_
       refine hx (bQ Tryz.underlying27 fi rfl rfl rfl (by simp[Value.cells,B8]) (by decide) (by decide) (fun g60=> ?_))
       have hA_b60:0<1→(some (⟨g60,0,none⟩:Addr))≠none:=fun _ h=>by cases h
       refine aJ (fun w m=>m.bz 0 rfl (show _=aK 5 1 (.slice (some ⟨g60,0,none⟩) 1 1) 1 (aW [o2.getD (o2.length-dd) 0])from rfl)) ?_
       refine hx (bs 1 rfl rfl rfl Tryz.underlying27 Tryz.underlying27 (by exact .inl rfl) fi rfl (fun m=>Src.bJ (m.ord 0 rfl)) bn (by unfold maxLen;omega) (by omega) (fun u=> ?_))
       refine az (fun m=>(m.own 0 rfl).slice) ?_
       rintro⟨A_x,c_x,rfl,hc_x⟩
       refine az (fun m=>(m.ord 0 rfl).2.1) fun hA_x=> ?_
       refine aJ (fun w m=>m.bz 0 rfl (show _=aK 5 1 (.slice A_x (o2.length+1) c_x) (o2.length+1) (aW (o2++[o2.getD (o2.length-dd) 0]))from congrArg (aK _ _ _ _) (bR _ _).symm)) ?_
       have hl1:o2.length+1=(o2++[o2.getD (o2.length-dd) 0]).length:=by simp
       rw[hl1]at hc_x hA_x ⊢
       refine aG rfl<|ag<|aB [6,49,11,37,35,29,10,9,8,7,14,0,1] rfl<|aj (X' :=[_,_]) (S' :=[_,_]) (fun _ m=>m)<|aS<|ab<|ai<|aw rfl<|hy (fun _=>aP rfl rfl (bA (by omega) (by omega)))<|aG rfl<|ag<|aB [11,6,49,37,35,29,10,9,8,7,14,0,1] rfl<| ?_
       refine ej (k2+1) (o2++[o2.getD (o2.length-dd) 0]) A_x c_x ⟨rfl,rfl,rfl,rfl,rfl,rfl,rfl,rfl,rfl,rfl,rfl,rfl,trivial⟩ [0] rfl [0,1] rfl (⟨by omega,by rw[←hl1];omega,hag2⟩) (by omega)
      ·obtain rfl:k2=nn:=by omega
       have hag2:o2=made p o:=by rw[←hag,Nat.sub_self];rfl
       rw[hag2]
       refine bk (fun w m=>m.fA 0 rfl (View.drop (n:=p.length) (c:=c2) (k:=sz) (by omega) (by omega))) ?_
       refine a6 (fun m=>eG (m.rd 0 rfl)) ?_
       rintro⟨hl_p2,hA_p2⟩
       refine bG<|an<|an<|aE<|ab<|ai<|aw rfl<|aw rfl<|hy (fun _=>dP rfl rfl Tryz.underlying27 dU rfl (by omega))<|aG rfl<|ag<|aB [0,49,11,6,37,35,29,10,9,8,7,14,1] rfl<|aS<| ?_
       rw[hdl]
       refine iP (p.drop sz) (made p o) _ (c2-sz) A4 c4 ⟨rfl,rfl,rfl,trivial⟩ [0] rfl [0,2] rfl (⟨by rw[←hdl];omega,by rw[←hdl];omega,hmn,hU⟩) (by rw[←hdl];omega)
 ·have hp0:p=[]:=List.eq_nil_of_length_eq_zero (by omega)
  rw[hp0,ub]at hU
  rw[←hU]
  refine bG<|an<|an<|aE<|ab<|ae<|ai<|aw rfl<|aG rfl<|aG rfl<|ag<|aB [5,4,14,0,6,1] rfl<|ab<|aV<| ?_
  exact db trivial rfl rfl rfl [0] rfl [] rfl ⟨_,rfl,rfl,rfl⟩
end Go.Proofs.YtmibdabdlgmafaaGreatDoor
end
section
set_option maxRecDepth 20000
set_option maxHeartbeats 4000000
namespace Go.Proofs.YtmibdabdlgmafaaGreatDoor
open Go.Eng Go.Hx
theorem rp{f:List UInt8}{most:Int}(h:iF f=none):dx f most=([],2):=by unfold dx;rw[h]
theorem rP{f:List UInt8}{most:Int}{k:Nat}(h:iF f=some k)(hm:most<(k:Int)):dx f most=([],3):=by unfold dx;rw[h];simp only;rw[if_pos hm]
theorem vH{f:List UInt8}{most:Int}{k:Nat}(h:iF f=some k)(hm:¬most<(k:Int)):dx f most=gV f k:=by unfold dx;rw[h];simp only;rw[if_neg hm]
theorem uJ{f:List UInt8}{k:Nat}(h:iF f=some k):10≤f.length∧k<4294967296:=by
 unfold iF at h
 split at h
 ·cases h
 ·rename_i hq
  cases h
  exact⟨by have:¬f.length<10:=fun e=>hq (.inl e);omega,EO _⟩
theorem IA{A:Option Addr}{c:Nat}{f:List UInt8}{most:Int}(hc:f.length≤c)(hn:f.length≤10000000)(hm:most≤1000000):b7 Tryz.prog 155 [.slice A f.length c,.int .i64 most] [] [cL 1 A f.length (aW f)] (fun v_ X_ S_=>∃v,v_=(.tuple #[v,.int .i64 (dx f most).2])∧X_=[aK 5 1 v (dx f most).1.length (aW (dx f most).1)]∧S_=[]):=by
 refine xU (N:=54) Tryz.func155 rfl rfl (by simp) fun b=> ?_
 refine a6 (fun m=>eG (m.rd 0 rfl)) ?_
 rintro⟨hl_r,hA_r⟩
 refine ae<|ai<| ?_
 refine hx (bf kZ (fun g4=> ?_))
 refine aJ (fun w m=>m.bz 0 rfl (show _=aH g4 27 [.slice none 0 0]from rfl)) ?_
 refine hx (bf JL (fun g5=> ?_))
 refine aJ (fun w m=>m.bz 0 rfl (show _=aH g5 47 [.int .i64 0]from rfl)) ?_
 rcases hL:iF f with _|k
 ·refine ag<|aj (X' :=[_,_]) (S' :=[_]) (fun _ m=>m)<|ab<|ae<|ai<|hy (fun _=>fU rfl rfl)<|x4 rfl rfl<|ag<|aB [5,4,0,1] rfl<|ab<|ae<|ai<|aw rfl<| ?_
  refine hx (aq rfl Tryz.call211 (s7 (by omega) (by omega) rfl) [] rfl [0] rfl ?_)
  rintro _ _ _ ⟨rfl,rfl,rfl⟩
  refine aw rfl<|hy (fun _=>aD rfl rfl)<|hy (fun _=>aD rfl rfl)<|aG rfl<| ?_
  refine cI (dI 0 rfl rfl rfl y5 rfl (by first|exact Nat.le_of_ble_eq_true rfl|simp) ?_)
  refine ag<|aB [6,5,4,0,1] rfl<|aj (X' :=[_,_]) (S' :=[_]) (fun _ m=>m)<|ab<|ae<|ai<|hy (fun m=>ao rfl lU (aA (m.aU 0 rfl) rfl))<|hy (fun _=>cx rfl rfl)<|hy (fun m=>ao rfl lU (aA (m.aU 0 rfl) rfl))<| ?_
  refine hx (gZ rfl Tryz.call212 (pb) [] rfl [] rfl ?_ ?_)
  ·rintro _ _ _ ⟨rfl,rfl,rfl,q1⟩
   refine eA<|jc<| ?_
   rw[hL]
   rw[(rp hL)]
   refine mR (by simp) Tryz.call210 (gM) [1,0] rfl [] rfl ?_
   rintro _ _ _ ⟨rfl,rfl,rfl⟩
   refine qE (fun w m=>m.cQ (r' :=aK 5 1 (.slice none 0 0) 0 []) (.refl _ _) (Own.nil _ _ _ _) (fun k hk=>hk.elim)) ?_
   exact ir rfl rfl rfl dB lU (fun m=>aA (m.aU 1 rfl) (i:=0) rfl) (fun m=>aA (m.aU 2 rfl) (i:=0) rfl) [0] rfl [] rfl ⟨_,rfl,rfl,rfl⟩
  ·rintro _ _ _ ⟨rfl,rfl,rfl,q1⟩
   exact absurd q1 (by rw[hL];simp)
 ·refine ag<|aj (X' :=[_,_]) (S' :=[_]) (fun _ m=>m)<|ab<|ae<|ai<|hy (fun _=>fU rfl rfl)<|x4 rfl rfl<|ag<|aB [5,4,0,1] rfl<|ab<|ae<|ai<|aw rfl<| ?_
  refine hx (aq rfl Tryz.call211 (s7 (by omega) (by omega) (by omega)) [] rfl [0] rfl ?_)
  rintro _ _ _ ⟨rfl,rfl,rfl⟩
  refine aw rfl<|hy (fun _=>aD rfl rfl)<|hy (fun _=>aD rfl rfl)<|aG rfl<| ?_
  refine cI (dI 0 rfl rfl rfl y5 rfl (by first|exact Nat.le_of_ble_eq_true rfl|simp) ?_)
  refine ag<|aB [6,5,4,0,1] rfl<|aj (X' :=[_,_]) (S' :=[_]) (fun _ m=>m)<|ab<|ae<|ai<|hy (fun m=>ao rfl lU (aA (m.aU 0 rfl) rfl))<|hy (fun _=>cx rfl rfl)<|hy (fun m=>ao rfl lU (aA (m.aU 0 rfl) rfl))<| ?_
  refine hx (gZ rfl Tryz.call212 (pb) [] rfl [] rfl ?_ ?_)
  ·rintro _ _ _ ⟨rfl,rfl,rfl,q1⟩
   refine eA<|jc<| ?_
   exact absurd q1 (by rw[hL];simp)
  ·rintro _ _ _ ⟨rfl,rfl,rfl,q1⟩
   rw[hL,Option.getD_some]
   refine ag<|aB [6,5,4,0,1] rfl<|aj (X' :=[_,_]) (S' :=[_]) (fun _ m=>m)<|ab<|ae<|ai<|aw rfl<|aw rfl<|hy (fun _=>mh rfl rfl)<| ?_
   refine hx (gZ rfl Tryz.call212 (pb) [] rfl [] rfl ?_ ?_)
   ·rintro _ _ _ ⟨rfl,rfl,rfl,q2⟩
    refine eA<|jc<| ?_
    rw[(rP hL (Int.not_le.1 (of_decide_eq_false q2)))]
    refine mR (by simp) Tryz.call210 (gM) [1,0] rfl [] rfl ?_
    rintro _ _ _ ⟨rfl,rfl,rfl⟩
    refine qE (fun w m=>m.cQ (r' :=aK 5 1 (.slice none 0 0) 0 []) (.refl _ _) (Own.nil _ _ _ _) (fun k hk=>hk.elim)) ?_
    exact ir rfl rfl rfl dB lU (fun m=>aA (m.aU 1 rfl) (i:=0) rfl) (fun m=>aA (m.aU 2 rfl) (i:=0) rfl) [0] rfl [] rfl ⟨_,rfl,rfl,rfl⟩
   ·rintro _ _ _ ⟨rfl,rfl,rfl,q2⟩
    obtain⟨h10,hk32⟩:=uJ hL
    have hkm:(k:Int)≤most:=of_decide_eq_true q2
    have hopen:=vH hL (Int.not_lt.2 hkm)
    refine aJ (fun w m=>m.fA 0 rfl (View.sub (n:=f.length) (c:=c) (k:=6) (m:=f.length-10) (by omega) (by omega))) ?_
    refine az (fun m=>eG (m.rd 0 rfl)) ?_
    rintro⟨hl_p,hA_p⟩
    refine ag<|aB [6,5,4,0,1] rfl<|aj (X' :=[_,_]) (S' :=[_,_]) (fun _ m=>m)<|ab<|ae<|ai<|aw rfl<|aw rfl<|hy (fun _=>aY rfl Tryz.underlying27)<|hy (fun _=>yV (cn rfl rfl (bA (by omega) (by omega))) ((show Value.int .i64 ((f.length:Int)-4)= .int .i64 ((f.length-4:Nat):Int) by congr 1;omega)))<|hy (fun _=>yV (ey rfl rfl rfl Tryz.underlying27 dU (show((6:Nat):Int)=6 from rfl) rfl (by omega) (by omega)) ((show Value.slice (if c=6 then A else A.map (·.add (6*1))) (f.length-4-6) (c-6)= .slice (if c=6 then A else A.map (·.add (6*1))) (f.length-10) (c-6) by congr 1)))<| ?_
    refine hx (aq rfl Tryz.call117 (mN (by omega)) [] rfl [0] rfl ?_)
    rintro _ _ _ ⟨v,rfl,rfl,rfl⟩
    refine az (fun m=>(m.own 0 rfl).slice) ?_
    rintro⟨A_x,c_x,rfl,hc_x⟩
    refine az (fun m=>(m.ord 0 rfl).2.1) fun hA_x=> ?_
    have hbl:f.length-10=(dR f).length:=by unfold dR;rw[List.length_take,List.length_drop];omega
    have hb2:(f.drop 6).take (dR f).length=dR f:=by rw[←hbl];rfl
    rw[hbl,hb2]
    rw[hbl]at hc_x
    refine cI (dI 2 rfl rfl rfl iY rfl (by first|exact Nat.le_of_ble_eq_true rfl|simp) ?_)
    refine ag<|aB [6,5,4,0,1] rfl<|aj (X' :=[_,_,_]) (S' :=[_,_]) (fun _ m=>m)<|ab<|ae<|ae<|ai<|aw rfl<| ?_
    refine hx (aq rfl Tryz.call213 (DF (by omega) (by omega) rfl) [] rfl [1] rfl ?_)
    rintro _ _ _ ⟨rfl,rfl,rfl⟩
    refine ag<|aB [28,6,5,4,0,1] rfl<|aj (X' :=[_,_,_]) (S' :=[_,_]) (fun _ m=>m)<|ab<| ?_
    refine cB rfl (fun hpk=> ?_) (fun hpk=> ?_)
    ·have hu:zB f k=lD (k:Int) (dR f) []:=by
      unfold zB
      exact if_pos hpk.2
     have hkz:(k:Int)≤10000000:=by omega
     have hul:=qJ (most:=(k:Int)) (dR f) [] (by simp)
     have hbn:(dR f).length≤10000000:=by omega
     refine ae<|ai<|hy (fun m=>ao rfl dB (aA (m.aU 0 rfl) rfl))<|aw rfl<| ?_
     refine hx (c6 rfl Tryz.call214 (DP hc_x hbn hkz) [] rfl (.x 1 rfl .own .nil) ?_)
     rintro _ _ _ ⟨v2,rfl,rfl,rfl⟩
     refine⟨rfl, ?_⟩
     refine az (fun m=>(m.own 0 rfl).slice) ?_
     rintro⟨A_x2,c_x2,rfl,hc_x2⟩
     refine az (fun m=>(m.ord 0 rfl).2.1) fun hA_x2=> ?_
     refine aw rfl<|hy (fun _=>aD rfl rfl)<|hy (fun _=>aD rfl rfl)<| ?_
     refine cI (dI 1 rfl rfl rfl iY rfl (by first|exact Nat.le_of_ble_eq_true rfl|simp) ?_)
     refine cI (dI 3 rfl rfl rfl y5 rfl (by first|exact Nat.le_of_ble_eq_true rfl|simp) ?_)
     refine ag<|aB [28,6,5,4,0,1] rfl<|aj (X' :=[_,_,_,_]) (S' :=[_,_]) (fun _ m=>m)<|ab<|ai<|hy (fun m=>ao rfl lU (aA (m.aU 0 rfl) rfl))<|hy (fun _=>cx rfl rfl)<| ?_
     refine hx (gZ rfl Tryz.call212 (pb) [] rfl [] rfl ?_ ?_)
     ·rintro _ _ _ ⟨rfl,rfl,rfl,q3⟩
      refine eA<|jc<| ?_
      have hno:dx f most=([],2):=by
       rw[hopen]
       unfold gV
       rw[hu]
       exact if_pos (of_decide_eq_false q3)
      rw[hno]
      refine mR (by simp) Tryz.call210 (gM) [1,0] rfl [] rfl ?_
      rintro _ _ _ ⟨rfl,rfl,rfl⟩
      refine qE (fun w m=>m.cQ (r' :=aK 5 1 (.slice none 0 0) 0 []) (.refl _ _) (Own.nil _ _ _ _) (fun k hk=>hk.elim)) ?_
      exact ir rfl rfl rfl dB lU (fun m=>aA (m.aU 1 rfl) (i:=0) rfl) (fun m=>aA (m.aU 2 rfl) (i:=0) rfl) [0] rfl [] rfl ⟨_,rfl,rfl,rfl⟩
     ·rintro _ _ _ ⟨rfl,rfl,rfl,q3⟩
      have hE0:(lD (k:Int) (dR f) []).2=0:=of_decide_eq_true q3
      obtain⟨u,hu2⟩:∃u,lD (k:Int) (dR f) []=(u,0):=⟨_,Prod.ext rfl hE0⟩
      rw[hu2]at hu hul
      rw[hu2]
      dsimp only
      have hun:u.length≤1000000:=by
       rcases hul.1 with h|h
       ·have h:(u.length:Int)≤k:=h
        omega
       ·have h:u=[]:=h
        rw[h];exact Nat.zero_le _
      refine ag<|aB [28,6,5,4,0,1] rfl<|aj (X' :=[_,_,_,_]) (S' :=[_,_]) (fun _ m=>m)<|ab<|ae<|ai<|hy (fun m=>ao rfl dB (aA (m.aU 1 rfl) rfl))<|hy (fun _=>aY rfl Tryz.underlying27)<|aw rfl<|hy (fun _=>cx rfl rfl)<| ?_
      refine hx (gZ rfl Tryz.call212 (pb) [] rfl [] rfl ?_ ?_)
      ·rintro _ _ _ ⟨rfl,rfl,rfl,q4⟩
       refine eA<|jc<| ?_
       have hno:dx f most=([],2):=by
        rw[hopen]
        unfold gV
        rw[hu]
        exact(if_neg (by simp)).trans (if_pos (by have:=of_decide_eq_false q4;simp only;omega))
       rw[hno]
       refine mR (by simp) Tryz.call210 (gM) [1,0] rfl [] rfl ?_
       rintro _ _ _ ⟨rfl,rfl,rfl⟩
       refine qE (fun w m=>m.cQ (r' :=aK 5 1 (.slice none 0 0) 0 []) (.refl _ _) (Own.nil _ _ _ _) (fun k hk=>hk.elim)) ?_
       exact ir rfl rfl rfl dB lU (fun m=>aA (m.aU 1 rfl) (i:=0) rfl) (fun m=>aA (m.aU 2 rfl) (i:=0) rfl) [0] rfl [] rfl ⟨_,rfl,rfl,rfl⟩
      ·rintro _ _ _ ⟨rfl,rfl,rfl,q4⟩
       have hlen:(u).length=k:=by have:=of_decide_eq_true q4;omega
       have hgo:dx f most=if jY (dE u)≠f.drop (f.length-4)then([],7)else(u,0):=by
        rw[hopen]
        unfold gV
        rw[hu]
        exact(if_neg (by simp)).trans (if_neg (by simp only;omega))
       refine aJ (fun w m=>m.fA 1 rfl (View.drop (n:=f.length) (c:=c) (k:=f.length-4) (by omega) (by omega))) ?_
       refine az (fun m=>eG (m.rd 0 rfl)) ?_
       rintro⟨hl_t,hA_t⟩
       have hcl:=jW u
       refine ag<|aB [28,6,5,4,0,1] rfl<|aj (X' :=[_,_,_,_]) (S' :=[_,_,_]) (fun _ m=>m)<|ab<|ae<|CQ [43,44,45,46,47,48,49,50,51,52] [0,0,0,0] [0,1,2] rfl rfl [1,2,8,9] [(0,some 0),(3,some 2),(4,some 4),(5,some 2),(6,some 2),(7,some 2),(1,none),(2,none),(8,none),(9,none)] (by kernel_rfl) (by kernel_rfl) (by kernel_rfl) rfl 99<|bZ (fun m=>ao rfl dB (aA (m.aU 1 rfl) rfl))<|ak (ah rfl)<|ak (ah rfl)<|ak (aY rfl Tryz.underlying27)<|ak (yV (cn rfl rfl (bA (by omega) (by omega))) ((show Value.int .i64 ((f.length:Int)-4)= .int .i64 ((f.length-4:Nat):Int) by congr 1;omega)))<|ak (dP rfl rfl Tryz.underlying27 dU rfl (by omega))<| ?_
       refine dF (c6 rfl Tryz.call180 (pM (by omega)) [] rfl (.x 2 rfl .own .nil) ?_)
       rintro _ _ _ ⟨rfl,rfl,rfl⟩
       refine⟨rfl, ?_⟩
       refine⟨(fun _=>wk [0,0,0,0] [0,1,2] rfl rfl), ?_⟩
       refine dF (aq rfl Tryz.call179 (jG (by omega)) [] rfl [] rfl ?_)
       rintro _ _ _ ⟨v3,rfl,rfl,rfl⟩
       refine⟨(fun _=>wk [1,1,1,1] [0,1,2] rfl rfl), ?_⟩
       refine cd (fun m=>(m.own 0 rfl).slice) ?_
       rintro⟨A_x3,c_x3,rfl,hc_x3⟩
       refine cd (fun m=>(m.ord 0 rfl).2.1) fun hA_x3=> ?_
       refine dF (c6 rfl Tryz.call215 (pz) [] rfl (.x 0 rfl .own (.s 0 rfl .nil)) ?_)
       rintro _ _ _ ⟨rfl,rfl,rfl⟩
       refine⟨rfl, ?_⟩
       refine⟨(fun _=>wk [1,1,1,1] [0,1,2] rfl rfl), ?_⟩
       refine dF (gZ rfl Tryz.call212 (pb) [] rfl [] rfl ?_ ?_)
       ·rintro _ _ _ ⟨rfl,rfl,rfl,q5⟩
        refine FE<|eA<|jc<| ?_
        rw[(hgo.trans (if_pos (of_decide_eq_false q5)))]
        refine mR (by simp) Tryz.call210 (gM) [2,1] rfl [] rfl ?_
        rintro _ _ _ ⟨rfl,rfl,rfl⟩
        refine qE (fun w m=>m.cQ (r' :=aK 5 1 (.slice none 0 0) 0 []) (.refl _ _) (Own.nil _ _ _ _) (fun k hk=>hk.elim)) ?_
        exact ir rfl rfl rfl dB lU (fun m=>aA (m.aU 1 rfl) (i:=0) rfl) (fun m=>aA (m.aU 2 rfl) (i:=0) rfl) [0] rfl [] rfl ⟨_,rfl,rfl,rfl⟩
       ·rintro _ _ _ ⟨rfl,rfl,rfl,q5⟩
        refine⟨(fun _=>wk [1,1,1,1] [0,1,2] rfl rfl), ?_⟩
        rw[hgo.trans (if_neg (fun h=>h (of_decide_eq_true q5)))]
        refine CK<|aB [28,6,5,4,0,1] rfl<|aj (X' :=[_,_,_,_,_]) (S' :=[_,_,_]) (fun _ m=>m)<|ab<|ae<|ai<|hy (fun m=>ao rfl dB (aA (m.aU 2 rfl) rfl))<| ?_
        refine cI (dI 2 rfl rfl rfl iY rfl (by first|exact Nat.le_of_ble_eq_true rfl|simp) ?_)
        refine cI (dI 2 rfl rfl rfl y5 rfl (by first|exact Nat.le_of_ble_eq_true rfl|simp) ?_)
        refine ag<|aB [28,6,5,4,0,1] rfl<|aj (X' :=[_,_,_,_,_]) (S' :=[_,_,_]) (fun _ m=>m)<|ab<|aV<| ?_
        refine yc trivial ?_
        refine mR (by simp) Tryz.call210 (vO) [1,0] rfl [] rfl ?_
        rintro _ _ _ ⟨rfl,rfl,rfl⟩
        exact ir rfl rfl rfl dB lU (fun m=>aA (m.aU 0 rfl) (i:=0) rfl) (fun m=>aA (m.aU 1 rfl) (i:=0) rfl) [3] rfl [] rfl ⟨_,rfl,rfl,rfl⟩
    ·have hu:zB f k=(dR f,0):=by
      unfold zB
      exact if_neg fun e=>hpk ⟨by rw[hL];rfl,e⟩
     refine aC<|ab<|ae<|ai<|hy (fun m=>ao rfl dB (aA (m.aU 0 rfl) rfl))<|hy (fun _=>aY rfl Tryz.underlying27)<|aw rfl<|hy (fun _=>cx rfl rfl)<| ?_
     refine hx (gZ rfl Tryz.call212 (pb) [] rfl [] rfl ?_ ?_)
     ·rintro _ _ _ ⟨rfl,rfl,rfl,q4⟩
      refine eA<|jc<| ?_
      have hno:dx f most=([],2):=by
       rw[hopen]
       unfold gV
       rw[hu]
       exact(if_neg (by simp)).trans (if_pos (by have:=of_decide_eq_false q4;simp only;omega))
      rw[hno]
      refine mR (by simp) Tryz.call210 (gM) [0,1] rfl [] rfl ?_
      rintro _ _ _ ⟨rfl,rfl,rfl⟩
      refine qE (fun w m=>m.cQ (r' :=aK 5 1 (.slice none 0 0) 0 []) (.refl _ _) (Own.nil _ _ _ _) (fun k hk=>hk.elim)) ?_
      exact ir rfl rfl rfl dB lU (fun m=>aA (m.aU 1 rfl) (i:=0) rfl) (fun m=>aA (m.aU 2 rfl) (i:=0) rfl) [0] rfl [] rfl ⟨_,rfl,rfl,rfl⟩
     ·rintro _ _ _ ⟨rfl,rfl,rfl,q4⟩
      have hlen:((dR f)).length=k:=by have:=of_decide_eq_true q4;omega
      have hgo:dx f most=if jY (dE (dR f))≠f.drop (f.length-4)then([],7)else((dR f),0):=by
       rw[hopen]
       unfold gV
       rw[hu]
       exact(if_neg (by simp)).trans (if_neg (by simp only;omega))
      refine aJ (fun w m=>m.fA 1 rfl (View.drop (n:=f.length) (c:=c) (k:=f.length-4) (by omega) (by omega))) ?_
      refine az (fun m=>eG (m.rd 0 rfl)) ?_
      rintro⟨hl_t,hA_t⟩
      have hcl:=jW (dR f)
      refine ag<|aB [28,6,5,4,0,1] rfl<|aj (X' :=[_,_,_]) (S' :=[_,_,_]) (fun _ m=>m)<|ab<|ae<|CQ [43,44,45,46,47,48,49,50,51,52] [0,0,0] [0,1,2] rfl rfl [1,2,8,9] [(0,some 0),(3,some 2),(4,some 4),(5,some 2),(6,some 2),(7,some 2),(1,none),(2,none),(8,none),(9,none)] (by kernel_rfl) (by kernel_rfl) (by kernel_rfl) rfl 99<|bZ (fun m=>ao rfl dB (aA (m.aU 0 rfl) rfl))<|ak (ah rfl)<|ak (ah rfl)<|ak (aY rfl Tryz.underlying27)<|ak (yV (cn rfl rfl (bA (by omega) (by omega))) ((show Value.int .i64 ((f.length:Int)-4)= .int .i64 ((f.length-4:Nat):Int) by congr 1;omega)))<|ak (dP rfl rfl Tryz.underlying27 dU rfl (by omega))<| ?_
      refine dF (c6 rfl Tryz.call180 (pM (by omega)) [] rfl (.x 1 rfl .own .nil) ?_)
      rintro _ _ _ ⟨rfl,rfl,rfl⟩
      refine⟨rfl, ?_⟩
      refine⟨(fun _=>wk [0,0,0] [0,1,2] rfl rfl), ?_⟩
      refine dF (aq rfl Tryz.call179 (jG (by omega)) [] rfl [] rfl ?_)
      rintro _ _ _ ⟨v2,rfl,rfl,rfl⟩
      refine⟨(fun _=>wk [1,1,1] [0,1,2] rfl rfl), ?_⟩
      refine cd (fun m=>(m.own 0 rfl).slice) ?_
      rintro⟨A_x2,c_x2,rfl,hc_x2⟩
      refine cd (fun m=>(m.ord 0 rfl).2.1) fun hA_x2=> ?_
      refine dF (c6 rfl Tryz.call215 (pz) [] rfl (.x 0 rfl .own (.s 0 rfl .nil)) ?_)
      rintro _ _ _ ⟨rfl,rfl,rfl⟩
      refine⟨rfl, ?_⟩
      refine⟨(fun _=>wk [1,1,1] [0,1,2] rfl rfl), ?_⟩
      refine dF (gZ rfl Tryz.call212 (pb) [] rfl [] rfl ?_ ?_)
      ·rintro _ _ _ ⟨rfl,rfl,rfl,q5⟩
       refine FE<|eA<|jc<| ?_
       rw[(hgo.trans (if_pos (of_decide_eq_false q5)))]
       refine mR (by simp) Tryz.call210 (gM) [1,2] rfl [] rfl ?_
       rintro _ _ _ ⟨rfl,rfl,rfl⟩
       refine qE (fun w m=>m.cQ (r' :=aK 5 1 (.slice none 0 0) 0 []) (.refl _ _) (Own.nil _ _ _ _) (fun k hk=>hk.elim)) ?_
       exact ir rfl rfl rfl dB lU (fun m=>aA (m.aU 1 rfl) (i:=0) rfl) (fun m=>aA (m.aU 2 rfl) (i:=0) rfl) [0] rfl [] rfl ⟨_,rfl,rfl,rfl⟩
      ·rintro _ _ _ ⟨rfl,rfl,rfl,q5⟩
       refine⟨(fun _=>wk [1,1,1] [0,1,2] rfl rfl), ?_⟩
       rw[hgo.trans (if_neg (fun h=>h (of_decide_eq_true q5)))]
       refine CK<|aB [28,6,5,4,0,1] rfl<|aj (X' :=[_,_,_,_]) (S' :=[_,_,_]) (fun _ m=>m)<|ab<|ae<|ai<|hy (fun m=>ao rfl dB (aA (m.aU 1 rfl) rfl))<| ?_
       refine cI (dI 1 rfl rfl rfl iY rfl (by first|exact Nat.le_of_ble_eq_true rfl|simp) ?_)
       refine cI (dI 3 rfl rfl rfl y5 rfl (by first|exact Nat.le_of_ble_eq_true rfl|simp) ?_)
       refine ag<|aB [28,6,5,4,0,1] rfl<|aj (X' :=[_,_,_,_]) (S' :=[_,_,_]) (fun _ m=>m)<|ab<|aV<| ?_
       refine yc trivial ?_
       refine mR (by simp) Tryz.call210 (vO) [1,0] rfl [] rfl ?_
       rintro _ _ _ ⟨rfl,rfl,rfl⟩
       exact ir rfl rfl rfl dB lU (fun m=>aA (m.aU 0 rfl) (i:=0) rfl) (fun m=>aA (m.aU 1 rfl) (i:=0) rfl) [3] rfl [] rfl ⟨_,rfl,rfl,rfl⟩
end Go.Proofs.YtmibdabdlgmafaaGreatDoor
end
section
set_option maxRecDepth 20000
namespace Go.Proofs.YtmibdabdlgmafaaGreatDoor
open Go.Eng Go.Hx
structure u5 where
 h:List UInt32
 n:Nat
 A:Option Addr
 c:Nat
 rest:List UInt8
def ob(h:List UInt32)(n:Nat)(A:Option Addr)(m c:Nat):List Value:=ee h++[.int .i64 (n:Int),.slice A m c]
abbrev n9(g:Nat)(s:u5):bl:=eY [aH g 308 (ob s.h s.n s.A s.rest.length s.c),aK 5 1 (.slice s.A s.rest.length s.c) s.rest.length (aW s.rest)]
structure u5.ok(s:u5)(all:List UInt8):Prop where
 len:s.h.length=8
 n:s.n=all.length
 Kf:∃d,d++s.rest=all∧d.length % 64=0∧s.h=fN mQ d
theorem kh{h:List UInt32}{n:Nat}{A:Option Addr}{m c:Nat}(hh:h.length=8):(ob h n A m c).length=10:=by simp[ob,ee,hh]
theorem yC{h:List UInt32}{n:Nat}{A:Option Addr}{m c:Nat}(hh:h.length=8):(ob h n A m c)[8]? =some (.int .i64 (n:Int)):=by
 rw[ob,List.getElem?_append_right (by rw[a8];omega),a8,hh];rfl
theorem uG{h:List UInt32}{n:Nat}{A:Option Addr}{m c:Nat}(hh:h.length=8):(ob h n A m c)[9]? =some (.slice A m c):=by
 rw[ob,List.getElem?_append_right (by rw[a8];omega),a8,hh];rfl
theorem Aw{h:List UInt32}{n:Nat}{A:Option Addr}{m c:Nat}{j:Nat}{u:Value}(hu:(ee h)[j]? =some u):(ob h n A m c)[j]? =some u:=by
 rw[ob,List.getElem?_append_left ((List.getElem?_eq_some_iff.1 hu).1)];exact hu
theorem Cw{h:List UInt32}{n n' :Nat}{A:Option Addr}{m c:Nat}(hh:h.length=8):(ob h n A m c).set 8 (.int .i64 (n' :Int))=ob h n' A m c:=by
 rw[ob,List.set_append_right _ _ (by rw[a8];omega),a8,hh];rfl
theorem uy{h:List UInt32}{n:Nat}{A A' :Option Addr}{m c m' c' :Nat}(hh:h.length=8):(ob h n A m c).set 9 (.slice A' m' c')=ob h n A' m' c' :=by
 rw[ob,List.set_append_right _ _ (by rw[a8];omega),a8,hh];rfl
theorem EY{h h' :List UInt32}{n:Nat}{A:Option Addr}{m c:Nat}(hh:h.length=8)(hh' :h'.length=8):b8 (ob h n A m c) 0 (ee h')=ob h' n A m c:=by
 rw[b8,List.take_zero,List.nil_append,Nat.zero_add,a8,hh',ob,List.drop_append_of_le_length (by rw[a8];omega),List.drop_of_length_le (by rw[a8];omega)];rfl
theorem Ic:b7 Tryz.prog 172 [] [] [] (fun v_ X_ S_=>∃g,v_=(.pointer (some ⟨g,0,none⟩))∧X_=[n9 g ⟨mQ,0,none,0,[]⟩]∧S_=[]):=by
 refine aM (N:=4) Tryz.func172 rfl rfl (by simp) fun b=> ?_
 refine ae<|ai<|aG rfl<|ag<|ab<|ae<|ai<|hy (fun _=>yV (uB (n:=8) yp (by kernel_rfl) rfl (by kernel_rfl) rfl (by kernel_rfl) (by kernel_rfl) (rY (l:=[1779033703,3144134277,1013904242,2773480762,1359893119,2600822924,528734635,1541459225]))) ((rfl:_=Value.agg (ee mQ).toArray)))<|hy (fun _=>yV (bU FB rfl rfl (by kernel_rfl) (.cons (o:=0) (sz:=8) (by kernel_rfl) rfl rfl (Nat.le_of_ble_eq_true rfl) .nil)) ((rfl:_=Value.agg (ob mQ 0 none 0 0).toArray)))<| ?_
 refine hx (bu rfl (fun g3=> ?_))
 refine aG rfl<|ag<|aB [0] rfl<|aj (X' :=[_]) (S' :=[]) (fun _ m=>m)<|ab<|aV<| ?_
 refine aj (fun w m=>m.bz 0 rfl (show _=aH g3 308 (ob mQ 0 none 0 0)from congrArg (aH _ _) (aT _))) ?_
 refine aj (fun w m=>m.cQ (r' :=aK 5 1 (.slice none 0 0) 0 []) (.refl _ _) (Own.nil _ _ _ _) (fun k hk=>hk.elim)) ?_
 refine aj (X' :=n9 g3 ⟨mQ,0,none,0,[]⟩::_) (fun w m=>(m.perm (ar [1,0] _ [_,_] _ rfl)).pack) ?_
 exact bc trivial rfl rfl [0] rfl [] rfl ⟨_,rfl,rfl,rfl⟩
theorem HJ:u5.ok ⟨mQ,0,none,0,[]⟩ []:=⟨rfl,rfl,[],rfl,rfl,rfl⟩
theorem x5{g:Nat}{s:u5}{B:Option Addr}{mb mc:Nat}{l:List UInt8}(hh:s.h.length=8)(hn:s.n+mb≤1000000000000000)(hr:s.rest.length+mb≤140737488355328):b7 Tryz.prog 173 [.pointer (some ⟨g,0,none⟩),.slice B mb mc] [n9 g s] [cL 1 B mb (aW l),dZ] (fun v_ X_ S_=>∃s1,v_=(.tuple #[])∧X_=[n9 g s1]∧S_=[]∧(s1.rest.length<64∧∀all,s.ok all→s1.ok (all++l))):=by
 refine aM (N:=49) Tryz.func173 rfl rfl (by simp) fun b=> ?_
 refine a6 (fun m=>eG (m.rd 0 rfl)) ?_
 rintro⟨hl_r,hA_r⟩
 have hlm:l.length=mb:=hl_r
 have hl0:=kh (n:=s.n) (A:=s.A) (m:=s.rest.length) (c:=s.c) hh
 refine bk (fun w m=>(m.perm (ar [0] _ [_] _ rfl)).unpack) ?_
 refine ae<|ai<|aw rfl<|hy (fun _=>aO rfl)<|hy (fun _=>aF rfl nr (by decide))<|hy (fun m=>ao rfl dD ((m.aU 0 rfl).au 8 _ (yC hh)))<|aw rfl<|hy (fun _=>aY rfl Tryz.underlying27)<|hy (fun _=>aP rfl rfl (bA (by omega) (by omega)))<|hy (fun _=>aO rfl)<|hy (fun _=>aF rfl nr (by decide))<| ?_
 refine cI (b9 0 rfl rfl rfl ue rfl (by rw[hl0];decide) ?_)
 refine ag<|aB [0,1] rfl<|aj (X' :=[_,_]) (S' :=[_,_]) (fun _ m=>m)<|ab<|ae<|ai<| ?_
 refine aJ (fun w m=>m.bz 0 rfl (show _=aH g 308 (ob s.h (s.n+mb) s.A s.rest.length s.c)from by rw[Nat.zero_add,←Int.natCast_add,Cw hh])) ?_
 refine aw rfl<|aw rfl<|hy (fun _=>aO rfl)<|hy (fun _=>aF rfl kg (by decide))<|hy (fun m=>ao rfl dB ((m.aU 0 rfl).au 9 _ (uG hh)))<|aw rfl<| ?_
 refine hx (bs 1 rfl rfl rfl Tryz.underlying27 Tryz.underlying27 (by exact .inl rfl) fi rfl (fun m=>Src.bJ (m.rd 0 rfl)) bn (by unfold maxLen;omega) (by omega) (fun u=> ?_))
 refine az (fun m=>(m.own 0 rfl).slice) ?_
 rintro⟨A_d1,c_d1,rfl,hc_d1⟩
 refine az (fun m=>(m.ord 0 rfl).2.1) fun hA_d1=> ?_
 refine aJ (fun w m=>m.bz 0 rfl (show _=aK 5 1 (.slice A_d1 (s.rest++l).length c_d1) (s.rest++l).length (aW (s.rest++l))from by rw[List.length_append,hlm];simp[aW])) ?_
 have hls:=kh (n:=s.n+mb) (A:=s.A) (m:=s.rest.length) (c:=s.c) hh
 refine hy (fun _=>aO rfl)<|hy (fun _=>aF rfl kg (by decide))<| ?_
 refine cI (b9 1 rfl rfl rfl iY rfl (by rw[hls];decide) ?_)
 refine ag<|aB [0,1] rfl<|aj (X' :=[_,_]) (S' :=[_,_]) (fun _ m=>m)<|ab<|aN<| ?_
 refine bk (fun w m=>m.bz 0 rfl (show _=aH g 308 (ob s.h (s.n+mb) A_d1 (s.rest++l).length c_d1)from by rw[Nat.zero_add,uy hh,List.length_append,hlm])) ?_
 have hlen:(s.rest++l).length=s.rest.length+mb:=by rw[List.length_append,hlm]
 refine tT (fun h A1 c1 q dn=>q.length) (fun h A1 c1 q dn=>[]) (fun h A1 c1 q dn=>[aH g 308 (ob h (s.n+mb) A1 q.length c1),aK 5 1 (.slice A1 q.length c1) q.length (aW q)]) (fun h A1 c1 q dn=>[]) (fun h A1 c1 q dn=>h.length=8∧q.length≤c1∧dn++q=s.rest++l∧dn.length % 64=0∧∀D,D.length % 64=0→s.h=fN mQ D→h=fN mQ (D++dn)) s.h A_d1 c_d1 (s.rest++l) [] [(0,_),(1,_)] ⟨rfl,rfl,trivial⟩ [0,0] rfl [] rfl (⟨hh,(by omega),rfl,rfl,fun D _ e=>by rw[List.append_nil];exact e⟩) trivial (fun h A1 c1 q dn ⟨h8,hqc,hdq,hd64,hD⟩=> ?_)
 have hls:=kh (n:=s.n+mb) (A:=A1) (m:=q.length) (c:=c1) h8
 refine ae<|ae<|ai<|aw rfl<|hy (fun _=>aO rfl)<|hy (fun _=>aF rfl kg (by decide))<|hy (fun m=>ao rfl dB ((m.aU 0 rfl).au 9 _ (uG h8)))<|hy (fun _=>aY rfl Tryz.underlying27)<|hy (fun _=>dL rfl rfl)<|ag<|aB [27,0,1] rfl<|ab<| ?_
 refine cB rfl (fun hge=> ?_) (fun hge=> ?_)
 ·have hq64:64≤q.length:=by omega
  refine aC<|ab<|aN<|ae<|cD [10,13] [(0,some 1),(1,some 0),(2,some 0),(3,some 0),(4,some 0),(5,some 1),(6,some 0),(7,some 0),(8,some 0),(9,some 0),(10,none),(11,some 1),(12,some 1),(13,none)] (by kernel_rfl) (by kernel_rfl) rfl 1<|ak (ah rfl)<|ak (ah rfl)<|ak (aO rfl)<|ak (aF rfl qa (by decide))<|bZ (fun m=>yV (aQ rfl sC l8 (by rw[a8,h8]) (fun j u hu=>(m.aU 0 rfl).au j u (Aw hu))) ((rfl:_=Value.agg (ee h).toArray)))<|ak (ah rfl)<|ak (aO rfl)<|ak (aF rfl kg (by decide))<|bZ (fun m=>ao rfl dB ((m.aU 0 rfl).au 9 _ (uG h8)))<|ak (kq rfl rfl Tryz.underlying27 dU (show((64:Nat):Int)=64 from rfl) (by omega))<| ?_
  refine dF (c6 rfl Tryz.call227 (JV (by omega) h8 (l:=(q.take 64))) [] rfl (.x 1 rfl (View.own.trans (View.take hq64)) (.s 1 rfl .nil)) ?_)
  rintro _ _ _ ⟨rfl,rfl,rfl⟩
  refine⟨rfl, ?_⟩
  refine⟨(fun _=>wk [0,0] [0,1] rfl rfl), ?_⟩
  refine ak (aO rfl)<|ak (aF rfl qa (by decide))<| ?_
  have hb8:=jq h8 (q.take 64)
  refine gu (p9 0 rfl rfl rfl l8 (by rw[a8,hb8]) gO (by rw[hls];decide) ⟨(fun h=>absurd h (by decide)), ?_⟩)
  refine ez (fun w m=>m.bz 0 rfl (show _=aH g 308 (ob (eF h (q.take 64)) (s.n+mb) A1 q.length c1)from by rw[Nat.zero_add,EY h8 hb8])) ?_
  have hls2:=kh (n:=s.n+mb) (A:=A1) (m:=q.length) (c:=c1) hb8
  refine ez (X' :=aK 5 1 (.slice (if c1=64 then A1 else A1.map (·.add (64*1))) (q.length-64) (c1-64)) (q.length-64) ((aW q).drop (64*1))::_) (fun w m=>(m.perm (ar [1] _ [_] _ rfl)).AZ (View.tj hq64 hqc)) ?_
  refine bq<|aB [27,0,1] rfl<|aj (X' :=[_,_]) (S' :=[_,_]) (fun _ m=>m)<|ab<|ai<|aw rfl<|aw rfl<|hy (fun _=>aO rfl)<|hy (fun _=>aF rfl kg (by decide))<|hy (fun m=>ao rfl dB ((m.aU 1 rfl).au 9 _ (uG hb8)))<|hy (fun _=>dP rfl rfl Tryz.underlying27 dU (show((64:Nat):Int)=64 from rfl) (by omega))<|hy (fun _=>aO rfl)<|hy (fun _=>aF rfl kg (by decide))<| ?_
  refine cI (b9 1 rfl rfl rfl iY rfl (by rw[hls2];decide) ?_)
  refine ag<|aB [27,0,1] rfl<|aj (X' :=[_,_]) (S' :=[_,_]) (fun _ m=>m)<|aS<| ?_
  have hqd:(q.drop 64).length=q.length-64:=List.length_drop
  have e9:(aW q).drop (64*1)=aW (q.drop 64):=by simp[aW,List.map_drop]
  generalize hA2:(if c1=64 then A1 else A1.map (·.add (64*1)))=A2
  refine aj (fun w m=>m.bz 0 rfl (show _=aH g 308 (ob (eF h (q.take 64)) (s.n+mb) A2 (q.drop 64).length (c1-64))from by rw[Nat.zero_add,uy hb8,hqd])) ?_
  refine aj (fun w m=>m.bz 1 rfl (show _=aK 5 1 (.slice A2 (q.drop 64).length (c1-64)) (q.drop 64).length (aW (q.drop 64))from by rw[hqd,e9])) ?_
  refine oJ (eF h (q.take 64)) A2 (c1-64) (q.drop 64) (dn++q.take 64) ⟨rfl,rfl,trivial⟩ [1,0] rfl [0,1] rfl (⟨hb8,by omega,by rw[List.append_assoc,List.take_append_drop];exact hdq,by rw[List.length_append,List.length_take];omega,fun D h1 h2=>by rw[←List.append_assoc,qm (by rw[List.length_append];omega) (by rw[List.length_take];omega),←hD D h1 h2]⟩) (by omega)
 ·refine bG<|an<|an<|aE<| ?_
  have hok:∀all,s.ok all→u5.ok ⟨h,s.n+mb,A1,c1,q⟩ (all++l):=fun all ok=>by
   obtain⟨D,e1,e2,e3⟩:=ok.Kf
   refine⟨h8, ?_,D++dn, ?_, ?_,hD D e2 e3⟩
   ·show s.n+mb=_
    rw[List.length_append,ok.n,hlm]
   ·show(D++dn)++q=_
    rw[List.append_assoc,hdq,←List.append_assoc,e1]
   ·rw[List.length_append];omega
  refine aj (X' :=n9 g ⟨h,s.n+mb,A1,c1,q⟩::_) (fun w m=>(m.perm (ar [0,0] _ [_,_] _ rfl)).pack) ?_
  exact eU trivial rfl [0] rfl [] rfl ⟨_,rfl,rfl,rfl,⟨(by show q.length<64;omega),hok⟩⟩
theorem EK{h:List UInt32}{n:Nat}{A:Option Addr}{m c:Nat}(hh:h.length=8){z:List Value}(hz:z.length=10):b8 (b8 (b8 z 0 (ee h)) 8 [.int .i64 (n:Int)]) 9 [.slice A m c]=ob h n A m c:=by
 have hw:(ee h).length=8:=by rw[a8,hh]
 have e1:b8 z 0 (ee h)=ee h++z.drop 8:=by simp[b8,hw]
 match hq:z.drop 8,(show(z.drop 8).length=2 by rw[List.length_drop,hz])with
 | [x,y],_=>
  rw[e1,hq]
  have e2:b8 (ee h++[x,y]) 8 [.int .i64 (n:Int)]=ee h++[.int .i64 (n:Int),y]:=by
   rw[b8,List.take_append_of_le_length (by omega),List.take_of_length_le (by omega),List.drop_append,List.drop_of_length_le (by omega)]
   simp[hw]
  rw[e2,b8,List.take_append,List.take_of_length_le (by omega),List.drop_of_length_le (by simp[hw])]
  simp[hw,ob]
theorem Gw{P:Program}{pl:Nat→Option (Nat×Nat)}{h:List UInt32}(hh:h.length=8){zs:List Value}(hz:zs.length=10)(p0:pl 0=some (0,8))(p1:pl 1=some (8,1))(p2:pl 2=some (9,1)){n:Nat}{A:Option Addr}{m c:Nat}:
  xX P pl zs [(0,.agg (ee h).toArray),(1,.int .i64 (n:Int)),(2,.slice A m c)] (ob h n A m c):=by
 have hw:(ee h).length=8:=by rw[a8,hh]
 have l1:(b8 zs 0 (ee h)).length=10:=by rw[gS (by omega),hz]
 have l2:(b8 (b8 zs 0 (ee h)) 8 [Value.int .i64 (n:Int)]).length=10:=by rw[gS (by rw[l1];show 8+1≤10;decide),l1]
 refine .cons (vs:=ee h) p0 rfl hw (by omega) (.cons (vs:=[.int .i64 (n:Int)]) p1 rfl rfl (by omega) (.cons (vs:=[.slice A m c]) p2 rfl rfl (by omega) ?_))
 have e:=EK (n:=n) (A:=A) (m:=m) (c:=c) hh hz
 show xX P pl (b8 (b8 (b8 zs 0 (ee h)) 8 [.int .i64 (n:Int)]) 9 [.slice A m c]) [] _
 rw[e]
 exact .nil
theorem Ep{g:Nat}{s:u5}(hh:s.h.length=8)(hr:s.rest.length≤140737488351232):b7 Tryz.prog 228 [.pointer (some ⟨g,0,none⟩)] [n9 g s] [] (fun v_ X_ S_=>∃g2 s2,v_=(.pointer (some ⟨g2,0,none⟩))∧X_=[n9 g s,n9 g2 s2]∧S_=[]∧(s2.h=s.h∧s2.n=s.n∧s2.rest=s.rest)):=by
 refine aM (N:=18) Tryz.func228 rfl rfl (by simp) fun b=> ?_
 refine bk (fun w m=>(m.perm (ar [0] _ [_] _ rfl)).unpack) ?_
 have hl0:=kh (n:=s.n) (A:=s.A) (m:=s.rest.length) (c:=s.c) hh
 refine ae<|ai<|aG rfl<|ag<|ab<|ae<|cD [12,14] [(0,some 2),(1,some 1),(2,some 1),(3,some 1),(4,some 2),(5,some 1),(6,some 1),(7,some 1),(8,some 2),(9,some 2),(10,some 0),(11,some 0),(12,none),(13,some 1),(14,none),(15,some 2)] (by kernel_rfl) (by kernel_rfl) rfl 99<|ak (ah rfl)<|ak (aO rfl)<|ak (aF rfl qa (by decide))<|bZ (fun m=>yV (aQ rfl sC l8 (by rw[a8,hh]) (fun j u hu=>(m.aU 0 rfl).au j u (Aw hu))) ((rfl:_=Value.agg (ee s.h).toArray)))<|ak (ah rfl)<|ak (aO rfl)<|ak (aF rfl nr (by decide))<|bZ (fun m=>ao rfl dD ((m.aU 0 rfl).au 8 _ (yC hh)))<|ak (ah rfl)<|ak (aO rfl)<|ak (aF rfl kg (by decide))<|bZ (fun m=>ao rfl dB ((m.aU 0 rfl).au 9 _ (uG hh)))<| ?_
 refine dF (c6 rfl Tryz.call117 (mN (by omega)) [] rfl (.x 1 rfl .own .nil) ?_)
 rintro _ _ _ ⟨v,rfl,rfl,rfl⟩
 refine⟨rfl, ?_⟩
 refine⟨(fun _=>wk [1,1] [] rfl rfl), ?_⟩
 refine cd (fun m=>(m.own 0 rfl).slice) ?_
 rintro⟨A_x,c_x,rfl,hc_x⟩
 refine cd (fun m=>(m.ord 0 rfl).2.1) fun hA_x=> ?_
 refine ak (bU FB rfl rfl (by kernel_rfl) (Gw hh rfl (by kernel_rfl) (by kernel_rfl) (by kernel_rfl)))<| ?_
 refine dF (bu rfl (fun g17=>⟨(fun _=>wk [2,2] [] rfl rfl), ?_⟩))
 refine ak (al rfl)<|bq<|aB [2,0] rfl<|aj (X' :=[_,_,_,_]) (S' :=[]) (fun _ m=>m)<|ab<|aV<| ?_
 refine aj (fun w m=>m.bz 0 rfl (show _=aH g17 308 (ob s.h s.n A_x s.rest.length c_x)from congrArg (aH _ _) (aT _))) ?_
 refine aj (X' :=n9 g s::_) (fun w m=>(m.perm (ar [2,2] _ [_,_] _ rfl)).pack) ?_
 refine aj (X' :=n9 g17 ⟨s.h,s.n,A_x,c_x,s.rest⟩::_) (fun w m=>(m.perm (ar [1,1] _ [_,_] _ rfl)).pack) ?_
 exact bc trivial rfl rfl [1,0] rfl [] rfl ⟨_,_,rfl,rfl,rfl,⟨rfl,rfl,rfl⟩⟩
end Go.Proofs.YtmibdabdlgmafaaGreatDoor
end
section
set_option maxRecDepth 20000
namespace Go.Proofs.YtmibdabdlgmafaaGreatDoor
open Go.Eng Go.Hx
theorem Ah(n:Nat)(h:n<18446744073709551616):IntKind.u64.wrap (n:Int)=(n:Int):=by
 simp[IntKind.wrap,IntKind.signed,IntKind.bits];omega
theorem CP{n i:Nat}(hi:i<8):(uf n).take (i+1)=(uf n).take i++[UInt8.ofNat (n/256 ^ (7-i))]:=by
 rw[uf,←List.map_take,←List.map_take,List.take_range,List.take_range,show min (i+1) 8=i+1 by omega,show min i 8=i by omega,List.range_succ,List.map_append];rfl
theorem KJ{i:Nat}(hi:i<8):2 ^ (56-8*i)=256 ^ (7-i):=by
 rw[show(256:Nat)=2 ^ 8 from rfl,←Nat.pow_mul];congr 1;omega
theorem xH(h:List UInt32)(j:Nat)(hj:j<h.length):eV (h.take (j+1))=eV (h.take j)++C4 (h.getD j 0):=by
 rw[List.take_succ_eq_append_getElem hj,eV,eV,List.flatMap_append]
 simp[List.getD,List.getElem?_eq_getElem hj]
theorem qZ(h:List UInt32):∀j,j≤h.length→(eV (h.take j)).length=4*j
 |0,_=>rfl
 |j+1,hj=>by rw[xH h j (by omega),List.length_append,qZ h j (by omega)];show 4*j+4=_;omega
theorem Kp{p r:List UInt8}{k:Nat}{a b c d x y z u:UInt8}(hp:p.length=k):
  ((((aW (p++x::y::z::u::r)).set k (B8 a)).set (k+1) (B8 b)).set (k+2) (B8 c)).set (k+3) (B8 d)=aW (p++a::b::c::d::r):=by
 subst hp
 simp[aW,List.set_append]
theorem IV{g:Nat}{s:u5}{all:List UInt8}(ok:s.ok all)(hr:s.rest.length<64)(ha:all.length≤140737488351232):b7 Tryz.prog 174 [.pointer (some ⟨g,0,none⟩)] [n9 g s] [dZ] (fun v_ X_ S_=>v_=(.agg (aW (bL all)).toArray)∧X_=[n9 g s]∧S_=[]):=by
 have hh:=ok.len
 have hsn:=ok.n
 have hl0:=kh (n:=s.n) (A:=s.A) (m:=s.rest.length) (c:=s.c) hh
 have hz64:iT s.n<64:=Nat.mod_lt _ (by decide)
 have hzp:(s.n+(1+iT s.n)) % 64=56:=by unfold iT;omega
 have hzm:∀j,j<iT s.n→(s.n+(1+j)) % 64≠56:=fun j hj=>by unfold iT at hj;omega
 refine aM (N:=83) Tryz.func174 rfl rfl (by simp) fun b=> ?_
 refine ae<|ai<| ?_
 refine hx (bf dw (fun g2=> ?_))
 refine ag<|aj (X' :=[_,_]) (S' :=[_]) (fun _ m=>m)<|ab<|ae<|ai<|aw rfl<| ?_
 refine hx (aq rfl Tryz.call228 (Ep (by omega) (by omega)) [1] rfl [] rfl ?_)
 rintro _ _ _ ⟨g22,s2,rfl,rfl,rfl,hp⟩
 refine aG rfl<|ag<|aB [3,2,0] rfl<|aj (X' :=[_,_,_]) (S' :=[_]) (fun _ m=>m)<|ab<|ae<|ai<| ?_
 refine hx (bQ Tryz.underlying27 fi rfl rfl rfl (by simp[Value.cells,B8]) (by decide) (by decide) (fun g12=> ?_))
 have hA_b12:0<1→(some (⟨g12,0,none⟩:Addr))≠none:=fun _ h=>by cases h
 refine aG rfl<|ag<|aB [4,3,2,0] rfl<|aj (X' :=[_,_,_,_]) (S' :=[_]) (fun _ m=>m)<|ab<|ae<|aN<| ?_
 obtain⟨c1,c2,c3⟩:=hp
 refine bk (fun w m=>m.bz 0 rfl (show _=aK 5 1 (.slice (some ⟨g12,0,none⟩) 1 1) (1+0) (aW (128::List.replicate 0 0))from rfl)) ?_
 refine gJ (fun j A1 cc=>iT s.n-j) (fun j A1 cc=>[(4,.slice A1 (1+j) cc)]) (fun j A1 cc=>[aK 5 1 (.slice A1 (1+j) cc) (1+j) (aW (128::List.replicate j 0)),n9 g s]) (fun j A1 cc=>[]) (fun j A1 cc=>j≤iT s.n) 0 (some ⟨g12,0,none⟩) 1 [(3,_),(2,_),(0,_)] ⟨rfl,rfl,rfl,trivial⟩ [0,0] rfl [] rfl (Nat.zero_le _) ⟨rfl,trivial⟩ (fun j A1 cc hjz=> ?_)
 refine bk (fun w m=>(m.perm (ar [1] _ [_] _ rfl)).unpack) ?_
 refine ae<|ae<|ai<|aw rfl<|hy (fun _=>aO rfl)<|hy (fun _=>aF rfl nr (by decide))<|hy (fun m=>ao rfl dD ((m.aU 0 rfl).au 8 _ (yC hh)))<|aw rfl<|hy (fun _=>aY rfl Tryz.underlying27)<|hy (fun _=>aP rfl rfl (bA (by omega) (by omega)))<|hy (fun _=>hZ rfl rfl (by omega) (by omega))<|hy (fun _=>cT rfl rfl)<|ag<|aB [21,4,3,2,0] rfl<|ab<| ?_
 refine bk (X' :=n9 g s::_) (fun w m=>(m.perm (ar [0,0] _ [_,_] _ rfl)).pack) ?_
 refine cB rfl (fun hne=> ?_) (fun hne=> ?_)
 ·have hj:j<iT s.n:=by
   rcases Nat.lt_or_eq_of_le hjz with h|h
   ·exact h
   ·rw[←h]at hzp;omega
  refine aC<|ab<|aN<|ai<|aw rfl<| ?_
  refine hx (bQ Tryz.underlying27 fi rfl rfl rfl (by simp[Value.cells,B8]) (by decide) (by decide) (fun g23=> ?_))
  have hA_b23:0<1→(some (⟨g23,0,none⟩:Addr))≠none:=fun _ h=>by cases h
  refine aJ (fun w m=>m.bz 0 rfl (show _=aK 5 1 (.slice (some ⟨g23,0,none⟩) 1 1) 1 (aW [0])from rfl)) ?_
  refine hx (bs 2 rfl rfl rfl Tryz.underlying27 Tryz.underlying27 (by exact .inl rfl) fi rfl (fun m=>Src.bJ (m.ord 0 rfl)) bn (by unfold maxLen;omega) (by omega) (fun u=> ?_))
  refine az (fun m=>(m.own 0 rfl).slice) ?_
  rintro⟨A_b12,c_b12,rfl,hc_b12⟩
  refine az (fun m=>(m.ord 0 rfl).2.1) fun hA_b12=> ?_
  refine aG rfl<|ag<|aB [4,21,3,2,0] rfl<|aj (X' :=[_,_,_,_,_]) (S' :=[_]) (fun _ m=>m)<|aS<| ?_
  refine aj (fun w m=>m.bz 0 rfl (show _=aK 5 1 (.slice A_b12 (1+(j+1)) c_b12) (1+(j+1)) (aW (128::List.replicate (j+1) 0))from by rw[Nat.add_assoc,List.replicate_succ',aW,aW,aW,←List.map_append];rfl)) ?_
  refine fD (j+1) A_b12 c_b12 ⟨rfl,rfl,rfl,rfl,trivial⟩ [0,1,1,1] rfl [0] rfl (by omega) (by omega)
 ·have hj:j=iT s.n:=by
   refine Decidable.byContradiction fun hn=> ?_
   have:=hzm j (by omega)
   omega
  subst hj
  have hsl:IntKind.u64.wrap ((s.n:Int)*8)=((8*s.n:Nat):Int):=by
   rw[show(s.n:Int)*8=((8*s.n:Nat):Int) by omega]
   exact Ah _ (by omega)
  refine bG<|an<|an<|aE<|ab<|ae<|ai<|aw rfl<|hy (fun _=>aO rfl)<|hy (fun _=>aF rfl nr (by decide))<|hy (fun m=>ao rfl dD ((show eQ _ _ _ _ from m.JF 0 rfl 0 rfl).au 8 _ (yC hh)))<|hy (fun _=>bY rfl Tryz.underlying3 Tryz.underlying310 (Ah s.n (by omega)))<|hy (fun _=>vg (p:=8) rfl rfl (by decide) (by decide) (by decide) hsl)<|aG rfl<|ag<|aB [5,21,4,3,2,0] rfl<|ab<|ae<|ae<|ai<|aw rfl<|ag<|ab<|aN<| ?_
  generalize hz:iT s.n=z at hz64
  refine bk (fun w m=>m.bz 1 rfl (show _=aK 5 1 (.slice A1 (1+z+0) cc) (1+z+0) (aW (128::List.replicate z 0++(uf (8*s.n)).take 0))from by rw[List.take_zero,List.append_nil];rfl)) ?_
  refine gJ (fun i A2 ce=>8-i) (fun i A2 ce=>[(4,.slice A2 (1+z+i) ce),(31,.int .i64 (i:Nat))]) (fun i A2 ce=>[aK 5 1 (.slice A2 (1+z+i) ce) (1+z+i) (aW (128::List.replicate z 0++(uf (8*s.n)).take i))]) (fun i A2 ce=>[]) (fun i A2 ce=>i≤8) 0 A1 cc [(5,_),(21,_),(3,_),(2,_),(0,_)] ⟨rfl,rfl,rfl,rfl,rfl,trivial⟩ [0] rfl [] rfl (Nat.zero_le _) ⟨rfl,rfl,trivial⟩ (fun i A2 ce hi8=> ?_)
  refine ae<|ai<|hy (fun _=>bw rfl rfl)<|ag<|ab<|ae<| ?_
  refine cB rfl (fun hi=> ?_) (fun hi=> ?_)
  ·have hcv:IntKind.u8.wrap (((8*s.n:Nat):Int)/((2 ^ (56-8*i):Nat):Int))=((UInt8.ofNat (8*s.n/256 ^ (7-i))).toNat:Int):=by
    rw[←Int.natCast_ediv,KJ (by omega)]
    exact jm _
   have hsb:(56:Int)-8*(i:Int)=((56-8*i:Nat):Int):=by omega
   refine aC<|ab<|ae<|aN<|ae<|ai<|aw rfl<|aG rfl<|ag<|aB [6,32,4,31,5,21,3,2,0] rfl<|ab<|ai<|aw rfl<|aw rfl<|aw rfl<|hy (fun _=>fK rfl rfl (bA (by omega) (by omega)))<|hy (fun _=>cn rfl rfl (bA (by omega) (by omega)))<| ?_
   rw[hsb]
   refine hy (fun _=>nt rfl rfl (by omega) (by simp[IntKind.bits];omega) (show(2:Int) ^ (((56-8*i:Nat):Int)).toNat=((2 ^ (56-8*i):Nat):Int) by rw[Int.toNat_natCast];simp))<|hy (fun _=>bY rfl Tryz.underlying310 Tryz.underlying5 hcv)<| ?_
   refine hx (bQ Tryz.underlying27 fi rfl rfl rfl (by simp[Value.cells,B8]) (by decide) (by decide) (fun g41=> ?_))
   have hA_b41:0<1→(some (⟨g41,0,none⟩:Addr))≠none:=fun _ h=>by cases h
   refine aJ (fun w m=>m.bz 0 rfl (show _=aK 5 1 (.slice (some ⟨g41,0,none⟩) 1 1) 1 (aW [UInt8.ofNat (8*s.n/256 ^ (7-i))])from rfl)) ?_
   refine hx (bs 1 rfl rfl rfl Tryz.underlying27 Tryz.underlying27 (by exact .inl rfl) fi rfl (fun m=>Src.bJ (m.ord 0 rfl)) bn (by unfold maxLen;omega) (by omega) (fun u=> ?_))
   refine az (fun m=>(m.own 0 rfl).slice) ?_
   rintro⟨A_b12,c_b12,rfl,hc_b12⟩
   refine az (fun m=>(m.ord 0 rfl).2.1) fun hA_b12=> ?_
   refine aG rfl<|ag<|aB [4,6,32,31,5,21,3,2,0] rfl<|aj (X' :=[_,_,_,_,_]) (S' :=[_]) (fun _ m=>m)<|aS<|ab<|ai<|hy (fun _=>aP rfl rfl (bA (by omega) (by omega)))<|aw rfl<|ag<|aB [31,4,6,32,5,21,3,2,0] rfl<| ?_
   refine aj (fun w m=>m.bz 0 rfl (show _=aK 5 1 (.slice A_b12 (1+z+(i+1)) c_b12) (1+z+(i+1)) (aW (128::List.replicate z 0++(uf (8*s.n)).take (i+1)))from by rw[CP (by omega),←List.append_assoc];simp[aW,Nat.add_assoc])) ?_
   refine fD (i+1) A_b12 c_b12 ⟨rfl,rfl,rfl,rfl,rfl,rfl,rfl,trivial⟩ [0,1,1,1] rfl [0] rfl (by omega) (by omega)
  ·obtain rfl:i=8:=by omega
   have hpad:all++(128::List.replicate z 0++(uf (8*s.n)).take 8)=jz all:=by
    rw[List.take_of_length_le (by simp[uf]),jz,←hsn,hz,List.append_assoc]
   refine bG<|an<|an<|aE<|ab<|ae<|ai<|aw rfl<|aw rfl<| ?_
   refine hx (c6 rfl Tryz.call173 (x5 (by rw[c1];exact hh) (by rw[c2];omega) (by rw[c3];omega) (s:=s2) (l:=(128::List.replicate z 0++(uf (8*s.n)).take 8))) [2] rfl (.x 0 rfl .own (.s 0 rfl .nil)) ?_)
   rintro _ _ _ ⟨s1,rfl,rfl,rfl,hw⟩
   refine⟨rfl, ?_⟩
   obtain⟨hw1,hw2⟩:=hw
   have ok2:s2.ok all:=⟨by rw[c1];exact hh,by rw[c2];exact hsn,by rw[c1,c3];exact ok.Kf⟩
   have ok3:=hw2 all ok2
   rw[hpad]at ok3
   have hh3:=ok3.len
   have hfin:s1.h=fN mQ (jz all):=by
    obtain⟨D,e1,e2,e3⟩:=ok3.Kf
    have hl:=congrArg List.length e1
    rw[List.length_append]at hl
    have hp:=oX all
    have:s1.rest=[]:=List.eq_nil_of_length_eq_zero (by omega)
    rw[this,List.append_nil]at e1
    rw[e3,e1]
   have hsha:eV s1.h=bL all:=by rw[hfin];rfl
   have hd32:=qZ s1.h
   have hl3:=kh (n:=s1.n) (A:=s1.A) (m:=s1.rest.length) (c:=s1.c) hh3
   refine aJ (fun w m=>(m.perm (ar [0] _ [_] _ rfl)).unpack) ?_
   refine ag<|aB [32,4,31,5,21,3,2,0] rfl<|aj (X' :=[_,_,_,_,_]) (S' :=[_]) (fun _ m=>m)<|ab<|ae<|ai<| ?_
   refine hx (bf dw (fun g7=> ?_))
   refine aJ (fun w m=>m.bz 0 rfl (show _=aH g7 53 (aW (eV (s1.h.take 0)++List.replicate (32-4*0) 0))from rfl)) ?_
   refine ag<|aj (X' :=[_,_,_,_,_,_]) (S' :=[_]) (fun _ m=>m)<|ab<|ae<|ae<|ai<|aw rfl<|hy (fun _=>aO rfl)<|hy (fun _=>aF rfl qa (by decide))<|hy (fun m=>yV (aQ rfl sC l8 (by rw[a8,hh3]) (fun j u hu=>(m.aU 1 rfl).au j u (Aw hu))) ((rfl:_=Value.agg (ee s1.h).toArray)))<|aw rfl<|ag<|aB [51,50,7,32,4,31,5,21,3,2,0] rfl<|ab<|aN<| ?_
   refine de (fun k=>8-k) (fun k=>[(51,.int .i64 (k:Nat))]) (fun k=>[aH g7 53 (aW (eV (s1.h.take k)++List.replicate (32-4*k) 0))]) (fun k=>[]) (fun k=>k≤8) 0 [(50,_),(7,_),(32,_),(4,_),(31,_),(5,_),(21,_),(3,_),(2,_),(0,_)] ⟨rfl,rfl,rfl,rfl,rfl,rfl,rfl,rfl,rfl,rfl,trivial⟩ [0] rfl [] rfl (Nat.zero_le _) ⟨rfl,trivial⟩ (fun k hk8=> ?_)
   refine ae<|ai<|hy (fun _=>bw rfl rfl)<|ag<|ab<|ae<| ?_
   refine cB rfl (fun hk=> ?_) (fun hk=> ?_)
   ·have hdk:=hd32 k (by omega)
    have hr4:List.replicate (32-4*k) (0:UInt8)=0::0::0::0::List.replicate (32-4*(k+1)) 0:=by
     rw[show 32-4*k=(32-4*(k+1))+4 by omega];rfl
    refine aC<|ab<|ae<|aN<|ae<|ai<|aw rfl<|hy (fun _=>yV (FQ rfl rfl Tryz.underlying306 bI bV rfl (by omega) (br (by omega))) ((rfl:_=Wd (s1.h.getD k 0))))<|aG rfl<|aG rfl<|ag<|aB [9,8,52,51,50,7,32,4,31,5,21,3,2,0] rfl<|ab<|ai<|aw rfl<|hy (fun _=>fK rfl rfl (bA (by omega) (by omega)))<|aw rfl<|hy (fun _=>fK rfl rfl (bA (by omega) (by omega)))<|hy (fun _=>aP rfl rfl (bA (by omega) (by omega)))<|aw rfl<|hy (fun _=>fK rfl rfl (bA (by omega) (by omega)))<|hy (fun _=>aP rfl rfl (bA (by omega) (by omega)))<|aw rfl<|hy (fun _=>fK rfl rfl (bA (by omega) (by omega)))<|hy (fun _=>aP rfl rfl (bA (by omega) (by omega)))<|aw rfl<|hy (fun _=>lu (k:=24) (b:=16777216) (by decide) rfl rfl rfl)<|hy (fun _=>Bk rfl Tryz.underlying166 Tryz.underlying5)<|aw rfl<|hy (fun _=>lu (k:=16) (b:=65536) (by decide) rfl rfl rfl)<|hy (fun _=>Bk rfl Tryz.underlying166 Tryz.underlying5)<|aw rfl<|hy (fun _=>lu (k:=8) (b:=256) (by decide) rfl rfl rfl)<|hy (fun _=>Bk rfl Tryz.underlying166 Tryz.underlying5)<|aw rfl<|hy (fun _=>Bk rfl Tryz.underlying166 Tryz.underlying5)<|hy (fun _=>bS rfl rfl Tryz.underlying53 dU (show((4*k:Nat):Int)=_ by omega) (by omega))<| ?_
    refine cI (b9 0 rfl rfl rfl dU rfl (by simp[aW];omega) ?_)
    refine hy (fun _=>bS rfl rfl Tryz.underlying53 dU (show((4*k+1:Nat):Int)=_ by omega) (by omega))<| ?_
    refine cI (b9 0 rfl rfl rfl dU rfl (by simp[aW];omega) ?_)
    refine hy (fun _=>bS rfl rfl Tryz.underlying53 dU (show((4*k+2:Nat):Int)=_ by omega) (by omega))<| ?_
    refine cI (b9 0 rfl rfl rfl dU rfl (by simp[aW];omega) ?_)
    refine hy (fun _=>bS rfl rfl Tryz.underlying53 dU (show((4*k+3:Nat):Int)=_ by omega) (by omega))<| ?_
    refine cI (b9 0 rfl rfl rfl dU rfl (by simp[aW];omega) ?_)
    refine ag<|aB [9,8,52,51,50,7,32,4,31,5,21,3,2,0] rfl<|aj (X' :=[_,_,_,_,_,_]) (S' :=[_]) (fun _ m=>m)<|aS<|ab<|ai<|hy (fun _=>aP rfl rfl (bA (by omega) (by omega)))<|aw rfl<|ag<|aB [51,9,8,52,50,7,32,4,31,5,21,3,2,0] rfl<| ?_
    refine aj (fun w m=>m.bz 0 rfl (show _=aH g7 53 (aW (eV (s1.h.take (k+1))++List.replicate (32-4*(k+1)) 0))from by rw[hr4,Nat.zero_add,Nat.zero_add,Nat.zero_add,Nat.zero_add,Kp hdk,xH _ _ (by omega)];simp[C4])) ?_
    refine cM (k+1) ⟨rfl,rfl,rfl,rfl,rfl,rfl,rfl,rfl,rfl,rfl,rfl,trivial⟩ [0,0,0,0,0,0] rfl [0] rfl (by omega) (by omega)
   ·obtain rfl:k=8:=by omega
    refine bk (fun w m=>m.bz 0 rfl (show _=aH g7 53 (aW (bL all))from by rw[List.take_of_length_le (by omega),hsha];simp)) ?_
    refine bG<|an<|an<|aE<|ab<|ae<|ai<|hy (fun m=>yV (aQ rfl b5 bp (by rw[ax,bK]) ((m.aU 0 rfl).au)) ((rfl:_=Value.agg (aW (bL all)).toArray)))<| ?_
    refine cI (ba 5 rfl rfl rfl bp (by rw[ax,bK]) bn rfl ?_)
    refine ag<|aB [52,51,50,7,32,4,31,5,21,3,2,0] rfl<|aj (X' :=[_,_,_,_,_,_]) (S' :=[_]) (fun _ m=>m)<|ab<|aV<| ?_
    exact eO trivial rfl rfl b5 bp (by rw[ax,bK]) (fun m=>(m.aU 0 rfl).au) [5] rfl [] rfl ⟨rfl,rfl,rfl⟩
theorem tw{A:Option Addr}{n c:Nat}{l:List UInt8}(hn:n≤140737488351232):b7 Tryz.prog 102 [.slice A n c] [] [cL 1 A n (aW l),dZ] (fun v_ X_ S_=>v_=(.agg (aW (bL l)).toArray)∧X_=[]∧S_=[]):=by
 refine aM (N:=10) Tryz.func102 rfl rfl (by simp) fun b=> ?_
 refine a6 (fun m=>eG (m.rd 0 rfl)) ?_
 rintro⟨hl_r,hA_r⟩
 have hln:l.length=n:=hl_r
 refine ae<|ai<| ?_
 refine hx (bf dw (fun g2=> ?_))
 refine ag<|aj (X' :=[_]) (S' :=[_,_]) (fun _ m=>m)<|ab<|ae<|ai<| ?_
 refine hx (aq rfl Tryz.call172 (Ic) [] rfl [] rfl ?_)
 rintro _ _ _ ⟨g,rfl,rfl,rfl⟩
 refine aG rfl<|ag<|aB [3,2,0] rfl<|aj (X' :=[_,_]) (S' :=[_,_]) (fun _ m=>m)<|ab<|ae<|ai<|aw rfl<|aw rfl<| ?_
 refine hx (aq rfl Tryz.call173 (x5 rfl (by show 0+n≤_;omega) (by show 0+n≤_;omega) (s:=⟨mQ,0,none,0,[]⟩)) [0] rfl [0,1] rfl ?_)
 rintro _ _ _ ⟨s1,rfl,rfl,rfl,hw⟩
 refine ag<|aB [3,2,0] rfl<|aj (X' :=[_,_]) (S' :=[_,_]) (fun _ m=>m)<|ab<|ae<|ai<| ?_
 obtain⟨hw1,hw2⟩:=hw
 have ok1:=hw2 [] HJ
 rw[List.nil_append]at ok1
 refine aw rfl<| ?_
 refine hx (aq rfl Tryz.call174 (IV ok1 hw1 (by omega) (all:=l)) [0] rfl [1] rfl ?_)
 rintro _ _ _ ⟨rfl,rfl,rfl⟩
 refine cI (ba 1 rfl rfl rfl bp (by rw[ax,bK]) bn rfl ?_)
 refine ag<|aB [3,2,0] rfl<|aj (X' :=[_,_]) (S' :=[_,_]) (fun _ m=>m)<|ab<|aV<| ?_
 exact eO trivial rfl rfl b5 bp (by rw[ax,bK]) (fun m=>(m.aU 0 rfl).au) [] rfl [] rfl ⟨rfl,rfl,rfl⟩
end Go.Proofs.YtmibdabdlgmafaaGreatDoor
end
section
set_option maxRecDepth 20000
set_option maxHeartbeats 4000000
namespace Go.Proofs.YtmibdabdlgmafaaGreatDoor
open Go.Eng Go.Hx
theorem Jr{g:Nat}{st:da}{d:RD}{kk:Nat}{nm:List UInt8}(hD:DS st d kk)(hm:nm.length=32):b7 Tryz.prog 73 [.pointer (some ⟨g,0,none⟩),.agg (aW nm).toArray] [bF g st] [dZ] (fun v_ X_ S_=>∃v,v_=(.tuple #[v,.int .i64 (d.ic nm)])∧X_=[bF g st,aK 5 1 v (d.xq nm).length (aW (d.xq nm))]∧S_=[]):=by
 have hlen:=hD.wi (bx nm)
 have hol:=sG (f:=d.cS (bx nm)) (most:=4096) (by decide)
 refine aM (N:=33) Tryz.func73 rfl rfl (by simp) fun b=> ?_
 refine ae<|ai<| ?_
 refine hx (bu rfl (fun g3=> ?_))
 refine aJ (fun w m=>m.bz 0 rfl (show _=aH g3 53 (aW nm)from congrArg (aH _ _) (aT _))) ?_
 refine aG rfl<|aG rfl<|ag<|aj (X' :=[_,_]) (S' :=[_]) (fun _ m=>m)<|ab<|ae<|ai<|aw rfl<|hy (fun m=>aQ rfl b5 bp (by rw[ax];exact hm) ((m.aU 0 rfl).au))<| ?_
 refine hx (aq rfl Tryz.call94 (xd hm) [] rfl [] rfl ?_)
 rintro _ _ _ ⟨rfl,rfl,rfl⟩
 refine hx (aq rfl Tryz.call90 (F2 hD) [1] rfl [] rfl ?_)
 rintro _ _ _ ⟨v,rfl,rfl,rfl⟩
 refine az (fun m=>(m.own 1 rfl).slice) ?_
 rintro⟨A_x,c_x,rfl,hc_x⟩
 refine az (fun m=>(m.ord 1 rfl).2.1) fun hA_x=> ?_
 refine aw rfl<|hy (fun _=>aD rfl rfl)<|hy (fun _=>aD rfl rfl)<|aG rfl<|aG rfl<|ag<|aB [7,6,5,4,3,0,1] rfl<|aj (X' :=[_,_,_]) (S' :=[_]) (fun _ m=>m)<|ab<|ae<|ae<|ai<|aw rfl<|hy (fun _=>cT rfl rfl)<|ag<|aB [17,7,6,5,4,3,0,1] rfl<|ab<| ?_
 refine cB rfl (fun h1=> ?_) (fun h1=> ?_)
 ·rw[jI h1,ll (by rw[jI h1];exact h1)]
  refine ae<|ai<|aw rfl<|aG rfl<|aG rfl<|ag<|aB [5,4,17,7,6,3,0,1] rfl<|ab<|aV<|ay<| ?_
  refine aj (fun w m=>m.cQ (r' :=aK 5 1 (.slice none 0 0) 0 []) (.refl _ _) (Own.nil _ _ _ _) (fun k hk=>hk.elim)) ?_
  exact db trivial rfl rfl rfl [1,0] rfl [] rfl ⟨_,rfl,rfl,rfl⟩
 ·have h1:=Decidable.not_not.1 h1
  refine aC<|ab<|ae<|ai<|aw rfl<| ?_
  refine hx (c6 rfl Tryz.call155 (IA hc_x (by omega) (show(4096:Int)≤1000000 by decide)) [] rfl (.x 1 rfl .own .nil) ?_)
  rintro _ _ _ ⟨v2,rfl,rfl,rfl⟩
  refine⟨rfl, ?_⟩
  refine az (fun m=>(m.own 0 rfl).slice) ?_
  rintro⟨A_x2,c_x2,rfl,hc_x2⟩
  refine az (fun m=>(m.ord 0 rfl).2.1) fun hA_x2=> ?_
  refine aw rfl<|hy (fun _=>aD rfl rfl)<|hy (fun _=>aD rfl rfl)<|aG rfl<|aG rfl<|ag<|aB [7,8,17,6,5,4,3,0,1] rfl<|aj (X' :=[_,_,_,_]) (S' :=[_]) (fun _ m=>m)<|ab<|ae<|ae<|cD [4] [(0,some 0),(1,some 0),(2,some 0),(3,some 0),(5,some 1),(4,none),(6,some 1),(7,some 1)] (by kernel_rfl) (by kernel_rfl) rfl 99<|ak (ah rfl)<|ak (cT rfl rfl)<|ak (ah rfl)<| ?_
  refine iu 26 rfl (fun h2=> ?_) (fun h2=> ?_)
  ·have hE:=n5 (d:=d) (nm:=nm) h1 (.inl h2)
   rw[hE,ll (by rw[hE];decide)]
   refine aX rfl rfl rfl (by decide)<|aX rfl rfl rfl (by decide)<|xL rfl rfl rfl (by decide) (fun _=>wk [0,0,0,0] [0] rfl rfl)<|aX rfl rfl rfl (by decide)<|ak (bC rfl rfl)<|bq<|aB [31,7,8,17,6,5,4,3,0,1] rfl<|ab<| ?_
   refine fq rfl (rfl) ?_
   refine ae<|ai<|aG rfl<|aG rfl<|ag<|ab<|aV<|ay<| ?_
   refine aj (fun w m=>m.cQ (r' :=aK 5 1 (.slice none 0 0) 0 []) (.refl _ _) (Own.nil _ _ _ _) (fun k hk=>hk.elim)) ?_
   exact db trivial rfl rfl rfl [2,0] rfl [] rfl ⟨_,rfl,rfl,rfl⟩
  ·have h2:=Decidable.not_not.1 h2
   refine bB (o:=_) rfl rfl rfl (ah rfl)<|iW (o:=_) rfl rfl rfl (fun m=>aQ rfl b5 bp (by rw[ax];exact hm) ((m.aU 3 rfl).au))<| ?_
   refine El (o:=_) rfl rfl rfl (c6 rfl Tryz.call102 (tw (by omega)) [] rfl (.x 0 rfl .own (.s 0 rfl .nil)) ?_)
   rintro _ _ _ ⟨rfl,rfl,rfl⟩
   refine⟨rfl, ?_⟩
   refine⟨(fun _=>wk [0,0,0,0] [0] rfl rfl), ?_⟩
   refine bB (o:=_) rfl rfl rfl (ta rfl rfl (bK _) hm)<|ak (bo rfl rfl)<|bq<|aB [31,7,8,17,6,5,4,3,0,1] rfl<|aj (X' :=[_,_,_,_]) (S' :=[_]) (fun _ m=>m)<|ab<| ?_
   refine cB rfl (fun h3=> ?_) (fun h3=> ?_)
   ·have hE:=n5 (d:=d) (nm:=nm) h1 (.inr h3)
    rw[hE,ll (by rw[hE];decide)]
    refine ae<|ai<|aG rfl<|aG rfl<|ag<|ab<|aV<|ay<| ?_
    refine aj (fun w m=>m.cQ (r' :=aK 5 1 (.slice none 0 0) 0 []) (.refl _ _) (Own.nil _ _ _ _) (fun k hk=>hk.elim)) ?_
    exact db trivial rfl rfl rfl [2,0] rfl [] rfl ⟨_,rfl,rfl,rfl⟩
   ·have hE:=ya (d:=d) (nm:=nm) h1 (fun q=>q.elim (fun q=>q h2) h3)
    rw[hE,yL hE]
    refine aC<|ab<|ae<|ai<|aw rfl<|aG rfl<|aG rfl<|ag<|aB [5,4,31,7,8,17,6,3,0,1] rfl<|ab<|aV<| ?_
    exact db trivial rfl rfl rfl [1,0] rfl [] rfl ⟨_,rfl,rfl,rfl⟩
theorem Ku{g:Nat}{st:da}{d:RD}{kk:Nat}{nm:List UInt8}(hD:DS st d kk)(hm:nm.length=32):b7 Tryz.prog 145 [.pointer (some ⟨g,0,none⟩),.agg (aW nm).toArray] [bF g st] [dZ] (fun v_ X_ S_=>v_=(.bool (decide (d.ic nm=0)))∧X_=[bF g st]∧S_=[]):=by
 refine aM (N:=15) Tryz.func145 rfl rfl (by simp) fun b=> ?_
 refine ae<|ai<| ?_
 refine hx (bu rfl (fun g3=> ?_))
 refine aJ (fun w m=>m.bz 0 rfl (show _=aH g3 53 (aW nm)from congrArg (aH _ _) (aT _))) ?_
 refine aG rfl<|ag<|aj (X' :=[_,_]) (S' :=[_]) (fun _ m=>m)<|ab<|ae<|ai<|aw rfl<|hy (fun m=>aQ rfl b5 bp (by rw[ax];exact hm) ((m.aU 0 rfl).au))<| ?_
 refine hx (aq rfl Tryz.call73 (Jr hD hm) [1] rfl [0] rfl ?_)
 rintro _ _ _ ⟨v,rfl,rfl,rfl⟩
 refine az (fun m=>(m.own 1 rfl).slice) ?_
 rintro⟨A_x,c_x,rfl,hc_x⟩
 refine az (fun m=>(m.ord 1 rfl).2.1) fun hA_x=> ?_
 refine aw rfl<|hy (fun _=>aD rfl rfl)<|hy (fun _=>aD rfl rfl)<|aG rfl<|aG rfl<|ag<|aB [6,4,3,0,1] rfl<|aj (X' :=[_,_,_]) (S' :=[_]) (fun _ m=>m)<|ab<|ae<|ai<|aw rfl<|hy (fun _=>cx rfl rfl)<|aG rfl<|ag<|aB [4,6,3,0,1] rfl<|ab<|aV<| ?_
 exact bc trivial rfl rfl [0] rfl [] rfl ⟨rfl,rfl,rfl⟩
end Go.Proofs.YtmibdabdlgmafaaGreatDoor
end
section
set_option maxRecDepth 20000
set_option maxHeartbeats 4000000
namespace Go.Proofs.YtmibdabdlgmafaaGreatDoor
open Go.Eng Go.Hx
theorem IM:c7 Tryz.prog 179=some false:=by kernel_rfl
theorem Jc:fo Tryz.prog 179=some 1:=by kernel_rfl
theorem IH:TI Tryz.prog 179 .nilFunc 1 8:=by unfold TI;kernel_rfl
def vj(g:Nat)(L:List bl)(v:Value)(F:RD→RD×Int):Prop:=∃(f:Nat) (first cap:List Value),v= .func (.func f) first.toArray cap.toArray∧(∀args w,(callFunc f args).run Tryz.prog w= .ok (.enter f args) w)∧
 ∀(st:da) (d:RD) (kk:Nat),DS st d kk→kk≤99000→b7 Tryz.prog f (first++[]++cap) [bF g st] [gE L] (fun v_ X_ S_=>∃st1,v_= .int .i64 (F d).2∧X_=[bF g st1]∧S_=[]∧DS st1 (F d).1 (kk+1))
theorem JM{g:Nat}{st:da}{d:RD}{kk:Nat}{A:Option Addr}{n c:Nat}{fs:List Value}{Fs:List (RD→RD×Int)}{L:List bl}(hD:DS st d kk)(hkk:kk+n≤99000)(hn:n≤100000)(hF:Fs.length=n)(hfs:∀(i:Nat) (F:RD→RD×Int),Fs[i]? =some F→∃v,fs[i]? =some v∧vj g L v F):b7 Tryz.prog 109 [.slice A n c] [bF g st] [cL 1 A n fs,gE L] (fun v_ X_ S_=>∃st1,v_=(.int .i64 (fB Fs d).2)∧X_=[bF g st1]∧S_=[]∧(DS st1 (fB Fs d).1 (kk+n))):=by
 obtain⟨d0,hd0⟩:∃d0,d0=fB Fs d:=⟨_,rfl⟩
 rw[←hd0]
 refine aM (N:=18) Tryz.func109 rfl rfl (by simp) fun b=> ?_
 refine a6 (fun m=>fH (m.rd 0 rfl)) ?_
 rintro⟨hl_f,hA_f⟩
 refine ae<|ai<|aG rfl<|ag<|ab<|ae<|ae<|ai<|aw rfl<|hy (fun _=>aY rfl Tryz.underlying239)<|aw rfl<|ag<|ab<|aN<| ?_
 refine gJ (fun k st d=>n-k) (fun k st d=>[(8,.int .i64 (k:Nat))]) (fun k st d=>[bF g st]) (fun k st d=>[]) (fun k st d=>k≤n∧DS st d (kk+k)∧fB (Fs.drop k) d=d0) 0 st d [(7,_),(6,_),(0,_)] ⟨rfl,rfl,rfl,trivial⟩ [0] rfl [] rfl (⟨Nat.zero_le _,hD,hd0.symm⟩) ⟨rfl,trivial⟩ (fun k st d ⟨hk,hD,hR⟩=> ?_)
 refine ae<|ai<|hy (fun _=>bw rfl rfl)<|ag<|ab<|ae<| ?_
 refine cB rfl (fun hlt=> ?_) (fun hlt=> ?_)
 ·obtain⟨F,hFk⟩:∃F,Fs[k]? =some F:=⟨_,List.getElem?_eq_getElem (by omega)⟩
  obtain⟨v,hv,f,first,cap,rfl,hcall,hcon⟩:=hfs k F hFk
  have hdr:Fs.drop k=F::Fs.drop (k+1):=by
   have hlt2:k<Fs.length:=by omega
   rw[List.drop_eq_getElem_cons hlt2]
   congr 1
   exact Option.some.inj ((List.getElem?_eq_getElem hlt2).symm.trans hFk)
  rw[hdr]at hR
  refine aC<|ab<|ae<|aN<|ae<|ai<|hy (fun _=>aZ rfl rfl Tryz.underlying239 Jc hA_f rfl (by omega))<|hy (fun m=>ao rfl IM ((m.rd 0 rfl).cell hv))<|aG rfl<|ag<|aB [4,9,8,7,6,0] rfl<|ab<|ae<|ai<|aw rfl<| ?_
  refine hx (eT rfl rfl hcall (hcon st d (kk+k) hD (by omega)) [0] rfl [1] rfl ?_)
  rintro _ _ _ ⟨st1,rfl,rfl,rfl,hD1⟩
  refine aG rfl<|ag<|aB [5,4,9,8,7,6,0] rfl<|aj (X' :=[_]) (S' :=[_,_]) (fun _ m=>m)<|ab<|ae<|ai<|aw rfl<|hy (fun _=>cT rfl rfl)<|ag<|aB [15,5,4,9,8,7,6,0] rfl<|ab<| ?_
  refine cB rfl (fun he=> ?_) (fun he=> ?_)
  ·have e0:fB (F::Fs.drop (k+1)) d=F d:=if_pos he
   rw[e0]at hR
   rw[←hR]
   refine ae<|ai<|aw rfl<|aG rfl<|ag<|aB [2,15,5,4,9,8,7,6,0] rfl<|ab<|aV<|a7<|ay<|ay<|a7<|ay<| ?_
   exact bc trivial rfl rfl [0] rfl [] rfl ⟨st1,rfl,rfl,rfl,(hD1.le (by omega))⟩
  ·have e0:fB (F::Fs.drop (k+1)) d=fB (Fs.drop (k+1)) (F d).1:=if_neg he
   rw[e0]at hR
   refine aC<|aS<|ab<|ai<|hy (fun _=>aP rfl rfl (bA (by omega) (by omega)))<|aw rfl<|ag<|aB [8,15,5,4,9,7,6,0] rfl<| ?_
   refine fD (k+1) st1 (F d).1 ⟨rfl,rfl,rfl,rfl,trivial⟩ [0] rfl [0,1] rfl (⟨by omega,hD1,hR⟩) (by omega)
 ·obtain rfl:k=n:=by omega
  rw[List.drop_of_length_le (by omega)]at hR
  have hR:(d,0)=d0:=hR
  rw[←hR]
  refine bG<|an<|an<|aE<|ab<|ae<|ai<|aG rfl<|ag<|ab<|aV<| ?_
  exact bc trivial rfl rfl [0] rfl [] rfl ⟨st,rfl,rfl,rfl,hD⟩
end Go.Proofs.YtmibdabdlgmafaaGreatDoor
end
section
set_option maxRecDepth 20000
set_option maxHeartbeats 4000000
namespace Go.Proofs.YtmibdabdlgmafaaGreatDoor
open Go.Eng Go.Hx
theorem Im{g g2 g9 g3:Nat}{st:da}{d:RD}{kk:Nat}{p:List UInt8}{A:Option Addr}{n c:Nat}{bb:List UInt8}(hD:DS st d kk)(hkk:kk≤99000)(hc:n≤c)(hl:bb.length=n)(hn:n≤4096):b7 Tryz.prog 105 [.pointer (some ⟨g2,0,none⟩),.pointer (some ⟨g9,0,none⟩),.pointer (some ⟨g3,0,none⟩)] [bF g st] [aH g2 35 [.pointer (some ⟨g,0,none⟩)],aH g9 9 [SV p],aH g3 27 [.slice A n c],cL 1 A n (aW bb)] (fun v_ X_ S_=>∃st1,v_=(.int .i64 (d.bX p (cr bb)))∧X_=[bF g st1]∧S_=[]∧(DS st1 (d.write p (cr bb)) (kk+1))):=by
 have hsl:=n4 bb
 refine aM (N:=9) Tryz.func105 rfl rfl (by simp) fun b=> ?_
 refine a6 (fun m=>eG (m.rd 3 rfl)) ?_
 rintro⟨hl_r,hA_r⟩
 refine ae<|ai<|aG rfl<|ag<|ab<|ae<|cD [3,4] [(0,some 1),(1,some 1),(2,some 0),(3,none),(4,none),(5,some 2)] (by kernel_rfl) (by kernel_rfl) rfl 1<|bZ (fun m=>ao rfl og (aA (m.s4 0 rfl) (i:=0) rfl))<|bZ (fun m=>ao rfl mG (aA (m.s4 1 rfl) (i:=0) rfl))<|bZ (fun m=>ao rfl dB (aA (m.s4 2 rfl) (i:=0) rfl))<| ?_
 refine dF (aq rfl Tryz.call106 (I1 (by omega) (by omega) hl) [] rfl [3] rfl ?_)
 rintro _ _ _ ⟨v,rfl,rfl,rfl⟩
 refine⟨(fun _=>wk [1] [0,1,2,3] rfl rfl), ?_⟩
 refine cd (fun m=>(m.own 0 rfl).slice) ?_
 rintro⟨A_x,c_x,rfl,hc_x⟩
 refine cd (fun m=>(m.ord 0 rfl).2.1) fun hA_x=> ?_
 refine dF (c6 rfl Tryz.call33 (EW hD (by omega) rfl (by omega)) [1] rfl (.x 0 rfl .own .nil) ?_)
 rintro _ _ _ ⟨st1,rfl,rfl,rfl,hp⟩
 refine⟨rfl, ?_⟩
 refine⟨(fun h=>absurd h (by decide)), ?_⟩
 refine ak (al rfl)<|bq<|aB [3,0,1,2] rfl<|aj (X' :=[_,_]) (S' :=[_,_,_,_]) (fun _ m=>m)<|ab<|aV<| ?_
 exact bc trivial rfl rfl [0] rfl [] rfl ⟨st1,rfl,rfl,rfl,hp⟩
theorem H7{g g2 g9 g6:Nat}{st:da}{d:RD}{kk:Nat}{p nm:List UInt8}(hD:DS st d kk)(hkk:kk≤99000)(hm:nm.length=32):b7 Tryz.prog 107 [.pointer (some ⟨g2,0,none⟩),.pointer (some ⟨g9,0,none⟩),.pointer (some ⟨g6,0,none⟩)] [bF g st] [aH g2 35 [.pointer (some ⟨g,0,none⟩)],aH g9 9 [SV p],aH g6 53 (aW nm)] (fun v_ X_ S_=>∃st1,v_=(.int .i64 (d.cg p (bx nm)))∧X_=[bF g st1]∧S_=[]∧(DS st1 (d.rename p (bx nm)) (kk+1))):=by
 refine aM (N:=9) Tryz.func107 rfl rfl (by simp) fun b=> ?_
 refine ae<|ai<|aG rfl<|ag<|ab<|ae<|cD [3,4] [(0,some 1),(1,some 1),(2,some 0),(3,none),(4,none),(5,some 2)] (by kernel_rfl) (by kernel_rfl) rfl 1<|bZ (fun m=>ao rfl og (aA (m.s4 0 rfl) (i:=0) rfl))<|bZ (fun m=>ao rfl mG (aA (m.s4 1 rfl) (i:=0) rfl))<|bZ (fun m=>aQ rfl b5 bp (by rw[ax];exact hm) ((m.s4 2 rfl).au))<| ?_
 refine dF (aq rfl Tryz.call94 (xd hm) [] rfl [] rfl ?_)
 rintro _ _ _ ⟨rfl,rfl,rfl⟩
 refine⟨(fun _=>wk [0] [0,1,2] rfl rfl), ?_⟩
 refine dF (aq rfl Tryz.call108 (CB hD (by omega) (a:=p) (c:=bx nm)) [0] rfl [] rfl ?_)
 rintro _ _ _ ⟨st1,rfl,rfl,rfl,hp⟩
 refine⟨(fun h=>absurd h (by decide)), ?_⟩
 refine ak (al rfl)<|bq<|aB [3,0,1,2] rfl<|aj (X' :=[_]) (S' :=[_,_,_]) (fun _ m=>m)<|ab<|aV<| ?_
 exact bc trivial rfl rfl [0] rfl [] rfl ⟨st1,rfl,rfl,rfl,hp⟩
abbrev jM(g g2 g9 g3 g6:Nat)(A:Option Addr)(n c:Nat)(bb nm p:List UInt8):List bl:=[aH g2 35 [.pointer (some ⟨g,0,none⟩)],aH g9 9 [SV p],aH g3 27 [.slice A n c],aH g6 53 (aW nm),cL 1 A n (aW bb)]
theorem wJ{g g2 g9 g3 g6:Nat}{A:Option Addr}{n c:Nat}{bb nm p:List UInt8}(hc:n≤c)(hl:bb.length=n)(hn:n≤4096):
  vj g (jM g g2 g9 g3 g6 A n c bb nm p) (.func (.func 105) #[] #[.pointer (some ⟨g2,0,none⟩),.pointer (some ⟨g9,0,none⟩),.pointer (some ⟨g3,0,none⟩)]) (tS p (cr bb)):=
 ⟨105,[],[.pointer (some ⟨g2,0,none⟩),.pointer (some ⟨g9,0,none⟩),.pointer (some ⟨g3,0,none⟩)],rfl,Tryz.call105,fun st d kk hD hk=>b7.wV (Im hD hk hc hl hn) (by
  intro s hs
  simp only[List.mem_cons,List.not_mem_nil,or_false]at hs
  rcases hs with rfl|rfl|rfl|rfl
  ·exact⟨_,List.mem_singleton.2 rfl,View.rE 0 rfl⟩
  ·exact⟨_,List.mem_singleton.2 rfl,View.rE 1 rfl⟩
  ·exact⟨_,List.mem_singleton.2 rfl,View.rE 2 rfl⟩
  ·exact⟨_,List.mem_singleton.2 rfl,View.rE 4 rfl⟩) (fun v X S h=>by
  obtain⟨st1,h1,h2,h3,h4⟩:=h
  exact⟨[],⟨st1,h1,h2,rfl,h4⟩,sX.nil⟩)⟩
theorem yR{g g2 g9 g3 g6:Nat}{A:Option Addr}{n c:Nat}{bb nm p:List UInt8}(hm:nm.length=32):
  vj g (jM g g2 g9 g3 g6 A n c bb nm p) (.func (.func 107) #[] #[.pointer (some ⟨g2,0,none⟩),.pointer (some ⟨g9,0,none⟩),.pointer (some ⟨g6,0,none⟩)]) (tb p (bx nm)):=
 ⟨107,[],[.pointer (some ⟨g2,0,none⟩),.pointer (some ⟨g9,0,none⟩),.pointer (some ⟨g6,0,none⟩)],rfl,Tryz.call107,fun st d kk hD hk=>b7.wV (H7 hD hk hm) (by
  intro s hs
  simp only[List.mem_cons,List.not_mem_nil,or_false]at hs
  rcases hs with rfl|rfl|rfl
  ·exact⟨_,List.mem_singleton.2 rfl,View.rE 0 rfl⟩
  ·exact⟨_,List.mem_singleton.2 rfl,View.rE 1 rfl⟩
  ·exact⟨_,List.mem_singleton.2 rfl,View.rE 3 rfl⟩) (fun v X S h=>by
  obtain⟨st1,h1,h2,h3,h4⟩:=h
  exact⟨[],⟨st1,h1,h2,rfl,h4⟩,sX.nil⟩)⟩
theorem sw{g:Nat}{L:List bl}:vj g L (.func (.func 110) #[.pointer (some ⟨g,0,none⟩)] #[]) mi:=
 ⟨110,[.pointer (some ⟨g,0,none⟩)],[],rfl,Tryz.call110,fun st d kk hD hk=>b7.wV (GX hD) (fun s hs=>by cases hs) (fun v X S h=>by
  obtain⟨st1,h1,h2,h3,h4⟩:=h
  exact⟨[],⟨st1,h1,h2,rfl,h4.le (by omega)⟩,sX.nil⟩)⟩
theorem fw:ek.length=32:=List.length_replicate
theorem zA:(aW ek).length=32:=by rw[ax,fw]
theorem xE{d:RD}{b:List UInt8}(h:4096<b.length):d.put b=(d,ek,3):=by unfold RD.put;rw[if_pos h]
theorem Ak{d:RD}{b:List UInt8}(h:¬4096<b.length)(h6:d.ic (bL b)=6):d.put b=(d,ek,6):=by unfold RD.put;rw[if_neg h,if_pos h6]
theorem zm{d:RD}{b:List UInt8}(h:¬4096<b.length)(h6:d.ic (bL b)=0):d.put b=(d,bL b,0):=by unfold RD.put;rw[if_neg h,if_neg (by rw[h6];decide),if_pos h6]
theorem Dr{d:RD}{b:List UInt8}(h:¬4096<b.length)(h6:¬d.ic (bL b)=6)(h0:¬d.ic (bL b)=0):d.put b=((d.iX b).1,if(d.iX b).2=0 then bL b else ek,(d.iX b).2):=by unfold RD.put;rw[if_neg h,if_neg h6,if_neg h0]
abbrev CY(g g2 g9 g3 g6:Nat):List Value:=[.func (.func 105) #[] #[.pointer (some ⟨g2,0,none⟩),.pointer (some ⟨g9,0,none⟩),.pointer (some ⟨g3,0,none⟩)],.func (.func 110) #[.pointer (some ⟨g,0,none⟩)] #[],.func (.func 107) #[] #[.pointer (some ⟨g2,0,none⟩),.pointer (some ⟨g9,0,none⟩),.pointer (some ⟨g6,0,none⟩)],.func (.func 110) #[.pointer (some ⟨g,0,none⟩)] #[]]
abbrev yu(p b nm:List UInt8):List (RD→RD×Int):=[tS p (cr b),mi,tb p (bx nm),mi]
theorem zT{g g2 g9 g3 g6:Nat}{A:Option Addr}{n c:Nat}{bb nm p:List UInt8}(hc:n≤c)(hl:bb.length=n)(hn:n≤4096)(hm:nm.length=32):
  ∀(i:Nat) (F:RD→RD×Int),(yu p bb nm)[i]? =some F→∃v,(CY g g2 g9 g3 g6)[i]? =some v∧vj g (jM g g2 g9 g3 g6 A n c bb nm p) v F:=by
 intro i F h
 match i with
 |0=>cases h;exact⟨_,rfl,wJ hc hl hn⟩
 |1=>cases h;exact⟨_,rfl,sw⟩
 |2=>cases h;exact⟨_,rfl,yR hm⟩
 |3=>cases h;exact⟨_,rfl,sw⟩
 |i+4=>cases h
theorem FJ{g:Nat}{st:da}{d:RD}{kk:Nat}{A:Option Addr}{n c:Nat}{bb:List UInt8}(hD:DS st d kk)(hkk:kk≤90000)(hc:n≤c)(hl:bb.length=n)(hn:n≤100000):b7 Tryz.prog 28 [.pointer (some ⟨g,0,none⟩),.slice A n c] [bF g st] [cL 1 A n (aW bb),dZ] (fun v_ X_ S_=>∃st1,v_=(.tuple #[.agg (aW (d.put bb).2.1).toArray,.int .i64 (d.put bb).2.2])∧X_=[bF g st1]∧S_=[]∧(DS st1 (d.put bb).1 (kk+4))):=by
 have h32:(aW (bL bb)).length=32:=by rw[ax,bK]
 have hhl:(cq (bL bb)).length=64:=by rw[dQ,bK]
 refine aM (N:=53) Tryz.func28 rfl rfl (by simp) fun b=> ?_
 refine a6 (fun m=>eG (m.rd 0 rfl)) ?_
 rintro⟨hl_r,hA_r⟩
 refine ae<|ai<| ?_
 refine hx (bu rfl (fun g2=> ?_))
 refine aJ (fun w m=>m.bz 0 rfl (show _=aH g2 35 [.pointer (some ⟨g,0,none⟩)]from rfl)) ?_
 refine hx (bu rfl (fun g3=> ?_))
 refine aJ (fun w m=>m.bz 0 rfl (show _=aH g3 27 [.slice A n c]from rfl)) ?_
 refine hx (bf dw (fun g4=> ?_))
 refine aG rfl<|ag<|aj (X' :=[_,_,_,_]) (S' :=[_,_]) (fun _ m=>m)<|ab<|ae<|ae<|ai<|hy (fun m=>ao rfl dB (aA (m.aU 1 rfl) rfl))<|hy (fun _=>aY rfl Tryz.underlying27)<|hy (fun _=>cW rfl rfl)<|ag<|aB [15,5,4,3,2,0,1] rfl<|ab<| ?_
 refine cB rfl (fun h1=> ?_) (fun h1=> ?_)
 ·have hb:4096<bb.length:=by omega
  rw[xE hb]
  refine ae<|ai<|hy (fun _=>yV (dK dw rfl (by kernel_rfl)) ((rfl:_=Value.agg (aW ek).toArray)))<| ?_
  refine cI (ba 0 rfl rfl rfl bp zA bn rfl ?_)
  refine aG rfl<|ag<|aB [5,15,4,3,2,0,1] rfl<|aj (X' :=[_,_,_,_]) (S' :=[_,_]) (fun _ m=>m)<|ab<|aV<|ay<| ?_
  exact eK trivial rfl rfl rfl b5 bp zA (fun m=>(m.aU 0 rfl).au) [3] rfl [] rfl ⟨st,rfl,rfl,rfl,(hD.le (by omega))⟩
 ·have hb:¬4096<bb.length:=by omega
  refine aC<|ab<|ae<|ai<|hy (fun m=>ao rfl dB (aA (m.aU 1 rfl) rfl))<| ?_
  refine hx (aq rfl Tryz.call102 (tw (by omega)) [] rfl [0,1] rfl ?_)
  rintro _ _ _ ⟨rfl,rfl,rfl⟩
  refine hx (bf dw (fun g6=> ?_))
  refine cI (ba 0 rfl rfl rfl bp h32 bn rfl ?_)
  refine ag<|aB [6,15,5,4,3,2,0,1] rfl<|aj (X' :=[_,_,_,_,_]) (S' :=[_,_]) (fun _ m=>m)<|ab<|ae<|ai<|hy (fun m=>ao rfl og (aA (m.aU 3 rfl) rfl))<|hy (fun m=>aQ rfl b5 bp h32 ((m.aU 0 rfl).au))<| ?_
  refine hx (aq rfl Tryz.call73 (Jr hD (bK _)) [4] rfl [1] rfl ?_)
  rintro _ _ _ ⟨v,rfl,rfl,rfl⟩
  refine az (fun m=>(m.own 1 rfl).slice) ?_
  rintro⟨A_x,c_x,rfl,hc_x⟩
  refine az (fun m=>(m.ord 1 rfl).2.1) fun hA_x=> ?_
  refine aw rfl<|hy (fun _=>aD rfl rfl)<|hy (fun _=>aD rfl rfl)<|aG rfl<|aG rfl<|ag<|aB [8,6,15,5,4,3,2,0,1] rfl<|aj (X' :=[_,_,_,_,_,_]) (S' :=[_,_]) (fun _ m=>m)<|ab<|ae<|ae<|ai<|aw rfl<|hy (fun _=>l9 rfl Tryz.underlying47 (fun _ h=>by cases h))<|hy (fun _=>l9 rfl Tryz.underlying47 (fun _ h=>by cases h))<| ?_
  refine hx (aq rfl Tryz.call103 (GN) [] rfl [] rfl ?_)
  rintro _ _ _ ⟨rfl,rfl,rfl⟩
  refine ag<|aB [28,8,6,15,5,4,3,2,0,1] rfl<|aj (X' :=[_,_,_,_,_,_]) (S' :=[_,_]) (fun _ m=>m)<|ab<| ?_
  refine cB rfl (fun h6=> ?_) (fun h6=> ?_)
  ·rw[Ak hb h6]
   have h6' :d.ic (bL bb)=6:=h6
   rw[h6']
   refine ae<|ai<|hy (fun _=>yV (dK dw rfl (by kernel_rfl)) ((rfl:_=Value.agg (aW ek).toArray)))<|aw rfl<| ?_
   refine cI (ba 3 rfl rfl rfl bp zA bn rfl ?_)
   refine aG rfl<|ag<|aB [5,28,8,6,15,4,3,2,0,1] rfl<|aj (X' :=[_,_,_,_,_,_]) (S' :=[_,_]) (fun _ m=>m)<|ab<|aV<|ay<| ?_
   exact eK trivial rfl rfl rfl b5 bp zA (fun m=>(m.aU 0 rfl).au) [1] rfl [] rfl ⟨st,rfl,rfl,rfl,(hD.le (by omega))⟩
  ·refine aC<|ab<|ae<|ae<|ai<|aw rfl<|hy (fun _=>cx rfl rfl)<|ag<|aB [32,28,8,6,15,5,4,3,2,0,1] rfl<|ab<| ?_
   refine cB rfl (fun h0=> ?_) (fun h0=> ?_)
   ·rw[zm hb h0]
    have h0' :d.ic (bL bb)=0:=h0
    rw[h0']
    refine ae<|ai<|hy (fun m=>aQ rfl b5 bp h32 ((m.aU 2 rfl).au))<|aw rfl<| ?_
    refine cI (ba 3 rfl rfl rfl bp h32 bn rfl ?_)
    refine aG rfl<|ag<|aB [5,32,28,8,6,15,4,3,2,0,1] rfl<|aj (X' :=[_,_,_,_,_,_]) (S' :=[_,_]) (fun _ m=>m)<|ab<|aV<|ay<| ?_
    exact eK trivial rfl rfl rfl b5 bp h32 (fun m=>(m.aU 0 rfl).au) [1] rfl [] rfl ⟨st,rfl,rfl,rfl,(hD.le (by omega))⟩
   ·rw[Dr hb h6 h0]
    refine aC<|ab<|ae<|ai<|hy (fun m=>aQ rfl b5 bp h32 ((m.aU 2 rfl).au))<| ?_
    refine hx (aq rfl Tryz.call104 (CZ (bK _)) [] rfl [] rfl ?_)
    rintro _ _ _ ⟨rfl,rfl,rfl⟩
    refine hy (fun _=>yV (jx rfl rfl (je (a:=[116,47]) (b:=cq (bL bb)) (by simp[hhl]))) ((show Value.string (strOf [116,47]++strOf (cq (bL bb)))=SV (b6 (bL bb))from congrArg Value.string (dC _ _))))<| ?_
    refine hx (bf JS (fun g9=> ?_))
    refine cI (dI 0 rfl rfl rfl Ky rfl (by first|exact Nat.le_of_ble_eq_true rfl|simp) ?_)
    refine ag<|aB [9,32,28,8,6,15,5,4,3,2,0,1] rfl<|aj (X' :=[_,_,_,_,_,_,_]) (S' :=[_,_]) (fun _ m=>m)<|ab<|ae<|ai<|hy (fun _=>fU rfl rfl)<|aG rfl<|ag<|aB [10,9,32,28,8,6,15,5,4,3,2,0,1] rfl<|ab<|ae<|ai<|hy (fun _=>fU rfl rfl)<|aG rfl<|ag<|aB [11,10,9,32,28,8,6,15,5,4,3,2,0,1] rfl<|ab<|ae<|ae<|ai<|aw rfl<|hy (fun m=>ao rfl og (aA (m.aU 6 rfl) rfl))<|hy (fun _=>fU rfl rfl)<|aw rfl<|hy (fun m=>ao rfl og (aA (m.aU 6 rfl) rfl))<|hy (fun _=>fU rfl rfl)<| ?_
    refine hx (bQ Tryz.underlying239 IH rfl rfl rfl (by simp[Value.cells,B8]) (by decide) (by decide) (fun g46=> ?_))
    have hA_b46:0<4→(some (⟨g46,0,none⟩:Addr))≠none:=fun _ h=>by cases h
    refine aJ (fun w m=>m.bz 1 rfl (show _=aH g9 9 [SV (b6 (bL bb))]from rfl)) ?_
    refine aJ (fun w m=>m.bz 4 rfl (show _=aH g6 53 (aW (bL bb))from rfl)) ?_
    refine aJ (fun w m=>m.bz 2 rfl (show _=aK 179 1 (.slice (some ⟨g46,0,none⟩) 4 4) 4 (CY g g2 g9 g3 g6)from rfl)) ?_
    refine aJ (fun w m=>(m.perm (ar [7] _ [_] _ rfl)).freeze) ?_
    refine aJ (fun w m=>(m.perm (ar [2] _ [_] _ rfl)).freeze) ?_
    refine aJ (fun w m=>(m.perm (ar [5] _ [_] _ rfl)).freeze) ?_
    refine aJ (fun w m=>(m.perm (ar [1] _ [_] _ rfl)).freeze) ?_
    refine aJ (S' :=gE (jM g g2 g9 g3 g6 A n c bb (bL bb) (b6 (bL bb)))::_) (fun w m=>m.pF [3,2,1,0,4] rfl) ?_
    refine hx (c6 rfl Tryz.call109 (JM hD (by omega) (show 4≤100000 by decide) rfl (zT hc hl (by omega) (bK _)) (kk:=kk) (Fs:=(yu (b6 (bL bb)) bb (bL bb))) (fs:=(CY g g2 g9 g3 g6)) (L:=(jM g g2 g9 g3 g6 A n c bb (bL bb) (b6 (bL bb))))) [1] rfl (.x 0 rfl .own (.s 0 rfl .nil)) ?_)
    rintro _ _ _ ⟨st1,rfl,rfl,rfl,hD1⟩
    refine⟨rfl, ?_⟩
    refine aG rfl<|ag<|aB [12,11,10,9,32,28,8,6,15,5,4,3,2,0,1] rfl<|aj (X' :=[_,_,_,_]) (S' :=[_,_,_,_,_,_,_]) (fun _ m=>m)<|ab<|ae<|ai<|aw rfl<|hy (fun _=>cT rfl rfl)<|ag<|aB [49,12,11,10,9,32,28,8,6,15,5,4,3,2,0,1] rfl<|ab<| ?_
    refine cB rfl (fun h2=> ?_) (fun h2=> ?_)
    ·have hn2:¬(d.iX bb).2=0:=h2
     rw[if_neg hn2]
     refine ae<|ai<|hy (fun _=>yV (dK dw rfl (by kernel_rfl)) ((rfl:_=Value.agg (aW ek).toArray)))<|aw rfl<| ?_
     refine cI (ba 3 rfl rfl rfl bp zA bn rfl ?_)
     refine aG rfl<|ag<|aB [5,49,12,11,10,9,32,28,8,6,15,4,3,2,0,1] rfl<|aj (X' :=[_,_,_,_]) (S' :=[_,_,_,_,_,_,_]) (fun _ m=>m)<|ab<|aV<|ay<| ?_
     exact eK trivial rfl rfl rfl b5 bp zA (fun m=>(m.aU 0 rfl).au) [1] rfl [] rfl ⟨st1,rfl,rfl,rfl,hD1⟩
    ·have h2:=Decidable.not_not.1 h2
     have h2' :(fB (yu (b6 (bL bb)) bb (bL bb)) d).2=0:=h2
     have h2'' :(d.iX bb).2=0:=h2'
     rw[if_pos h2'',h2'']
     refine aC<|ab<|ae<|ai<|hy (fun m=>aQ rfl b5 bp h32 ((m.s4 1 rfl).au))<| ?_
     refine cI (ba 3 rfl rfl rfl bp h32 bn rfl ?_)
     refine aG rfl<|ag<|aB [5,49,12,11,10,9,32,28,8,6,15,4,3,2,0,1] rfl<|aj (X' :=[_,_,_,_]) (S' :=[_,_,_,_,_,_,_]) (fun _ m=>m)<|ab<|aV<| ?_
     exact eK trivial rfl rfl rfl b5 bp h32 (fun m=>(m.aU 0 rfl).au) [1] rfl [] rfl ⟨st1,rfl,rfl,rfl,hD1⟩
end Go.Proofs.YtmibdabdlgmafaaGreatDoor
end
section
set_option maxRecDepth 20000
namespace Go.Proofs.YtmibdabdlgmafaaGreatDoor
open Go.Eng Go.Hx
def ss(l:List (List UInt8)):List Value:=l.map SV
theorem Am{l:List (List UInt8)}{i:Nat}(h:i<l.length):(ss l)[i]? =some (SV (l.getD i [])):=by simp[ss,List.getElem?_map,List.getElem?_eq_getElem h,List.getD]
theorem GD{l:List (List UInt8)}:∀u∈ss l,u.oneCell' =true:=by
 intro u hu
 obtain⟨x,_,rfl⟩:=List.mem_map.1 hu
 rfl
end Go.Proofs.YtmibdabdlgmafaaGreatDoor
end
section
namespace Go.Proofs
open Go.Shelf
def Tryz.vn:Go.Shelf.Ren:=⟨fun|190=>165|125=>207|258=>223|128=>254|129=>255|302=>258|303=>259|304=>260|305=>261|306=>262|307=>263|308=>264|309=>265|310=>266|333=>291|329=>287|330=>288|334=>292|335=>293|336=>294|344=>307|n=>n,fun|31=>152|9=>9|3=>3|46=>263|0=>0|51=>166|53=>310|4=>4|183=>339|182=>338|131=>343|5=>5|218=>376|222=>380|228=>391|229=>324|n=>n,fun|n=>n⟩
theorem Tryz.C8:Go.Proofs.Lays.n190 Tryz.prog Tryz.vn:={
 mixed:=by kernel_rfl
 f125:=Tryz.func207.trans (congrArg some (by kernel_rfl))
 f128:=Tryz.func254.trans (congrArg some (by kernel_rfl))
 f129:=Tryz.func255.trans (congrArg some (by kernel_rfl))
 f190:=Tryz.func165.trans (congrArg some (by kernel_rfl))
 f258:=Tryz.func223.trans (congrArg some (by kernel_rfl))
 f302:=Tryz.func258.trans (congrArg some (by kernel_rfl))
 f303:=Tryz.func259.trans (congrArg some (by kernel_rfl))
 f304:=Tryz.func260.trans (congrArg some (by kernel_rfl))
 f305:=Tryz.func261.trans (congrArg some (by kernel_rfl))
 f306:=Tryz.func262.trans (congrArg some (by kernel_rfl))
 f307:=Tryz.func263.trans (congrArg some (by kernel_rfl))
 f308:=Tryz.func264.trans (congrArg some (by kernel_rfl))
 f309:=Tryz.func265.trans (congrArg some (by kernel_rfl))
 f310:=Tryz.func266.trans (congrArg some (by kernel_rfl))
 f329:=Tryz.func287.trans (congrArg some (by kernel_rfl))
 f330:=Tryz.func288.trans (congrArg some (by kernel_rfl))
 f333:=Tryz.func291.trans (congrArg some (by kernel_rfl))
 f334:=Tryz.func292.trans (congrArg some (by kernel_rfl))
 f335:=Tryz.func293.trans (congrArg some (by kernel_rfl))
 f336:=Tryz.func294.trans (congrArg some (by kernel_rfl))
 f344:=Tryz.func307.trans (congrArg some (by kernel_rfl))
 t0:=Tryz.underlying0
 a0:=Tryz.isAgg0
 z0:=Tryz.sizeOf0
 v0:=Tryz.zeroValue0
 t3:=Tryz.underlying3
 a3:=Tryz.isAgg3
 z3:=Tryz.sizeOf3
 v3:=Tryz.zeroValue3
 t4:=Tryz.underlying4
 a4:=Tryz.isAgg4
 z4:=Tryz.sizeOf4
 v4:=Tryz.zeroValue4
 t5:=Tryz.underlying5
 a5:=Tryz.isAgg5
 z5:=Tryz.sizeOf5
 v5:=Tryz.zeroValue5
 t9:=Tryz.underlying9
 a9:=Tryz.isAgg9
 z9:=Tryz.sizeOf9
 v9:=Tryz.zeroValue9
 t31:=Tryz.underlying152
 a31:=Tryz.isAgg152
 z31:=Tryz.sizeOf152
 v31:=Tryz.zeroValue152
 t46:=Tryz.underlying263
 a46:=Tryz.isAgg263
 z46:=Tryz.sizeOf263
 v46:=Tryz.zeroValue263
 t51:=Tryz.underlying166
 a51:=Tryz.isAgg166
 z51:=Tryz.sizeOf166
 v51:=Tryz.zeroValue166
 t53:=Tryz.underlying310
 a53:=Tryz.isAgg310
 z53:=Tryz.sizeOf310
 v53:=Tryz.zeroValue310
 t131:=Tryz.underlying343
 a131:=Tryz.isAgg343
 z131:=Tryz.sizeOf343
 v131:=Tryz.zeroValue343
 t182:=Tryz.underlying338
 a182:=Tryz.isAgg338
 z182:=Tryz.sizeOf338
 v182:=Tryz.zeroValue338
 t183:=Tryz.underlying339
 a183:=Tryz.isAgg339
 z183:=Tryz.sizeOf339
 v183:=Tryz.zeroValue339
 t218:=Tryz.underlying376
 a218:=Tryz.isAgg376
 z218:=Tryz.sizeOf376
 v218:=Tryz.zeroValue376
 t222:=Tryz.underlying380
 a222:=Tryz.isAgg380
 z222:=Tryz.sizeOf380
 v222:=Tryz.zeroValue380
 t228:=Tryz.underlying391
 a228:=Tryz.isAgg391
 z228:=Tryz.sizeOf391
 v228:=Tryz.zeroValue391
 t229:=Tryz.underlying324
 a229:=Tryz.isAgg324
 z229:=Tryz.sizeOf324
 v229:=Tryz.zeroValue324}
end Go.Proofs
end
section
set_option maxRecDepth 20000
namespace Go.Proofs.YtmibdabdlgmafaaGreatDoor
open Go.Eng Go.Hx Go.Sort
def zn(l:List (List UInt8)):List (List UInt8):=l.mergeSort fun x y=>decide (x≤y)
theorem Aj{w:World}{g n o:Nat}{os:Array Obj}{cur:Array Value}{e:TypeId}{fr:Nat×Nat}(d:Array (List UInt8))(hb:w.heap[g]? =some (.cells cur e fr)):
  (grow (putRow encStr (Go.Sort.ahead w n) g o d) os).heap[g]? =some (.cells (putCells encStr o d cur) e fr):=by
 have hg:g<w.heap.size:=(Array.getElem?_eq_some_iff.1 hb).1
 rw[heap_grow_old _ _ (by simpa using hg)]
 simp[putRow,mapBlock,Go.Sort.ahead,Array.getElem?_modify,hb,onCells]
theorem HN{w:World}{g n o:Nat}{os:Array Obj}(d:Array (List UInt8)):Fr (fun k=>k=g) w (grow (putRow encStr (Go.Sort.ahead w n) g o d) os):=by
 refine⟨rfl,rfl,rfl,by simp,fun k hk hne=> ?_⟩
 rw[heap_grow_old _ _ (by simpa using hk)]
 have:g≠k:=fun e=>hne e.symm
 simp[putRow,mapBlock,Go.Sort.ahead,Array.getElem?_modify,this]
theorem Bi(cur:List Value)(o:Nat)(ts:List (List UInt8))(h:o+ts.length≤cur.length):((putCells encStr o ts.toArray cur.toArray).toList.drop o).take ts.length=ss ts:=by
 apply List.ext_getElem?
 intro j
 by_cases hj:j<ts.length
 ·rw[List.getElem?_take_of_lt hj,List.getElem?_drop,Array.getElem?_toList]
  simp[putCells,hj,ss,show o+j<cur.length by omega,SV,strOf]
 ·rw[List.getElem?_take_eq_none (by omega),List.getElem?_eq_none (by simp[ss];omega)]
theorem s6(l:List (List UInt8)):(zn l).length=l.length:=List.length_mergeSort ..
theorem GO{A:Option Addr}{n c base:Nat}{e:TypeId}{l:List (List UInt8)}{w:World}(h:Go.Eng.Own w base e 1 (.slice A n c) n (ss l))(hn6:n≤1000000):
  Calls Tryz.prog 165 #[.slice A n c] w fun r w' =>r= .returned (.tuple #[])∧Go.Eng.Own w' base e 1 (.slice A n c) n (ss (zn l))∧Fr (kC (.slice A n c)) w w' :=by
 obtain⟨h1,h2⟩:=h
 have hl:l.length=n:=by simpa[ss]using h1
 rcases h2 with⟨hv,hn⟩|⟨g,o,cap,cur,hv,hb,⟨fr,hh,hf,hfl⟩,hnc,hcm,hfit,hcs⟩
 ·cases hv
  obtain rfl:l=[]:=List.eq_nil_of_length_eq_zero hl
  refine Calls.mono (rX DY (by intro s hs;cases hs)) (fun r w' ⟨hr,hf⟩=>⟨hr,⟨by simp[zn,ss],.inl ⟨rfl,rfl⟩⟩,hf.mono (fun _ _ e=>e.elim)⟩)
 ·cases hv
  subst hl
  have hB:eQ w g e cur:=⟨fr,hh,hf,hfl⟩
  have hH:Holds encStr w g o l.toArray:=by
   intro j hj
   have hj' :j<l.length:=by simpa using hj
   have h3:((cur.drop o).take (l.length*1))[j]? =(ss l)[j]? :=by rw[hcs]
   rw[List.getElem?_take_of_lt (by omega),List.getElem?_drop,Am hj']at h3
   refine⟨?_,hB.frozen (by omega)⟩
   rw[hB.cell h3]
   simp[List.getD,List.getElem?_eq_getElem hj',hj',SV,strOf]
  refine Calls.mono (Any.slices_Sort_string Tryz.C8 g o c l w hH hB.lt (by omega)) ?_
  rintro r w' ⟨hr,k,os,rfl⟩
  refine⟨hr,⟨by simp[ss,s6],.inr ⟨g,o,c,(putCells encStr o (zn l).toArray cur.toArray).toList,rfl,hb, ?_,hnc,hcm,by simp[putCells];omega, ?_⟩⟩,HN _⟩
  ·have:=Aj (n:=k) (o:=o) (os:=os) (zn l).toArray hh
   exact⟨fr,by simpa[zn]using this,fun i hi=>hf i (by simpa[putCells]using hi),by simpa[putCells]using hfl⟩
  ·have:=Bi cur o (zn l) (by rw[s6];omega)
   rw[s6]at this
   rw[Nat.mul_one];exact this
theorem Jk{A:Option Addr}{n c:Nat}{e:TypeId}{l:List (List UInt8)}(hn:n≤1000000):b7 Tryz.prog 165 [.slice A n c] [aK e 1 (.slice A n c) n (ss l)] [] (fun v_ X_ S_=>v_=(.tuple #[])∧X_=[aK e 1 (.slice A n c) n (ss (zn l))]∧S_=[]):=by
 refine fun w m=>Calls.mono (GO (m.own 0 rfl) hn) ?_
 rintro r w' ⟨hr,ho,hf⟩
 exact⟨_,_,_,hr,⟨rfl,rfl,rfl⟩,m.change (r' :=aK e 1 (.slice A n c) n (ss (zn l))) hf ho (fun k hk=>.inl hk)⟩
end Go.Proofs.YtmibdabdlgmafaaGreatDoor
end
section
set_option maxRecDepth 20000
namespace Go.Proofs.YtmibdabdlgmafaaGreatDoor
open Go.Eng Go.Hx
theorem qP{α:Type}:∀{l:List α} {j:Nat} {x:α},l[j]? =some x→l.Perm (x::l.eraseIdx j)
 | [],j,x,h=>by simp at h
 |a::r,0,x,h=>by
  simp only[List.getElem?_cons_zero,Option.some.injEq]at h
  subst h;exact List.Perm.refl _
 |a::r,j+1,x,h=>by
  have:=qP (l:=r) (j:=j) (x:=x) (by simpa using h)
  exact(List.Perm.cons a this).trans (List.Perm.swap x a _)
def pre(p s:List UInt8):Bool:=decide (s.take p.length=p)
theorem sT{s p:List UInt8}:b7 Tryz.prog 222 [.string (strOf s),.string (strOf p)] [] [] (fun v_ X_ S_=>v_=(.bool (pre p s))∧X_=[]∧S_=[]):=by
 have hs1:=cY s
 have hs2:=cY p
 refine aM (N:=18) Tryz.func222 rfl rfl (by simp) fun b=> ?_
 by_cases h:p.length≤s.length
 ·refine ae<|ai<|aG rfl<|ag<|ab<|ae<|ai<|aw rfl<|hy (fun _=>cU rfl Tryz.underlying9)<|aw rfl<|hy (fun _=>cU rfl Tryz.underlying9)<|hy (fun _=>yT (dL rfl rfl) ((decide_eq_true (by omega))))<|aw rfl<|cy (o:=_) rfl rfl rfl (fun _=>ah rfl)<|cy (o:=_) rfl rfl rfl (fun _=>ah rfl)<|cy (o:=_) rfl rfl rfl (fun _=>cU rfl Tryz.underlying9)<|cy (o:=_) rfl rfl rfl (fun _=>yV (th rfl rfl Tryz.underlying9 (show((p.length:Nat):Int)=_ by omega) (by rw[rr];exact h)) ((rfl:Value.string _= .string (strOf (s.take p.length)))))<|cy (o:=_) rfl rfl rfl (fun _=>ah rfl)<|cy (o:=_) rfl rfl rfl (fun _=>sB rfl rfl)<|hy (fun _=>bC rfl rfl)<|aG rfl<|ag<|aB [4,0,1] rfl<|ab<|aV<| ?_
  exact bc trivial rfl rfl [] rfl [] rfl ⟨(congrArg Value.bool (decide_eq_decide.2 cJ)),rfl,rfl⟩
 ·refine ae<|ai<|aG rfl<|ag<|ab<|ae<|ai<|aw rfl<|hy (fun _=>cU rfl Tryz.underlying9)<|aw rfl<|hy (fun _=>cU rfl Tryz.underlying9)<|hy (fun _=>yF (dL rfl rfl) ((decide_eq_false (by omega))))<|aw rfl<|bg rfl rfl rfl (by decide)<|bg rfl rfl rfl (by decide)<|bg rfl rfl rfl (by decide)<|bg rfl rfl rfl (by decide)<|bg rfl rfl rfl (by decide)<|bg rfl rfl rfl (by decide)<|hy (fun _=>bo rfl rfl)<|aG rfl<|ag<|aB [4,0,1] rfl<|ab<|aV<| ?_
  exact bc trivial rfl rfl [] rfl [] rfl ⟨(congrArg Value.bool (decide_eq_false (fun e=>h (by rw[←e,List.length_take];omega))).symm),rfl,rfl⟩
theorem xe{s p:List UInt8}:b7 Tryz.prog 164 [.string (strOf s),.string (strOf p)] [] [] (fun v_ X_ S_=>v_=(.bool (pre p s))∧X_=[]∧S_=[]):=by
 refine aM (N:=8) Tryz.func164 rfl rfl (by simp) fun b=> ?_
 refine ae<|ai<|aG rfl<|ag<|ab<|ae<|ai<|aw rfl<|aw rfl<| ?_
 refine hx (aq rfl Tryz.call222 (sT) [] rfl [] rfl ?_)
 rintro _ _ _ ⟨rfl,rfl,rfl⟩
 refine aG rfl<|ag<|aB [4,0,1] rfl<|aj (X' :=[]) (S' :=[]) (fun _ m=>m)<|ab<|aV<| ?_
 exact bc trivial rfl rfl [] rfl [] rfl ⟨rfl,rfl,rfl⟩
theorem I9{g:Nat}{st:da}{p:List UInt8}(hk:st.seen.length≤100000):b7 Tryz.prog 86 [.pointer (some ⟨g,0,none⟩),.string (strOf p)] [bF g st] [] (fun v_ X_ S_=>∃v n ks,v_=v∧X_=[bF g st,aK 9 1 v n (ss (zn ks))]∧S_=[]∧(n=ks.length∧ks.Perm ((cA st.seen).filter (pre p)))):=by
 refine aM (N:=26) Tryz.func86 rfl rfl (by simp) fun b=> ?_
 refine bk (fun w m=>(m.perm (ar [0] _ [_] _ rfl)).unpack) ?_
 refine ae<|ai<|aG rfl<|ag<|ab<|ae<|ai<|aG rfl<|ag<|ab<|ae<|ae<|ai<|aw rfl<|hy (fun _=>aO rfl)<|hy (fun _=>aF rfl iZ (by decide))<|hy (fun m=>ao rfl pg (aA (m.aU 0 rfl) rfl))<| ?_
 refine hx (vS 1 rfl rfl Tryz.underlying174 (fun r11=> ?_))
 refine ag<|aB [11,5,4,0,1] rfl<|aj (X' :=[_,_,_,_,_]) (S' :=[]) (fun _ m=>m)<|ab<|aN<| ?_
 refine bk (fun w m=>m.cQ (r' :=aK 9 1 (.slice none 0 0) 0 []) (.refl _ _) (Own.nil _ _ _ _) (fun k hk=>hk.elim)) ?_
 refine tk (fun left cur A1 k c1 ks=>left.length) (fun left cur A1 k c1 ks=>[(5,.slice A1 k c1)]) (fun left cur A1 k c1 ks=>[aK 9 1 (.slice A1 k c1) k (ss ks),k9 SV r11 st.gs (en st.seen) (en left) cur]) (fun left cur A1 k c1 ks=>[]) (fun left cur A1 k c1 ks=>k=ks.length∧k+left.length≤st.seen.length∧(ks++(cA left).filter (pre p)).Perm ((cA st.seen).filter (pre p))) st.seen none none 0 0 [] [(11,_),(4,_),(0,_),(1,_)] ⟨rfl,rfl,rfl,rfl,trivial⟩ [0,0] rfl [] rfl (⟨rfl,by omega,List.Perm.refl _⟩) ⟨rfl,trivial⟩ (fun left cur A1 k c1 ks ⟨hkn,hkl,hpm⟩=> ?_)
 refine ae<|ai<| ?_
 refine hx (yi 1 rfl rfl (fun h0=> ?_) (fun j x hx1=> ?_))
 ·obtain rfl:left=[]:=List.map_eq_nil_iff.1 h0
  refine hy (fun _=>aD rfl rfl)<|ag<|aB [13,5,11,4,0,1] rfl<|ab<|ae<| ?_
  refine cN rfl (rfl) ?_
  refine bG<|an<|an<|aE<|ab<|ae<|ai<|aw rfl<| ?_
  refine hx (aq rfl Tryz.call165 (Jk (by omega)) [0] rfl [] rfl ?_)
  rintro _ _ _ ⟨rfl,rfl,rfl⟩
  refine ag<|aB [13,5,11,4,0,1] rfl<|aj (X' :=[_,_,_,_,_,_]) (S' :=[]) (fun _ m=>m)<|ab<|ae<|ai<|aw rfl<|aG rfl<|ag<|aB [4,13,5,11,0,1] rfl<|ab<|aV<| ?_
  refine aj (fun w m=>m.Ab 1 rfl) ?_
  refine aj (X' :=bF g st::_) (fun w m=>(m.perm (ar [2,0,1,1,1] _ [_,_,_,_,_] _ rfl)).pack) ?_
  exact bc trivial rfl rfl [0,0] rfl [] rfl ⟨_,_,_,rfl,rfl,rfl,⟨hkn,by simpa[cA]using hpm⟩⟩
 ·obtain⟨key,v⟩:=x
  obtain⟨r,hr,e⟩:=xP hx1
  obtain rfl:v=r.val:=e
  have hlt:=(List.getElem?_eq_some_iff.1 hr).1
  simp only at hr
  have hpe:=qP hr
  have hpa:(cA left).Perm (key::cA (left.eraseIdx j)):=by simpa[cA]using hpe.map Prod.fst
  have hpf:=hpa.filter (pre p)
  refine hy (fun _=>aD rfl rfl)<|ag<|aB [13,5,11,4,0,1] rfl<|ab<|ae<| ?_
  refine fq rfl (rfl) ?_
  refine aC<|ab<|aN<|ae<|ai<|hy (fun m=>vd rfl (m.I0 0 rfl))<|hy (fun _=>aD rfl rfl)<|aG rfl<|ag<|aB [6,13,5,11,4,0,1] rfl<|ab<|ae<|ai<|aw rfl<|aw rfl<| ?_
  refine hx (aq rfl Tryz.call164 (xe) [] rfl [] rfl ?_)
  rintro _ _ _ ⟨rfl,rfl,rfl⟩
  refine ag<|aB [18,6,13,5,11,4,0,1] rfl<|aj (X' :=[_,_,_,_,_,_]) (S' :=[]) (fun _ m=>m)<|ab<| ?_
  refine zw rfl (fun hpr=> ?_) (fun hpr=> ?_)
  ·have hp2:(ks++[key]++(cA (left.eraseIdx j)).filter (pre p)).Perm ((cA st.seen).filter (pre p)):=by
    rw[List.filter_cons,if_pos hpr]at hpf
    rw[List.append_assoc]
    exact((List.Perm.append_left ks hpf).symm.trans hpm)
   refine ai<|aw rfl<|aw rfl<| ?_
   refine hx (bQ Tryz.underlying152 JS rfl rfl rfl (by simp[Value.cells,SV]) (by decide) (by decide) (fun g21=> ?_))
   have hA_b21:0<1→(some (⟨g21,0,none⟩:Addr))≠none:=fun _ h=>by cases h
   refine aJ (fun w m=>m.bz 0 rfl (show _=aK 9 1 (.slice (some ⟨g21,0,none⟩) 1 1) 1 (ss [key])from rfl)) ?_
   refine hx (bs 2 rfl rfl rfl Tryz.underlying152 Tryz.underlying152 (by exact .inl rfl) JS rfl (fun m=>Src.bJ (m.ord 0 rfl)) GD (by unfold maxLen;omega) (by omega) (fun u=> ?_))
   refine az (fun m=>(m.own 0 rfl).slice) ?_
   rintro⟨A_o,c_o,rfl,hc_o⟩
   refine az (fun m=>(m.ord 0 rfl).2.1) fun hA_o=> ?_
   refine aJ (fun w m=>m.bz 0 rfl (show _=aK 9 1 (.slice A_o (k+1) c_o) (k+1) (ss (ks++[key]))from by simp[ss])) ?_
   refine aG rfl<|ag<|aB [5,18,6,13,11,4,0,1] rfl<|aj (X' :=[_,_,_,_,_,_,_]) (S' :=[]) (fun _ m=>m)<|aS<| ?_
   refine aj (fun w m=>m.bz 2 rfl (show _=k9 SV r11 st.gs (en st.seen) (en (left.eraseIdx j)) (some (key,r.val))from congrArg (fun q=>k9 SV r11 st.gs (en st.seen) q (some (key,r.val))) (mo left j))) ?_
   refine iP (left.eraseIdx j) (some (key,r.val)) A_o (k+1) c_o (ks++[key]) ⟨rfl,rfl,rfl,rfl,rfl,trivial⟩ [1,0,1,1,1,1] rfl [] rfl (⟨by rw[List.length_append,hkn];rfl,by rw[List.length_eraseIdx,if_pos hlt];omega,hp2⟩) (by rw[List.length_eraseIdx,if_pos hlt];omega)
  ·have hp2:(ks++(cA (left.eraseIdx j)).filter (pre p)).Perm ((cA st.seen).filter (pre p)):=by
    rw[List.filter_cons,if_neg (by rw[show pre p key=false from hpr];decide)]at hpf
    exact((List.Perm.append_left ks hpf).symm.trans hpm)
   refine aC<|aS<| ?_
   refine aj (fun w m=>m.bz 0 rfl (show _=k9 SV r11 st.gs (en st.seen) (en (left.eraseIdx j)) (some (key,r.val))from congrArg (fun q=>k9 SV r11 st.gs (en st.seen) q (some (key,r.val))) (mo left j))) ?_
   refine iP (left.eraseIdx j) (some (key,r.val)) A1 k c1 ks ⟨rfl,rfl,rfl,rfl,rfl,trivial⟩ [1,0,0,0,0,0] rfl [] rfl (⟨hkn,by rw[List.length_eraseIdx,if_pos hlt];omega,hp2⟩) (by rw[List.length_eraseIdx,if_pos hlt];omega)
end Go.Proofs.YtmibdabdlgmafaaGreatDoor
end
section
set_option maxRecDepth 20000
namespace Go.Proofs.YtmibdabdlgmafaaGreatDoor
open Go.Eng Go.Hx
theorem Ez{g:Nat}{st:da}{d:RD}{kk:Nat}{n:Int}(hD:DS st d kk)(hn:n≤1000000000000):b7 Tryz.prog 57 [.pointer (some ⟨g,0,none⟩),.int .i64 n] [bF g st] [] (fun v_ X_ S_=>∃st1,v_=(.tuple #[])∧X_=[bF g st1]∧S_=[]∧(DS st1 (d.ck n) kk)):=by
 exact b7.mono Gu (fun v X S h=>⟨_,h.1,h.2.1,h.2.2,hD.ck hn⟩)
def ia(d:RD)(p:List UInt8):List (List UInt8):=(d.seen.map (·.1)).filter (pre p)
theorem gF.ia{fs:dY}{l:List FP}(h:gF fs l){q:List UInt8→Bool}{ks:List (List UInt8)}(hk:ks.Perm ((cA fs).filter q)):zn ks=(l.map (·.1)).filter q:=by
 have h1:(zn ks).Perm ((l.map (·.1)).filter q):=(List.mergeSort_perm _ _).trans (hk.trans (h.keys.filter q))
 have h2:(zn ks).Pairwise (· ≤·):=by
  have:=List.pairwise_mergeSort (le:=fun x y:List UInt8=>decide (x≤y)) (fun a b c hab hbc=>by simpa using List.le_trans (by simpa using hab) (by simpa using hbc)) (fun a b=>by simpa using List.le_total a b) ks
  exact this.imp (fun hab=>by simpa using hab)
 have h3:((l.map (·.1)).filter q).Pairwise (· ≤·):=(h.ord.imp (fun hlt=>List.le_of_lt hlt)).filter q
 exact h1.eq_of_pairwise (fun a b _ _ hab hba=>List.le_antisymm hab hba) h2 h3
theorem He{g:Nat}{st:da}{d:RD}{kk:Nat}{p:List UInt8}(hD:DS st d kk)(hkk:kk≤99000):b7 Tryz.prog 86 [.pointer (some ⟨g,0,none⟩),.string (strOf p)] [bF g st] [] (fun v_ X_ S_=>∃v,v_=v∧X_=[bF g st,aK 9 1 v (ia d p).length (ss (ia d p))]∧S_=[]∧((ia d p).length≤kk)):=by
 have h1:st.seen.length≤kk:=hD.ok.seen
 have h2:d.seen.length≤kk:=hD.C2.seen
 have h3:(ia d p).length≤kk:=Nat.le_trans (List.length_filter_le _ _) (by rw[List.length_map];exact h2)
 exact b7.mono (I9 (p:=p) (by omega)) (fun v X S h=>by
  obtain⟨v1,n,ks,h1,h2,h3',h4,h5⟩:=h
  have e:=hD.pJ.files.ia h5
  have hl:n=(ia d p).length:=by
   unfold ia
   rw[←e,h4]
   exact(List.mergeSort_perm _ _).length_eq.symm
  subst hl
  refine⟨v1,h1, ?_,h3',h3⟩
  rw[h2,e]
  rfl)
end Go.Proofs.YtmibdabdlgmafaaGreatDoor
end
section
namespace Go.Hx
open Go.Eng
end Go.Hx
end
section
namespace Go.Proofs.YtmibdabdlgmafaaGreatDoor
open Go.Eng Go.Hx
end Go.Proofs.YtmibdabdlgmafaaGreatDoor
end
section
namespace Go.Proofs.YtmibdabdlgmafaaGreatDoor
open Go.Eng Go.Hx
theorem pd(q:FP→Bool)(l:List FP):dN (l.filter q)≤dN l:=by
 induction l with
 |nil=>exact Nat.le_refl _
 |cons x r ih=>
  rw[List.filter_cons]
  have e:dN (x::r)=x.2.length+dN r:=by simp[dN]
  split
  ·have e2:dN (x::r.filter q)=x.2.length+dN (r.filter q):=by simp[dN]
   omega
  ·omega
theorem pG{q:FP→Bool}{l:List FP}{x:FP}(hx:x∈l)(hq:q x=false):dN (l.filter q)+x.2.length≤dN l:=by
 induction l with
 |nil=>cases hx
 |cons y r ih=>
  rw[List.filter_cons]
  have e:dN (y::r)=y.2.length+dN r:=by simp[dN]
  rcases List.mem_cons.1 hx with rfl|hm
  ·rw[hq]
   have:=pd q r
   simp only[Bool.false_eq_true,if_false]
   omega
  ·have h1:=ih hm
   split
   ·have e2:dN (y::r.filter q)=y.2.length+dN (r.filter q):=by simp[dN]
    omega
   ·omega
theorem uQ(l:List FP)(f:FP):dN (ix l f)≤dN l+f.2.length:=by
 induction l with
 |nil=>simp[ix,dN]
 |cons x r ih=>
  have e:dN (x::r)=x.2.length+dN r:=by simp[dN]
  rw[ix]
  split
  ·have e2:dN (x::ix r f)=x.2.length+dN (ix r f):=by simp[dN]
   omega
  ·have e2:dN (f::(x::r).filter fun y=>decide (y.1≠f.1))=f.2.length+dN ((x::r).filter fun y=>decide (y.1≠f.1)):=by simp[dN]
   have:=pd (fun y=>decide (y.1≠f.1)) (x::r)
   omega
structure At(d:RD)(F:List UInt8→Option (List UInt8))(T:Nat)(room:Int):Prop where
 pw:d.pw=-1
 room:d.room=room
 look:∀p,lk d.seen p=F p
 mP:dN d.seen≤T
def C5(F:List UInt8→Option (List UInt8))(p:List UInt8)(v:Option (List UInt8)):List UInt8→Option (List UInt8):=fun q=>if q=p then v else F q
theorem At.dO{d:RD}{F:List UInt8→Option (List UInt8)}{T:Nat}{room:Int}(h:At d F T room)(p:List UInt8):d.dO p=if F p=none then 4 else 0:=by
 have h1:=h.look p
 rw[←j2]at h1
 rw[RD.dO,if_neg (by rw[h.pw];decide)]
 cases hq:d.seen[cV d.seen p]? with
 |none=>rw[hq]at h1;rw[if_pos rfl,if_pos (by rw[←h1];rfl)]
 |some x=>rw[hq]at h1;rw[if_neg (by simp),if_neg (by rw[←h1];simp)]
theorem At.bX{d:RD}{F:List UInt8→Option (List UInt8)}{T:Nat}{room:Int}(h:At d F T room){p l:List UInt8}(hp:gv p)(hr:(T:Int)+(l.length:Nat)≤room):d.bX p l=0:=by
 have h1:=h.mP
 have h2:=h.room
 rw[RD.bX,if_neg (fun h=>h hp),if_neg (by rw[h.pw];decide),if_neg (by omega)]
theorem At.write{d:RD}{F:List UInt8→Option (List UInt8)}{T:Nat}{room:Int}(h:At d F T room){p l:List UInt8}(hp:gv p)(hr:(T:Int)+(l.length:Nat)≤room):At (d.write p l) (C5 F p (some l)) (T+l.length) room:=by
 have hs:(d.write p l).seen=ix d.seen (p,l):=by
  rw[RD.write,if_pos (h.bX hp hr)]
  show eo d.seen 0 p [] l=_
  rw[eo,if_pos rfl,jL]
 refine⟨?_, ?_,fun q=> ?_, ?_⟩
 ·rw[RD.write,if_pos (h.bX hp hr)]
  show eZ d.pw=-1
  rw[h.pw];rfl
 ·rw[RD.write,if_pos (h.bX hp hr)];exact h.room
 ·rw[hs,tW]
  unfold C5
  split
  ·rfl
  ·exact h.look q
 ·rw[hs]
  have:=uQ d.seen (p,l)
  have:=h.mP
  have e:(p,l).2.length=l.length:=rfl
  omega
theorem At.dM{d:RD}{F:List UInt8→Option (List UInt8)}{T:Nat}{room:Int}(h:At d F T room):d.dM=0:=by rw[RD.dM,if_neg (by rw[h.pw];decide)]
theorem At.sync{d:RD}{F:List UInt8→Option (List UInt8)}{T:Nat}{room:Int}(h:At d F T room):At d.sync F T room:=by
 have e:d.sync={d with dm:=d.seen,waits:=[],pw:=eZ d.pw}:=by rw[RD.sync,if_neg (by rw[h.pw];decide)]
 rw[e]
 exact⟨by show eZ d.pw=-1;rw[h.pw];rfl,h.room,h.look,h.mP⟩
theorem At.cg{d:RD}{F:List UInt8→Option (List UInt8)}{T:Nat}{room:Int}(h:At d F T room){a c x:List UInt8}(hc:gv c)(hx:F a=some x):d.cg a c=0:=by
 rw[RD.cg,if_neg (fun h=>h hc),h.dO,if_neg (by rw[hx];simp)]
theorem At.rename{d:RD}{F:List UInt8→Option (List UInt8)}{T:Nat}{room:Int}(h:At d F T room){a c x:List UInt8}(hc:gv c)(hx:F a=some x):At (d.rename a c) (C5 (C5 F a none) c (some x)) T room:=by
 have h1:=h.look a
 rw[←j2,hx]at h1
 obtain⟨y,hy,hyx⟩:∃y,d.seen[cV d.seen a]? =some y∧y.2=x:=by
  cases hq:d.seen[cV d.seen a]? with
  |none=>rw[hq]at h1;cases h1
  |some y=>rw[hq]at h1;exact⟨y,rfl,by simpa using h1⟩
 have hya:y.1=a:=by
  obtain⟨hi,he⟩:=List.getElem?_eq_some_iff.1 hy
  have:=List.findIdx_getElem (p:=fun x:FP=>decide (x.1=a)) (xs:=d.seen) (w:=hi)
  rw[←he]
  exact of_decide_eq_true this
 have hs:(d.rename a c).seen=ix (eg d.seen a) (c,x):=by
  rw[RD.rename,if_pos (h.cg hc hx)]
  show eo d.seen 1 a c []=_
  rw[eo,if_neg (by decide),hy]
  show(if(1:Int)=2 then _ else _)=_
  rw[if_neg (by decide),jL,hyx]
 refine⟨?_, ?_,fun q=> ?_, ?_⟩
 ·rw[RD.rename,if_pos (h.cg hc hx)]
  show eZ d.pw=-1
  rw[h.pw];rfl
 ·rw[RD.rename,if_pos (h.cg hc hx)];exact h.room
 ·rw[hs,tW]
  unfold C5 eg
  split
  ·rfl
  ·rw[lH]
   split
   ·rfl
   ·exact h.look q
 ·rw[hs]
  have h2:=uQ (eg d.seen a) (c,x)
  have h3:dN (eg d.seen a)+y.2.length≤dN d.seen:=pG (List.mem_of_getElem? hy) (by simp[hya])
  have:=h.mP
  have e:(c,x).2.length=x.length:=rfl
  rw[hyx]at h3
  omega
end Go.Proofs.YtmibdabdlgmafaaGreatDoor
end
