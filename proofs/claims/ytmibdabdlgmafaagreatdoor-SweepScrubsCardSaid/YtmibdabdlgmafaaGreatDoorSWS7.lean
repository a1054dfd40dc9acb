/- Part. -/
import Derived.Test.YtmibdabdlgmafaaGreatDoorSWS6
set_option linter.all false
section
set_option maxRecDepth 20000
set_option maxHeartbeats 4000000
namespace Go.Proofs.YtmibdabdlgmafaaGreatDoor
open Go.Eng Go.Hx
theorem B1{gw gd:Nat}{st:cF}{x:RX}{kk:Nat}(hD:DS st x.d kk)(hk:kk≤50000):cf Tryz.prog 69 [.pointer (some ⟨gw,0,none⟩)] [aL gw 121 (.pointer (some ⟨gd,0,none⟩)::x.cs),bk gd st] [c6 x] (fun v_ X_ S_=>v_=(.bool true)∧X_=[aL gw 121 (.pointer (some ⟨gd,0,none⟩)::x.cs),bk gd st]∧S_=[]):=by
 have ok:=hD.ok
 have okr:=hD.qy
 have hS:=hD.mB
 have hs1:=ok.seen
 have hs2:=okr.seen
 have hs3:=hS.files.Db
 have hs5:=hS.waits
 have hs8:=hS.bW
 refine aP (N:=67) Tryz.func69 rfl rfl (by simp) fun b=> ?_
 refine bC (fun w m=>m.jL 0 rfl View.yz) ?_
 refine a6 (fun m=>gX (m.rd 0 rfl)) ?_
 rintro⟨hl_f,hA_f⟩
 refine ah<|aj<|hy (fun _=>ab rfl)<|ai<|ag<|ah<|aj<|hy (fun _=>aa rfl)<|hy (fun _=>ba rfl)<|hy (fun _=>aI rfl eR (by decide))<|hy (fun m=>aw rfl kv (aE (m.aZ 0 rfl) (i:=0) rfl))<| ?_
 refine hx (aq rfl Tryz.call86 (DJ (show st.seen.length≤100000 by omega) (p:=[])) [1] rfl [] rfl ?_)
 rintro _ _ _ ⟨v,n,ks,rfl,rfl,rfl,hp⟩
 refine aA (fun m=>(m.own 1 rfl).slice) ?_
 rintro⟨A_x,c_x,rfl,hc_x⟩
 refine aA (fun m=>(m.ord 1 rfl).2.1) fun hA_x=> ?_
 obtain⟨hn1,hks⟩:=hp
 rw[pre_nil]at hks
 have hnm:=hS.files.names hks
 have hkl:=hks.length_eq
 have hka:(cn st.seen).length=st.seen.length:=by simp[cn]
 rw[hnm]
 refine hy (fun _=>ab rfl)<|ai<|al (ρ' :=[(3,_),(2,_),(0,_)]) ⟨rfl,rfl,rfl,trivial⟩<|ak (X' :=[_,_,_]) (S' :=[_,_]) (fun _ m=>m)<|ag<|ah<|ah<|cT [14,28] [(0,some 2),(1,some 2),(2,some 2),(3,some 2),(4,some 2),(5,some 2),(6,some 2),(7,some 2),(8,some 0),(9,some 0),(10,some 2),(11,some 2),(12,some 0),(13,some 0),(15,some 2),(16,some 2),(17,some 2),(18,some 2),(19,some 2),(20,some 1),(14,none),(21,some 1),(22,some 1),(23,some 1),(24,some 1),(25,some 1),(26,some 1),(27,some 1),(29,some 2),(30,some 2),(31,some 2),(32,some 2),(33,some 2),(34,some 2),(28,none),(35,some 2),(36,some 2)] (by kernel_rfl) (by kernel_rfl) rfl 99<|an (aa rfl)<|an (aT rfl Tryz.underlying152)<|an (aa rfl)<|an (ba rfl)<|an (aI rfl eP (by decide))<|an (aI rfl gD (by decide))<|cq (fun m=>aw rfl oQ (aE (m.aZ 2 rfl) (i:=2) rfl))<|an (aT rfl Tryz.underlying36)<|an (yF (cW rfl rfl) ((decide_eq_false (by omega))))<|an (aa rfl)<|bm (o:=_) rfl rfl rfl (aa rfl)<|bm (o:=_) rfl rfl rfl (ba rfl)<|bm (o:=_) rfl rfl rfl (aI rfl eR (by decide))<|iV (o:=_) rfl rfl rfl (fun m=>aw rfl kv (aE (m.aZ 2 rfl) (i:=0) rfl))<|bm (o:=_) rfl rfl rfl (aa rfl)<|bm (o:=_) rfl rfl rfl (ba rfl)<|bm (o:=_) rfl rfl rfl (aI rfl eP (by decide))<|bm (o:=_) rfl rfl rfl (aI rfl sH (by decide))<|iV (o:=_) rfl rfl rfl (fun m=>aw rfl G0 (aE (m.aZ 2 rfl) (i:=4) rfl))<|bm (o:=_) rfl rfl rfl (aT rfl Tryz.underlying37)<| ?_
 refine s6 (o:=_) rfl rfl rfl (aq rfl Tryz.call60 (Fz) [0] rfl [] rfl ?_)
 rintro _ _ _ ⟨rfl,rfl,rfl⟩
 refine⟨(fun _=>wk [0,0,0] [0,1] rfl rfl), ?_⟩
 refine bm (o:=_) rfl rfl rfl (yF (cW rfl rfl) ((decide_eq_false (by omega))))<|an (bD rfl rfl)<|an (aa rfl)<|bm (o:=_) rfl rfl rfl (aa rfl)<|bm (o:=_) rfl rfl rfl (ba rfl)<|bm (o:=_) rfl rfl rfl (aI rfl eR (by decide))<|iV (o:=_) rfl rfl rfl (fun m=>aw rfl kv (aE (m.aZ 2 rfl) (i:=0) rfl))<|bm (o:=_) rfl rfl rfl (aa rfl)<|bm (o:=_) rfl rfl rfl (ba rfl)<|bm (o:=_) rfl rfl rfl (aI rfl eP (by decide))<|bm (o:=_) rfl rfl rfl (aI rfl hO (by decide))<|iV (o:=_) rfl rfl rfl (fun m=>aw rfl fZ (aE (m.aZ 2 rfl) (i:=5) rfl))<|bm (o:=_) rfl rfl rfl (cW rfl rfl)<| ?_
 refine s6 (o:=_) rfl rfl rfl (aq rfl Tryz.call87 (FH) [0] rfl [] rfl ?_)
 rintro _ _ _ ⟨rfl,rfl,rfl⟩
 refine⟨(fun _=>wk [0,0,0] [0,1] rfl rfl), ?_⟩
 refine bm (o:=_) rfl rfl rfl (yF (GY Tryz.underlying4 rfl rfl) ((by rw[hs8];simp)))<|an (bD rfl rfl)<|bz<|al (ρ' :=[(46,_),(3,_),(2,_),(0,_)]) ⟨rfl,rfl,rfl,rfl,trivial⟩<|ak (X' :=[_,_,_]) (S' :=[_,_]) (fun _ m=>m)<|ag<| ?_
 refine dB rfl (rfl) ?_
 refine aB<|ag<|ah<|ah<|aj<|hy (fun _=>ab rfl)<|ai<|ag<|aK<| ?_
 refine dH (fun i=>n-i) (fun i=>[(4,.int .i64 (i:Nat))]) (fun i=>[bk gd st,aH 9 1 (.slice A_x n c_x) n (ss (x.d.seen.map (·.1))),aL gw 121 (.pointer (some ⟨gd,0,none⟩)::x.cs)]) (fun i=>[]) (fun i=>i≤n) 0 [(46,_),(3,_),(0,_)] ⟨rfl,rfl,rfl,trivial⟩ [0,0,0] rfl [] rfl (Nat.zero_le _) ⟨rfl,trivial⟩ (fun i hI=> ?_)
 refine ah<|ah<|aj<|hy (fun _=>aa rfl)<|hy (fun _=>aa rfl)<|hy (fun _=>aT rfl Tryz.underlying152)<|hy (fun _=>bw rfl rfl)<|ai<|al (ρ' :=[(50,_),(4,_),(46,_),(3,_),(0,_)]) ⟨rfl,rfl,rfl,rfl,rfl,trivial⟩<|ag<| ?_
 refine cG rfl (fun hlt=> ?_) (fun hlt=> ?_)
 ·have hil:i<x.d.seen.length:=by omega
  obtain⟨x0,hgx⟩:∃x0,x.d.seen[i]? =some x0:=⟨_,List.getElem?_eq_getElem hil⟩
  obtain⟨f0,f1⟩:=iR x.d.seen i x0 hgx
  have hnmi:(ss (x.d.seen.map (·.1)))[i]? =some (SV x0.1):=by simp[ss,List.getElem?_map,hgx]
  refine aB<|ag<|ah<|aK<|ah<|cT [] [(0,some 0),(1,some 0),(2,some 0),(3,some 0),(4,some 0),(5,some 0),(6,some 0),(7,some 0),(8,some 0),(9,some 0),(10,some 0),(11,some 0),(12,some 0),(13,some 0)] (by kernel_rfl) (by kernel_rfl) rfl 99<|an (aa rfl)<|an (aa rfl)<|an (aS rfl rfl Tryz.underlying152 HI hA_x rfl (by omega))<|cq (fun m=>yV (aw rfl lz ((m.ord 1 rfl).cell hnmi)) ((rfl:_=Value.string (strOf x0.1))))<|an (aa rfl)<|an (ba rfl)<|an (aI rfl eP (by decide))<|an (aI rfl gD (by decide))<|cq (fun m=>aw rfl oQ (aE (m.aZ 2 rfl) (i:=2) rfl))<|an (aa rfl)<|an (cD rfl rfl Tryz.underlying36 fa hA_f rfl (by omega))<|an (aI rfl eQ (by decide))<|cq (fun m=>yV (aw rfl lz (fm (m.rd 0 rfl) f0)) ((rfl:_=Value.string (strOf x0.1))))<|an (yF (oC rfl rfl) ((decide_eq_false (not_not_intro rfl))))<|bz<|al (ρ' :=[(66,_),(50,_),(4,_),(46,_),(3,_),(0,_)]) ⟨rfl,rfl,rfl,rfl,rfl,rfl,trivial⟩<|ag<| ?_
  refine dB rfl (rfl) ?_
  refine aB<|aO<|ag<|aj<|hy (fun _=>aa rfl)<|hy (fun _=>aN rfl rfl (bF (by omega) (by omega)))<|hy (fun _=>ab rfl)<|ai<|al (ρ' :=[(4,_),(66,_),(50,_),(46,_),(3,_),(0,_)]) ⟨rfl,rfl,rfl,rfl,rfl,rfl,trivial⟩<| ?_
  refine cX (i+1) ⟨rfl,rfl,rfl,rfl,trivial⟩ [0,0,0] rfl [0,1] rfl (by omega) (by omega)
 ·refine bL<|ao<|ao<|aD<|ag<|ah<|aj<|hy (fun _=>ab rfl)<|ai<|ag<|aX<| ?_
  exact bh trivial rfl rfl [2,0] rfl [] rfl ⟨rfl,rfl,rfl⟩
def nX:o4:=⟨List.replicate 32 0,List.length_replicate⟩
def G8:IX:=⟨0,0,0,nX,[],none,0⟩
def w9(oS:List It)(A:Option Addr)(c:Nat):IX:=⟨1,8,20,nX,oS,A,c⟩
def kz(z:Int):Nat:=(1+ef z 5).toNat
def fR(zl:List Int):List It:=(zl.take 5).map fun z=>(⟨bn (bo (kz z)),br _⟩,((3*kz z:Nat):Int))
def kL(zl:List Int)(i:Nat):List It:=(zl.take i).map fun z=>(⟨bn (bo (kz z)),br _⟩,((3*kz z:Nat):Int))
theorem x4{zl:List Int}{i:Nat}(h:i<zl.length):kL zl (i+1)=kL zl i++[(⟨bn (bo (kz (zl.getD i 0))),br _⟩,((3*kz (zl.getD i 0):Nat):Int))]:=by
 unfold kL
 rw[List.take_succ_eq_append_getElem h,List.map_append]
 simp[List.getD,h]
theorem mK{zl:List Int}{i:Nat}(h:i≤zl.length):(kL zl i).length=i:=by
 unfold kL
 rw[List.length_map,List.length_take]
 omega
theorem HD{P:Program}{pl:Nat→Option (Nat×Nat)}(h0:pl 0=some (0,3)):wm P pl G8.cs [(0,.agg [Value.int .i64 1,.int .i64 8,.int .i64 20].toArray)] (w9 [] none 0).cs:=
 .cons h0 (bu _) rfl (by rw[IX.fl];decide) (show wm P pl (bJ G8.cs 0 [Value.int .i64 1,.int .i64 8,.int .i64 20]) [] _ from .nil)
theorem HB{P:Program}{pl:Nat→Option (Nat×Nat)}{x:IX}(h0:pl 0=some (0,3))(h1:pl 1=some (3,32))(h2:pl 2=some (35,1)):wm P pl G8.cs [(0,.agg [Value.int .i64 x.mn,.int .i64 x.av,.int .i64 x.mx].toArray),(1,.agg (aW x.wv.b).toArray),(2,.slice x.A x.oS.length x.c)] x.cs:=by
 have hi:(aW x.wv.b).length=32:=by rw[az,x.wv.h]
 have hz:(aW nX.b).length=32:=by rw[az,nX.h]
 have e1:bJ G8.cs 0 [Value.int .i64 x.mn,.int .i64 x.av,.int .i64 x.mx]=[Value.int .i64 x.mn,.int .i64 x.av,.int .i64 x.mx]++aW nX.b++[.slice none 0 0]:=rfl
 have e2:bJ ([Value.int .i64 x.mn,.int .i64 x.av,.int .i64 x.mx]++aW nX.b++[.slice none 0 0]) 3 (aW x.wv.b)=[Value.int .i64 x.mn,.int .i64 x.av,.int .i64 x.mx]++aW x.wv.b++[.slice none 0 0]:=iJ rfl (by rw[hi,hz])
 have e3:bJ ([Value.int .i64 x.mn,.int .i64 x.av,.int .i64 x.mx]++aW x.wv.b++[.slice none 0 0]) 35 [.slice x.A x.oS.length x.c]=x.cs:=by
  have:=iJ (a:=[Value.int .i64 x.mn,.int .i64 x.av,.int .i64 x.mx]++aW x.wv.b) (b:=[Value.slice none 0 0]) (c:=[]) (vs:=[.slice x.A x.oS.length x.c]) (o:=35) (by simp[hi]) rfl
  rw[List.append_nil,List.append_nil]at this
  exact this
 exact .cons h0 (bu _) rfl (by rw[IX.fl];decide) (by rw[e1];exact .cons h1 (bu _) hi (by simp[hz]) (by rw[e2];exact .cons h2 rfl rfl (by simp[hi]) (by rw[show(Value.slice x.A x.oS.length x.c).cells.toList=[Value.slice x.A x.oS.length x.c]from rfl,e3];exact .nil)))
theorem CC{w:World}{g:Nat}{ty:TypeId}{a b c:List Value}(h:fi w g ty (a++b++c)):∀(j:Nat) (u:Value),b[j]? =some u→w.cell? (((⟨g,0,none⟩:Addr).add a.length).add j)=some u:=fun j u hu=>by
 have hj:=(List.getElem?_eq_some_iff.1 hu).1
 have:=h.ax (a.length+j) u (by rw[List.getElem?_append_left (by rw[List.length_append];omega),List.getElem?_append_right (by omega),Nat.add_sub_cancel_left];exact hu)
 rw[add_add]
 exact this
theorem FU{x:IX}:cf Tryz.prog 65 [.agg x.cs.toArray] [] [] (fun v_ X_ S_=>v_=(.agg x.cs.toArray)∧X_=[]∧S_=[]):=by
 have hi:(aW x.wv.b).length=32:=by rw[az,x.wv.h]
 refine aP (N:=10) Tryz.func65 rfl rfl (by simp) fun b=> ?_
 refine ah<|aj<| ?_
 refine hx (cw rfl (fun g1=> ?_))
 refine aQ (fun w m=>m.bN 0 rfl (show _=aL g1 82 x.cs from congrArg (aL _ _) (bu _))) ?_
 refine hx (aM Cl (fun g2=> ?_))
 refine ai<|ak (X' :=[_,_]) (S' :=[]) (fun _ m=>m)<|ag<|ah<|aj<|hy (fun _=>aI rfl Ee (by decide))<|hy (fun m=>aU rfl HO HM rfl (xt (a:=[Value.int .i64 x.mn,.int .i64 x.av,.int .i64 x.mx]) (b:=aW x.wv.b++[.slice x.A x.oS.length x.c]) (by have:=m.aZ 1 rfl;rwa [IX.cs,List.append_assoc]at this)))<|hy (fun _=>aI rfl FD (by decide))<|hy (fun m=>aU rfl b9 bg hi (CC (a:=[Value.int .i64 x.mn,.int .i64 x.av,.int .i64 x.mx]) (c:=[.slice x.A x.oS.length x.c]) (m.aZ 1 rfl)))<|hy (fun _=>aI rfl vc (by decide))<|hy (fun m=>aw rfl EG (aE (m.aZ 1 rfl) (i:=35) x.E6))<|hy (fun _=>cA Cl rfl rfl (by kernel_rfl) (HB (x:=x) FC Ep Fg))<| ?_
 refine cH (aJ 0 rfl rfl rfl Bi x.fl x.bA rfl ?_)
 refine ai<|al (ρ' :=[(2,_),(1,_),(0,_)]) ⟨rfl,rfl,rfl,trivial⟩<|ak (X' :=[_,_]) (S' :=[]) (fun _ m=>m)<|ag<|aX<| ?_
 exact fw trivial rfl rfl GL Bi x.fl (fun m=>(m.aZ 0 rfl).ax) [] rfl [] rfl ⟨rfl,rfl,rfl⟩
theorem G5{P:Program}{pl:Nat→Option (Nat×Nat)}{t:It}(h0:pl 0=some (0,32))(h1:pl 1=some (32,1)):wm P pl (zE (nX,0)) [(0,.agg (aW t.1.b).toArray),(1,.int .i64 t.2)] (zE t):=by
 have hz:(aW nX.b).length=32:=by rw[az,nX.h]
 have hn:(aW t.1.b).length=32:=by rw[az,t.1.h]
 have e1:bJ (zE (nX,0)) 0 (aW t.1.b)=aW t.1.b++[.int .i64 0]:=by
  have:=iJ (a:=[]) (b:=aW nX.b) (c:=[Value.int .i64 0]) (vs:=aW t.1.b) (o:=0) rfl (by rw[hn,hz])
  exact this
 have e2:bJ (aW t.1.b++[.int .i64 0]) 32 [.int .i64 t.2]=zE t:=by
  have:=iJ (a:=aW t.1.b) (b:=[Value.int .i64 0]) (c:=[]) (vs:=[.int .i64 t.2]) (o:=32) hn rfl
  rw[List.append_nil,List.append_nil]at this
  exact this
 exact .cons h0 (bu _) hn (by rw[mH];decide) (by rw[e1];exact .cons h1 rfl rfl (by simp[hn]) (by rw[show(Value.int .i64 t.2).cells.toList=[Value.int .i64 t.2]from rfl,e2];exact .nil))
theorem C2{oS its' :List It}{A A' :Option Addr}{c c' n:Nat}(hn:n=its'.length):(w9 oS A c).cs.set 35 (.slice A' n c')=(w9 its' A' c').cs:=by
 subst hn
 have hz:(aW nX.b).length=32:=by rw[az,nX.h]
 unfold IX.cs w9
 rw[List.set_append,if_neg (by simp[hz])]
 simp[hz]
theorem Ao{A:Option Addr}{n c:Nat}{zl:List Int}(hzl:s9 zl):cf Tryz.prog 64 [.slice A n c] [] [di 1 A n (ints zl),ey] (fun v_ X_ S_=>∃A1 c1,v_=(.agg (w9 (fR zl) A1 c1).cs.toArray)∧X_=[]∧S_=[di 33 A1 (fR zl).length (Bx (fR zl))]):=by
 refine aP (N:=35) Tryz.func64 rfl rfl (by simp) fun b=> ?_
 refine a6 (fun m=>gX (m.rd 0 rfl)) ?_
 rintro⟨hl_rl,hA_rl⟩
 refine a6 (fun m=>(m.rd 0 rfl).1) fun hln=> ?_
 have hln:zl.length=n:=by rw[ints,List.length_map,Nat.mul_one]at hln;exact hln
 refine ah<|aj<| ?_
 refine hx (aM E7 (fun g2=> ?_))
 refine ai<|ak (X' :=[_]) (S' :=[_,_]) (fun _ m=>m)<|ag<|ah<|aj<|hy (fun _=>cA HK rfl rfl (by kernel_rfl) (.cons (o:=0) (sz:=1) (by kernel_rfl) rfl rfl (Nat.le_of_ble_eq_true rfl) (.cons (o:=1) (sz:=1) (by kernel_rfl) rfl rfl (Nat.le_of_ble_eq_true rfl) (.cons (o:=2) (sz:=1) (by kernel_rfl) rfl rfl (Nat.le_of_ble_eq_true rfl) .nil))))<|hy (fun _=>cA E7 rfl rfl (by kernel_rfl) (HD Fb))<| ?_
 refine hx (aM E7 (fun g3=> ?_))
 refine cH (aJ 0 rfl rfl rfl va (IX.fl _) (IX.bA _) rfl ?_)
 refine aQ (fun w m=>m.bN 0 rfl (show _=aL g3 82 (w9 (kL zl 0) none 0).cs from rfl)) ?_
 refine ai<|al (ρ' :=[(3,_),(2,_),(0,_)]) ⟨rfl,rfl,rfl,trivial⟩<|ak (X' :=[_,_]) (S' :=[_,_]) (fun _ m=>m)<|ag<|ah<|ah<|aj<|hy (fun _=>ab rfl)<|ai<|ag<|aK<| ?_
 refine bC (fun w m=>m.dj (r' :=aH 100 33 (.slice none 0 0) 0 []) (.refl _ _) (Own.nil _ _ _ _) (fun k hk=>hk.elim)) ?_
 refine fS (fun i A1 c1=>n-i) (fun i A1 c1=>[(4,.int .i64 (i:Nat))]) (fun i A1 c1=>[aL g3 82 (w9 (kL zl i) A1 c1).cs,aH 100 33 (.slice A1 i c1) i (Bx (kL zl i))]) (fun i A1 c1=>[]) (fun i A1 c1=>i≤n∧i≤5) 0 none 0 [(3,_),(2,_),(0,_)] ⟨rfl,rfl,rfl,trivial⟩ [1,0] rfl [] rfl (⟨Nat.zero_le _,Nat.zero_le _⟩) ⟨rfl,trivial⟩ (fun i A1 c1 ⟨hin,hi5⟩=> ?_)
 refine ah<|ah<|aj<|hy (fun _=>aa rfl)<|hy (fun _=>aa rfl)<|hy (fun _=>aT rfl Tryz.underlying44)<|hy (fun _=>bw rfl rfl)<|hy (fun _=>aa rfl)<| ?_
 refine eY 12 rfl (fun h1=> ?_) (fun h1=> ?_)
 ·refine dW (o:=_) rfl rfl rfl (fun _=>aa rfl)<|dW (o:=_) rfl rfl rfl (fun _=>bw rfl rfl)<|hy (fun _=>bT rfl rfl)<|ai<|al (ρ' :=[(15,_),(4,_),(3,_),(2,_),(0,_)]) ⟨rfl,rfl,rfl,rfl,rfl,trivial⟩<|ag<| ?_
  refine cG rfl (fun h2=> ?_) (fun h2=> ?_)
  ·have hil:i<zl.length:=by omega
   have hz:=hzl.at hil
   have har:=n9 (zl.getD i 0) 5 (by decide)
   obtain⟨k5,hk5,hk5l⟩:∃k5:Nat,ef (zl.getD i 0) 5=(k5:Int)∧k5<5:=⟨(ef (zl.getD i 0) 5).toNat,by omega,by omega⟩
   have hkz:kz (zl.getD i 0)=k5+1:=by unfold kz;rw[hk5];omega
   have h6:ef ((k5+1:Nat):Int) 6=((k5+1:Nat):Int):=by unfold ef;rw[if_neg (by omega)];omega
   have hsc:=x4 hil
   rw[hkz]at hsc
   obtain⟨tt,htt⟩:∃tt:It,tt=(⟨bn (bo (k5+1)),br _⟩,((3*(k5+1):Nat):Int)):=⟨_,rfl⟩
   rw[←htt]at hsc
   have hl1:(kL zl (i+1)).length=i+1:=mK (by omega)
   refine aB<|ag<|ah<|aK<|ah<|aj<|hy (fun _=>aa rfl)<|hy (fun _=>aa rfl)<|hy (fun _=>aS rfl rfl Tryz.underlying44 s7 hA_rl rfl (by omega))<|hy (fun m=>aw rfl fZ ((m.rd 0 rfl).cell (m9 hil)))<| ?_
   refine hx (aq rfl Tryz.call16 (sA hz.1 hz.2 (by decide) (n:=(zl.getD i 0)) (m:=5)) [] rfl [] rfl ?_)
   rintro _ _ _ ⟨rfl,rfl,rfl⟩
   refine hy (fun _=>yV (aN rfl rfl (bF (by omega) (by omega))) ((show Value.int .i64 (1+ef (zl.getD i 0) 5)= .int .i64 ((k5+1:Nat):Int)from by rw[hk5];congr 1;omega)))<|hy (fun _=>ab rfl)<|ai<|al (ρ' :=[(5,_),(15,_),(4,_),(3,_),(2,_),(0,_)]) ⟨rfl,rfl,rfl,rfl,rfl,rfl,trivial⟩<|ak (X' :=[_,_,_]) (S' :=[_,_]) (fun _ m=>m)<|ag<|cT [3,7,8,10] [(0,some 2),(1,some 2),(2,some 0),(4,some 1),(5,some 1),(3,none),(6,some 1),(7,none),(8,none),(9,some 3),(10,none)] (by kernel_rfl) (by kernel_rfl) rfl 2<|an (aI rfl vc (by decide))<|cq (fun m=>aw rfl EG (aE (m.aZ 0 rfl) (i:=35) (show(w9 (kL zl i) A1 c1).cs[35]? =some (Value.slice A1 i c1)from by rw[IX.E6];show some (Value.slice A1 (kL zl i).length c1)=_;rw[mK (by omega)])))<|an (aa rfl)<|an (aa rfl)<|an (yV (fN rfl rfl (bF (by omega) (by omega))) ((show Value.int .i64 (3*((k5+1:Nat):Int))= .int .i64 tt.2 from by rw[htt];congr 1)))<| ?_
   refine ek (aq rfl Tryz.call30 (o7 (⟨by omega,by omega⟩) h6 (by omega)) [] rfl [1] rfl ?_)
   rintro _ _ _ ⟨rfl,rfl,rfl⟩
   refine⟨(fun _=>wk [0,0,0] [0,1] rfl rfl), ?_⟩
   have hta:Value.agg (aW (bn (bo (k5+1)))).toArray= .agg (aW tt.1.b).toArray:=by rw[htt]
   rw[hta]
   refine an (cA xy rfl rfl (by kernel_rfl) (G5 C6 BJ))<| ?_
   refine ek (b6 Tryz.underlying80 xy rfl rfl rfl (by intro v hv;rw[List.mem_singleton.1 hv];show(zE tt).toArray.size=33;rw[List.size_toArray,mH]) (by decide) (by decide) (fun g31=>⟨(fun _=>wk [1,1,1] [0,1] rfl rfl), ?_⟩))
   have hA_b31:0<1→(some (⟨g31,0,none⟩:Addr))≠none:=fun _ h=>by cases h
   refine gV (fun w m=>m.bN 0 rfl (show _=aH 100 33 (.slice (some ⟨g31,0,none⟩) 1 1) 1 (Bx [tt])from rfl)) ?_
   refine ek (bx 2 rfl rfl rfl Tryz.underlying80 Tryz.underlying80 (by exact .inl rfl) xy rfl (fun m=>Src.bR (m.ord 0 rfl)) BR (by unfold maxLen;omega) (by omega) (fun u=>⟨(fun h=>absurd h (by decide)), ?_⟩))
   refine cm (fun m=>(m.own 0 rfl).slice) ?_
   rintro⟨A_z,c_z,rfl,hc_z⟩
   refine cm (fun m=>(m.ord 0 rfl).2.1) fun hA_z=> ?_
   refine gV (fun w m=>m.bN 0 rfl (show _=aH 100 33 (.slice A_z (i+1) c_z) (i+1) (Bx (kL zl (i+1)))from congrArg (aH _ _ _ _) (by rw[hsc,vJ]))) ?_
   refine an (aI rfl vc (by decide))<| ?_
   refine kI (ct 2 rfl rfl rfl Hr rfl (by rw[IX.fl];decide) ⟨(fun h=>absurd h (by decide)), ?_⟩)
   refine bz<|al (ρ' :=[(5,_),(15,_),(4,_),(3,_),(2,_),(0,_)]) ⟨rfl,rfl,rfl,rfl,rfl,rfl,trivial⟩<|ak (X' :=[_,_,_,_]) (S' :=[_,_]) (fun _ m=>m)<|aO<|ag<|aj<|hy (fun _=>aa rfl)<|hy (fun _=>aN rfl rfl (bF (by omega) (by omega)))<|hy (fun _=>ab rfl)<|ai<|al (ρ' :=[(4,_),(5,_),(15,_),(3,_),(2,_),(0,_)]) ⟨rfl,rfl,rfl,rfl,rfl,rfl,trivial⟩<| ?_
   refine ak (fun w m=>m.bN 0 rfl (show _=aL g3 82 (w9 (kL zl (i+1)) A_z c_z).cs from congrArg (aL _ _) (C2 hl1.symm))) ?_
   refine fG (i+1) A_z c_z ⟨rfl,rfl,rfl,rfl,trivial⟩ [0,0,1] rfl [0,1] rfl (⟨by omega,by omega⟩) (by omega)
  ·refine bL<|ao<|ao<|aD<|ag<|ah<|aj<|hy (fun m=>aU rfl Cu va (IX.fl _) ((m.aZ 0 rfl).ax))<| ?_
   have htm:=iB (l:=zl) (i:=i) (n:=5) (by omega) (by omega) hi5
   have hid:kL zl i=fR zl:=by unfold kL fR;rw[htm]
   have hle:(fR zl).length=i:=by rw[←hid];exact mK (by omega)
   rw[hid,←hle]
   refine aQ (fun w m=>(m.perm (au [1] _ [_] _ rfl)).freeze) ?_
   refine aQ (fun w m=>m.jL 0 rfl .own) ?_
   refine cH (aJ 1 rfl rfl rfl va (IX.fl _) (IX.bA _) rfl ?_)
   refine ai<|al (ρ' :=[(15,_),(4,_),(3,_),(2,_),(0,_)]) ⟨rfl,rfl,rfl,rfl,rfl,trivial⟩<|ak (X' :=[_,_]) (S' :=[_,_,_,_]) (fun _ m=>m)<|ag<|aX<| ?_
   exact fw trivial rfl rfl Cu va (IX.fl _) (fun m=>(m.aZ 0 rfl).ax) [] rfl [0] rfl ⟨A1,c1,rfl,rfl,rfl⟩
 ·refine bI rfl rfl rfl (by decide)<|bI rfl rfl rfl (by decide)<|hy (fun _=>bD rfl rfl)<|ai<|al (ρ' :=[(15,_),(4,_),(3,_),(2,_),(0,_)]) ⟨rfl,rfl,rfl,rfl,rfl,trivial⟩<|ag<| ?_
  refine dB rfl (rfl) ?_
  refine bL<|ao<|ao<|aD<|ag<|ah<|aj<|hy (fun m=>aU rfl Cu va (IX.fl _) ((m.aZ 0 rfl).ax))<| ?_
  have htm:=iB (l:=zl) (i:=i) (n:=5) (by omega) (by omega) hi5
  have hid:kL zl i=fR zl:=by unfold kL fR;rw[htm]
  have hle:(fR zl).length=i:=by rw[←hid];exact mK (by omega)
  rw[hid,←hle]
  refine aQ (fun w m=>(m.perm (au [1] _ [_] _ rfl)).freeze) ?_
  refine aQ (fun w m=>m.jL 0 rfl .own) ?_
  refine cH (aJ 1 rfl rfl rfl va (IX.fl _) (IX.bA _) rfl ?_)
  refine ai<|al (ρ' :=[(15,_),(4,_),(3,_),(2,_),(0,_)]) ⟨rfl,rfl,rfl,rfl,rfl,trivial⟩<|ak (X' :=[_,_]) (S' :=[_,_,_,_]) (fun _ m=>m)<|ag<|aX<| ?_
  exact fw trivial rfl rfl Cu va (IX.fl _) (fun m=>(m.aZ 0 rfl).ax) [] rfl [0] rfl ⟨A1,c1,rfl,rfl,rfl⟩
theorem SD.sync{d:RD}{F:List UInt8→Option (List UInt8)}{T:Nat}{room:Int}(h:SD d F T room):SD d.sync F T room:=by
 have e:d.sync={d with b4:=d.seen,waits:=[],pw:=dU d.pw}:=by rw[RD.sync,if_neg (by rw[h.at_.pw];decide)]
 refine⟨h.at_.sync, ?_, ?_⟩
 ·rw[e]
 ·rw[e]
theorem qS(hs:kH (gE [1,2] [] []).seen):∃d',(gE [1,2] [] []).prune [bn (bo 1)]=(d',1,0)∧d'.eH (bn (bo 1))=0∧d'.eH (bn (bo 2))=4:=by
 have l1:=jD 1
 have l2:=jD 2
 obtain⟨_,s1⟩:=lh (bo 1)
 obtain⟨_,s2⟩:=lh (bo 2)
 have m1:=br (bo 1)
 have m2:=br (bo 2)
 have hne:bn (bo 1)≠bn (bo 2):=fun e=>absurd (yA (by decide) (by decide) e) (by decide)
 have hpn:aG (bn (bo 2))≠aG (bn (bo 1)):=fun e=>hne (ka m2 m1 e).symm
 obtain⟨d1,e1,h1⟩:=(SD.new 2000).put (b:=bo 1) (by omega) rfl (by omega)
 have hF2:oU (fun _=>none) (bo 1) (aG (bn (bo 2)))=none:=by
  unfold oU sr
  rw[if_neg hpn,if_neg (eG _ _),if_neg (eG _ _)]
 obtain⟨d2,e2,h2⟩:=h1.put (b:=bo 2) (by omega) hF2 (by omega)
 have hb:gE [1,2] [] []=d2.sync:=by
  have c1:jy 1=bo 1:=lG (show ef 1 6=((1:Nat):Int) by decide)
  have c2:jy 2=bo 2:=lG (show ef 2 6=((2:Nat):Int) by decide)
  show(((RD.new 2000).put (jy 1)).1.put (jy 2)).1.sync=_
  rw[c1,c2,e1,e2]
 have hd:=h2.sync
 rw[←hb]at hd
 generalize gE [1,2] [] []=d at hs hd ⊢
 have hF:∀q,lk d.seen q=oU (oU (fun _=>none) (bo 1)) (bo 2) q:=hd.at_.look
 have hF1:oU (oU (fun _=>none) (bo 1)) (bo 2) (aG (bn (bo 1)))=some (bK (bo 1)):=by
  rw[oU,sr,if_neg (fun e=>hpn e.symm),sr,if_neg (eG _ _),sr,if_neg (eG _ _)]
  exact qI _ _
 have hlo:cR (a7 d) [bn (bo 1)]=[bn (bo 2)]:=by
  refine dJ.ext (ke (ju hs)) (List.pairwise_singleton _ _) fun x=> ?_
  unfold cR
  rw[List.mem_filter,ki,hF,decide_eq_true_eq,List.mem_singleton,List.mem_singleton]
  constructor
  ·rintro⟨⟨hx,hq⟩,hn⟩
   refine Decidable.byContradiction fun h2' =>hq ?_
   have p2:aG x≠aG (bn (bo 2)):=fun e=>h2' (ka hx m2 e)
   have p1:aG x≠aG (bn (bo 1)):=fun e=>hn (ka hx m1 e)
   rw[oU,sr,if_neg p2,sr,if_neg (eG _ _),sr,if_neg (eG _ _),oU,sr,if_neg p1,sr,if_neg (eG _ _),sr,if_neg (eG _ _)]
  ·rintro rfl
   exact⟨⟨m2,by rw[qI];simp⟩,fun e=>hne e.symm⟩
 obtain⟨g1,g2,g3,g4,g5⟩:=zT (kp:=[bn (bo 1)]) hd.at_.pw hs hd.same hd.waits
 rw[hlo]at g1 g5
 refine⟨_,g1, ?_, ?_⟩
 ·have e5:=g5 (aG (bn (bo 1)))
  rw[if_neg (by rw[List.map_singleton,List.mem_singleton];exact fun e=>hpn e.symm)]at e5
  rw[(we (by rw[hd.at_.pw];decide) (by rw[g2];decide) e5).1]
  exact(get_at hd.at_ (by omega) hF1).1
 ·have e5:=g5 (aG (bn (bo 2)))
  rw[if_pos (by rw[List.map_singleton];exact List.mem_singleton.2 rfl)]at e5
  exact wo (d:=(d.prune [bn (bo 1)]).1) (F:=lk (d.prune [bn (bo 1)]).1.seen) (T:=dM (d.prune [bn (bo 1)]).1.seen) (room:=(d.prune [bn (bo 1)]).1.room) ⟨g2,rfl,fun _=>rfl,Nat.le_refl _⟩ e5
end Go.Proofs.YtmibdabdlgmafaaGreatDoor
end
section
set_option maxRecDepth 20000
set_option maxHeartbeats 4000000
namespace Go.Proofs.YtmibdabdlgmafaaGreatDoor
open Go.Eng Go.Hx
theorem Bd.Hb{d:RD}{B W:Nat}(h:Bd d B W):∀x∈d.seen,x.1.length≤1000000:=fun f hf=>Nat.le_trans (h.nS f hf) (by decide)
theorem um:cf Tryz.prog 63 [] [] [ey] (fun v_ X_ S_=>v_=(.bool true)∧X_=[]∧S_=[]):=by
 refine aP (N:=43) Tryz.func63 rfl rfl (by simp) fun b=> ?_
 refine ah<|aj<|hy (fun _=>ab rfl)<|ai<|ag<|ah<|aj<| ?_
 refine hx (b6 Tryz.underlying44 Eh rfl rfl rfl (by simp[Value.cells,B8]) (by decide) (by decide) (fun g4=> ?_))
 have hA_b4:0<2→(some (⟨g4,0,none⟩:Addr))≠none:=fun _ h=>by cases h
 refine aQ (fun w m=>m.bN 0 rfl (show _=aH 3 1 (.slice (some ⟨g4,0,none⟩) 2 2) 2 (ints [1,2])from rfl)) ?_
 refine aQ (fun w m=>(m.perm (au [0] _ [_] _ rfl)).freeze) ?_
 refine aQ (fun w m=>m.jL 0 rfl .own) ?_
 refine aA (fun m=>gX (m.rd 0 rfl)) ?_
 rintro⟨hl_b4r,hA_b4r⟩
 refine aQ (fun w m=>m.ob (r' :=di 1 none 0 []) (.refl _ _) (Rd.nil _ _ _) (fun k hk=>absurd rfl hk.1)) ?_
 have hA_z1:0<0→(none:Option Addr)≠none:=fun h=>absurd h (by decide)
 refine aQ (fun w m=>m.ob (r' :=di 1 none 0 []) (.refl _ _) (Rd.nil _ _ _) (fun k hk=>absurd rfl hk.1)) ?_
 have hA_z2:0<0→(none:Option Addr)≠none:=fun h=>absurd h (by decide)
 refine hx (aq rfl Tryz.call61 (tU (by intro z hz;simp only[List.mem_cons,List.not_mem_nil,or_false]at hz;rcases hz with rfl|rfl <;> decide) (fun z hz=>absurd hz (List.not_mem_nil)) (Nat.le_refl 0) (by decide) (zl:=[1,2]) (zb:=[]) (bb:=[])) [] rfl [2,1,0,4] rfl ?_)
 rintro _ _ _ ⟨gw,gd,st,y,rfl,rfl,rfl,hbg⟩
 refine hy (fun _=>ab rfl)<|ai<|al (ρ' :=[(1,_),(0,_)]) ⟨rfl,rfl,trivial⟩<|ak (X' :=[_,_]) (S' :=[_,_,_,_,_,_]) (fun _ m=>m)<|ag<|ah<|ah<|aj<|hy (fun _=>aa rfl)<|hy (fun _=>vU rfl rfl (by kernel_rfl))<|ai<|al (ρ' :=[(7,_),(1,_),(0,_)]) ⟨rfl,rfl,rfl,trivial⟩<|ag<| ?_
 refine dB rfl (rfl) ?_
 refine aB<|ag<|ah<|cT [4,5,6,7,8] [(0,some 4),(1,some 4),(2,some 4),(3,some 4),(4,none),(5,none),(6,none),(7,none),(8,none),(9,some 5),(10,some 5),(11,some 5),(12,some 5),(13,some 5)] (by kernel_rfl) (by kernel_rfl) rfl 4<|an (aa rfl)<|an (ba rfl)<|an (aI rfl eR (by decide))<|cq (fun m=>aw rfl kv (aE (m.aZ 0 rfl) (i:=0) rfl))<| ?_
 refine ek (b6 Tryz.underlying44 Eh rfl rfl rfl (by simp[Value.cells,B8]) (by decide) (by decide) (fun g13=>⟨(fun _=>wk [1,1] [0,1,2,3,4,5] rfl rfl), ?_⟩))
 have hA_b13:0<1→(some (⟨g13,0,none⟩:Addr))≠none:=fun _ h=>by cases h
 refine gV (fun w m=>m.bN 0 rfl (show _=aH 3 1 (.slice (some ⟨g13,0,none⟩) 1 1) 1 (ints [0])from rfl)) ?_
 refine gV (fun w m=>(m.perm (au [0] _ [_] _ rfl)).freeze) ?_
 refine gV (fun w m=>m.jL 0 rfl .own) ?_
 refine cm (fun m=>gX (m.rd 0 rfl)) ?_
 rintro⟨hl_b13r,hA_b13r⟩
 refine ek (aq rfl Tryz.call64 (Ao (by intro z hz;rw[List.mem_singleton.1 hz];decide) (zl:=[0])) [] rfl [0,7] rfl ?_)
 rintro _ _ _ ⟨A1,c1,rfl,rfl,rfl⟩
 refine⟨(fun _=>wk [0,0] [3,4,5,6,7,8] rfl rfl), ?_⟩
 refine cm (fun m=>gX (m.rd 0 rfl)) ?_
 rintro⟨hl_q2,hA_q2⟩
 refine ek (aq rfl Tryz.call65 (FU (x:=(w9 (fR [0]) A1 c1))) [] rfl [] rfl ?_)
 rintro _ _ _ ⟨rfl,rfl,rfl⟩
 refine⟨(fun _=>wk [0,0] [3,4,5,6,7,8] rfl rfl), ?_⟩
 refine ek (b6 Tryz.underlying125 Cl rfl rfl rfl (by simpa[Value.cells]using IX.fl _) (by decide) (by decide) (fun g16=>⟨(fun _=>wk [1,1] [3,4,5,6,7,8] rfl rfl), ?_⟩))
 have hA_b16:0<1→(some (⟨g16,0,none⟩:Addr))≠none:=fun _ h=>by cases h
 refine gV (fun w m=>m.bN 0 rfl (show _=aH 88 36 (.slice (some ⟨g16,0,none⟩) 1 1) 1 (G1 [w9 (fR [0]) A1 c1])from congrArg (aH _ _ _ _) (by simp[G1,Value.cells]))) ?_
 refine gV (fun w m=>(m.perm (au [0] _ [_] _ rfl)).freeze) ?_
 refine gV (fun w m=>m.jL 0 rfl .own) ?_
 refine cm (fun m=>gX (m.rd 0 rfl)) ?_
 rintro⟨hl_b16r,hA_b16r⟩
 refine gV (S' :=oW ([w9 (fR [0]) A1 c1].map IX.wj)::_) (fun w m=>m.BQ [2] rfl) ?_
 obtain⟨hye,hD,hB⟩:=hbg
 have hal:en [w9 (fR [0]) A1 c1]=[bn (bo 1)]:=by
  show [bn (bo (kz 0))]=_
  rw[show kz 0=1 by decide]
 have hsr:kH y.d.seen:=hD.mB.files.ord
 obtain⟨d',hpr,hg1,hg2⟩:=qS (by rw[←hye];exact hsr)
 rw[←hye,←hal]at hpr
 refine ek (aq rfl Tryz.call62 (Cw hD (by omega) hB.Hb rfl (by decide) (by rw[hal];decide) (L:=[w9 (fR [0]) A1 c1])) [1] rfl [1,0] rfl ?_)
 rintro _ _ _ ⟨st1,rfl,rfl,rfl,hE1⟩
 refine⟨(fun h=>absurd h (by decide)), ?_⟩
 rw[hpr]at hE1 ⊢
 replace hE1:DS st1 d' (100+100):=hE1
 refine an (aa rfl)<|an (ar rfl rfl)<|an (ar rfl rfl)<|an (ab rfl)<|an (ab rfl)<|bz<|al (ρ' :=[(3,_),(2,_),(7,_),(1,_),(0,_)]) ⟨rfl,rfl,rfl,rfl,rfl,trivial⟩<|ak (X' :=[_,_]) (S' :=[_,_,_,_,_,_,_,_,_,_,_,_]) (fun _ m=>m)<|ag<|ah<|pT [1] [0,1,2,3,4,5,6,7,8,9,10,11] rfl rfl [11,12,19,20] [(0,some 4),(1,some 4),(2,some 0),(3,some 4),(4,some 4),(5,some 0),(6,some 0),(7,some 4),(8,some 4),(9,some 1),(10,some 1),(11,none),(12,none),(13,some 2),(14,some 2),(15,some 3),(16,some 3),(17,some 3),(18,some 3),(19,none),(20,none),(21,some 4),(22,some 4),(23,some 4)] (by kernel_rfl) (by kernel_rfl) rfl 99<|an (aa rfl)<|an (cM rfl rfl)<|an (aa rfl)<|bm (o:=_) rfl rfl rfl (aa rfl)<|bm (o:=_) rfl rfl rfl (cM rfl rfl)<|an (bT rfl rfl)<|an (aa rfl)<|bm (o:=_) rfl rfl rfl (aa rfl)<|bm (o:=_) rfl rfl rfl (ba rfl)<|bm (o:=_) rfl rfl rfl (aI rfl eR (by decide))<|iV (o:=_) rfl rfl rfl (fun m=>aw rfl kv (aE (m.aZ 0 rfl) (i:=0) rfl))<| ?_
 refine s6 (o:=_) rfl rfl rfl (aq rfl Tryz.call30 (o7 (⟨by omega,by omega⟩) (by decide) (by omega) (k:=1)) [] rfl [11] rfl ?_)
 rintro _ _ _ ⟨rfl,rfl,rfl⟩
 refine⟨(fun _=>wk [1] [0,1,2,3,4,5,6,7,8,9,10,11] rfl rfl), ?_⟩
 refine s6 (o:=_) rfl rfl rfl (aq rfl Tryz.call145 (Fi hE1 (br _)) [0] rfl [11] rfl ?_)
 rintro _ _ _ ⟨rfl,rfl,rfl⟩
 refine⟨(fun _=>wk [1] [0,1,2,3,4,5,6,7,8,9,10,11] rfl rfl), ?_⟩
 rw[decide_eq_true hg1]
 refine an (bT rfl rfl)<|an (aa rfl)<|bm (o:=_) rfl rfl rfl (aa rfl)<|bm (o:=_) rfl rfl rfl (ba rfl)<|bm (o:=_) rfl rfl rfl (aI rfl eR (by decide))<|iV (o:=_) rfl rfl rfl (fun m=>aw rfl kv (aE (m.aZ 0 rfl) (i:=0) rfl))<| ?_
 refine s6 (o:=_) rfl rfl rfl (aq rfl Tryz.call30 (o7 (⟨by omega,by omega⟩) (by decide) (by omega) (k:=2)) [] rfl [11] rfl ?_)
 rintro _ _ _ ⟨rfl,rfl,rfl⟩
 refine⟨(fun _=>wk [1] [0,1,2,3,4,5,6,7,8,9,10,11] rfl rfl), ?_⟩
 refine s6 (o:=_) rfl rfl rfl (aq rfl Tryz.call145 (Fi hE1 (br _)) [0] rfl [11] rfl ?_)
 rintro _ _ _ ⟨rfl,rfl,rfl⟩
 refine⟨(fun _=>wk [1] [0,1,2,3,4,5,6,7,8,9,10,11] rfl rfl), ?_⟩
 rw[decide_eq_false (show¬d'.eH (bn (bo 2))=0 by rw[hg2];decide)]
 refine bm (o:=_) rfl rfl rfl ((jl rfl))<|an (bT rfl rfl)<|an (ab rfl)<|bz<|al (ρ' :=[(0,_),(3,_),(2,_),(7,_),(1,_)]) ⟨rfl,rfl,rfl,rfl,rfl,trivial⟩<|ak (X' :=[_,_]) (S' :=[_,_,_,_,_,_,_,_,_,_,_,_]) (fun _ m=>m)<|ag<|aX<| ?_
 exact bh trivial rfl rfl [] rfl [] rfl ⟨rfl,rfl,rfl⟩
theorem zt{P:(RD→RD×Int)→Prop}(hP:∀F,P F→∀d B W,Bd d B W→Bd (F d).1 B (W+1)):∀(Fs:List (RD→RD×Int)) {d:RD} {B W:Nat},(∀F∈Fs,P F)→Bd d B W→Bd (cr Fs d).1 B (W+Fs.length):=by
 intro Fs d B W hF h
 have:=Bd.cr 0 Fs (d:=d) (B:=B) (W:=W) (fun F hf d B W h=>(hP F (hF F hf) d B W h).le (Nat.le_refl _) (Nat.le_refl _)) h
 exact this.le (Nat.le_of_eq (by rw[Nat.zero_mul];rfl)) (Nat.le_refl _)
theorem Bd.rm{d:RD}{B W:Nat}(h:Bd d B W)(ns:List (List UInt8)):Bd (d.rm ns).1 B (W+ns.length+1):=by
 unfold RD.rm
 split
 ·exact h.le (Nat.le_refl _) (by omega)
 ·have:=zt (P:=fun F=>∀d B W,Bd d B W→Bd (F d).1 B (W+1)) (fun _ h=>h) (c5 ns++[cE]) (d:=d) (B:=B) (W:=W) (fun F hF=>by
   rcases List.mem_append.1 hF with hF|hF
   ·obtain⟨nm,_,rfl⟩:=List.mem_map.1 hF
    exact fun d B W h=>h.remove
   ·rw[List.mem_singleton.1 hF]
    exact fun d B W h=>h.sync.le (Nat.le_refl _) (Nat.le_succ _)) h
  refine this.le (Nat.le_refl _) ?_
  simp[c5]
  omega
end Go.Proofs.YtmibdabdlgmafaaGreatDoor
end
section
set_option maxRecDepth 20000
set_option maxHeartbeats 4000000
namespace Go.Proofs.YtmibdabdlgmafaaGreatDoor
open Go.Eng Go.Hx
theorem DS.Ir{st:cF}{d:RD}{k:Nat}(h:DS st d k)(p:List UInt8):(d.cC p).length≤10000000:=by
 have:=h.vo p
 omega
end Go.Proofs.YtmibdabdlgmafaaGreatDoor
end
section
set_option maxRecDepth 20000
set_option maxHeartbeats 4000000
namespace Go.Proofs.YtmibdabdlgmafaaGreatDoor
open Go.Eng Go.Hx
theorem Bd.ec{d:RD}{B W:Nat}(h:Bd d B W):Bd d.ec.1 B (W+(cJ d (a7 d)).length+1):=by
 unfold RD.ec
 split
 ·exact h.le (Nat.le_refl _) (by omega)
 ·split
  ·exact h.rm _
  ·exact h.rm _
theorem uh{d:RD}:kJ d.ec.2.1∧d.ec.2.1.length≤(a7 d).length:=by
 unfold RD.ec
 split
 ·exact⟨fun x h=>(List.not_mem_nil h).elim,Nat.zero_le _⟩
 ·split
  ·exact⟨fun x h=>(List.not_mem_nil h).elim,Nat.zero_le _⟩
  ·exact⟨qn (e8 d),ld⟩
theorem r9{A B C:Option Addr}{n c m mc_ k kc:Nat}{zl zb:List Int}{bb:List UInt8}{pw:Int}(hzl:s9 zl)(hzb:s9 zb)(hkc:k≤kc)(hkb:k≤140737488351232)(hpw:-9223372036854775808≤pw∧pw≤9223372036854775807):cf Tryz.prog 14 [.slice A n c,.slice B m mc_,.slice C k kc,.int .i64 pw] [] [di 1 A n (ints zl),di 1 B m (ints zb),di 1 C k (aW bb),ey] (fun v_ X_ S_=>v_=(.bool true)∧X_=[]∧S_=[]):=by
 refine aP (N:=98) Tryz.func14 rfl rfl (by simp) fun b=> ?_
 refine a6 (fun m=>gX (m.rd 0 rfl)) ?_
 rintro⟨hl_rl,hA_rl⟩
 refine a6 (fun m=>gX (m.rd 1 rfl)) ?_
 rintro⟨hl_rb,hA_rb⟩
 refine a6 (fun m=>ig (m.rd 2 rfl)) ?_
 rintro⟨hl_rc,hA_rc⟩
 refine ah<|aj<|hy (fun _=>ab rfl)<|ai<|ag<|ah<|aj<|hy (fun _=>aa rfl)<|hy (fun _=>aa rfl)<|hy (fun _=>aa rfl)<| ?_
 refine hx (aq rfl Tryz.call61 (tU hzl hzb hkc hkb) [] rfl [0,1,2,3] rfl ?_)
 rintro _ _ _ ⟨gw,gd,st,y,rfl,rfl,rfl,hbg⟩
 refine hy (fun _=>ab rfl)<|ai<|al (ρ' :=[(9,_),(8,_),(0,_),(1,_),(2,_),(3,_)]) ⟨rfl,rfl,rfl,rfl,rfl,rfl,trivial⟩<|ak (X' :=[_,_]) (S' :=[_,_,_,_,_]) (fun _ m=>m)<|ag<|ah<|ah<|aj<|hy (fun _=>aa rfl)<|hy (fun _=>vU rfl rfl (by kernel_rfl))<|ai<|al (ρ' :=[(21,_),(9,_),(8,_),(0,_),(1,_),(2,_),(3,_)]) ⟨rfl,rfl,rfl,rfl,rfl,rfl,rfl,trivial⟩<|ag<| ?_
 obtain⟨hye,hD,hB⟩:=hbg
 obtain⟨u1,u2,u3⟩:=vE zl zb bb
 rw[←hye]at u1 u2 u3
 have har:=n9 pw 10 (by decide)
 refine dB rfl (rfl) ?_
 refine aB<|ag<|ah<|aj<|hy (fun _=>aa rfl)<| ?_
 refine hx (aq rfl Tryz.call16 (sA hpw.1 hpw.2 (by decide) (n:=pw) (m:=10)) [] rfl [] rfl ?_)
 rintro _ _ _ ⟨rfl,rfl,rfl⟩
 refine hy (fun _=>cp rfl rfl (bF (by omega) (by omega)))<|hy (fun _=>ab rfl)<|ai<|al (ρ' :=[(10,_),(21,_),(9,_),(8,_),(0,_),(1,_),(2,_),(3,_)]) ⟨rfl,rfl,rfl,rfl,rfl,rfl,rfl,rfl,trivial⟩<|ak (X' :=[_,_]) (S' :=[_,_,_,_,_]) (fun _ m=>m)<|ag<|ah<|aj<|hy (fun _=>aa rfl)<|hy (fun _=>ba rfl)<|hy (fun _=>aI rfl eR (by decide))<|hy (fun m=>aw rfl kv (aE (m.aZ 0 rfl) (i:=0) rfl))<|hy (fun _=>aa rfl)<| ?_
 refine hx (aq rfl Tryz.call57 (Dm hD (show ef pw 10-1≤1000000000000 by omega)) [1] rfl [] rfl ?_)
 rintro _ _ _ ⟨st1,rfl,rfl,rfl,hE1⟩
 refine ai<|al (ρ' :=[(10,_),(21,_),(9,_),(8,_),(0,_),(1,_),(2,_),(3,_)]) ⟨rfl,rfl,rfl,rfl,rfl,rfl,rfl,rfl,trivial⟩<|ak (X' :=[_,_]) (S' :=[_,_,_,_,_]) (fun _ m=>m)<|ag<|ah<|aj<|hy (fun _=>aa rfl)<|hy (fun _=>aa rfl)<|hy (fun _=>ba rfl)<|hy (fun _=>aI rfl eP (by decide))<|hy (fun m=>yV (aU rfl ca bj rfl (tr (m.aZ 1 rfl))) ((rfl:_=Value.agg y.cs.toArray)))<|hy (fun _=>aa rfl)<| ?_
 refine hx (aq rfl Tryz.call58 (B4) [] rfl [0] rfl ?_)
 rintro _ _ _ ⟨y2,rfl,rfl,rfl,hyw⟩
 refine hy (fun _=>ba rfl)<|hy (fun _=>aI rfl eP (by decide))<| ?_
 refine cH (lD 1 rfl rfl rfl bj rfl bA (show 6≤6 from Nat.le_refl 6) ?_)
 refine aQ (fun w m=>m.bN 0 rfl (show _=aL gw 121 (.pointer (some ⟨gd,0,none⟩)::y2.cs)from congrArg (aL _ _) ny)) ?_
 rw[←hyw]at hE1
 have hB1:Bd y2.d 27 27:=by rw[hyw];exact hB.bW
 have hl1:y2.d.b4=y2.d.seen:=by rw[hyw];exact u2
 have hw1:y2.d.waits=[]:=by rw[hyw];exact u3
 have hs1:kH y2.d.seen:=hE1.mB.files.ord
 have hcl:(a7 y2.d).length≤100:=Nat.le_trans (fD y2.d) hE1.qy.seen
 have hsn:=uh (d:=y2.d)
 have hml:(cJ y2.d (a7 y2.d)).length≤100:=Nat.le_trans ld hcl
 have hB2:Bd (y2.d.ec).1 27 200:=hB1.ec.le (Nat.le_refl _) (by omega)
 refine ai<|al (ρ' :=[(10,_),(21,_),(9,_),(8,_),(0,_),(1,_),(2,_),(3,_)]) ⟨rfl,rfl,rfl,rfl,rfl,rfl,rfl,rfl,trivial⟩<|ak (X' :=[_,_]) (S' :=[_,_,_,_,_,_]) (fun _ m=>m)<|ag<|ah<|aj<|hy (fun _=>aa rfl)<|hy (fun _=>ba rfl)<|hy (fun _=>aI rfl eP (by decide))<|hy (fun m=>yV (aU rfl ca bj rfl (tr (m.aZ 0 rfl))) ((rfl:_=Value.agg y2.cs.toArray)))<| ?_
 refine hx (aq rfl Tryz.call75 (CI (⟨_,hE1⟩) (by omega) hs1 hB1.Hb hE1.Ir) [] rfl [0,5] rfl ?_)
 rintro _ _ _ ⟨y3,A1,k2,c1,rfl,rfl,rfl,hys⟩
 refine aA (fun m=>gX (m.rd 1 rfl)) ?_
 rintro⟨hl_o,hA_o⟩
 refine hy (fun _=>aa rfl)<|hy (fun _=>ar rfl rfl)<|hy (fun _=>ar rfl rfl)<|hy (fun _=>ar rfl rfl)<| ?_
 refine hx (aM fO (fun g11=> ?_))
 refine cH (aJ 0 rfl rfl rfl bj rfl bA rfl ?_)
 obtain⟨hyz,hkz⟩:=hys
 refine hy (fun _=>ab rfl)<|hy (fun _=>ab rfl)<|ai<|al (ρ' :=[(13,_),(12,_),(11,_),(10,_),(21,_),(9,_),(8,_),(0,_),(1,_),(2,_),(3,_)]) ⟨rfl,rfl,rfl,rfl,rfl,rfl,rfl,rfl,rfl,rfl,rfl,trivial⟩<|ak (X' :=[_,_,_]) (S' :=[_,_,_,_,_,_,_,_]) (fun _ m=>m)<|ag<|ah<|aj<|hy (fun _=>aa rfl)<|hy (fun m=>yV (aU rfl ca bj rfl ((m.aZ 0 rfl).ax)) ((rfl:_=Value.agg y3.cs.toArray)))<|hy (fun _=>ba rfl)<|hy (fun _=>aI rfl eP (by decide))<| ?_
 refine cH (lD 1 rfl rfl rfl bj rfl bA (show 6≤6 from Nat.le_refl 6) ?_)
 refine aQ (fun w m=>m.bN 0 rfl (show _=aL gw 121 (.pointer (some ⟨gd,0,none⟩)::y3.cs)from congrArg (aL _ _) ny)) ?_
 refine ai<|al (ρ' :=[(13,_),(12,_),(11,_),(10,_),(21,_),(9,_),(8,_),(0,_),(1,_),(2,_),(3,_)]) ⟨rfl,rfl,rfl,rfl,rfl,rfl,rfl,rfl,rfl,rfl,rfl,trivial⟩<|ak (X' :=[_,_,_]) (S' :=[_,_,_,_,_,_,_,_]) (fun _ m=>m)<|ag<|ah<|aj<|hy (fun _=>aa rfl)<|hy (fun _=>ba rfl)<|hy (fun _=>aI rfl eR (by decide))<|hy (fun m=>aw rfl kv (aE (m.aZ 0 rfl) (i:=0) rfl))<| ?_
 refine hx (aq rfl Tryz.call76 (BO hE1 (by omega) hB1.Hb) [2] rfl [7] rfl ?_)
 rintro _ _ _ ⟨st12,A12,k3,c12,rfl,rfl,rfl,hE2⟩
 obtain⟨hE2,hk2⟩:=hE2
 rw[←hyz]at hE2 hB2
 subst hkz
 subst hk2
 refine hy (fun _=>aa rfl)<|hy (fun _=>ar rfl rfl)<|hy (fun _=>ar rfl rfl)<|hy (fun _=>ab rfl)<|hy (fun _=>ab rfl)<|ai<|al (ρ' :=[(15,_),(14,_),(13,_),(12,_),(11,_),(10,_),(21,_),(9,_),(8,_),(0,_),(1,_),(2,_),(3,_)]) ⟨rfl,rfl,rfl,rfl,rfl,rfl,rfl,rfl,rfl,rfl,rfl,rfl,rfl,trivial⟩<|ak (X' :=[_,_,_,_]) (S' :=[_,_,_,_,_,_,_,_]) (fun _ m=>m)<|ag<|ah<|ah<|aj<|hy (fun _=>aa rfl)<|hy (fun _=>aa rfl)<|hy (fun _=>yF (cW rfl rfl) ((decide_eq_false (not_not_intro rfl))))<|hy (fun _=>aa rfl)<|dW (o:=_) rfl rfl rfl (fun _=>aa rfl)<|dW (o:=_) rfl rfl rfl (fun _=>aa rfl)<| ?_
 refine Gw (o:=_) rfl rfl rfl (cI rfl Tryz.call19 (vd hsn.1 (by omega)) [] rfl (.x 1 rfl .own (.s 1 rfl .nil)) ?_)
 rintro _ _ _ ⟨rfl,rfl,rfl⟩
 refine⟨rfl, ?_⟩
 refine dW (o:=_) rfl rfl rfl (fun _=>(jl rfl))<|hy (fun _=>bD rfl rfl)<|hy (fun _=>aa rfl)<|dW (o:=_) rfl rfl rfl (fun _=>aa rfl)<| ?_
 refine Gw (o:=_) rfl rfl rfl (aq rfl Tryz.call69 (B1 hE2 (by omega)) [2,0] rfl [0] rfl ?_)
 rintro _ _ _ ⟨rfl,rfl,rfl⟩
 refine dW (o:=_) rfl rfl rfl (fun _=>(jl rfl))<|hy (fun _=>bD rfl rfl)<|ai<|al (ρ' :=[(74,_),(15,_),(14,_),(13,_),(12,_),(11,_),(10,_),(21,_),(9,_),(8,_),(0,_),(1,_),(2,_),(3,_)]) ⟨rfl,rfl,rfl,rfl,rfl,rfl,rfl,rfl,rfl,rfl,rfl,rfl,rfl,rfl,trivial⟩<|ak (X' :=[_,_,_,_]) (S' :=[_,_,_,_,_,_,_,_]) (fun _ m=>m)<|ag<| ?_
 refine dB rfl (rfl) ?_
 refine aB<|ag<|ah<|ah<|aj<|hy (fun _=>aa rfl)<|hy (fun _=>cW rfl rfl)<|ai<|al (ρ' :=[(76,_),(74,_),(15,_),(14,_),(13,_),(12,_),(11,_),(10,_),(21,_),(9,_),(8,_),(0,_),(1,_),(2,_),(3,_)]) ⟨rfl,rfl,rfl,rfl,rfl,rfl,rfl,rfl,rfl,rfl,rfl,rfl,rfl,rfl,rfl,trivial⟩<|ag<| ?_
 refine cG rfl (fun he=> ?_) (fun he=> ?_)
 ·refine ah<|aj<| ?_
  refine hx (aq rfl Tryz.call63 (um) [] rfl [7] rfl ?_)
  rintro _ _ _ ⟨rfl,rfl,rfl⟩
  refine hy (fun _=>ab rfl)<|ai<|al (ρ' :=[(8,_),(76,_),(74,_),(15,_),(14,_),(13,_),(12,_),(11,_),(10,_),(21,_),(9,_),(0,_),(1,_),(2,_),(3,_)]) ⟨rfl,rfl,rfl,rfl,rfl,rfl,rfl,rfl,rfl,rfl,rfl,rfl,rfl,rfl,rfl,trivial⟩<|ak (X' :=[_,_,_,_]) (S' :=[_,_,_,_,_,_,_,_]) (fun _ m=>m)<|ag<|aX<|ay<| ?_
  exact bh trivial rfl rfl [] rfl [] rfl ⟨rfl,rfl,rfl⟩
 ·have he0:(y2.d.ec).2.2=0:=Decidable.not_not.1 he
  have hgood:=u9 hs1 hl1 hw1 he0
  rw[←hyz]at hgood
  refine bC (fun w m=>m.ob (r' :=di 1 none 0 []) (.refl _ _) (Rd.nil _ _ _) (fun k hk=>absurd rfl hk.1)) ?_
  have hA_zn:0<0→(none:Option Addr)≠none:=fun h=>absurd h (by decide)
  refine aB<|ag<|ah<|aj<|hy (fun _=>aa rfl)<|hy (fun _=>ba rfl)<|hy (fun _=>aI rfl eR (by decide))<|hy (fun m=>aw rfl kv (aE (m.aZ 0 rfl) (i:=0) rfl))<| ?_
  refine hx (aq rfl Tryz.call72 (vh hE2 (by omega) (Nat.le_refl 0) (bs:=[])) [1] rfl [0] rfl ?_)
  rintro _ _ _ ⟨st13,rfl,rfl,rfl,hE3⟩
  have hc3:(a7 (y3.d.ea [])).length≤200:=Nat.le_trans (fD _) hE3.qy.seen
  refine ai<|al (ρ' :=[(76,_),(74,_),(15,_),(14,_),(13,_),(12,_),(11,_),(10,_),(21,_),(9,_),(8,_),(0,_),(1,_),(2,_),(3,_)]) ⟨rfl,rfl,rfl,rfl,rfl,rfl,rfl,rfl,rfl,rfl,rfl,rfl,rfl,rfl,rfl,trivial⟩<|ak (X' :=[_,_,_,_]) (S' :=[_,_,_,_,_,_,_,_,_]) (fun _ m=>m)<|ag<|ah<|pT [1,1,1] [0,1,2,3,4,5,6,7,8] rfl rfl [8,9,13] [(0,some 3),(1,some 3),(2,some 1),(3,some 1),(4,some 3),(5,some 3),(6,some 3),(7,some 0),(8,none),(9,none),(10,some 2),(11,some 2),(12,some 2),(13,none),(14,some 3),(15,some 3)] (by kernel_rfl) (by kernel_rfl) rfl 99<|an (aa rfl)<|an (ba rfl)<|an (aI rfl eR (by decide))<|cq (fun m=>aw rfl kv (aE (m.aZ 0 rfl) (i:=0) rfl))<|an (aa rfl)<|an (ba rfl)<|an (aI rfl eR (by decide))<|cq (fun m=>aw rfl kv (aE (m.aZ 0 rfl) (i:=0) rfl))<| ?_
  refine ek (aq rfl Tryz.call20 (vp hE3 (by omega) ((hB2.ea []).Hb)) [0] rfl [] rfl ?_)
  rintro _ _ _ ⟨v,k4,rfl,rfl,rfl,hk3⟩
  refine⟨(fun _=>wk [2,2,2] [0,1,2,3,4,5,6,7,8] rfl rfl), ?_⟩
  refine cm (fun m=>(m.own 1 rfl).slice) ?_
  rintro⟨A_o3,c_o3,rfl,hc_o3⟩
  refine cm (fun m=>(m.ord 1 rfl).2.1) fun hA_o3=> ?_
  refine ek (cI rfl Tryz.call77 (DQ hE3 (e8 _) (by omega) (ds:=(a7 (y3.d.ea [])))) [0] rfl (.x 0 rfl .own (.s 8 rfl .nil)) ?_)
  rintro _ _ _ ⟨v2,k5,rfl,rfl,rfl,hk4⟩
  refine⟨rfl, ?_⟩
  refine⟨(fun _=>wk [3,3,3] [0,1,2,3,4,5,6,7,8] rfl rfl), ?_⟩
  refine cm (fun m=>(m.own 1 rfl).slice) ?_
  rintro⟨A_o4,c_o4,rfl,hc_o4⟩
  refine cm (fun m=>(m.ord 1 rfl).2.1) fun hA_o4=> ?_
  have hk40:(cJ (y3.d.ea []) (a7 (y3.d.ea []))).length=0:=by rw[hgood];rfl
  refine an (aT rfl Tryz.underlying33)<|an (yT (cM rfl rfl) ((decide_eq_true (by omega))))<|an (aa rfl)<| ?_
  refine s6 (o:=_) rfl rfl rfl (aq rfl Tryz.call63 (um) [] rfl [8] rfl ?_)
  rintro _ _ _ ⟨rfl,rfl,rfl⟩
  refine⟨(fun _=>wk [3,3,3] [0,1,2,3,4,5,6,7,8] rfl rfl), ?_⟩
  refine an (bT rfl rfl)<|an (ab rfl)<|bz<|al (ρ' :=[(8,_),(76,_),(74,_),(15,_),(14,_),(13,_),(12,_),(11,_),(10,_),(21,_),(9,_),(0,_),(1,_),(2,_),(3,_)]) ⟨rfl,rfl,rfl,rfl,rfl,rfl,rfl,rfl,rfl,rfl,rfl,rfl,rfl,rfl,rfl,trivial⟩<|ak (X' :=[_,_,_,_,_,_]) (S' :=[_,_,_,_,_,_,_,_,_]) (fun _ m=>m)<|ag<|aX<| ?_
  exact bh trivial rfl rfl [] rfl [] rfl ⟨rfl,rfl,rfl⟩
theorem jd(A:Option Addr)(n c:Nat)(xs:List Cell)(B:Option Addr)(m mc_:Nat)(ys:List Cell)(K:Option Addr)(k kc:Nat)(bl:List UInt8)(pw:Int)(W:World)(h1:(uv (.s 1 A n c xs)).holds W)(hT1:Ty Tryz.prog 44 [.s 1 A n c xs])(h2:(uv (.s 1 B m mc_ ys)).holds W)(hT2:Ty Tryz.prog 44 [.s 1 B m mc_ ys])(h3:Rd W 1 K k (aW bl))(hkc:k≤kc)(hkb:k≤140737488351232)(hpw:-9223372036854775808≤pw∧pw≤9223372036854775807)(hro:ey.holds W):
  Calls Tryz.prog 14 #[.slice A n c,.slice B m mc_,.slice K k kc,.int .i64 pw] W fun e w' =>e= .returned (.bool true)∧Fr No W w' :=by
 obtain⟨_,_,_,_,l1,e1,hv1,hz1⟩:=xk hT1
 cases e1
 obtain⟨_,_,_,_,l2,e2,hv2,hz2⟩:=xk hT2
 cases e2
 have r1:=(View.rowOf (n:=n) (c:=c) (A:=A) hv1).ok.1 W h1
 have r2:=(View.rowOf (n:=m) (c:=mc_) (A:=B) hv2).ok.1 W h2
 exact rV (r9 hz1 hz2 hkc hkb hpw) (by
  intro s hs
  simp only[List.mem_cons,List.not_mem_nil,or_false]at hs
  rcases hs with rfl|rfl|rfl|rfl
  ·exact r1
  ·exact r2
  ·exact h3
  ·exact hro)
end Go.Proofs.YtmibdabdlgmafaaGreatDoor
end
