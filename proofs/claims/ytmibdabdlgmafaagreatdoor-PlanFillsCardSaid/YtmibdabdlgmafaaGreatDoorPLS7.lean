/- Part. -/
import Derived.Test.YtmibdabdlgmafaaGreatDoorPLS6
set_option linter.all false
section
set_option maxRecDepth 20000
set_option maxHeartbeats 2000000
namespace Go.Proofs.YtmibdabdlgmafaaGreatDoor
open Go.Eng Go.Hx
def lW(its:List It):List (List UInt8):=its.foldl (fun ds t=>eE ds t.1.b) []
theorem wI(its:List It)(t:It):lW (its++[t])=eE (lW its) t.1.b:=by simp[lW]
theorem sv(its:List It)(nm:List UInt8):nm∈lW its↔nm∈its.map (fun t=>t.1.b):=by
 have h:∀(its:List It) (ds:List (List UInt8)),nm∈its.foldl (fun ds t=>eE ds t.1.b) ds↔nm∈ds∨nm∈its.map (fun t=>t.1.b):=by
  intro its
  induction its with
  |nil=>intro ds;simp
  |cons t r ih=>
   intro ds
   rw[List.foldl_cons,ih,uW,List.map_cons,List.mem_cons,or_assoc]
 have:=h its []
 simpa[lW]using this
theorem zy(its:List It):xh (lW its):=fun x hx=>by
 obtain⟨t,_,rfl⟩:=List.mem_map.1 ((sv its x).1 hx)
 exact t.1.h
theorem yS(its:List It):(lW its).length≤its.length:=by
 have h:∀(its:List It) (ds:List (List UInt8)),(its.foldl (fun ds t=>eE ds t.1.b) ds).length≤ds.length+its.length:=by
  intro its
  induction its with
  |nil=>intro ds;simp
  |cons t r ih=>
   intro ds
   rw[List.foldl_cons,List.length_cons]
   have h1:=ih (eE ds t.1.b)
   have h2:=uP ds t.1.b
   omega
 have:=h its []
 simpa[lW]using this
theorem wZ{its:List It}{i:Nat}{t:It}(h:its[i]? =some t):its.take (i+1)=its.take i++[t]:=by
 obtain⟨h1,rfl⟩:=List.getElem?_eq_some_iff.1 h
 exact List.take_succ_eq_append_getElem h1
theorem JJ{g gs gm gd ge gq kk:Nat}{st:da}{d:RD}{q:Pn}{A:Option Addr}{c:Nat}{rs:List aR}{l:xf}{I:Option Addr}{n ci:Nat}{its:List It}(hD:DS st d kk)(hok:gN q rs l)(hl:its.length=n)(hn:n≤100000):b7 Tryz.prog 131 [.slice I n ci,.func (.func 129) #[] #[.pointer (some ⟨gq,0,none⟩)],.func (.func 132) #[] #[.pointer (some ⟨gd,0,none⟩),.pointer (some ⟨ge,0,none⟩)]] [aH gq 33 [.slice none 0 0],aK 53 32 (.slice none 0 0) 0 (dc []),bF g st,eS gs gm q A c rs l,aH gd 35 [.pointer (some ⟨g,0,none⟩)],aH ge 83 [.pointer (some ⟨gs,0,none⟩)]] [cL 33 I n (jD its),dZ] (fun v_ X_ S_=>∃A1 k1 c1,v_=(.slice A1 k1 c1)∧X_=[aK 101 33 (.slice A1 k1 c1) k1 (jD (ib (cG d q (rs.map aR.l)) its)),bF g st,eS gs gm q A c rs l]∧S_=[]∧(k1=(ib (cG d q (rs.map aR.l)) its).length)):=by
 refine aM (N:=27) Tryz.func131 rfl rfl (by simp) fun b=> ?_
 refine a6 (fun m=>fH (m.rd 0 rfl)) ?_
 rintro⟨hl_it,hA_it⟩
 refine ae<|ai<|aG rfl<|ag<|ab<|ae<|ai<|aG rfl<|ag<|ab<|ae<|ae<|ai<|aw rfl<|hy (fun _=>aY rfl Tryz.underlying80)<|aw rfl<|ag<|ab<|aN<| ?_
 refine bk (fun w m=>m.cQ (r' :=aK 101 33 (.slice none 0 0) 0 []) (.refl _ _) (Own.nil _ _ _ _) (fun k hk=>hk.elim)) ?_
 refine Hg (fun i A1 k1 c1 A2 n2 c2=>n-i) (fun i A1 k1 c1 A2 n2 c2=>[(12,.int .i64 (i:Nat)),(7,.slice A1 k1 c1)]) (fun i A1 k1 c1 A2 n2 c2=>[aK 101 33 (.slice A1 k1 c1) k1 (jD (ea (cG d q (rs.map aR.l)) its i)),aH gq 33 [.slice A2 n2 c2],aK 53 32 (.slice A2 n2 c2) n2 (dc (lW (its.take i)))]) (fun i A1 k1 c1 A2 n2 c2=>[]) (fun i A1 k1 c1 A2 n2 c2=>i≤n∧k1=(ea (cG d q (rs.map aR.l)) its i).length∧n2=(lW (its.take i)).length) 0 none 0 0 none 0 0 [(11,_),(10,_),(6,_),(0,_),(1,_),(2,_)] ⟨rfl,rfl,rfl,rfl,rfl,rfl,trivial⟩ [0,0,0] rfl [] rfl (⟨Nat.zero_le _,rfl,rfl⟩) ⟨rfl,rfl,trivial⟩ (fun i A1 k1 c1 A2 n2 c2 ⟨hi,hk1,hn2⟩=> ?_)
 refine ae<|ai<|hy (fun _=>bw rfl rfl)<|ag<|ab<|ae<| ?_
 refine cB rfl (fun hlt=> ?_) (fun hlt=> ?_)
 ·obtain⟨t,ht⟩:∃t,its[i]? =some t:=⟨_,List.getElem?_eq_getElem (by omega)⟩
  have hsu:=kO (fr:=cG d q (rs.map aR.l)) ht
  have hsl:=ky (fr:=cG d q (rs.map aR.l)) (its:=its) i
  have hse:=wI (its.take i) t
  rw[←wZ ht]at hse
  have hsm:=sv (its.take i) t.1.b
  have hsn:=yS (its.take i)
  rw[List.length_take]at hsn
  refine aC<|ab<|ae<|aN<|ae<|ai<|hy (fun _=>cC rfl rfl Tryz.underlying80 jK hA_it rfl (by omega))<|hy (fun m=>yV (aQ rfl xN jK (cf t) (dJ (f:=fz) cf (m.rd 0 rfl) ht)) ((rfl:_=Value.agg (fz t).toArray)))<| ?_
  refine hx (bf l7 (fun g9=> ?_))
  refine cI (ba 0 rfl rfl rfl jK (cf t) (nE t) rfl ?_)
  refine ag<|aB [9,13,12,7,11,10,6,0,1,2] rfl<|aj (X' :=[_,_,_,_,_,_,_,_]) (S' :=[_,_]) (fun _ m=>m)<|ab<|ae<|ai<|aw rfl<|hy (fun m=>yV (aQ rfl xN jK (cf t) ((m.aU 0 rfl).au)) ((rfl:_=Value.agg (fz t).toArray)))<| ?_
  refine hx (eT rfl rfl Tryz.call129 (Hj (zy _) hn2.symm (by omega) (t:=t)) [2,2] rfl [] rfl ?_)
  rintro _ _ _ ⟨A3,n3,c3,rfl,rfl,rfl,hn3⟩
  rw[←hse]at hn3
  rw[←hse]
  refine ag<|aB [18,9,13,12,7,11,10,6,0,1,2] rfl<|aj (X' :=[_,_,_,_,_,_,_,_]) (S' :=[_,_]) (fun _ m=>m)<|ab<| ?_
  refine cB rfl (fun hin=> ?_) (fun hin=> ?_)
  ·rw[if_neg (fun h=>hin (hsm.2 h))]at hsu
   refine ai<|aw rfl<|aw rfl<|hy (fun m=>yV (aQ rfl xN jK (cf t) ((m.aU 2 rfl).au)) ((rfl:_=Value.agg (fz t).toArray)))<| ?_
   refine hx (eT rfl rfl Tryz.call132 (Hp hD hok (t:=t)) [4,4,4,4] rfl [1] rfl ?_)
   rintro _ _ _ ⟨rfl,rfl,rfl⟩
   refine hx (bQ Tryz.underlying78 u7 rfl rfl rfl (by intro v hv;rw[List.mem_singleton.1 hv];show(fz (t.1,cG d q (rs.map aR.l) t.1.b)).toArray.size=33;rw[List.size_toArray,cf]) (by decide) (by decide) (fun g23=> ?_))
   have hA_b23:0<1→(some (⟨g23,0,none⟩:Addr))≠none:=fun _ h=>by cases h
   refine aJ (fun w m=>m.bz 0 rfl (show _=aK 101 33 (.slice (some ⟨g23,0,none⟩) 1 1) 1 (jD [(t.1,cG d q (rs.map aR.l) t.1.b)])from rfl)) ?_
   refine hx (bs 8 rfl rfl rfl Tryz.underlying78 Tryz.underlying78 (by exact .inl rfl) u7 rfl (fun m=>Src.bJ (m.ord 0 rfl)) kx (by unfold maxLen;omega) (by omega) (fun u=> ?_))
   refine az (fun m=>(m.own 0 rfl).slice) ?_
   rintro⟨A_z,c_z,rfl,hc_z⟩
   refine az (fun m=>(m.ord 0 rfl).2.1) fun hA_z=> ?_
   refine aJ (fun w m=>m.bz 0 rfl (show _=aK 101 33 (.slice A_z (k1+1) c_z) (k1+1) (jD (ea (cG d q (rs.map aR.l)) its (i+1)))from congrArg (aK _ _ _ _) (by rw[hsu,fI]))) ?_
   refine aG rfl<|ag<|aB [7,18,9,13,12,11,10,6,0,1,2] rfl<|aj (X' :=[_,_,_,_,_,_,_,_,_]) (S' :=[_,_]) (fun _ m=>m)<|aS<|ab<|ai<|hy (fun _=>aP rfl rfl (bA (by omega) (by omega)))<|aw rfl<|ag<|aB [12,7,18,9,13,11,10,6,0,1,2] rfl<| ?_
   refine Bq (i+1) A_z (k1+1) c_z A3 n3 c3 ⟨rfl,rfl,rfl,rfl,rfl,rfl,rfl,rfl,trivial⟩ [0,5,5,1,1,1,1] rfl [0,1] rfl (⟨by omega,by rw[hsu,List.length_append,hk1];rfl,hn3⟩) (by omega)
  ·rw[if_pos (hsm.1 (Decidable.not_not.1 hin))]at hsu
   rw[←hsu]at hk1
   rw[←hsu]
   refine aC<|aS<|ab<|ai<|hy (fun _=>aP rfl rfl (bA (by omega) (by omega)))<|aw rfl<|ag<|aB [12,18,9,13,7,11,10,6,0,1,2] rfl<| ?_
   refine Bq (i+1) A1 k1 c1 A3 n3 c3 ⟨rfl,rfl,rfl,rfl,rfl,rfl,rfl,rfl,trivial⟩ [3,0,0,1,1,1,1] rfl [0,1] rfl (⟨by omega,hk1,hn3⟩) (by omega)
 ·obtain rfl:i=its.length:=by omega
  refine bG<|an<|an<|aE<|ab<|ae<|ai<|aw rfl<|aG rfl<|ag<|aB [6,13,12,7,11,10,0,1,2] rfl<|ab<|aV<| ?_
  exact bc trivial rfl rfl [0,2,2] rfl [] rfl ⟨A1,k1,c1,rfl,rfl,rfl,hk1⟩
theorem Bt{g gs gm kk:Nat}{st:da}{d:RD}{q:Pn}{A:Option Addr}{c:Nat}{rs:List aR}{l:xf}{u:IX}(hD:DS st d kk)(hok:gN q rs l)(hu:u.its.length≤100000):b7 Tryz.prog 42 [.pointer (some ⟨g,0,none⟩),.agg u.cs.toArray,.pointer (some ⟨gs,0,none⟩)] [bF g st,eS gs gm q A c rs l] [cL 33 u.A u.its.length (jD u.its),dZ] (fun v_ X_ S_=>∃A1 k1 c1,v_=(.slice A1 k1 c1)∧X_=[aK 101 33 (.slice A1 k1 c1) k1 (jD (ib (cG d q (rs.map aR.l)) u.its)),bF g st,eS gs gm q A c rs l]∧S_=[]∧(k1=(ib (cG d q (rs.map aR.l)) u.its).length)):=by
 refine aM (N:=15) Tryz.func42 rfl rfl (by simp) fun b=> ?_
 refine a6 (fun m=>fH (m.rd 0 rfl)) ?_
 rintro⟨hl_it,hA_it⟩
 refine ae<|ai<| ?_
 refine hx (bu rfl (fun g3=> ?_))
 refine aJ (fun w m=>m.bz 0 rfl (show _=aH g3 35 [.pointer (some ⟨g,0,none⟩)]from rfl)) ?_
 refine hx (bu rfl (fun g4=> ?_))
 refine aJ (fun w m=>m.bz 0 rfl (show _=aH g4 88 u.cs from congrArg (aH _ _) (aT _))) ?_
 refine hx (bu rfl (fun g5=> ?_))
 refine aJ (fun w m=>m.bz 0 rfl (show _=aH g5 83 [.pointer (some ⟨gs,0,none⟩)]from rfl)) ?_
 refine aG rfl<|ag<|aj (X' :=[_,_,_,_,_]) (S' :=[_,_]) (fun _ m=>m)<|ab<|ae<|ai<| ?_
 refine hx (bf Ko (fun g7=> ?_))
 refine aJ (fun w m=>m.bz 0 rfl (show _=aH g7 33 [.slice none 0 0]from rfl)) ?_
 refine aJ (fun w m=>m.cQ (r' :=aK 53 32 (.slice none 0 0) 0 []) (.refl _ _) (Own.nil _ _ _ _) (fun k hk=>hk.elim)) ?_
 refine ag<|aj (X' :=[_,_,_,_,_,_,_]) (S' :=[_,_]) (fun _ m=>m)<|ab<|ae<|ai<|hy (fun _=>fU rfl rfl)<|aG rfl<|ag<|aB [8,7,6,5,4,3,0,1,2] rfl<|ab<|ae<|ai<|hy (fun _=>aF rfl Hd (by decide))<|hy (fun m=>ao rfl wy (aA (m.aU 3 rfl) (i:=35) u.CL))<|aw rfl<|hy (fun _=>fU rfl rfl)<| ?_
 refine hx (aq rfl Tryz.call131 (JJ hD hok rfl hu) [1,0,3,3,2,0] rfl [0,1] rfl ?_)
 rintro _ _ _ ⟨A1,k1,c1,rfl,rfl,rfl,hp⟩
 refine aG rfl<|ag<|aB [6,8,7,5,4,3,0,1,2] rfl<|aj (X' :=[_,_,_,_]) (S' :=[_,_]) (fun _ m=>m)<|ab<|aV<| ?_
 exact bc trivial rfl rfl [0,0,0] rfl [] rfl ⟨A1,k1,c1,rfl,rfl,rfl,hp⟩
theorem Eo{gf:Nat}{k:Int}{t:It}:b7 Tryz.prog 198 [.agg (fz t).toArray,.pointer (some ⟨gf,0,none⟩)] [aH gf 3 [.int .i64 k]] [] (fun v_ X_ S_=>v_=(.bool (decide (t.2=k)))∧X_=[aH gf 3 [.int .i64 k]]∧S_=[]):=by
 refine aM (N:=8) Tryz.func198 rfl rfl (by simp) fun b=> ?_
 refine ae<|ai<| ?_
 refine hx (bu rfl (fun g2=> ?_))
 refine aJ (fun w m=>m.bz 0 rfl (show _=aH g2 101 (fz t)from congrArg (aH _ _) (aT _))) ?_
 refine aG rfl<|ag<|aj (X' :=[_,_]) (S' :=[]) (fun _ m=>m)<|ab<|ae<|ai<|hy (fun _=>aF rfl xz (by decide))<|hy (fun m=>ao rfl dD ((m.aU 0 rfl).au 32 _ (nP t)))<|hy (fun m=>ao rfl dD (aA (m.aU 1 rfl) rfl))<|hy (fun _=>cx rfl rfl)<|aG rfl<|ag<|aB [3,2,0,1] rfl<|ab<|aV<| ?_
 exact bc trivial rfl rfl [1] rfl [] rfl ⟨rfl,rfl,rfl⟩
theorem DW{t:It}:b7 Tryz.prog 199 [.agg (fz t).toArray] [] [] (fun v_ X_ S_=>v_=(.agg (aW t.1.b).toArray)∧X_=[]∧S_=[]):=by
 have h32:(aW t.1.b).length=32:=by rw[ax,t.1.h]
 refine aM (N:=5) Tryz.func199 rfl rfl (by simp) fun b=> ?_
 refine ae<|ai<| ?_
 refine hx (bu rfl (fun g1=> ?_))
 refine aJ (fun w m=>m.bz 0 rfl (show _=aH g1 101 (fz t)from congrArg (aH _ _) (aT _))) ?_
 refine hx (bf dw (fun g2=> ?_))
 refine ag<|aj (X' :=[_,_]) (S' :=[]) (fun _ m=>m)<|ab<|ae<|ai<|hy (fun _=>aF rfl Ei (by decide))<|hy (fun m=>aQ rfl b5 bp h32 (fun j u hu=>(m.aU 1 rfl).au j u (jb hu)))<| ?_
 refine cI (ba 0 rfl rfl rfl bp h32 bn rfl ?_)
 refine ag<|aB [2,1,0] rfl<|aj (X' :=[_,_]) (S' :=[]) (fun _ m=>m)<|ab<|aV<| ?_
 exact eO trivial rfl rfl b5 bp h32 (fun m=>(m.aU 0 rfl).au) [] rfl [] rfl ⟨rfl,rfl,rfl⟩
theorem Ji{gf:Nat}{k:Int}{S:Option Addr}{n cs:Nat}{l:List It}(hl:l.length=n)(hn:n≤100000):b7 Tryz.prog 197 [.slice S n cs,.func (.func 198) #[] #[.pointer (some ⟨gf,0,none⟩)],.func (.func 199) #[] #[]] [aH gf 3 [.int .i64 k]] [cL 33 S n (jD l)] (fun v_ X_ S_=>∃A1 k1 c1,v_=(.slice A1 k1 c1)∧X_=[aK 53 32 (.slice A1 k1 c1) k1 (dc (eu l k))]∧S_=[]∧(k1=(eu l k).length)):=by
 refine aM (N:=27) Tryz.func197 rfl rfl (by simp) fun b=> ?_
 refine a6 (fun m=>fH (m.rd 0 rfl)) ?_
 rintro⟨hl_r,hA_r⟩
 refine ae<|ai<|aG rfl<|ag<|ab<|ae<|ai<|aG rfl<|ag<|ab<|ae<|ae<|ai<|aw rfl<|hy (fun _=>aY rfl Tryz.underlying78)<|aw rfl<|ag<|ab<|aN<| ?_
 refine bk (fun w m=>m.cQ (r' :=aK 53 32 (.slice none 0 0) 0 []) (.refl _ _) (Own.nil _ _ _ _) (fun k hk=>hk.elim)) ?_
 refine j3 (fun i A1 k1 c1=>n-i) (fun i A1 k1 c1=>[(12,.int .i64 (i:Nat)),(7,.slice A1 k1 c1)]) (fun i A1 k1 c1=>[aK 53 32 (.slice A1 k1 c1) k1 (dc (eu (l.take i) k))]) (fun i A1 k1 c1=>[]) (fun i A1 k1 c1=>i≤n∧k1=(eu (l.take i) k).length) 0 none 0 0 [(11,_),(10,_),(6,_),(0,_),(1,_),(2,_)] ⟨rfl,rfl,rfl,rfl,rfl,rfl,trivial⟩ [0] rfl [] rfl (⟨Nat.zero_le _,rfl⟩) ⟨rfl,rfl,trivial⟩ (fun i A1 k1 c1 ⟨hi,hk1⟩=> ?_)
 refine ae<|ai<|hy (fun _=>bw rfl rfl)<|ag<|ab<|ae<| ?_
 refine cB rfl (fun hlt=> ?_) (fun hlt=> ?_)
 ·obtain⟨t,ht⟩:∃t,l[i]? =some t:=⟨_,List.getElem?_eq_getElem (by omega)⟩
  have h32:(aW t.1.b).length=32:=by rw[ax,t.1.h]
  have hsu:=ve (k:=k) ht
  have hll:(eu (l.take i) k).length≤100000:=Nat.le_trans (qv _ _) (by rw[List.length_take];omega)
  refine aC<|ab<|ae<|aN<|ae<|ai<|hy (fun _=>cC rfl rfl Tryz.underlying78 lY hA_r rfl (by omega))<|hy (fun m=>yV (aQ rfl uF lY (cf t) (dJ (f:=fz) cf (m.rd 0 rfl) ht)) ((rfl:_=Value.agg (fz t).toArray)))<| ?_
  refine hx (bf u7 (fun g9=> ?_))
  refine cI (ba 0 rfl rfl rfl lY (cf t) (nE t) rfl ?_)
  refine ag<|aB [9,13,12,7,11,10,6,0,1,2] rfl<|aj (X' :=[_,_,_]) (S' :=[_]) (fun _ m=>m)<|ab<|ae<|ai<|aw rfl<|hy (fun m=>yV (aQ rfl uF lY (cf t) ((m.aU 0 rfl).au)) ((rfl:_=Value.agg (fz t).toArray)))<| ?_
  refine hx (eT rfl rfl Tryz.call198 (Eo (t:=t)) [2] rfl [] rfl ?_)
  rintro _ _ _ ⟨rfl,rfl,rfl⟩
  refine ag<|aB [18,9,13,12,7,11,10,6,0,1,2] rfl<|aj (X' :=[_,_,_]) (S' :=[_]) (fun _ m=>m)<|ab<| ?_
  refine cB rfl (fun h3=> ?_) (fun h3=> ?_)
  ·rw[if_pos h3]at hsu
   refine ai<|aw rfl<|aw rfl<|hy (fun m=>yV (aQ rfl uF lY (cf t) ((m.aU 1 rfl).au)) ((rfl:_=Value.agg (fz t).toArray)))<| ?_
   refine hx (eT rfl rfl Tryz.call199 (DW (t:=t)) [] rfl [] rfl ?_)
   rintro _ _ _ ⟨rfl,rfl,rfl⟩
   refine hx (bQ Tryz.underlying33 dw rfl rfl rfl (by simpa[Value.cells,B8]using h32) (by decide) (by decide) (fun g23=> ?_))
   have hA_b23:0<1→(some (⟨g23,0,none⟩:Addr))≠none:=fun _ h=>by cases h
   refine aJ (fun w m=>m.bz 0 rfl (show _=aK 53 32 (.slice (some ⟨g23,0,none⟩) 1 1) 1 (dc [t.1.b])from rfl)) ?_
   refine hx (bs 3 rfl rfl rfl Tryz.underlying33 Tryz.underlying33 (by exact .inl rfl) dw rfl (fun m=>Src.bJ (m.ord 0 rfl)) cZ (by unfold maxLen;omega) (by omega) (fun u=> ?_))
   refine az (fun m=>(m.own 0 rfl).slice) ?_
   rintro⟨A_o,c_o,rfl,hc_o⟩
   refine az (fun m=>(m.ord 0 rfl).2.1) fun hA_o=> ?_
   refine aJ (fun w m=>m.bz 0 rfl (show _=aK 53 32 (.slice A_o (k1+1) c_o) (k1+1) (dc (eu (l.take (i+1)) k))from congrArg (aK _ _ _ _) (by rw[hsu,ew]))) ?_
   refine aG rfl<|ag<|aB [7,18,9,13,12,11,10,6,0,1,2] rfl<|aj (X' :=[_,_,_,_]) (S' :=[_]) (fun _ m=>m)<|aS<|ab<|ai<|hy (fun _=>aP rfl rfl (bA (by omega) (by omega)))<|aw rfl<|ag<|aB [12,7,18,9,13,11,10,6,0,1,2] rfl<| ?_
   refine ej (i+1) A_o (k1+1) c_o ⟨rfl,rfl,rfl,rfl,rfl,rfl,rfl,rfl,trivial⟩ [0,1] rfl [0] rfl (⟨by omega,by rw[hsu,List.length_append,hk1];rfl⟩) (by omega)
  ·rw[if_neg h3,List.append_nil]at hsu
   rw[←hsu]at hk1
   rw[←hsu]
   refine aC<|aS<|ab<|ai<|hy (fun _=>aP rfl rfl (bA (by omega) (by omega)))<|aw rfl<|ag<|aB [12,18,9,13,7,11,10,6,0,1,2] rfl<| ?_
   refine ej (i+1) A1 k1 c1 ⟨rfl,rfl,rfl,rfl,rfl,rfl,rfl,rfl,trivial⟩ [2,0] rfl [0] rfl (⟨by omega,hk1⟩) (by omega)
 ·obtain rfl:i=n:=by omega
  have htl:l.take i=l:=by rw[←hl,List.take_length]
  rw[htl]at hk1
  rw[htl]
  refine bG<|an<|an<|aE<|ab<|ae<|ai<|aw rfl<|aG rfl<|ag<|aB [6,13,12,7,11,10,0,1,2] rfl<|ab<|aV<| ?_
  exact bc trivial rfl rfl [0] rfl [] rfl ⟨A1,k1,c1,rfl,rfl,rfl,hk1⟩
theorem tQ{k:Int}{S:Option Addr}{n cs:Nat}{l:List It}(hl:l.length=n)(hn:n≤100000):b7 Tryz.prog 135 [.slice S n cs,.int .i64 k] [] [cL 33 S n (jD l)] (fun v_ X_ S_=>∃A1 k1 c1,v_=(.slice A1 k1 c1)∧X_=[aK 53 32 (.slice A1 k1 c1) k1 (dc (eu l k))]∧S_=[]∧(k1=(eu l k).length)):=by
 refine aM (N:=8) Tryz.func135 rfl rfl (by simp) fun b=> ?_
 refine a6 (fun m=>fH (m.rd 0 rfl)) ?_
 rintro⟨hl_r,hA_r⟩
 refine ae<|ai<| ?_
 refine hx (bu rfl (fun g3=> ?_))
 refine aJ (fun w m=>m.bz 0 rfl (show _=aH g3 3 [.int .i64 k]from rfl)) ?_
 refine aG rfl<|ag<|aj (X' :=[_]) (S' :=[_]) (fun _ m=>m)<|ab<|ae<|ai<|aw rfl<|hy (fun _=>fU rfl rfl)<| ?_
 refine hx (aq rfl Tryz.call197 (Ji hl hn) [0] rfl [0] rfl ?_)
 rintro _ _ _ ⟨A1,k1,c1,rfl,rfl,rfl,hp⟩
 refine aG rfl<|ag<|aB [4,3,0,1] rfl<|aj (X' :=[_]) (S' :=[_]) (fun _ m=>m)<|ab<|aV<| ?_
 exact bc trivial rfl rfl [0] rfl [] rfl ⟨A1,k1,c1,rfl,rfl,rfl,hp⟩
theorem Er{k:Int}{S:Option Addr}{n cs:Nat}{l:List It}(hl:l.length=n)(hn:n≤100000):b7 Tryz.prog 48 [.slice S n cs,.int .i64 k] [] [cL 33 S n (jD l)] (fun v_ X_ S_=>v_=(.int .i64 ((eu l k).length:Nat))∧X_=[]∧S_=[]):=by
 refine aM (N:=9) Tryz.func48 rfl rfl (by simp) fun b=> ?_
 refine a6 (fun m=>fH (m.rd 0 rfl)) ?_
 rintro⟨hl_r,hA_r⟩
 refine ae<|ai<|aG rfl<|ag<|ab<|ae<|ai<|aw rfl<|aw rfl<| ?_
 refine hx (aq rfl Tryz.call135 (tQ hl hn) [] rfl [0] rfl ?_)
 rintro _ _ _ ⟨A1,k1,c1,rfl,rfl,rfl,hk1⟩
 rw[←hk1]
 refine hy (fun _=>aY rfl Tryz.underlying33)<|aG rfl<|ag<|aB [4,0,1] rfl<|aj (X' :=[_]) (S' :=[_]) (fun _ m=>m)<|ab<|aV<| ?_
 exact bc trivial rfl rfl [] rfl [] rfl ⟨rfl,rfl,rfl⟩
theorem Ee{S:Option Addr}{n cs:Nat}{l:List It}(hl:l.length=n)(hn:n≤100000):b7 Tryz.prog 46 [.slice S n cs] [] [cL 33 S n (jD l)] (fun v_ X_ S_=>∃A1 k1 c1,v_=(.slice A1 k1 c1)∧X_=[aK 53 32 (.slice A1 k1 c1) k1 (dc (eu l 3))]∧S_=[]∧(k1=(eu l 3).length)):=by
 refine aM (N:=5) Tryz.func46 rfl rfl (by simp) fun b=> ?_
 refine a6 (fun m=>fH (m.rd 0 rfl)) ?_
 rintro⟨hl_r,hA_r⟩
 refine ae<|ai<|aG rfl<|ag<|ab<|ae<|ai<|aw rfl<| ?_
 refine hx (aq rfl Tryz.call135 (tQ hl hn (k:=3)) [] rfl [0] rfl ?_)
 rintro _ _ _ ⟨A1,k1,c1,rfl,rfl,rfl,hk1⟩
 refine aG rfl<|ag<|aB [2,0] rfl<|aj (X' :=[_]) (S' :=[_]) (fun _ m=>m)<|ab<|aV<| ?_
 exact bc trivial rfl rfl [0] rfl [] rfl ⟨A1,k1,c1,rfl,rfl,rfl,hk1⟩
end Go.Proofs.YtmibdabdlgmafaaGreatDoor
end
section
set_option maxRecDepth 20000
set_option maxHeartbeats 2000000
namespace Go.Proofs.YtmibdabdlgmafaaGreatDoor
open Go.Eng Go.Hx
def nC(q:Pn)(ts:List (List UInt8)):RD→List (List UInt8)→Int→RD×Int×Int
 |d,[],n=>(d,n,0)
 |d,nm::r,n=>match jB q ts nm with
  |some b=>if(d.put b).2.2≠0 then((d.put b).1,0,(d.put b).2.2)else nC q ts (d.put b).1 r (n+1)
  |none=>nC q ts d r n
theorem nB(q:Pn)(ts:List (List UInt8)):∀(l:List It) (d:RD) (n:Int),nC q ts d (eu l 2) n=ec q ts d l n
 | [],d,n=>rfl
 |t::r,d,n=>by
  unfold eu
  rw[List.filter_cons]
  by_cases h:t.2=2
  ·rw[if_pos (by simpa using h),List.map_cons,nC,ec,if_pos h]
   rcases jB q ts t.1.b with _|b
   ·exact nB q ts r d n
   ·simp only
    split
    ·rfl
    ·exact nB q ts r _ _
  ·rw[if_neg (by simpa using h),ec,if_neg h]
   exact nB q ts r d n
theorem xo{q:Pn}{rs:List aR}{l:xf}(hok:gN q rs l){nm b:List UInt8}(h:jB q (rs.map aR.l) nm=some b):b.length≤100000:=u4 h (fun t ht=>by
 obtain⟨r,hr,rfl⟩:=List.mem_map.1 ht
 have:=hok.rows r hr
 omega)
theorem Hi{g gs gm kk:Nat}{st:da}{d:RD}{q:Pn}{A:Option Addr}{c:Nat}{rs:List aR}{l:xf}{S:Option Addr}{n cs:Nat}{sl:List It}(hq:q.ok)(hD:DS st d kk)(hkk:kk+4*n≤80000)(hok:gN q rs l)(hl:sl.length=n)(hn:n≤10000):b7 Tryz.prog 55 [.pointer (some ⟨g,0,none⟩),.slice S n cs,.pointer (some ⟨gs,0,none⟩)] [bF g st,eS gs gm q A c rs l] [cL 33 S n (jD sl),dZ] (fun v_ X_ S_=>∃st1,v_=(.tuple #[.int .i64 (ec q (rs.map aR.l) d sl 0).2.1,.int .i64 (ec q (rs.map aR.l) d sl 0).2.2])∧X_=[bF g st1,eS gs gm q A c rs l]∧S_=[]∧(DS st1 (ec q (rs.map aR.l) d sl 0).1 (kk+4*n))):=by
 rw[←nB]
 obtain⟨ns,hns⟩:∃ns,ns=eu sl 2:=⟨_,rfl⟩
 have hnl:=qv sl 2
 have hnD:=wY sl 2
 rw[←hns]at hnl hnD
 rw[←hns]
 obtain⟨F,hF⟩:∃F,F=nC q (rs.map aR.l) d ns 0:=⟨_,rfl⟩
 rw[←hF]
 refine aM (N:=43) Tryz.func55 rfl rfl (by simp) fun b=> ?_
 refine a6 (fun m=>fH (m.rd 0 rfl)) ?_
 rintro⟨hl_r,hA_r⟩
 refine ae<|ai<|aG rfl<|aG rfl<|ag<|ab<|ae<|ai<|aG rfl<|ag<|ab<|ae<|ae<|ai<|aw rfl<| ?_
 refine hx (aq rfl Tryz.call135 (tQ hl (by omega) (k:=2)) [] rfl [0] rfl ?_)
 rintro _ _ _ ⟨A1,k1,c1,rfl,rfl,rfl,hk1⟩
 rw[←hns]at hk1
 subst hk1
 rw[←hns]
 refine az (fun m=>(m.ord 0 rfl).2.1) fun hA_o=> ?_
 refine hy (fun _=>aY rfl Tryz.underlying33)<|aw rfl<|ag<|aB [18,17,16,8,7,6,0,1,2] rfl<|aj (X' :=[_,_,_]) (S' :=[_,_]) (fun _ m=>m)<|ab<|aN<| ?_
 refine j3 (fun i mm st d2=>ns.length-i) (fun i mm st d2=>[(18,.int .i64 (i:Nat)),(8,.int .i64 (mm:Int))]) (fun i mm st d2=>[bF g st]) (fun i mm st d2=>[]) (fun i mm st d2=>i≤ns.length∧0≤mm∧mm≤i∧DS st d2 (kk+4*i)∧nC q (rs.map aR.l) d2 (ns.drop i) mm=F) 0 0 st d [(17,_),(16,_),(0,_),(1,_),(2,_)] ⟨rfl,rfl,rfl,rfl,rfl,trivial⟩ [1] rfl [] rfl (⟨Nat.zero_le _,Int.le_refl _,Int.le_refl _,hD,hF.symm⟩) ⟨rfl,rfl,trivial⟩ (fun i mm st d2 ⟨hi,hm0,hmi,hD2,hf⟩=> ?_)
 refine ae<|ai<|hy (fun _=>bw rfl rfl)<|ag<|ab<|ae<| ?_
 refine cB rfl (fun hlt=> ?_) (fun hlt=> ?_)
 ·have hil:i<ns.length:=by omega
  obtain⟨nm,hnm⟩:∃nm,nm=ns.getD i []:=⟨_,rfl⟩
  have hm32:nm.length=32:=by rw[hnm];exact lA hnD hil
  have h32:(aW nm).length=32:=by rw[ax,hm32]
  have hdt:ns.drop i=nm::ns.drop (i+1):=by
   rw[List.drop_eq_getElem_cons hil,hnm,List.getD,List.getElem?_eq_getElem hil]
   rfl
  rw[hdt,nC]at hf
  refine aC<|ab<|ae<|aN<|ae<|ai<|hy (fun _=>cC rfl rfl Tryz.underlying33 bp hA_o rfl (by omega))<|hy (fun m=>yV (aQ rfl b5 bp h32 (by rw[hnm];exact(m.ord 1 rfl).kl hnD hil)) ((rfl:_=Value.agg (aW nm).toArray)))<| ?_
  refine hx (bf dw (fun g10=> ?_))
  refine cI (ba 0 rfl rfl rfl bp h32 bn rfl ?_)
  rcases hg:jB q (rs.map aR.l) nm with _|bb
  ·rw[hg]at hf
   have hg2:jB q (rs.map aR.l) (⟨nm,hm32⟩:Dg).1=none:=hg
   refine ag<|aB [10,19,18,8,17,16,0,1,2] rfl<|aj (X' :=[_,_,_,_]) (S' :=[_,_]) (fun _ m=>m)<|ab<|ae<|ai<|aw rfl<|hy (fun m=>yV (aQ rfl b5 bp h32 ((m.aU 0 rfl).au)) ((rfl:Value.agg (aW nm).toArray=DK ⟨nm,hm32⟩)))<| ?_
   refine hx (aq rfl Tryz.call140 (uu hq hok (nm:=⟨nm,hm32⟩)) [3] rfl [] rfl ?_)
   rintro _ _ _ ⟨v,rfl,rfl,rfl⟩
   refine az (fun m=>(m.own 1 rfl).slice) ?_
   rintro⟨A_x,c_x,rfl,hc_x⟩
   refine az (fun m=>(m.ord 1 rfl).2.1) fun hA_x=> ?_
   refine aw rfl<| ?_
   rw[hg2]
   refine hy (fun _=>aD rfl rfl)<|hy (fun _=>aD rfl rfl)<|aG rfl<|aG rfl<|ag<|aB [12,11,10,19,18,8,17,16,0,1,2] rfl<|aj (X' :=[_,_,_,_,_]) (S' :=[_,_]) (fun _ m=>m)<|ab<|ae<|ae<|ai<|aw rfl<|hy (fun _=>(iK rfl))<|ag<|aB [29,12,11,10,19,18,8,17,16,0,1,2] rfl<|ab<| ?_
   refine fq rfl (rfl) ?_
   refine bG<|an<|aE<|ab<|ai<|hy (fun _=>aP rfl rfl (bA (by omega) (by omega)))<|aw rfl<|ag<|aB [18,29,12,11,10,19,8,17,16,0,1,2] rfl<| ?_
   refine ej (i+1) mm st d2 ⟨rfl,rfl,rfl,rfl,rfl,rfl,rfl,trivial⟩ [3,3,0] rfl [0,1] rfl (⟨by omega,hm0,by omega,hD2.le (by omega),hf⟩) (by omega)
  ·rw[hg]at hf
   replace hf:(if(d2.put bb).2.2≠0 then((d2.put bb).1,(0:Int),(d2.put bb).2.2)else nC q (rs.map aR.l) (d2.put bb).1 (ns.drop (i+1)) (mm+1))=F:=hf
   have hg2:jB q (rs.map aR.l) (⟨nm,hm32⟩:Dg).1=some bb:=hg
   have hbl:=xo hok hg
   have hp32:(aW (d2.put bb).2.1).length=32:=by
    rw[ax]
    exact s8 _ _
   refine ag<|aB [10,19,18,8,17,16,0,1,2] rfl<|ab<|ae<|ai<|aw rfl<|hy (fun m=>yV (aQ rfl b5 bp h32 ((m.aU 0 rfl).au)) ((rfl:Value.agg (aW nm).toArray=DK ⟨nm,hm32⟩)))<| ?_
   refine hx (aq rfl Tryz.call140 (uu hq hok (nm:=⟨nm,hm32⟩)) [3] rfl [] rfl ?_)
   rintro _ _ _ ⟨v,rfl,rfl,rfl⟩
   refine az (fun m=>(m.own 1 rfl).slice) ?_
   rintro⟨A_x,c_x,rfl,hc_x⟩
   refine az (fun m=>(m.ord 1 rfl).2.1) fun hA_x=> ?_
   refine aw rfl<| ?_
   rw[hg2]
   refine aJ (fun w m=>m.bz 1 rfl (show _=aK 5 1 (.slice A_x bb.length c_x) bb.length (aW bb)from rfl)) ?_
   have hc_x:bb.length≤c_x:=by rw[hg2]at hc_x;exact hc_x
   refine hy (fun _=>aD rfl rfl)<|hy (fun _=>aD rfl rfl)<|aG rfl<|aG rfl<|ag<|aB [12,11,10,19,18,8,17,16,0,1,2] rfl<|aj (X' :=[_,_,_,_,_]) (S' :=[_,_]) (fun _ m=>m)<|ab<|ae<|ae<|ai<|aw rfl<|hy (fun _=>(iK rfl))<|ag<|aB [29,12,11,10,19,18,8,17,16,0,1,2] rfl<|ab<| ?_
   refine cN rfl (rfl) ?_
   refine aC<|ab<|ae<|ae<|ai<|aw rfl<|aw rfl<| ?_
   refine hx (c6 rfl Tryz.call28 (FJ hD2 (by omega) hc_x rfl hbl (bb:=bb)) [3] rfl (.x 0 rfl .own (.s 1 rfl .nil)) ?_)
   rintro _ _ _ ⟨st1,rfl,rfl,rfl,hD3⟩
   refine⟨rfl, ?_⟩
   refine aw rfl<|hy (fun _=>aD rfl rfl)<|hy (fun _=>aD rfl rfl)<| ?_
   refine hx (bf dw (fun g13=> ?_))
   refine cI (ba 0 rfl rfl rfl bp hp32 bn rfl ?_)
   refine aG rfl<|ag<|aB [14,29,12,11,10,19,18,8,17,16,0,1,2] rfl<|aj (X' :=[_,_,_,_,_,_]) (S' :=[_,_]) (fun _ m=>m)<|ab<|ae<|ai<|aw rfl<|hy (fun _=>cT rfl rfl)<|ag<|aB [37,14,29,12,11,10,19,18,8,17,16,0,1,2] rfl<|ab<| ?_
   refine cB rfl (fun he=> ?_) (fun he=> ?_)
   ·rw[if_pos he]at hf
    subst hf
    refine ae<|ai<|aw rfl<|aG rfl<|aG rfl<|ag<|aB [7,6,37,14,29,12,11,10,19,18,8,17,16,0,1,2] rfl<|ab<|aV<|ay<|a7<|ay<|ay<|a7<|ay<| ?_
    exact db trivial rfl rfl rfl [1,2] rfl [] rfl ⟨st1,rfl,rfl,rfl,hD3.le (by omega)⟩
   ·rw[if_neg he]at hf
    refine aC<|ab<|ai<|aw rfl<|hy (fun _=>aP rfl rfl (bA (by omega) (by omega)))<|aG rfl<|ag<|aB [8,37,14,29,12,11,10,19,18,17,16,0,1,2] rfl<|aS<|ab<|ai<|hy (fun _=>aP rfl rfl (bA (by omega) (by omega)))<|aw rfl<|ag<|aB [18,8,37,14,29,12,11,10,19,17,16,0,1,2] rfl<| ?_
    refine ej (i+1) (mm+1) st1 (d2.put bb).1 ⟨rfl,rfl,rfl,rfl,rfl,rfl,rfl,trivial⟩ [1,4,2] rfl [0,1] rfl (⟨by omega,by omega,by omega,hD3.le (by omega),hf⟩) (by omega)
 ·obtain rfl:i=ns.length:=by omega
  rw[List.drop_length,nC]at hf
  subst hf
  refine bG<|an<|an<|aE<|ab<|ae<|ai<|aw rfl<|aG rfl<|aG rfl<|ag<|aB [7,6,19,18,8,17,16,0,1,2] rfl<|ab<|aV<| ?_
  exact db trivial rfl rfl rfl [0,1] rfl [] rfl ⟨st,rfl,rfl,rfl,hD2.le (by omega)⟩
end Go.Proofs.YtmibdabdlgmafaaGreatDoor
end
section
set_option maxRecDepth 20000
set_option maxHeartbeats 4000000
namespace Go.Proofs.YtmibdabdlgmafaaGreatDoor
open Go.Eng Go.Hx
def p7(ga:Nat)(x:RX)(u:IX)(gs:Nat)(t o:Value):List Value:=([.pointer (some ⟨ga,0,none⟩)]++x.cs)++u.cs++[.pointer (some ⟨gs,0,none⟩),t,o]
section
variable{ga gs:Nat}{x y:RX}{u:IX}{t o t' :Value}
theorem sY:([Value.pointer (some ⟨ga,0,none⟩)]++x.cs).length=6:=rfl
theorem qb:(p7 ga x u gs t o).length=45:=by
 rw[p7,List.length_append,List.length_append,sY,u.gG];rfl
theorem iE{j:Nat}:(p7 ga x u gs t o)[42+j]? =[Value.pointer (some ⟨gs,0,none⟩),t,o][j]? :=by
 have h:(([Value.pointer (some ⟨ga,0,none⟩)]++x.cs)++u.cs).length=42:=by rw[List.length_append,sY,u.gG]
 rw[p7,List.getElem?_append_right (by omega),h,Nat.add_sub_cancel_left]
theorem AH:(p7 ga x u gs t o).set 43 t' =p7 ga x u gs t' o:=by
 have h:(([Value.pointer (some ⟨ga,0,none⟩)]++x.cs)++u.cs).length=42:=by rw[List.length_append,sY,u.gG]
 rw[p7,List.set_append_right _ _ (by omega),h]
 rfl
theorem qB:b8 (p7 ga x u gs t o) 1 y.cs=p7 ga y u gs t o:=by
 have h:=dW (a:=[Value.pointer (some ⟨ga,0,none⟩)]) (b:=x.cs) (c:=u.cs++[.pointer (some ⟨gs,0,none⟩),t,o]) (vs:=y.cs) (o:=1) rfl rfl
 rw[←List.append_assoc,←List.append_assoc]at h
 exact h
theorem vY{w:World}{g:Nat}{ty:TypeId}(h:eQ w g ty (p7 ga x u gs t o)):∀(j:Nat) (v:Value),x.cs[j]? =some v→w.cell? ((⟨g,0,none⟩:Addr).add 1|>.add j)=some v:=by
 have h2:eQ w g ty (([Value.pointer (some ⟨ga,0,none⟩)]++x.cs)++(u.cs++[.pointer (some ⟨gs,0,none⟩),t,o])):=by rw[←List.append_assoc];exact h
 exact yt h2
theorem rQ{w:World}{g:Nat}{ty:TypeId}(h:eQ w g ty (p7 ga x u gs t o)):∀(j:Nat) (v:Value),u.cs[j]? =some v→w.cell? ((⟨g,0,none⟩:Addr).add 6|>.add j)=some v:=yt (a:=[Value.pointer (some ⟨ga,0,none⟩)]++x.cs) h
end
theorem EN{P:Program}{pl:Nat→Option (Nat×Nat)}{A B:Option Addr}{x:RX}{u:IX}{o a0 s0 t0 i0:Value}{zr zx:List Value}(hr:zr.length=5)(hx:zx.length=36)(ho:o.cells.toList=[o])(p0:pl 0=some (0,1))(p1:pl 1=some (1,5))(p2:pl 2=some (6,36))(p3:pl 3=some (42,1))(p5:pl 5=some (44,1)):
  xX P pl ([a0]++zr++zx++[s0]++[t0]++[i0]) [(0,.pointer A),(1,.agg x.cs.toArray),(2,.agg u.cs.toArray),(3,.pointer B),(5,o)] (([.pointer A]++x.cs)++u.cs++[.pointer B,t0,o]):=by
 have e0:b8 ([a0]++zr++zx++[s0]++[t0]++[i0]) 0 [.pointer A]=[.pointer A]++zr++(zx++[s0]++[t0]++[i0]):=by
  have:=dW (a:=[]) (b:=[a0]) (c:=zr++zx++[s0]++[t0]++[i0]) (vs:=[Value.pointer A]) (o:=0) rfl rfl
  simpa using this
 have e1:b8 ([.pointer A]++zr++(zx++[s0]++[t0]++[i0])) 1 x.cs=([.pointer A]++x.cs)++zx++([s0]++[t0]++[i0]):=by
  rw[dW (a:=[Value.pointer A]) (b:=zr) (c:=zx++[s0]++[t0]++[i0]) (vs:=x.cs) (o:=1) rfl (by rw[hr];rfl)]
  simp
 have hp:([Value.pointer A]++x.cs).length=6:=rfl
 have e2:b8 (([.pointer A]++x.cs)++zx++([s0]++[t0]++[i0])) 6 u.cs=(([.pointer A]++x.cs)++u.cs)++[s0]++([t0]++[i0]):=by
  rw[dW (b:=zx) (c:=[s0]++[t0]++[i0]) (vs:=u.cs) hp (by rw[hx,u.gG])]
  simp
 have hp2:(([Value.pointer A]++x.cs)++u.cs).length=42:=by rw[List.length_append,hp,u.gG]
 have e3:b8 ((([.pointer A]++x.cs)++u.cs)++[s0]++([t0]++[i0])) 42 [.pointer B]=((([.pointer A]++x.cs)++u.cs)++[.pointer B,t0])++[i0]++[]:=by
  rw[dW (b:=[s0]) (c:=[t0]++[i0]) (vs:=[.pointer B]) hp2 rfl]
  simp
 have hp3:((([Value.pointer A]++x.cs)++u.cs)++[.pointer B,t0]).length=44:=by rw[List.length_append,hp2];rfl
 have e4:b8 (((([.pointer A]++x.cs)++u.cs)++[.pointer B,t0])++[i0]++[]) 44 [o]=([.pointer A]++x.cs)++u.cs++[.pointer B,t0,o]:=by
  rw[dW (b:=[i0]) (c:=[]) (vs:=[o]) hp3 rfl]
  simp
 have l0:([a0]++zr++zx++[s0]++[t0]++[i0]).length=45:=by simp[hr,hx]
 refine .cons p0 (vs:=[.pointer A]) rfl rfl (by omega) ?_
 rw[e0]
 refine .cons p1 (aT _) rfl (by simp[hr,hx]) ?_
 rw[e1]
 refine .cons p2 (aT _) u.gG (by rw[List.length_append,List.length_append,hp,hx];simp) ?_
 rw[e2]
 refine .cons p3 (vs:=[.pointer B]) rfl rfl (by rw[List.length_append,List.length_append,hp2];simp) ?_
 rw[e3]
 refine .cons p5 ho rfl (by rw[List.length_append,List.length_append,hp3];simp) ?_
 rw[e4]
 exact .nil
def rK(cs:List (List UInt8))(zl:List Int)(d:RD):RD:=zl.foldl (fun d z=>(d.put (cs.getD (dr z cs.length).toNat [])).1) d
def kJ(cs:List (List UInt8))(zl:List Int):RD:=if cs=[]then RD.new 20000 else rK cs (zl.take 5) (RD.new 20000)
theorem xn{cs:List (List UInt8)}{zl:List Int}{d:RD}{i:Nat}(h:i<zl.length):rK cs (zl.take (i+1)) d=((rK cs (zl.take i) d).put (cs.getD (dr (zl.getD i 0) cs.length).toNat [])).1:=by
 have e:zl[i]=zl.getD i 0:=by rw[List.getD,List.getElem?_eq_getElem h];rfl
 rw[List.take_succ_eq_append_getElem h,rK,List.foldl_append,e]
 rfl
def ji(img:List UInt8):List UInt8:=img.take 60
def pX(img:List UInt8)(fr:Int)(ot:List UInt8):List (List UInt8):=[(ji img).drop (dr fr ((ji img).length+1:Nat)).toNat,ot.take 30]
theorem vC{I:Option Addr}{ni ci:Nat}{img:List UInt8}{p:Pm}{L:Option Addr}{np cp:Nat}{zl:List Int}{fr:Int}{O:Option Addr}{no co:Nat}{ot:List UInt8}(hic:ni≤ci)(hin:ni≤140737488351232)(h1:-9223372036854775808≤p.mn∧p.mn≤9223372036854775807)(h2:-9223372036854775808≤p.av∧p.av≤9223372036854775807)(h3:-9223372036854775808≤p.mx∧p.mx≤9223372036854775807)(hzl:yP zl)(hfr:-9223372036854775808≤fr∧fr≤9223372036854775807)(hoc:no≤co)(hon:no≤140737488351232):b7 Tryz.prog 41 [.slice I ni ci,.agg p.cs.toArray,.slice L np cp,.int .i64 fr,.slice O no co] [] [cL 1 I ni (aW img),cL 1 L np (ints zl),cL 1 O no (aW ot),dZ] (fun v_ X_ S_=>∃gw gd st y gs gm A c rs l A2 c2 T trs AO cO,v_=(.pointer (some ⟨gw,0,none⟩))∧X_=[aH gw 86 (p7 gd y (sd (ji img) (gA p) A2 c2) gs (.slice T 2 2) (.slice AO (ji img).length cO)),bF gd st,eS gs gm (gA p) A c rs l]∧S_=[eL y,cL 33 A2 (cw (ji img) (gA p)).length (jD (cw (ji img) (gA p))),cL 1 T 2 (jZ trs),dH trs,cL 1 AO (ji img).length (aW (ji img))]∧(y.d=kJ (e7 (ji img) (gA p)) zl∧DS st y.d 20∧gN (gA p) rs l∧rs.map aR.l=trs.map aR.l∧trs.map aR.l=pX img fr ot∧trs.length=2∧(∀r∈trs,r.n=r.l.length∧r.n≤r.c∧r.n≤100000)∧(ji img).length≤cO)):=by
 obtain⟨q,hqe⟩:∃q,q=gA p:=⟨_,rfl⟩
 have hq:q.ok:=by rw[hqe];exact(vF p).1
 obtain⟨own,hown⟩:∃own,own=ji img:=⟨_,rfl⟩
 have hown2:img.take 60=own:=hown.symm
 rw[←hqe,←hown]
 refine aM (N:=138) Tryz.func41 rfl rfl (by simp) fun b=> ?_
 refine a6 (fun m=>eG (m.rd 0 rfl)) ?_
 rintro⟨hl_ri,hA_ri⟩
 refine a6 (fun m=>fH (m.rd 1 rfl)) ?_
 rintro⟨hl_rl,hA_rl⟩
 refine a6 (fun m=>eG (m.rd 2 rfl)) ?_
 rintro⟨hl_rt,hA_rt⟩
 refine ae<|ai<| ?_
 refine hx (bu rfl (fun g6=> ?_))
 refine aJ (fun w m=>m.bz 0 rfl (show _=aH g6 75 p.cs from congrArg (aH _ _) (aT _))) ?_
 refine aG rfl<|ag<|aj (X' :=[_]) (S' :=[_,_,_,_]) (fun _ m=>m)<|ab<|ae<|ai<| ?_
 refine hx (aq rfl Tryz.call24 (J4 (by decide) (by decide)) [] rfl [] rfl ?_)
 rintro _ _ _ ⟨g,gs,gl,rfl,rfl,rfl⟩
 refine aw rfl<|hy (fun _=>aD rfl rfl)<|hy (fun _=>aD rfl rfl)<|aG rfl<|aG rfl<|ag<|aB [12,11,10,6,0,1,2,3,4] rfl<|aj (X' :=[_,_]) (S' :=[_,_,_,_]) (fun _ m=>m)<|ab<|ae<|ai<|hy (fun m=>yV (aQ rfl gC gg rfl ((m.aU 1 rfl).au)) ((rfl:_=Value.agg p.cs.toArray)))<| ?_
 refine hx (aq rfl Tryz.call125 (I5 h1 h2 h3) [] rfl [] rfl ?_)
 rintro _ _ _ ⟨rfl,rfl,rfl⟩
 rw[←hqe]
 refine hx (bf AD (fun g13=> ?_))
 refine cI (ba 0 rfl rfl rfl gg rfl (Pm.one (p:=q.p)) rfl ?_)
 refine ag<|aB [13,12,11,10,6,0,1,2,3,4] rfl<|aj (X' :=[_,_,_]) (S' :=[_,_,_,_]) (fun _ m=>m)<|ab<|ae<|ai<|hy (fun m=>yV (aQ rfl gC gg rfl ((m.aU 0 rfl).au)) ((rfl:_=Value.agg q.p.cs.toArray)))<| ?_
 refine hx (aq rfl Tryz.call126 (Cl hq (q:=q)) [] rfl [] rfl ?_)
 rintro _ _ _ ⟨g2,gm,rfl,rfl,rfl⟩
 refine aw rfl<|hy (fun _=>aD rfl rfl)<|hy (fun _=>aD rfl rfl)<|aG rfl<|aG rfl<|ag<|aB [15,14,13,12,11,10,6,0,1,2,3,4] rfl<|aj (X' :=[_,_,_,_]) (S' :=[_,_,_,_]) (fun _ m=>m)<|ab<|ae<|ae<|ai<|aw rfl<|hy (fun _=>tn rfl rfl (by kernel_rfl))<|aw rfl<|cy (o:=_) rfl rfl rfl (fun _=>ah rfl)<|cy (o:=_) rfl rfl rfl (fun _=>tn rfl rfl (by kernel_rfl))<|hy (fun _=>bo rfl rfl)<|aw rfl<|cy (o:=_) rfl rfl rfl (fun _=>ah rfl)<|cy (o:=_) rfl rfl rfl (fun _=>cT rfl rfl)<|hy (fun _=>bo rfl rfl)<|aw rfl<|cy (o:=_) rfl rfl rfl (fun _=>ah rfl)<|cy (o:=_) rfl rfl rfl (fun _=>cT rfl rfl)<|hy (fun _=>bo rfl rfl)<|ag<|aB [48,15,14,13,12,11,10,6,0,1,2,3,4] rfl<|ab<| ?_
 refine cN rfl ((by decide)) ?_
 refine aC<|ab<|ae<|ai<|aw rfl<| ?_
 refine hx (aq rfl Tryz.call32 (Jg hic hin (m:=60)) [] rfl [0] rfl ?_)
 rintro _ _ _ ⟨v,rfl,rfl,rfl⟩
 refine az (fun m=>(m.own 0 rfl).slice) ?_
 rintro⟨A_x,c_x,rfl,hc_x⟩
 refine az (fun m=>(m.ord 0 rfl).2.1) fun hA_x=> ?_
 have hol:own.length=min ni 60:=by rw[←hown2,List.length_take,hl_ri,Nat.min_comm]
 have ho60:own.length≤60:=by omega
 rw[hown2,←hol]
 have hcx:own.length≤c_x:=by omega
 refine aJ (fun w m=>(m.perm (ar [0] _ [_] _ rfl)).freeze) ?_
 refine aJ (fun w m=>m.fA 0 rfl .own) ?_
 refine az (fun m=>eG (m.rd 0 rfl)) ?_
 rintro⟨hl_xr,hA_xr⟩
 refine aG rfl<|ag<|aB [16,48,15,14,13,12,11,10,6,0,1,2,3,4] rfl<|aj (X' :=[_,_,_,_]) (S' :=[_,_,_,_,_,_]) (fun _ m=>m)<|ab<|ae<|cD [1,4,8] [(0,some 2),(2,some 1),(3,some 1),(5,some 2),(6,some 2),(1,none),(4,none),(7,some 2),(8,none),(9,some 3)] (by kernel_rfl) (by kernel_rfl) rfl 99<|ak (ah rfl)<|ak (ah rfl)<|bZ (fun m=>yV (aQ rfl gC gg rfl ((m.aU 1 rfl).au)) ((rfl:_=Value.agg q.p.cs.toArray)))<|ak (ah rfl)<|ak (ah rfl)<| ?_
 refine dF (aq rfl Tryz.call25 (IK) [] rfl [] rfl ?_)
 rintro _ _ _ ⟨y,rfl,rfl,rfl,hy1⟩
 refine⟨(fun _=>wk [0,0,0,0] [1,2,3,4,5,6] rfl rfl), ?_⟩
 refine dF (aq rfl Tryz.call127 (GY hq rfl (by omega) hcx (q:=q)) [] rfl [1] rfl ?_)
 rintro _ _ _ ⟨A2,c2,rfl,rfl,rfl⟩
 refine⟨(fun _=>wk [0,0,0,0] [2,3,4,5,6,7] rfl rfl), ?_⟩
 refine cd (fun m=>fH (m.rd 0 rfl)) ?_
 rintro⟨hl_z,hA_z⟩
 refine ak (bU Kb rfl rfl (by kernel_rfl) (EN rfl rfl rfl GL Gl Gq GP HA))<| ?_
 refine dF (bu rfl (fun g59=>⟨(fun _=>wk [1,1,1,1] [2,3,4,5,6,7] rfl rfl), ?_⟩))
 refine ez (fun w m=>m.bz 0 rfl (show _=aH g59 86 (p7 g y (sd own q A2 c2) g2 (.slice none 0 0) (.slice A_x own.length c_x))from congrArg (aH _ _) (aT _))) ?_
 refine ak (al rfl)<|bq<|aB [17,16,48,15,14,13,12,11,10,6,0,1,2,3,4] rfl<|aj (X' :=[_,_,_,_,_]) (S' :=[_,_,_,_,_,_,_,_]) (fun _ m=>m)<|ab<|ae<|ai<|aw rfl<|hy (fun m=>yV (aQ rfl gC gg rfl ((m.aU 2 rfl).au)) ((rfl:_=Value.agg q.p.cs.toArray)))<| ?_
 refine hx (aq rfl Tryz.call50 (vB hq rfl (by omega) hcx (q:=q)) [] rfl [2] rfl ?_)
 rintro _ _ _ ⟨A1,c1,crs,rfl,rfl,rfl,hck⟩
 obtain⟨hck,hcn⟩:=hck
 refine az (fun m=>(show∀r∈crs,aR.n r≤aR.c r from fun r hr=>((m.Ig 0 rfl) r hr).2)) fun hcc=> ?_
 have hcr:∀r∈crs,r.n=r.l.length∧r.n≤r.c∧r.l.length≤60:=fun r hr=>⟨hcn r hr,hcc r hr,Nat.le_trans (wH (q:=q) (by rw[←hck];exact List.mem_map_of_mem hr)) ho60⟩
 rw[←hck]
 refine aJ (fun w m=>(m.perm (ar [0] _ [_] _ rfl)).freeze) ?_
 refine aJ (fun w m=>m.fA 0 rfl .own) ?_
 refine az (fun m=>fH (m.rd 0 rfl)) ?_
 rintro⟨hl_or,hA_or⟩
 have hD0:DS (mZ 20000 gs gl) y.d 0:=by rw[hy1];exact DS.init (by decide)
 refine az (fun m=>(m.rd 8 rfl).1) fun hln1=> ?_
 have hln1:zl.length=np:=by rw[ints,List.length_map,Nat.mul_one]at hln1;exact hln1
 have hckl:(crs.map aR.l).length=crs.length:=List.length_map ..
 refine aG rfl<|ag<|aB [18,17,16,48,15,14,13,12,11,10,6,0,1,2,3,4] rfl<|aj (X' :=[_,_,_,_,_]) (S' :=[_,_,_,_,_,_,_,_,_,_,_]) (fun _ m=>m)<|ab<|ae<|ae<|ai<|aG rfl<|ag<|ab<| ?_
 refine BJ (fun(st1:da) (y1:RX)=>[]) (fun(st1:da) (y1:RX)=>[aH g59 86 (p7 g y1 (sd own q A2 c2) g2 (.slice none 0 0) (.slice A_x own.length c_x)),bF g st1]) (fun(st1:da) (y1:RX)=>[eL y1]) (fun(st1:da) (y1:RX)=>y1.d=kJ (crs.map aR.l) zl∧DS st1 y1.d 20) [(18,_),(17,_),(16,_),(48,_),(15,_),(14,_),(13,_),(12,_),(11,_),(10,_),(6,_),(0,_),(1,_),(2,_),(3,_),(4,_)] ⟨rfl,rfl,rfl,rfl,rfl,rfl,rfl,rfl,rfl,rfl,rfl,rfl,rfl,rfl,rfl,rfl,trivial⟩ [0,2] rfl ?_ (fun st1 y1 ⟨hE1,hD1⟩=> ?_)
 ·refine aN<| ?_
  refine gJ (fun i st y=>np-i) (fun i st y=>[(19,.int .i64 (i:Nat))]) (fun i st y=>[aH g59 86 (p7 g y (sd own q A2 c2) g2 (.slice none 0 0) (.slice A_x own.length c_x)),bF g st]) (fun i st y=>[eL y]) (fun i st y=>i≤np∧i≤5∧(crs.length=0→i=0)∧y.d=rK (crs.map aR.l) (zl.take i) (RD.new 20000)∧DS st y.d (4*i)) 0 (mZ 20000 gs gl) y [(18,_),(17,_),(16,_),(48,_),(15,_),(14,_),(13,_),(12,_),(11,_),(10,_),(6,_),(0,_),(1,_),(2,_),(3,_),(4,_)] ⟨rfl,rfl,rfl,rfl,rfl,rfl,rfl,rfl,rfl,rfl,rfl,rfl,rfl,rfl,rfl,rfl,trivial⟩ [0,2] rfl [4] rfl (⟨Nat.zero_le _,Nat.zero_le _,fun _=>rfl,hy1,hD0⟩) ⟨rfl,trivial⟩ (fun i st y ⟨hinp,hi5,hi0,hE,hD⟩=> ?_)
  refine ae<|ae<|ai<|aw rfl<|aw rfl<|hy (fun _=>aY rfl Tryz.underlying44)<|hy (fun _=>bw rfl rfl)<|aw rfl<| ?_
  refine fj 67 rfl (fun ha=> ?_) (fun ha=> ?_)
  ·refine cy (o:=_) rfl rfl rfl (fun _=>ah rfl)<|cy (o:=_) rfl rfl rfl (fun _=>bw rfl rfl)<|hy (fun _=>bC rfl rfl)<|aw rfl<| ?_
   refine fj 71 rfl (fun hb=> ?_) (fun hb=> ?_)
   ·refine cy (o:=_) rfl rfl rfl (fun _=>ah rfl)<|cy (o:=_) rfl rfl rfl (fun _=>aY rfl Tryz.underlying84)<|cy (o:=_) rfl rfl rfl (fun _=>cW rfl rfl)<|hy (fun _=>bC rfl rfl)<|ag<|aB [75,19,18,17,16,48,15,14,13,12,11,10,6,0,1,2,3,4] rfl<|ab<| ?_
    refine cB rfl (fun hc=> ?_) (fun hc=> ?_)
    ·obtain⟨z,hz⟩:∃z,z=zl.getD i 0:=⟨_,rfl⟩
     have hzb:=hzl.at (i:=i) (by omega)
     rw[←hz]at hzb
     have har:=ef z (crs.length:Int) (by omega)
     obtain⟨j,hj⟩:∃j:Nat,dr z (crs.length:Int)=j:=⟨(dr z (crs.length:Int)).toNat,by omega⟩
     obtain⟨r,hr⟩:∃r,crs[j]? =some r:=⟨_,List.getElem?_eq_getElem (by omega)⟩
     obtain⟨hrn,hrc,hrl⟩:=hcr r (List.mem_of_getElem? hr)
     have hDo:y.d.ok (4*i):=⟨st,hD⟩
     have hp32:(aW (y.d.put r.l).2.1).length=32:=by rw[ax];exact s8 _ _
     have hgr:(crs.map aR.l).getD (dr z ((crs.map aR.l).length:Int)).toNat []=r.l:=by
      rw[List.length_map,hj,Int.toNat_natCast,List.getD,List.getElem?_map,hr];rfl
     have hsu:=xn (cs:=crs.map aR.l) (zl:=zl) (d:=RD.new 20000) (i:=i) (by omega)
     rw[←hz,hgr,←hE]at hsu
     refine aC<|ab<|ae<|aN<|ae<|ai<|aw rfl<|aw rfl<|aw rfl<|hy (fun _=>aZ rfl rfl Tryz.underlying44 ue hA_rl rfl (by omega))<|hy (fun m=>yV (ao rfl dD ((m.rd 9 rfl).cell (Ai (by omega)))) ((show Value.int .i64 (zl.getD i 0)= .int .i64 z by rw[hz])))<|aw rfl<|hy (fun _=>aY rfl Tryz.underlying84)<| ?_
     refine hx (aq rfl Tryz.call16 (lq hzb.1 hzb.2 (by omega) (n:=z) (m:=(crs.length:Int))) [] rfl [] rfl ?_)
     rintro _ _ _ ⟨rfl,rfl,rfl⟩
     rw[hj]
     refine aJ (fun w m=>m.fA 3 rfl (View.row hr)) ?_
     refine az (fun m=>eG (m.rd 0 rfl)) ?_
     rintro⟨hl_rr1,hA_rr1⟩
     refine hy (fun _=>aZ rfl rfl Tryz.underlying84 iY hA_or rfl (by omega))<|hy (fun m=>ao rfl dB ((m.rd 2 rfl).cell (show(jZ crs)[j]? =some (Value.slice r.A r.n r.c) by rw[jZ,List.getElem?_map,hr];rfl)))<|aG rfl<|ag<|aB [20,75,19,18,17,16,48,15,14,13,12,11,10,6,0,1,2,3,4] rfl<|aj (X' :=[_,_,_,_,_]) (S' :=[_,_,_,_,_,_,_,_,_,_,_,_,_]) (fun _ m=>m)<|ab<|ae<|ai<|aw rfl<|hy (fun _=>aO rfl)<|hy (fun _=>aF rfl ki (by decide))<|hy (fun m=>yV (aQ rfl cF bP rfl (vY (m.aU 0 rfl))) ((rfl:_=Value.agg y.cs.toArray)))<|aw rfl<| ?_
     refine hx (aq rfl Tryz.call26 (FC hDo (by omega) hrc hrn.symm (by omega)) [] rfl [1,0,12] rfl ?_)
     rintro _ _ _ ⟨y2,rfl,rfl,rfl,hyd2⟩
     refine aw rfl<|hy (fun _=>aD rfl rfl)<|hy (fun _=>aD rfl rfl)<|hy (fun _=>aD rfl rfl)<| ?_
     refine hx (bf ou (fun g21=> ?_))
     refine hx (bf dw (fun g22=> ?_))
     refine cI (ba 1 rfl rfl rfl bP rfl cH rfl ?_)
     refine cI (ba 1 rfl rfl rfl bp hp32 bn rfl ?_)
     refine aG rfl<|ag<|aB [21,20,75,19,18,17,16,48,15,14,13,12,11,10,6,0,1,2,3,4] rfl<|aj (X' :=[_,_,_,_,_,_,_]) (S' :=[_,_,_,_,_,_,_,_,_,_,_,_,_,_]) (fun _ m=>m)<|ab<|ae<|ai<|aw rfl<|hy (fun m=>yV (aQ rfl cF bP rfl ((m.aU 1 rfl).au)) ((rfl:_=Value.agg y2.cs.toArray)))<|hy (fun _=>aO rfl)<|hy (fun _=>aF rfl ki (by decide))<| ?_
     refine cI (p9 2 rfl rfl rfl bP rfl cH (by rw[qb];decide) ?_)
     refine aJ (fun w m=>m.bz 0 rfl (show _=aH g59 86 (p7 g y2 (sd own q A2 c2) g2 (.slice none 0 0) (.slice A_x own.length c_x))from congrArg (aH _ _) qB)) ?_
     refine ag<|aB [21,20,75,19,18,17,16,48,15,14,13,12,11,10,6,0,1,2,3,4] rfl<|aj (X' :=[_,_,_,_,_,_,_]) (S' :=[_,_,_,_,_,_,_,_,_,_,_,_,_,_]) (fun _ m=>m)<|ab<|ai<|aw rfl<|hy (fun _=>aO rfl)<|hy (fun _=>aF rfl my (by decide))<|hy (fun m=>ao rfl og (aA (m.aU 0 rfl) rfl))<|aw rfl<| ?_
     refine hx (aq rfl Tryz.call28 (FJ hD (by omega) hrc hrn.symm (by omega)) [3] rfl [1,13] rfl ?_)
     rintro _ _ _ ⟨st1,rfl,rfl,rfl,hD2⟩
     refine ag<|aB [21,20,75,19,18,17,16,48,15,14,13,12,11,10,6,0,1,2,3,4] rfl<|aj (X' :=[_,_,_,_,_,_,_]) (S' :=[_,_,_,_,_,_,_,_,_,_,_,_,_,_]) (fun _ m=>m)<|aS<|ab<|ai<|aw rfl<|hy (fun _=>aP rfl rfl (bA (by omega) (by omega)))<|aG rfl<|ag<|aB [19,21,20,75,18,17,16,48,15,14,13,12,11,10,6,0,1,2,3,4] rfl<| ?_
     rw[←hyd2]at hD2
     refine fD (i+1) st1 y2 ⟨rfl,rfl,rfl,rfl,rfl,rfl,rfl,rfl,rfl,rfl,rfl,rfl,rfl,rfl,rfl,rfl,rfl,trivial⟩ [1,0,2,2,2] rfl [0,3,4,5,6,7,8,9,10,11,12,13] rfl (⟨by omega,by omega,by omega,by rw[hsu,hyd2],hD2⟩) (by omega)
    ·refine bG<|an<|an<|aE<| ?_
     have ag:y.d=kJ (crs.map aR.l) zl:=by
      unfold kJ
      by_cases hc0:crs.length=0
      ·have h0:i=0:=hi0 hc0
       rw[if_pos (List.eq_nil_of_length_eq_zero (by rw[hckl];exact hc0)),hE,h0]
       rfl
      ·rw[if_neg (fun e=>hc0 (by rw[←hckl,e];rfl)),hE,oI (l:=zl) (i:=i) (n:=5) (by omega) (by omega) hi5]
     exact mT (R:=fun(st1:da) (y1:RX)=>[]) (X1:=fun(st1:da) (y1:RX)=>[aH g59 86 (p7 g y1 (sd own q A2 c2) g2 (.slice none 0 0) (.slice A_x own.length c_x)),bF g st1]) (S1:=fun(st1:da) (y1:RX)=>[eL y1]) (I:=fun(st1:da) (y1:RX)=>y1.d=kJ (crs.map aR.l) zl∧DS st1 y1.d 20) st y ⟨rfl,rfl,rfl,rfl,rfl,rfl,rfl,rfl,rfl,rfl,rfl,rfl,rfl,rfl,rfl,rfl,trivial⟩ [0,0,0,0,0] rfl [0,1,2,3,4,5,6,7,8,9,10,11] rfl (⟨ag,hD.le (by omega)⟩)
   ·refine bg rfl rfl rfl (by decide)<|bg rfl rfl rfl (by decide)<|bg rfl rfl rfl (by decide)<|hy (fun _=>bo rfl rfl)<|ag<|aB [75,19,18,17,16,48,15,14,13,12,11,10,6,0,1,2,3,4] rfl<|ab<| ?_
    refine cN rfl (rfl) ?_
    refine bG<|an<|an<|aE<| ?_
    have ag:y.d=kJ (crs.map aR.l) zl:=by
     unfold kJ
     by_cases hc0:crs.length=0
     ·have h0:i=0:=hi0 hc0
      rw[if_pos (List.eq_nil_of_length_eq_zero (by rw[hckl];exact hc0)),hE,h0]
      rfl
     ·rw[if_neg (fun e=>hc0 (by rw[←hckl,e];rfl)),hE,oI (l:=zl) (i:=i) (n:=5) (by omega) (by omega) hi5]
    exact mT (R:=fun(st1:da) (y1:RX)=>[]) (X1:=fun(st1:da) (y1:RX)=>[aH g59 86 (p7 g y1 (sd own q A2 c2) g2 (.slice none 0 0) (.slice A_x own.length c_x)),bF g st1]) (S1:=fun(st1:da) (y1:RX)=>[eL y1]) (I:=fun(st1:da) (y1:RX)=>y1.d=kJ (crs.map aR.l) zl∧DS st1 y1.d 20) st y ⟨rfl,rfl,rfl,rfl,rfl,rfl,rfl,rfl,rfl,rfl,rfl,rfl,rfl,rfl,rfl,rfl,trivial⟩ [0,0,0,0,0] rfl [0,1,2,3,4,5,6,7,8,9,10,11] rfl (⟨ag,hD.le (by omega)⟩)
  ·refine bg rfl rfl rfl (by decide)<|bg rfl rfl rfl (by decide)<|hy (fun _=>bo rfl rfl)<|aw rfl<|bg rfl rfl rfl (by decide)<|bg rfl rfl rfl (by decide)<|bg rfl rfl rfl (by decide)<|hy (fun _=>bo rfl rfl)<|ag<|aB [75,19,18,17,16,48,15,14,13,12,11,10,6,0,1,2,3,4] rfl<|ab<| ?_
   refine cN rfl (rfl) ?_
   refine bG<|an<|an<|aE<| ?_
   have ag:y.d=kJ (crs.map aR.l) zl:=by
    unfold kJ
    by_cases hc0:crs.length=0
    ·have h0:i=0:=hi0 hc0
     rw[if_pos (List.eq_nil_of_length_eq_zero (by rw[hckl];exact hc0)),hE,h0]
     rfl
    ·rw[if_neg (fun e=>hc0 (by rw[←hckl,e];rfl)),hE,oI (l:=zl) (i:=i) (n:=5) (by omega) (by omega) hi5]
   exact mT (R:=fun(st1:da) (y1:RX)=>[]) (X1:=fun(st1:da) (y1:RX)=>[aH g59 86 (p7 g y1 (sd own q A2 c2) g2 (.slice none 0 0) (.slice A_x own.length c_x)),bF g st1]) (S1:=fun(st1:da) (y1:RX)=>[eL y1]) (I:=fun(st1:da) (y1:RX)=>y1.d=kJ (crs.map aR.l) zl∧DS st1 y1.d 20) st y ⟨rfl,rfl,rfl,rfl,rfl,rfl,rfl,rfl,rfl,rfl,rfl,rfl,rfl,rfl,rfl,rfl,trivial⟩ [0,0,0,0,0] rfl [0,1,2,3,4,5,6,7,8,9,10,11] rfl (⟨ag,hD.le (by omega)⟩)
 ·have har:=ef fr ((own.length:Int)+1) (by omega)
  obtain⟨k,hk⟩:∃k:Nat,dr fr ((own.length:Int)+1)=k:=⟨(dr fr ((own.length:Int)+1)).toNat,by omega⟩
  have htexts:pX img fr ot=[own.drop k,ot.take 30]:=by
   unfold pX
   rw[←hown,show(((own.length+1:Nat)):Int)=(own.length:Int)+1 from rfl,hk,Int.toNat_natCast]
  refine ab<|ae<|cD [6,9,10,13] [(0,some 3),(1,some 2),(2,some 0),(3,some 3),(4,some 0),(5,some 0),(8,some 1),(6,none),(7,some 2),(9,none),(10,none),(11,some 3),(12,some 3),(13,none)] (by kernel_rfl) (by kernel_rfl) rfl 3<|ak (ah rfl)<|ak (ah rfl)<|ak (ah rfl)<|ak (ah rfl)<|ak (aY rfl Tryz.underlying27)<|ak (aP rfl rfl (bA (by omega) (by omega)))<|ak (ah rfl)<| ?_
  refine dF (aq rfl Tryz.call16 (lq hfr.1 hfr.2 (by omega) (n:=fr) (m:=((own.length:Int)+1))) [] rfl [] rfl ?_)
  rintro _ _ _ ⟨rfl,rfl,rfl⟩
  refine⟨(fun _=>wk [0,0,0,0,0] [0,1,2,3,4,5,6,7,8,9,10,11] rfl rfl), ?_⟩
  rw[hk]
  refine ak (dP rfl rfl Tryz.underlying27 dU rfl (by omega))<| ?_
  refine dF (aq rfl Tryz.call32 (Jg hoc hon (m:=30)) [] rfl [10] rfl ?_)
  rintro _ _ _ ⟨v2,rfl,rfl,rfl⟩
  refine⟨(fun _=>wk [1,1,1,1,1] [0,1,2,3,4,5,6,7,8,9,10,11] rfl rfl), ?_⟩
  refine cd (fun m=>(m.own 0 rfl).slice) ?_
  rintro⟨A_x2,c_x2,rfl,hc_x2⟩
  refine cd (fun m=>(m.ord 0 rfl).2.1) fun hA_x2=> ?_
  refine dF (bQ Tryz.underlying84 kZ rfl rfl rfl (by simp[Value.cells,B8]) (by decide) (by decide) (fun g118=>⟨(fun _=>wk [2,2,2,2,2] [0,1,2,3,4,5,6,7,8,9,10,11] rfl rfl), ?_⟩))
  have hA_b118:0<2→(some (⟨g118,0,none⟩:Addr))≠none:=fun _ h=>by cases h
  obtain⟨r0,hr0⟩:∃r:aR,r=⟨if c_x=k then A_x else A_x.map (·.add (k*1)),own.length-k,c_x-k,own.drop k⟩:=⟨_,rfl⟩
  obtain⟨r1,hr1⟩:∃r:aR,r=⟨A_x2,min no 30,c_x2,ot.take 30⟩:=⟨_,rfl⟩
  refine ez (fun w m=>m.bz 0 rfl (show _=aK 27 1 (.slice (some ⟨g118,0,none⟩) 2 2) 2 (jZ [r0,r1])from(by rw[hr0,hr1];rfl))) ?_
  refine ak (aO rfl)<|ak (aF rfl qA (by decide))<| ?_
  refine gu (b9 2 rfl rfl rfl IU rfl (by(rw[qb];try dsimp only);omega) ⟨(fun h=>absurd h (by decide)), ?_⟩)
  refine bq<|aB [18,17,16,48,15,14,13,12,11,10,6,0,1,2,3,4] rfl<|aj (X' :=[_,_,_,_,_,_,_]) (S' :=[_,_,_,_,_,_,_,_,_,_,_,_]) (fun _ m=>m)<|ab<|ae<| ?_
  refine bk (fun w m=>m.bz 0 rfl (show _=aH g59 86 (p7 g y1 (sd own q A2 c2) g2 (.slice (some ⟨g118,0,none⟩) 2 2) (.slice A_x own.length c_x))from congrArg (aH _ _) AH)) ?_
  refine bk (fun w m=>(m.perm (ar [1] _ [_] _ rfl)).freeze) ?_
  refine bk (fun w m=>m.fA 0 rfl .own) ?_
  refine a6 (fun m=>fH (m.rd 0 rfl)) ?_
  rintro⟨hl_b118r,hA_b118r⟩
  refine bk (fun w m=>(m.perm (ar [1] _ [_] _ rfl)).freeze) ?_
  refine bk (fun w m=>m.fA 0 rfl .own) ?_
  refine bk (fun w m=>m.fA 10 rfl (View.drop (k:=k) hcx (by omega))) ?_
  refine a6 (fun m=>eG (m.rd 0 rfl)) ?_
  rintro⟨hl_v0,hA_v0⟩
  refine bk (S' :=gE []::_) (fun w m=>m.pF [] rfl) ?_
  refine bk (fun w m=>m.fA 0 rfl View.CJ) ?_
  refine bk (S' :=gE [dH [],cL 1 (if c_x=k then A_x else A_x.map (·.add (k*1))) (own.length-k) (aW (own.drop k))]::_) (fun w m=>m.pF [0,2] rfl) ?_
  refine bk (fun w m=>m.fA 0 rfl (View.k7 (rs:=[]) (r:=⟨if c_x=k then A_x else A_x.map (·.add (k*1)),own.length-k,c_x-k,own.drop k⟩) (by show own.length-k≤c_x-k;omega))) ?_
  refine bk (S' :=gE [dH [⟨if c_x=k then A_x else A_x.map (·.add (k*1)),own.length-k,c_x-k,own.drop k⟩],cL 1 A_x2 (min no 30) (aW (ot.take 30))]::_) (fun w m=>m.pF [0,5] rfl) ?_
  refine bk (fun w m=>m.fA 0 rfl (View.k7 (rs:=[⟨if c_x=k then A_x else A_x.map (·.add (k*1)),own.length-k,c_x-k,own.drop k⟩]) (r:=⟨A_x2,min no 30,c_x2,ot.take 30⟩) (by show min no 30≤c_x2;omega))) ?_
  refine ai<|aw rfl<|aw rfl<|hy (fun _=>aO rfl)<|hy (fun _=>aF rfl qA (by decide))<|hy (fun m=>ao rfl wW ((m.aU 0 rfl).au 43 _ (iE (j:=1))))<|hy (fun _=>aZ rfl rfl Tryz.underlying84 iY hA_b118r (show((0:Nat):Int)=0 from rfl) (by omega))<|hy (fun m=>ao rfl dB ((m.rd 9 rfl).cell (show(jZ [r0,r1])[0]? =some (Value.slice (if c_x=k then A_x else A_x.map (·.add (k*1))) (own.length-k) (c_x-k)) by rw[hr0];rfl)))<| ?_
  refine hx (aq rfl Tryz.call128 (vI hq (gN.nil q) (by rw[List.length_drop]) (by omega) (by simp) (tx:=(own.drop k))) [2] rfl [6,22] rfl ?_)
  rintro _ _ _ ⟨A3,c3,rA,l1,rfl,rfl,rfl,hs1⟩
  obtain⟨hsA,hlA⟩:=hs1
  refine ag<|aB [18,17,16,48,15,14,13,12,11,10,6,0,1,2,3,4] rfl<|aj (X' :=[_,_,_,_,_]) (S' :=[_,_,_,_,_,_,_,_,_,_,_,_,_,_,_,_,_,_,_,_,_,_,_]) (fun _ m=>m)<|ab<|ae<|ai<|aw rfl<|aw rfl<|hy (fun _=>aO rfl)<|hy (fun _=>aF rfl qA (by decide))<|hy (fun m=>ao rfl wW ((m.aU 1 rfl).au 43 _ (iE (j:=1))))<|hy (fun _=>aZ rfl rfl Tryz.underlying84 iY hA_b118r (show((1:Nat):Int)=1 from rfl) (by omega))<|hy (fun m=>ao rfl dB ((m.rd 9 rfl).cell (show(jZ [r0,r1])[1]? =some (Value.slice A_x2 (min no 30) c_x2) by rw[hr1];rfl)))<| ?_
  refine hx (aq rfl Tryz.call128 (vI hq hsA (by rw[List.length_take,hl_rt,Nat.min_comm]) (by omega) (by simp) (tx:=(ot.take 30))) [0] rfl [7,22] rfl ?_)
  rintro _ _ _ ⟨A4,c4,rB,l2,rfl,rfl,rfl,hs2⟩
  refine ag<|aB [18,17,16,48,15,14,13,12,11,10,6,0,1,2,3,4] rfl<|aj (X' :=[_,_,_,_,_]) (S' :=[_,_,_,_,_,_,_,_,_,_,_,_,_,_,_,_,_,_,_,_,_,_,_]) (fun _ m=>m)<|ab<|ae<|ai<|aw rfl<|aG rfl<|ag<|aB [10,18,17,16,48,15,14,13,12,11,6,0,1,2,3,4] rfl<|ab<|aV<| ?_
  obtain⟨hsB,hlB⟩:=hs2
  have hok0:r0.n=r0.l.length∧r0.n≤r0.c∧r0.n≤100000:=by
   rw[hr0]
   exact⟨by show own.length-k=(own.drop k).length;rw[List.length_drop],by show own.length-k≤c_x-k;omega,by show own.length-k≤100000;omega⟩
  have hok1:r1.n=r1.l.length∧r1.n≤r1.c∧r1.n≤100000:=by
   rw[hr1]
   exact⟨by show min no 30=(ot.take 30).length;rw[List.length_take,hl_rt,Nat.min_comm],by show min no 30≤c_x2;omega,by show min no 30≤100000;omega⟩
  have hl0:r0.l=own.drop k:=by rw[hr0]
  have hl1:r1.l=ot.take 30:=by rw[hr1]
  rw[htexts]
  rw[←hr0,←hr1]
  have hoks:∀r∈ [r0,r1],r.n=r.l.length∧r.n≤r.c∧r.n≤100000:=fun r hr=>by
   rcases List.mem_cons.1 hr with rfl|hr
   ·exact hok0
   ·rw[List.mem_singleton.1 hr];exact hok1
  exact bc trivial rfl rfl [1,1,0] rfl [11,15,9,0,17] rfl ⟨g59,g,st1,y1,g2,gm,A4,c4,([]++[rA]++[rB]),l2,A2,c2,some ⟨g118,0,none⟩,[r0,r1],A_x,c_x,rfl,rfl,rfl,⟨hE1,hD1,hsB,by simp[hlA,hlB,hl0,hl1],by simp[hl0,hl1],rfl,hoks,hcx⟩⟩
end Go.Proofs.YtmibdabdlgmafaaGreatDoor
end
section
set_option maxRecDepth 100000
namespace Go.Hx
def J1:List UInt32:=[2054848512,0,0,0,0,0,0,0,0,0,0,0,0,0,0,16,2054848512,655360,270445778,1073742468,2214022567,16951296,1330105446,2071642123,532037560,1211676980,405595174,3483758812,4019481642,2509104064,1462406960,489633397,1495300361,2738993129,328826285,2831584293,1427066711,643395021,1684437551,1813612341,85832476,3312818198,222100383,4145366621,3826746586,3478384474,437666230,3029790180,2991995450,1663170194,3798308262,3393185983,1656179136,381296077,1834242528,3224949950,1580794161,439224757,1824648827,1748212868,492697611,4186724706,2178264625,2819880860]
def JP:List (List UInt32):=[[1988298829,1779033703,3144134277,1013904242,323117730,1359893119,2600822924,528734635],[888048463,1988298829,1779033703,3144134277,3815738539,323117730,1359893119,2600822924],[2503672134,888048463,1988298829,1779033703,2896686088,3815738539,323117730,1359893119],[1453803797,2503672134,888048463,1988298829,1216787024,2896686088,3815738539,323117730],[3587256143,1453803797,2503672134,888048463,3078487088,1216787024,2896686088,3815738539],[3783733788,3587256143,1453803797,2503672134,1963645463,3078487088,1216787024,2896686088],[2694956762,3783733788,3587256143,1453803797,2886134219,1963645463,3078487088,1216787024],[993505436,2694956762,3783733788,3587256143,2524427545,2886134219,1963645463,3078487088],[1776035538,993505436,2694956762,3783733788,1226268175,2524427545,2886134219,1963645463],[2839353572,1776035538,993505436,2694956762,2224002356,1226268175,2524427545,2886134219],[1480501187,2839353572,1776035538,993505436,3063521364,2224002356,1226268175,2524427545],[1232551184,1480501187,2839353572,1776035538,149447045,3063521364,2224002356,1226268175],[8581469,1232551184,1480501187,2839353572,4210300055,149447045,3063521364,2224002356],[3535482551,8581469,1232551184,1480501187,1924384264,4210300055,149447045,3063521364],[888350764,3535482551,8581469,1232551184,3738440092,1924384264,4210300055,149447045],[4191002941,888350764,3535482551,8581469,2979256527,3738440092,1924384264,4210300055],[1302964646,4191002941,888350764,3535482551,471408897,2979256527,3738440092,1924384264],[1425853591,1302964646,4191002941,888350764,818918416,471408897,2979256527,3738440092],[3583141768,1425853591,1302964646,4191002941,1776295021,818918416,471408897,2979256527],[2834514066,3583141768,1425853591,1302964646,206298658,1776295021,818918416,471408897],[2835066875,2834514066,3583141768,1425853591,3188144114,206298658,1776295021,818918416],[632147561,2835066875,2834514066,3583141768,1448800486,3188144114,206298658,1776295021],[316632740,632147561,2835066875,2834514066,2992245967,1448800486,3188144114,206298658],[3565579178,316632740,632147561,2835066875,1347149882,2992245967,1448800486,3188144114],[1589254609,3565579178,316632740,632147561,21808537,1347149882,2992245967,1448800486],[843690353,1589254609,3565579178,316632740,2417352028,21808537,1347149882,2992245967],[3330174534,843690353,1589254609,3565579178,2700437537,2417352028,21808537,1347149882],[3908560670,3330174534,843690353,1589254609,754148860,2700437537,2417352028,21808537],[3742535924,3908560670,3330174534,843690353,4260756884,754148860,2700437537,2417352028],[208392570,3742535924,3908560670,3330174534,1981615296,4260756884,754148860,2700437537],[2268459190,208392570,3742535924,3908560670,3652259405,1981615296,4260756884,754148860],[2079066416,2268459190,208392570,3742535924,3790897082,3652259405,1981615296,4260756884],[875868000,2079066416,2268459190,208392570,477975135,3790897082,3652259405,1981615296],[4002368837,875868000,2079066416,2268459190,521497314,477975135,3790897082,3652259405],[1096602954,4002368837,875868000,2079066416,489490447,521497314,477975135,3790897082],[1405644100,1096602954,4002368837,875868000,575115907,489490447,521497314,477975135],[369260087,1405644100,1096602954,4002368837,2802140150,575115907,489490447,521497314],[3994575861,369260087,1405644100,1096602954,192825902,2802140150,575115907,489490447],[3302278898,3994575861,369260087,1405644100,2860676417,192825902,2802140150,575115907],[3142174017,3302278898,3994575861,369260087,1934159749,2860676417,192825902,2802140150],[206652124,3142174017,3302278898,3994575861,3492823855,1934159749,2860676417,192825902],[2474449308,206652124,3142174017,3302278898,2755949749,3492823855,1934159749,2860676417],[1726643361,2474449308,206652124,3142174017,1946702325,2755949749,3492823855,1934159749],[3775773623,1726643361,2474449308,206652124,2157640316,1946702325,2755949749,3492823855],[2442542790,3775773623,1726643361,2474449308,2808581865,2157640316,1946702325,2755949749],[3470959541,2442542790,3775773623,1726643361,1982293348,2808581865,2157640316,1946702325],[4260370276,3470959541,2442542790,3775773623,3199979403,1982293348,2808581865,2157640316],[560430426,4260370276,3470959541,2442542790,3766257535,3199979403,1982293348,2808581865],[1161603101,560430426,4260370276,3470959541,3916624519,3766257535,3199979403,1982293348],[756396479,1161603101,560430426,4260370276,3011420450,3916624519,3766257535,3199979403],[4049090682,756396479,1161603101,560430426,3113721417,3011420450,3916624519,3766257535],[2038398248,4049090682,756396479,1161603101,376034089,3113721417,3011420450,3916624519],[2956388496,2038398248,4049090682,756396479,1898816031,376034089,3113721417,3011420450],[4285633937,2956388496,2038398248,4049090682,2279495109,1898816031,376034089,3113721417],[3820581800,4285633937,2956388496,2038398248,3331577213,2279495109,1898816031,376034089],[997295916,3820581800,4285633937,2956388496,2169974805,3331577213,2279495109,1898816031],[3067190091,997295916,3820581800,4285633937,2046157193,2169974805,3331577213,2279495109],[3048715921,3067190091,997295916,3820581800,2410855029,2046157193,2169974805,3331577213],[3272704094,3048715921,3067190091,997295916,3885979182,2410855029,2046157193,2169974805],[1945285113,3272704094,3048715921,3067190091,60793651,3885979182,2410855029,2046157193],[724963306,1945285113,3272704094,3048715921,3563267128,60793651,3885979182,2410855029],[937297014,724963306,1945285113,3272704094,1556071975,3563267128,60793651,3885979182],[2421831168,937297014,724963306,1945285113,1226688818,1556071975,3563267128,60793651],[3763788054,2421831168,937297014,724963306,606173085,1226688818,1556071975,3563267128]]
def Km:List UInt8:=[74,96,191,125,75,193,228,133,116,76,247,232,208,134,5,36,117,47,202,28,228,35,49,190,124,67,159,210,48,67,241,81]
theorem CS:bL [122,122]=Km:=(tB (m:=[122,122,128,0,0,0,0,0,0,0,0,0,0,0,0,0,0,0,0,0,0,0,0,0,0,0,0,0,0,0,0,0,0,0,0,0,0,0,0,0,0,0,0,0,0,0,0,0,0,0,0,0,0,0,0,0,0,0,0,0,0,0,0,16]) (w:=J1) (t:=JP) (by decide+kernel) rfl rfl rfl (by decide+kernel) (by decide+kernel)).trans (by decide+kernel)
def Ip:List UInt32:=[1633772160,0,0,0,0,0,0,0,0,0,0,0,0,0,0,24,1633772160,983040,2634572996,1610613702,1054711612,25426944,2088120298,3806446222,3525733438,1983281696,1538014866,824661887,2584840620,3184682828,145562809,2782273773,3311626407,3014102398,668440457,1236728612,891273620,4255289291,2893836319,3143125713,211285158,3935344578,3619783650,3884440052,2692719170,3061227957,823166091,3292487821,186174800,3676732107,2379011416,3136145349,125334337,3233317804,1328489748,3366404324,460414623,2154383420,445434772,4128881331,868591611,557500486,1005762625,2935325738]
def Jn:List (List UInt32):=[[1567222477,1779033703,3144134277,1013904242,4197008674,1359893119,2600822924,528734635],[1055034233,1567222477,1779033703,3144134277,1498147741,4197008674,1359893119,2600822924],[1758861786,1055034233,1567222477,1779033703,125250753,1498147741,4197008674,1359893119],[3844022234,1758861786,1055034233,1567222477,3318010115,125250753,1498147741,4197008674],[3332111562,3844022234,1758861786,1055034233,2067810083,3318010115,125250753,1498147741],[3740884683,3332111562,3844022234,1758861786,20507507,2067810083,3318010115,125250753],[1220767109,3740884683,3332111562,3844022234,107125138,20507507,2067810083,3318010115],[933204837,1220767109,3740884683,3332111562,439791131,107125138,20507507,2067810083],[305035725,933204837,1220767109,3740884683,3513469399,439791131,107125138,20507507],[1066270522,305035725,933204837,1220767109,3639847160,3513469399,439791131,107125138],[4228268457,1066270522,305035725,933204837,3412805730,3639847160,3513469399,439791131],[600733777,4228268457,1066270522,305035725,2987833957,3412805730,3639847160,3513469399],[3545897291,600733777,4228268457,1066270522,4066268407,2987833957,3412805730,3639847160],[3445770707,3545897291,600733777,4228268457,3266624501,4066268407,2987833957,3412805730],[1165553213,3445770707,3545897291,600733777,1230184512,3266624501,4066268407,2987833957],[2400360033,1165553213,3445770707,3545897291,710533114,1230184512,3266624501,4066268407],[2757246063,2400360033,1165553213,3445770707,263072793,710533114,1230184512,3266624501],[483894141,2757246063,2400360033,1165553213,4198931352,263072793,710533114,1230184512],[3264986754,483894141,2757246063,2400360033,2037447745,4198931352,263072793,710533114],[303077852,3264986754,483894141,2757246063,4059857239,2037447745,4198931352,263072793],[502823825,303077852,3264986754,483894141,666449257,4059857239,2037447745,4198931352],[571080131,502823825,303077852,3264986754,2989502560,666449257,4059857239,2037447745],[1625332644,571080131,502823825,303077852,267844766,2989502560,666449257,4059857239],[3874493497,1625332644,571080131,502823825,2426536486,267844766,2989502560,666449257],[3211142389,3874493497,1625332644,571080131,1650077136,2426536486,267844766,2989502560],[1822082660,3211142389,3874493497,1625332644,3604810369,1650077136,2426536486,267844766],[3390284912,1822082660,3211142389,3874493497,4175820450,3604810369,1650077136,2426536486],[3471826545,3390284912,1822082660,3211142389,1748620173,4175820450,3604810369,1650077136],[687723256,3471826545,3390284912,1822082660,3665553828,1748620173,4175820450,3604810369],[2731603891,687723256,3471826545,3390284912,3652588468,3665553828,1748620173,4175820450],[1099115018,2731603891,687723256,3471826545,1235292585,3652588468,3665553828,1748620173],[740843164,1099115018,2731603891,687723256,229333686,1235292585,3652588468,3665553828],[2075604582,740843164,1099115018,2731603891,631473263,229333686,1235292585,3652588468],[1148627423,2075604582,740843164,1099115018,2359089590,631473263,229333686,1235292585],[407832768,1148627423,2075604582,740843164,2824535833,2359089590,631473263,229333686],[3051835849,407832768,1148627423,2075604582,224954230,2824535833,2359089590,631473263],[1581036634,3051835849,407832768,1148627423,1192854360,224954230,2824535833,2359089590],[415589118,1581036634,3051835849,407832768,2034255498,1192854360,224954230,2824535833],[360447969,415589118,1581036634,3051835849,2358980816,2034255498,1192854360,224954230],[773251491,360447969,415589118,1581036634,1909877760,2358980816,2034255498,1192854360],[594874040,773251491,360447969,415589118,3359611592,1909877760,2358980816,2034255498],[2266280655,594874040,773251491,360447969,3476778401,3359611592,1909877760,2358980816],[451014547,2266280655,594874040,773251491,3822527167,3476778401,3359611592,1909877760],[1895651634,451014547,2266280655,594874040,1577036730,3822527167,3476778401,3359611592],[332479563,1895651634,451014547,2266280655,2206742283,1577036730,3822527167,3476778401],[1054836794,332479563,1895651634,451014547,1352974370,2206742283,1577036730,3822527167],[3646796636,1054836794,332479563,1895651634,287018668,1352974370,2206742283,1577036730],[2743469782,3646796636,1054836794,332479563,505991759,287018668,1352974370,2206742283],[2633224930,2743469782,3646796636,1054836794,1855309252,505991759,287018668,1352974370],[3860727076,2633224930,2743469782,3646796636,2344771891,1855309252,505991759,287018668],[4254252976,3860727076,2633224930,2743469782,3349563909,2344771891,1855309252,505991759],[3264127931,4254252976,3860727076,2633224930,3781464674,3349563909,2344771891,1855309252],[2935174069,3264127931,4254252976,3860727076,2371160918,3781464674,3349563909,2344771891],[588073142,2935174069,3264127931,4254252976,3753454682,2371160918,3781464674,3349563909],[4149922135,588073142,2935174069,3264127931,1510855301,3753454682,2371160918,3781464674],[3093635581,4149922135,588073142,2935174069,4148962467,1510855301,3753454682,2371160918],[3733276247,3093635581,4149922135,588073142,3837243998,4148962467,1510855301,3753454682],[280484849,3733276247,3093635581,4149922135,1702422667,3837243998,4148962467,1510855301],[1301593689,280484849,3733276247,3093635581,1736412347,1702422667,3837243998,4148962467],[1967713523,1301593689,280484849,3733276247,3720481434,1736412347,1702422667,3837243998],[3606092690,1967713523,1301593689,280484849,3328607818,3720481434,1736412347,1702422667],[3799463215,3606092690,1967713523,1301593689,4061755410,3328607818,3720481434,1736412347],[4211030625,3799463215,3606092690,1967713523,3303856524,4061755410,3328607818,3720481434],[3463194692,4211030625,3799463215,3606092690,4284758922,3303856524,4061755410,3328607818]]
def IC:List UInt8:=[56,118,14,171,182,102,232,230,30,230,40,161,124,64,144,204,80,114,142,9,95,242,66,24,17,157,81,189,34,71,83,99]
theorem DG:bL [97,97,98]=IC:=(tB (m:=[97,97,98,128,0,0,0,0,0,0,0,0,0,0,0,0,0,0,0,0,0,0,0,0,0,0,0,0,0,0,0,0,0,0,0,0,0,0,0,0,0,0,0,0,0,0,0,0,0,0,0,0,0,0,0,0,0,0,0,0,0,0,0,24]) (w:=Ip) (t:=Jn) (by decide+kernel) rfl rfl rfl (by decide+kernel) (by decide+kernel)).trans (by decide+kernel)
def J5:List UInt32:=[1650622464,0,0,0,0,0,0,0,0,0,0,0,0,0,0,16,1650622464,655360,270050781,1073742468,1179724838,16951296,3011936185,1667416075,4027649580,1211411274,3874481357,120556636,264870995,3945449546,2164708487,3652222486,3683381346,2840470196,2641696470,876562213,87360721,3363725241,1523790501,661762801,1337217553,1392281669,444939906,2727719024,1266786748,1579160283,3061099938,1466235909,3869735878,2693605697,802400516,2499427292,40879100,1726646860,1440081435,1652352204,3808980258,3128721053,2207850535,1866567534,544381429,587330707,2013314720,1328068330]
def JW:List (List UInt32):=[[1584072781,1779033703,3144134277,1013904242,4213858978,1359893119,2600822924,528734635],[1619638428,1584072781,1779033703,3144134277,1757149591,4213858978,1359893119,2600822924],[1624555175,1619638428,1584072781,1779033703,3088034039,1757149591,4213858978,1359893119],[1316080225,1624555175,1619638428,1584072781,3619505068,3088034039,1757149591,4213858978],[763883861,1316080225,1624555175,1619638428,1667349198,3619505068,3088034039,1757149591],[3109837683,763883861,1316080225,1624555175,3473036494,1667349198,3619505068,3088034039],[869842003,3109837683,763883861,1316080225,581995694,3473036494,1667349198,3619505068],[3248460530,869842003,3109837683,763883861,2308269794,581995694,3473036494,1667349198],[710299200,3248460530,869842003,3109837683,1279754716,2308269794,581995694,3473036494],[3141506399,710299200,3248460530,869842003,789549301,1279754716,2308269794,581995694],[2261939969,3141506399,710299200,3248460530,1428445883,789549301,1279754716,2308269794],[1320674158,2261939969,3141506399,710299200,3583799767,1428445883,789549301,1279754716],[3484157267,1320674158,2261939969,3141506399,335030246,3583799767,1428445883,789549301],[3594503089,3484157267,1320674158,2261939969,1500036803,335030246,3583799767,1428445883],[1310589237,3594503089,3484157267,1320674158,1864445561,1500036803,335030246,3583799767],[2610828803,1310589237,3594503089,3484157267,4193178299,1864445561,1500036803,335030246],[550073819,2610828803,1310589237,3594503089,3820232927,4193178299,1864445561,1500036803],[1125329867,550073819,2610828803,1310589237,3413680811,3820232927,4193178299,1864445561],[2391077476,1125329867,550073819,2610828803,383106151,3413680811,3820232927,4193178299],[1638016482,2391077476,1125329867,550073819,1467084182,383106151,3413680811,3820232927],[3440917524,1638016482,2391077476,1125329867,1785954334,1467084182,383106151,3413680811],[840598629,3440917524,1638016482,2391077476,4103947996,1785954334,1467084182,383106151],[3628523852,840598629,3440917524,1638016482,4294117959,4103947996,1785954334,1467084182],[3572611031,3628523852,840598629,3440917524,914813040,4294117959,4103947996,1785954334],[3568505820,3572611031,3628523852,840598629,1142625664,914813040,4294117959,4103947996],[2649802761,3568505820,3572611031,3628523852,2475853397,1142625664,914813040,4294117959],[3384683852,2649802761,3568505820,3572611031,3909254856,2475853397,1142625664,914813040],[2082492515,3384683852,2649802761,3568505820,3533900138,3909254856,2475853397,1142625664],[1852734083,2082492515,3384683852,2649802761,2283719980,3533900138,3909254856,2475853397],[1893229348,1852734083,2082492515,3384683852,3962557056,2283719980,3533900138,3909254856],[816348348,1893229348,1852734083,2082492515,426059804,3962557056,2283719980,3533900138],[3276869986,816348348,1893229348,1852734083,2253356147,426059804,3962557056,2283719980],[1275037569,3276869986,816348348,1893229348,3389897475,2253356147,426059804,3962557056],[2507675164,1275037569,3276869986,816348348,829139053,3389897475,2253356147,426059804],[3492303199,2507675164,1275037569,3276869986,3346324233,829139053,3389897475,2253356147],[3299029820,3492303199,2507675164,1275037569,3603579692,3346324233,829139053,3389897475],[3350835840,3299029820,3492303199,2507675164,462359585,3603579692,3346324233,829139053],[384157940,3350835840,3299029820,3492303199,2761054593,462359585,3603579692,3346324233],[305841412,384157940,3350835840,3299029820,1183272551,2761054593,462359585,3603579692],[2667731577,305841412,384157940,3350835840,2234621010,1183272551,2761054593,462359585],[1587097338,2667731577,305841412,384157940,1389006870,2234621010,1183272551,2761054593],[2237809476,1587097338,2667731577,305841412,4183713715,1389006870,2234621010,1183272551],[1608593575,2237809476,1587097338,2667731577,547881309,4183713715,1389006870,2234621010],[2726665298,1608593575,2237809476,1587097338,195470726,547881309,4183713715,1389006870],[3233469535,2726665298,1608593575,2237809476,992852321,195470726,547881309,4183713715],[4093045175,3233469535,2726665298,1608593575,4248160481,992852321,195470726,547881309],[1436379579,4093045175,3233469535,2726665298,1742914550,4248160481,992852321,195470726],[95472850,1436379579,4093045175,3233469535,3915146130,1742914550,4248160481,992852321],[3274282493,95472850,1436379579,4093045175,157297157,3915146130,1742914550,4248160481],[3481028991,3274282493,95472850,1436379579,71686652,157297157,3915146130,1742914550],[2786186409,3481028991,3274282493,95472850,3950107109,71686652,157297157,3915146130],[438004969,2786186409,3481028991,3274282493,3438706818,3950107109,71686652,157297157],[1209980630,438004969,2786186409,3481028991,816935009,3438706818,3950107109,71686652],[3227581657,1209980630,438004969,2786186409,634569996,816935009,3438706818,3950107109],[1531615800,3227581657,1209980630,438004969,2753304280,634569996,816935009,3438706818],[3114685828,1531615800,3227581657,1209980630,2650686942,2753304280,634569996,816935009],[1600763431,3114685828,1531615800,3227581657,3003868592,2650686942,2753304280,634569996],[4213060976,1600763431,3114685828,1531615800,2682032236,3003868592,2650686942,2753304280],[2047901638,4213060976,1600763431,3114685828,3969339033,2682032236,3003868592,2650686942],[3576465825,2047901638,4213060976,1600763431,4067545381,3969339033,2682032236,3003868592],[1660462503,3576465825,2047901638,4213060976,1021514134,4067545381,3969339033,2682032236],[4239228159,1660462503,3576465825,2047901638,1853841825,1021514134,4067545381,3969339033],[267262174,4239228159,1660462503,3576465825,3895108951,1853841825,1021514134,4067545381],[3512399150,267262174,4239228159,1660462503,976404568,3895108951,1853841825,1021514134]]
def Kn:List UInt8:=[59,100,219,149,203,85,199,99,57,28,112,113,8,72,154,225,139,65,18,215,131,48,13,227,142,3,59,76,152,195,222,175]
theorem G7:bL [98,98]=Kn:=(tB (m:=[98,98,128,0,0,0,0,0,0,0,0,0,0,0,0,0,0,0,0,0,0,0,0,0,0,0,0,0,0,0,0,0,0,0,0,0,0,0,0,0,0,0,0,0,0,0,0,0,0,0,0,0,0,0,0,0,0,0,0,0,0,0,0,16]) (w:=J5) (t:=JW) (by decide+kernel) rfl rfl rfl (by decide+kernel) (by decide+kernel)).trans (by decide+kernel)
end Go.Hx
end
section
namespace Go.Proofs.YtmibdabdlgmafaaGreatDoor
open Go.Eng Go.Hx
theorem we:e7 [97,97,98,98] ⟨2,3,3⟩=[[97,97,98],[98]]:=by decide+kernel
theorem uK:e7 [98,98] ⟨2,3,3⟩=[[98,98]]:=by decide+kernel
theorem Gf:bL [122,122]≠bL [97,97,98]:=by rw[CS,DG];decide+kernel
theorem Iz:bL [122,122]≠bL [98,98]:=by rw[CS,G7];decide+kernel
theorem wE:kJ (e7 [97,97,98,98] ⟨2,3,3⟩) [0]=((RD.new 20000).put [97,97,98]).1:=by
 rw[we]
 rfl
theorem xj:(kJ (e7 [97,97,98,98] ⟨2,3,3⟩) [0]).ic (bL [122,122])=4:=by
 have hs:=(n4 [97,97,98]).2
 obtain⟨d',e,hd⟩:=(SD.new 20000).put (b:=[97,97,98]) (by decide) rfl (by simp at hs ⊢;omega)
 rw[wE,e]
 refine yd hd.at_ ?_
 unfold G2 C5
 rw[if_neg (fun h=>Gf (wO (bK _) (bK _) h)),if_neg (pC _ _),if_neg (pC _ _)]
theorem wx:eh ⟨2,3,3⟩ [[98,98],[]] 0 (bL [122,122])=none:=by
 have h1:cw [98,98] ⟨2,3,3⟩=[dX [98,98]]:=by rw[cw,uK];rfl
 have h2:cw [] ⟨2,3,3⟩=[]:=rfl
 rw[eh,h1,dh,if_neg (show¬(dX [98,98]).1.b=bL [122,122]from fun h=>Iz h.symm),dh]
 show eh _ [[]] 1 _=none
 rw[eh,h2,dh]
 rfl
theorem xu:cG (kJ (e7 [97,97,98,98] ⟨2,3,3⟩) [0]) ⟨2,3,3⟩ [[98,98],[]] (bL [122,122])=3:=by
 unfold cG
 rw[if_neg (by rw[xj];decide),wx]
 rfl
theorem uO:pX [97,97,98,98] 2 []=[[98,98],[]]:=rfl
end Go.Proofs.YtmibdabdlgmafaaGreatDoor
end
section
set_option maxRecDepth 20000
set_option maxHeartbeats 4000000
namespace Go.Proofs.YtmibdabdlgmafaaGreatDoor
open Go.Eng Go.Hx
theorem BK{u:IX}{j:Nat}{v:Value}(h:[Value.int .i64 u.mn,.int .i64 u.av,.int .i64 u.mx][j]? =some v):u.cs[j]? =some v:=by
 have hj:=(List.getElem?_eq_some_iff.1 h).1
 unfold IX.cs
 rw[List.append_assoc,List.getElem?_append_left hj]
 exact h
theorem D3{u:IX}{j:Nat}{v:Value}(h:(aW u.img.b)[j]? =some v):u.cs[3+j]? =some v:=by
 have hj:=(List.getElem?_eq_some_iff.1 h).1
 have hi:(aW u.img.b).length=32:=by rw[ax,u.img.h]
 unfold IX.cs
 rw[List.getElem?_append_left (by rw[List.length_append];show 3+j<3+_;omega),List.getElem?_append_right (by show 3≤3+j;omega)]
 show(aW u.img.b)[3+j-3]? =_
 rw[Nat.add_sub_cancel_left]
 exact h
theorem IP{gw ga gs:Nat}{x:RX}{u:IX}{t o:Value}:b7 Tryz.prog 43 [.pointer (some ⟨gw,0,none⟩)] [aH gw 86 (p7 ga x u gs t o)] [] (fun v_ X_ S_=>v_=(.agg u.cs.toArray)∧X_=[aH gw 86 (p7 ga x u gs t o)]∧S_=[]):=by
 have hi:(aW u.img.b).length=32:=by rw[ax,u.img.h]
 refine aM (N:=19) Tryz.func43 rfl rfl (by simp) fun b=> ?_
 refine ae<|ai<| ?_
 refine hx (bf HI (fun g2=> ?_))
 refine ag<|aj (X' :=[_,_]) (S' :=[]) (fun _ m=>m)<|ab<|ae<|cD [16] [(0,some 0),(1,some 0),(2,some 0),(3,some 0),(4,some 0),(5,some 0),(6,some 0),(7,some 0),(8,some 0),(9,some 0),(10,some 0),(11,some 0),(12,some 0),(13,some 0),(14,some 0),(15,some 0),(16,none)] (by kernel_rfl) (by kernel_rfl) rfl 0<|ak (ah rfl)<|ak (aO rfl)<|ak (aF rfl oK (by decide))<|ak (aF rfl wg (by decide))<|bZ (fun m=>aQ rfl gC gg rfl (fun j v hv=>rQ (m.aU 1 rfl) j v (BK hv)))<|ak (ah rfl)<|ak (aO rfl)<|ak (aF rfl oK (by decide))<|ak (aF rfl Hm (by decide))<|bZ (fun m=>aQ rfl b5 bp hi (fun j v hv=>by have:=rQ (m.aU 1 rfl) (3+j) v (D3 hv);rw[add_add]at this ⊢;rw[add_add];exact this))<|ak (ah rfl)<|ak (aO rfl)<|ak (aF rfl oK (by decide))<|ak (aF rfl sS (by decide))<|bZ (fun m=>ao rfl wy (rQ (m.aU 1 rfl) 35 _ u.CL))<|ak (bU HI rfl rfl (by kernel_rfl) (I2 (x:=u) Cp GU Bv))<| ?_
 refine gu (ba 0 rfl rfl rfl HX u.gG u.cH rfl ⟨(fun h=>absurd h (by decide)), ?_⟩)
 refine bq<|aB [2,0] rfl<|aj (X' :=[_,_]) (S' :=[]) (fun _ m=>m)<|ab<|aV<| ?_
 exact eO trivial rfl rfl J0 HX u.gG (fun m=>(m.aU 0 rfl).au) [1] rfl [] rfl ⟨rfl,rfl,rfl⟩
theorem EV{t:It}(h1:-9223372036854775808≤t.2)(h2:t.2≤9223372036854775807):∃ls,Tryz.prog.keyLits 3 96 (fz t)=some ls:=by
 have hd:(aW t.1.b).length=32:=by rw[ax,t.1.h]
 refine⟨[(t.1.b.map fun b=>Lit.int .u8 (b.toNat:Int)),[Lit.int .i64 t.2]].flatten, ?_⟩
 refine r5 (d:=2) Tryz.underlying96 (by rw[cf];kernel_rfl) (by kernel_rfl) (mapM_some ?_)
 have c1:Tryz.prog.cellsOf 53=32:=by kernel_rfl
 have c2:Tryz.prog.cellsOf 3=1:=by kernel_rfl
 simp only[List.map_cons,List.map_nil,c1,c2]
 have e1:((fz t).drop 0).take 32=aW t.1.b:=by rw[fz,List.drop_zero,List.take_append_of_le_length (by omega),List.take_of_length_le (by omega)]
 have e2:((fz t).drop 32).take 1=[.int .i64 t.2]:=by rw[fz,List.drop_append,List.drop_of_length_le (by omega),hd];rfl
 rw[e1,e2,uk t.1.h,tl (d:=1) Tryz.underlying3 h1 h2]
theorem Cy{N:Nat}{D:List Deferred}{ρ:Env}{w:World}{ty t' :TypeId}{x y:Operand}{t:It}(hx:ev ρ x=some (.agg (fz t).toArray))(hy:ev ρ y=some (.agg (fz t).toArray))(h1:-9223372036854775808≤t.2)(h2:t.2≤9223372036854775807):
  Yl Tryz.prog N D ρ w (.binOp .neq 96 x y t') ty (.bool (decide (¬True))):=by
 obtain⟨ls,hls⟩:=EV h1 h2
 exact FK (m:=6) hx hy (by decide) (by kernel_rfl) (by kernel_rfl) IY (by rw[cf];kernel_rfl) (by rw[cf];kernel_rfl) hls hls ⟨fun _=>trivial,fun _=>rfl⟩
theorem EJ(d:RD)(q:Pn)(ts:List (List UInt8))(nm:List UInt8):1≤cG d q ts nm∧cG d q ts nm≤3:=by
 unfold cG
 split
 ·omega
 ·split <;> omega
theorem nH{fr:List UInt8→Int}(hf:∀nm,1≤fr nm∧fr nm≤3){its:List It}:∀(i:Nat),∀t∈ea fr its i,1≤t.2∧t.2≤3
 |0,t,h=>by rw[ea]at h;exact absurd h List.not_mem_nil
 |i+1,t,h=>by
  rw[ea]at h
  split at h
  ·split at h
   ·exact nH hf i t h
   ·rcases List.mem_append.1 h with h|h
    ·exact nH hf i t h
    ·rw[List.mem_singleton.1 h];exact hf _
  ·exact nH hf i t h
theorem E4{A B:Option Addr}{n c c2:Nat}{l:List It}(hl:l.length=n)(hn:n≤1000000)(hb:∀t∈l,1≤t.2∧t.2≤3):b7 Tryz.prog 45 [.slice A n c,.slice B n c2] [] [cL 33 A n (jD l),cL 33 B n (jD l)] (fun v_ X_ S_=>v_=(.bool true)∧X_=[]∧S_=[]):=by
 refine aM (N:=26) Tryz.func45 rfl rfl (by simp) fun b=> ?_
 refine a6 (fun m=>fH (m.rd 0 rfl)) ?_
 rintro⟨hl_r,hA_r⟩
 refine a6 (fun m=>fH (m.rd 1 rfl)) ?_
 rintro⟨hl_q,hA_q⟩
 refine ae<|ai<|aG rfl<|ag<|ab<|ae<|ae<|ai<|aw rfl<|hy (fun _=>aY rfl Tryz.underlying78)<|aw rfl<|hy (fun _=>aY rfl Tryz.underlying90)<|hy (fun _=>cT rfl rfl)<|ag<|aB [10,4,0,1] rfl<|ab<| ?_
 refine cN rfl ((decide_eq_false (fun h=>h rfl))) ?_
 refine aC<|ab<|ae<|ae<|ai<|aG rfl<|ag<|ab<|aN<| ?_
 refine de (fun i=>n-i) (fun i=>[(5,.int .i64 (i:Nat))]) (fun i=>[]) (fun i=>[]) (fun i=>i≤n) 0 [(10,_),(0,_),(1,_)] ⟨rfl,rfl,rfl,trivial⟩ [] rfl [] rfl (Nat.zero_le _) ⟨rfl,trivial⟩ (fun i hi=> ?_)
 refine ae<|ae<|ai<|aw rfl<|aw rfl<|hy (fun _=>aY rfl Tryz.underlying78)<|hy (fun _=>bw rfl rfl)<|ag<|aB [14,5,10,0,1] rfl<|ab<| ?_
 refine cB rfl (fun hlt=> ?_) (fun hlt=> ?_)
 ·obtain⟨t,ht⟩:∃t,l[i]? =some t:=⟨_,List.getElem?_eq_getElem (by omega)⟩
  have htb:=hb t (List.mem_of_getElem? ht)
  refine aC<|ab<|ae<|aN<|ae<|cD [] [(0,some 0),(1,some 0),(2,some 0),(3,some 0),(4,some 0),(5,some 0),(6,some 0),(7,some 0),(8,some 0)] (by kernel_rfl) (by kernel_rfl) rfl 99<|ak (ah rfl)<|ak (ah rfl)<|ak (cC rfl rfl Tryz.underlying78 lY hA_r rfl (by omega))<|bZ (fun m=>yV (aQ rfl uF lY (cf t) (dJ (f:=fz) cf (m.rd 0 rfl) ht)) ((rfl:_=Value.agg (fz t).toArray)))<|ak (ah rfl)<|ak (ah rfl)<|ak (cC rfl rfl Tryz.underlying90 zN hA_q rfl (by omega))<|bZ (fun m=>yV (aQ rfl IY zN (cf t) (dJ (f:=fz) cf (m.rd 1 rfl) ht)) ((rfl:_=Value.agg (fz t).toArray)))<|ak ((Cy rfl rfl (by omega) (by omega)))<|bq<|aB [25,14,5,10,0,1] rfl<|ab<| ?_
  refine cN rfl ((decide_eq_false (fun h=>h trivial))) ?_
  refine aC<|aS<|ab<|ai<|aw rfl<|hy (fun _=>aP rfl rfl (bA (by omega) (by omega)))<|aG rfl<|ag<|aB [5,25,14,10,0,1] rfl<| ?_
  refine cM (i+1) ⟨rfl,rfl,rfl,rfl,trivial⟩ [] rfl [0,1] rfl (by omega) (by omega)
 ·refine bG<|an<|an<|aE<|ab<|ae<|ai<|aG rfl<|ag<|ab<|aV<| ?_
  exact bc trivial rfl rfl [] rfl [] rfl ⟨rfl,rfl,rfl⟩
end Go.Proofs.YtmibdabdlgmafaaGreatDoor
end
section
set_option maxRecDepth 20000
set_option maxHeartbeats 4000000
namespace Go.Proofs.YtmibdabdlgmafaaGreatDoor
open Go.Eng Go.Hx
def JH(a b c:Int)(its:List It)(A:Option Addr)(k:Nat):IX:=⟨a,b,c,k4,its,A,k⟩
theorem JN{P:Program}{pl:Nat→Option (Nat×Nat)}{a b c:Int}{its:List It}{A:Option Addr}{n k:Nat}(hn:n=its.length)(h0:pl 0=some (0,3))(h2:pl 2=some (35,1)):xX P pl JG.cs [(0,.agg [Value.int .i64 a,.int .i64 b,.int .i64 c].toArray),(2,.slice A n k)] (JH a b c its A k).cs:=by
 subst hn
 have hz:(aW k4.b).length=32:=by rw[ax,k4.h]
 have e1:b8 JG.cs 0 [Value.int .i64 a,.int .i64 b,.int .i64 c]=[Value.int .i64 a,.int .i64 b,.int .i64 c]++aW k4.b++[.slice none 0 0]:=rfl
 have e3:b8 ([Value.int .i64 a,.int .i64 b,.int .i64 c]++aW k4.b++[.slice none 0 0]) 35 [.slice A its.length k]=(JH a b c its A k).cs:=by
  have:=dW (a:=[Value.int .i64 a,.int .i64 b,.int .i64 c]++aW k4.b) (b:=[Value.slice none 0 0]) (c:=[]) (vs:=[.slice A its.length k]) (o:=35) (by simp[hz]) rfl
  rw[List.append_nil,List.append_nil]at this
  exact this
 exact .cons h0 (aT _) rfl (by rw[IX.gG];decide) (by rw[e1];exact .cons h2 rfl rfl (by simp[hz]) (by rw[show(Value.slice A its.length k).cells.toList=[Value.slice A its.length k]from rfl,e3];exact .nil))
theorem Gg{P:Program}{pl:Nat→Option (Nat×Nat)}{t:It}{n:Int}(hn:t.2=n)(h0:pl 0=some (0,32))(h1:pl 1=some (32,1)):xX P pl (fz (k4,0)) [(0,.agg (aW t.1.b).toArray),(1,.int .i64 n)] (fz t):=by
 subst hn
 exact o3 h0 h1
theorem C0:b7 Tryz.prog 49 [] [] [dZ] (fun v_ X_ S_=>v_=(.bool true)∧X_=[]∧S_=[]):=by
 refine aM (N:=45) Tryz.func49 rfl rfl (by simp) fun b=> ?_
 refine ae<|ai<|aG rfl<|ag<|ab<|ae<|ai<| ?_
 refine hx (bQ Tryz.underlying27 fi rfl rfl rfl (by simp[Value.cells,B8]) (by decide) (by decide) (fun g3=> ?_))
 have hA_b3:0<4→(some (⟨g3,0,none⟩:Addr))≠none:=fun _ h=>by cases h
 refine hx (Bh 0 rfl rfl Tryz.underlying27 Tryz.underlying5 ?_)
 refine hy (fun _=>bU AD rfl rfl (by kernel_rfl) (.cons (o:=0) (sz:=1) (by kernel_rfl) rfl rfl (Nat.le_of_ble_eq_true rfl) (.cons (o:=1) (sz:=1) (by kernel_rfl) rfl rfl (Nat.le_of_ble_eq_true rfl) (.cons (o:=2) (sz:=1) (by kernel_rfl) rfl rfl (Nat.le_of_ble_eq_true rfl) .nil))))<| ?_
 refine hx (bQ Tryz.underlying44 HU rfl rfl rfl (by simp[Value.cells,B8]) (by decide) (by decide) (fun g6=> ?_))
 have hA_b6:0<1→(some (⟨g6,0,none⟩:Addr))≠none:=fun _ h=>by cases h
 refine aJ (fun w m=>m.bz 1 rfl (show _=aK 5 1 (.slice (some ⟨g3,0,none⟩) 4 4) 4 (aW [97,97,98,98])from rfl)) ?_
 refine aJ (fun w m=>(m.perm (ar [0] _ [_] _ rfl)).freeze) ?_
 refine aJ (fun w m=>m.fA 0 rfl .own) ?_
 refine az (fun m=>eG (m.rd 0 rfl)) ?_
 rintro⟨hl_b3r,hA_b3r⟩
 refine aJ (fun w m=>m.bz 0 rfl (show _=aK 3 1 (.slice (some ⟨g6,0,none⟩) 1 1) 1 (ints [0])from rfl)) ?_
 refine aJ (fun w m=>(m.perm (ar [0] _ [_] _ rfl)).freeze) ?_
 refine aJ (fun w m=>m.fA 0 rfl .own) ?_
 refine az (fun m=>fH (m.rd 0 rfl)) ?_
 rintro⟨hl_b6r,hA_b6r⟩
 refine aJ (fun w m=>m.rm (r' :=cL 1 none 0 []) (.refl _ _) (Rd.nil _ _ _) (fun k hk=>absurd rfl hk.1)) ?_
 have hA_z1:0<0→(none:Option Addr)≠none:=fun h=>absurd h (by decide)
 refine hx (aq rfl Tryz.call41 (vC (Nat.le_refl _) (by decide) (by decide) (by decide) (by decide) (by intro z hz;rw[List.mem_singleton.1 hz];decide) (by decide) (Nat.le_refl 0) (by decide) (img:=[97,97,98,98]) (ot:=[]) (zl:=[0]) (p:=⟨1,1,0⟩)) [] rfl [3,1,0,5] rfl ?_)
 rintro _ _ _ ⟨gw,gd,st,y,gs,gm,A,c,rs,l,A2,c2,T,trs,AO,cO,rfl,rfl,rfl,hbg⟩
 refine az (fun m=>fH (m.rd 1 rfl)) ?_
 rintro⟨hl_z,hA_z⟩
 refine az (fun m=>fH (m.rd 2 rfl)) ?_
 rintro⟨hl_tr,hA_tr⟩
 refine az (fun m=>eG (m.rd 4 rfl)) ?_
 rintro⟨hl_xo,hA_xo⟩
 refine aG rfl<|ag<|aB [1,0] rfl<|aj (X' :=[_,_,_]) (S' :=[_,_,_,_,_,_,_,_,_,_,_]) (fun _ m=>m)<|ab<|ae<|ae<|ai<|aw rfl<|hy (fun _=>tn rfl rfl (by kernel_rfl))<|ag<|aB [9,1,0] rfl<|ab<| ?_
 obtain⟨hyd,hD,hok,hrs,hxts,htl,htr,hcO⟩:=hbg
 refine cN rfl (rfl) ?_
 refine aC<|ab<|ae<|py [0] [0,1,2,3,4,5,6,7,8,9,10] rfl rfl [5,6,7,9,15] [(0,some 4),(1,some 4),(2,some 4),(3,some 4),(4,some 4),(11,some 4),(12,some 4),(13,some 4),(14,some 4),(5,none),(6,none),(7,none),(8,some 3),(9,none),(10,some 4),(15,none),(16,some 5)] (by kernel_rfl) (by kernel_rfl) rfl 99<|ak (ah rfl)<|ak (aO rfl)<|ak (aF rfl my (by decide))<|bZ (fun m=>ao rfl og (aA (m.aU 0 rfl) (i:=0) rfl))<|ak (bU AD rfl rfl (by kernel_rfl) (.cons (o:=0) (sz:=1) (by kernel_rfl) rfl rfl (Nat.le_of_ble_eq_true rfl) (.cons (o:=1) (sz:=1) (by kernel_rfl) rfl rfl (Nat.le_of_ble_eq_true rfl) (.cons (o:=2) (sz:=1) (by kernel_rfl) rfl rfl (Nat.le_of_ble_eq_true rfl) .nil))))<|ak (ah rfl)<|ak (aO rfl)<|ak (aF rfl w6 (by decide))<|bZ (fun m=>ao rfl Dt ((m.aU 0 rfl).au 42 _ (iE (j:=0))))<| ?_
 refine dF (bQ Tryz.underlying27 fi rfl rfl rfl (by simp[Value.cells,B8]) (by decide) (by decide) (fun g15=>⟨(fun _=>wk [1] [0,1,2,3,4,5,6,7,8,9,10] rfl rfl), ?_⟩))
 have hA_b15:0<2→(some (⟨g15,0,none⟩:Addr))≠none:=fun _ h=>by cases h
 refine dF (Bh 0 rfl rfl Tryz.underlying27 Tryz.underlying5 ⟨(fun _=>wk [1] [0,1,2,3,4,5,6,7,8,9,10] rfl rfl), ?_⟩)
 refine ez (fun w m=>m.bz 0 rfl (show _=aK 5 1 (.slice (some ⟨g15,0,none⟩) 2 2) 2 (aW [122,122])from rfl)) ?_
 refine ez (fun w m=>(m.perm (ar [0] _ [_] _ rfl)).freeze) ?_
 refine ez (fun w m=>m.fA 0 rfl .own) ?_
 refine cd (fun m=>eG (m.rd 0 rfl)) ?_
 rintro⟨hl_b15r,hA_b15r⟩
 obtain⟨tz,htz⟩:∃tz:It,tz=(⟨bL [122,122],bK _⟩,2):=⟨_,rfl⟩
 refine dF (aq rfl Tryz.call56 (kH (by decide) (l:=[122,122])) [] rfl [0] rfl ?_)
 rintro _ _ _ ⟨rfl,rfl,rfl⟩
 refine⟨(fun _=>wk [0] [2,3,4,5,6,7,8,9,10,11,12] rfl rfl), ?_⟩
 have hta:Value.agg (aW (bL [122,122])).toArray= .agg (aW tz.1.b).toArray:=by rw[htz]
 rw[hta]
 refine ak (bU l7 rfl rfl (by kernel_rfl) (Gg (t:=tz) (n:=2) (by rw[htz]) tO sQ))<| ?_
 refine dF (bQ Tryz.underlying80 l7 rfl rfl rfl (by intro v hv;rw[List.mem_singleton.1 hv];show(fz tz).toArray.size=33;rw[List.size_toArray,cf]) (by decide) (by decide) (fun g19=>⟨(fun _=>wk [1] [2,3,4,5,6,7,8,9,10,11,12] rfl rfl), ?_⟩))
 have hA_b19:0<1→(some (⟨g19,0,none⟩:Addr))≠none:=fun _ h=>by cases h
 refine ez (fun w m=>m.bz 0 rfl (show _=aK 100 33 (.slice (some ⟨g19,0,none⟩) 1 1) 1 (jD [tz])from rfl)) ?_
 refine ez (fun w m=>(m.perm (ar [0] _ [_] _ rfl)).freeze) ?_
 refine ez (fun w m=>m.fA 0 rfl .own) ?_
 refine cd (fun m=>fH (m.rd 0 rfl)) ?_
 rintro⟨hl_b19r,hA_b19r⟩
 refine ak (bU HI rfl rfl (by kernel_rfl) (JN (its:=[tz]) rfl Cp Bv))<| ?_
 refine dF (aq rfl Tryz.call42 (Bt hD hok (by show 1≤100000;decide) (u:=(JH 1 1 9 [tz] (some ⟨g19,0,none⟩) 1))) [1,1] rfl [0,14] rfl ?_)
 rintro _ _ _ ⟨A1,k1,c1,rfl,rfl,rfl,hk1⟩
 refine⟨(fun _=>wk [3] [4,5,6,7,8,9,10,11,12,13,14] rfl rfl), ?_⟩
 refine ak (al rfl)<|bq<|aB [2,9,1,0] rfl<|aj (X' :=[_,_,_,_]) (S' :=[_,_,_,_,_,_,_,_,_,_,_,_,_,_,_]) (fun _ m=>m)<|ab<|ae<|ae<|ai<|aw rfl<|hy (fun _=>aY rfl Tryz.underlying78)<|hy (fun _=>cT rfl rfl)<|ag<|aB [28,2,9,1,0] rfl<|ab<| ?_
 have hst:ib (cG y.d (gA ⟨1,1,0⟩) (rs.map aR.l)) [tz]=[(tz.1,3)]:=by
  have e1:tz.1.b=bL [122,122]:=by rw[htz]
  have e2:y.d=kJ (e7 [97,97,98,98] ⟨2,3,3⟩) [0]:=hyd
  have hfr:=xu
  rw[←e2,←uO,←hxts,←hrs,←e1]at hfr
  have hfr2:cG y.d (gA ⟨1,1,0⟩) (rs.map aR.l) tz.1.b=3:=hfr
  show ea _ [tz] (0+1)=_
  rw[kO (t:=tz) rfl,if_neg (by simp),hfr2]
  rfl
 replace hk1:k1=(ib (cG y.d (gA ⟨1,1,0⟩) (rs.map aR.l)) [tz]).length:=hk1
 rw[hst]at hk1
 have hst2:ib (cG y.d (gA ⟨1,1,0⟩) (rs.map aR.l)) (JH 1 1 9 [tz] (some ⟨g19,0,none⟩) 1).its=[(tz.1,3)]:=hst
 rw[hst2]
 replace hk1:k1=1:=hk1
 subst hk1
 refine bk (fun w m=>(m.perm (ar [0] _ [_] _ rfl)).freeze) ?_
 refine bk (fun w m=>m.fA 0 rfl .own) ?_
 refine a6 (fun m=>fH (m.rd 0 rfl)) ?_
 rintro⟨hl_z2r,hA_z2r⟩
 refine cN rfl (rfl) ?_
 refine aC<|ab<|ae<|ai<|aw rfl<|hy (fun _=>cC rfl rfl Tryz.underlying78 lY hA_z2r (show((0:Nat):Int)=0 from rfl) (by omega))<|hy (fun _=>aF rfl xz (by decide))<|hy (fun m=>ao rfl dD (dJ (f:=fz) cf (m.rd 0 rfl) (i:=0) (x:=(tz.1,3)) rfl 32 _ (tP _)))<|hy (fun _=>cx rfl rfl)<|hy (fun _=>yT (ah rfl) (rfl))<|cy (o:=_) rfl rfl rfl (fun _=>ah rfl)<| ?_
 refine HV (o:=_) rfl rfl rfl (aq rfl Tryz.call48 (Er rfl (by decide) (k:=3) (l:=[(tz.1,3)])) [] rfl [0] rfl ?_)
 rintro _ _ _ ⟨rfl,rfl,rfl⟩
 refine cy (o:=_) rfl rfl rfl (fun _=>cx rfl rfl)<|hy (fun _=>bC rfl rfl)<|aw rfl<|cy (o:=_) rfl rfl rfl (fun _=>ah rfl)<| ?_
 refine HV (o:=_) rfl rfl rfl (aq rfl Tryz.call46 (Ee rfl (by decide) (l:=[(tz.1,3)])) [] rfl [0] rfl ?_)
 rintro _ _ _ ⟨A12,k12,c12,rfl,rfl,rfl,hk2⟩
 replace hk2:k12=1:=hk2
 subst hk2
 refine cy (o:=_) rfl rfl rfl (fun _=>aY rfl Tryz.underlying33)<|cy (o:=_) rfl rfl rfl (fun _=>cx rfl rfl)<|hy (fun _=>bC rfl rfl)<|aG rfl<|ag<|aB [0,28,2,9,1] rfl<|aj (X' :=[_,_,_,_]) (S' :=[_,_,_,_,_,_,_,_,_,_,_,_,_,_,_,_,_]) (fun _ m=>m)<|ab<|aV<| ?_
 exact bc trivial rfl rfl [] rfl [] rfl ⟨rfl,rfl,rfl⟩
end Go.Proofs.YtmibdabdlgmafaaGreatDoor
end
section
set_option maxRecDepth 20000
set_option maxHeartbeats 4000000
namespace Go.Proofs.YtmibdabdlgmafaaGreatDoor
open Go.Eng Go.Hx
theorem Bd.Kx{d:RD}{B W:Nat}(h:Bd d B W):∀x∈d.seen,x.1.length≤1000000:=fun f hf=>Nat.le_trans (h.nS f hf) (by decide)
end Go.Proofs.YtmibdabdlgmafaaGreatDoor
end
section
set_option maxRecDepth 20000
set_option maxHeartbeats 4000000
namespace Go.Proofs.YtmibdabdlgmafaaGreatDoor
open Go.Eng Go.Hx
theorem DS.KE{st:da}{d:RD}{k:Nat}(h:DS st d k)(p:List UInt8):(d.cS p).length≤10000000:=by
 have:=h.wi p
 omega
end Go.Proofs.YtmibdabdlgmafaaGreatDoor
end
section
set_option maxRecDepth 20000
set_option maxHeartbeats 4000000
namespace Go.Proofs.YtmibdabdlgmafaaGreatDoor
open Go.Eng Go.Hx
theorem yZ(img:List UInt8):(ji img).length≤60:=by
 unfold ji
 rw[List.length_take]
 omega
theorem zD(l:List UInt8)(q:Pn):(cw l q).length≤l.length:=by
 rw[cw,List.length_map]
 exact lr l q
theorem Iy{α:Type}{xs:List α}{a c d:Nat}(h:xs.length=a+c+d):xs=(xs.drop 0).take a++(xs.drop a).take c++(xs.drop (a+c)).take d:=by
 rw[List.drop_zero,←List.take_add,←List.take_add,List.take_of_length_le (by omega)]
theorem Jy{xs:List Cell}(h:Ty Tryz.prog 75 xs):∃p:Pm,xs.map Cell.val=p.cs∧(-9223372036854775808≤p.mn∧p.mn≤9223372036854775807)∧(-9223372036854775808≤p.av∧p.av≤9223372036854775807)∧(-9223372036854775808≤p.mx∧p.mx≤9223372036854775807):=by
 obtain⟨hl,hf⟩:=zb Tryz.underlying75 h
 have hl3:xs.length=1+1+1:=hl.trans (by kernel_rfl)
 obtain⟨a,e0,ha⟩:=tA Tryz.underlying3 (hf 0 _ rfl)
 obtain⟨z,e1,hz⟩:=tA Tryz.underlying3 (hf 1 _ rfl)
 obtain⟨c,e2,hc⟩:=tA Tryz.underlying3 (hf 2 _ rfl)
 refine⟨⟨a,z,c⟩, ?_,ha,hz,hc⟩
 have d0:(xs.drop 0).take 1=[.v (.int .i64 a)]:=e0
 have d1:(xs.drop 1).take 1=[.v (.int .i64 z)]:=e1
 have d2:(xs.drop (1+1)).take 1=[.v (.int .i64 c)]:=e2
 rw[Iy hl3,List.map_append,List.map_append,d0,d1,d2]
 rfl
end Go.Proofs.YtmibdabdlgmafaaGreatDoor
end
section
namespace Go.Proofs.YtmibdabdlgmafaaGreatDoor
open Go.Eng Go.Hx
theorem Bd.Cn{cs:List (List UInt8)}:∀(zl:List Int) {d:RD} {B W:Nat},Bd d B W→Bd (rK cs zl d) (B+4*zl.length) (W+4*zl.length)
 | [],d,B,W,h=>h.le (Nat.le_add_right _ _) (Nat.le_add_right _ _)
 |z::r,d,B,W,h=>(Bd.Cn r (h.put (cs.getD (dr z cs.length).toNat []))).le (by simp;omega) (by simp;omega)
theorem ER(cs:List (List UInt8))(zl:List Int):Bd (kJ cs zl) 20 20:=by
 unfold kJ
 split
 ·exact(Bd.new 20000).le (by decide) (by decide)
 ·exact(Bd.Cn (zl.take 5) (Bd.new 20000)).le (by simp;omega) (by simp;omega)
theorem Bd.fill{q:Pn}{ts:List (List UInt8)}:∀(l:List It) {d:RD} {B W:Nat} (n:Int),Bd d B W→Bd (ec q ts d l n).1 (B+4*l.length) (W+4*l.length)
 | [],d,B,W,n,h=>by
  rw[ec]
  exact h.le (Nat.le_add_right _ _) (Nat.le_add_right _ _)
 |t::r,d,B,W,n,h=>by
  rw[ec]
  split
  ·split
   ·next b _=>
    split
    ·exact(h.put b).le (by simp;omega) (by simp;omega)
    ·exact(Bd.fill r (n+1) (h.put b)).le (by simp;omega) (by simp;omega)
   ·exact(Bd.fill r n h).le (by simp;omega) (by simp;omega)
  ·exact(Bd.fill r n h).le (by simp;omega) (by simp;omega)
end Go.Proofs.YtmibdabdlgmafaaGreatDoor
end
section
set_option maxRecDepth 20000
set_option maxHeartbeats 4000000
namespace Go.Proofs.YtmibdabdlgmafaaGreatDoor
open Go.Eng Go.Hx
theorem xg{I:Option Addr}{ni ci:Nat}{img:List UInt8}{p:Pm}{L:Option Addr}{np cp:Nat}{zl:List Int}{fr:Int}{pw:Int}(hic:ni≤ci)(hin:ni≤140737488351232)(h1:-9223372036854775808≤p.mn∧p.mn≤9223372036854775807)(h2:-9223372036854775808≤p.av∧p.av≤9223372036854775807)(h3:-9223372036854775808≤p.mx∧p.mx≤9223372036854775807)(hzl:yP zl)(hfr:-9223372036854775808≤fr∧fr≤9223372036854775807)(hpw:-9223372036854775808≤pw∧pw≤9223372036854775807):b7 Tryz.prog 9 [.slice I ni ci,.agg p.cs.toArray,.slice L np cp,.int .i64 fr,.int .i64 pw] [] [cL 1 I ni (aW img),cL 1 L np (ints zl),dZ] (fun v_ X_ S_=>v_=(.bool true)∧X_=[]∧S_=[]):=by
 obtain⟨q,hqe⟩:∃q,q=gA p:=⟨_,rfl⟩
 have hq:q.ok:=by rw[hqe];exact(vF p).1
 obtain⟨own,hown⟩:∃own,own=ji img:=⟨_,rfl⟩
 have hol:own.length≤60:=by rw[hown];exact yZ img
 obtain⟨its,hits⟩:∃its,its=cw own q:=⟨_,rfl⟩
 have hil:its.length≤60:=by rw[hits];exact Nat.le_trans (zD own q) hol
 refine aM (N:=150) Tryz.func9 rfl rfl (by simp) fun b=> ?_
 refine a6 (fun m=>eG (m.rd 0 rfl)) ?_
 rintro⟨hl_ri,hA_ri⟩
 refine a6 (fun m=>fH (m.rd 1 rfl)) ?_
 rintro⟨hl_rl,hA_rl⟩
 refine bk (fun w m=>m.rm (r' :=cL 1 none 0 []) (.refl _ _) (Rd.nil _ _ _) (fun k hk=>absurd rfl hk.1)) ?_
 have hA_z1:0<0→(none:Option Addr)≠none:=fun h=>absurd h (by decide)
 refine ae<|ai<| ?_
 refine hx (bu rfl (fun g6=> ?_))
 refine aJ (fun w m=>m.bz 0 rfl (show _=aH g6 75 p.cs from congrArg (aH _ _) (aT _))) ?_
 refine aG rfl<|ag<|aj (X' :=[_]) (S' :=[_,_,_,_]) (fun _ m=>m)<|ab<|ae<|ai<|aw rfl<|hy (fun m=>yV (aQ rfl gC gg rfl ((m.aU 0 rfl).au)) ((rfl:_=Value.agg p.cs.toArray)))<|aw rfl<|aw rfl<| ?_
 refine hx (aq rfl Tryz.call41 (vC hic hin h1 h2 h3 hzl hfr (Nat.le_refl 0) (by decide) (ot:=[]) (p:=p)) [] rfl [1,2,0,3] rfl ?_)
 rintro _ _ _ ⟨gw,gd,st,y,gs,gm,A,c,rs,l,A2,c2,T,trs,AO,cO,rfl,rfl,rfl,hbg⟩
 refine az (fun m=>fH (m.rd 1 rfl)) ?_
 rintro⟨hl_z,hA_z⟩
 refine az (fun m=>fH (m.rd 2 rfl)) ?_
 rintro⟨hl_tr,hA_tr⟩
 refine az (fun m=>eG (m.rd 4 rfl)) ?_
 rintro⟨hl_xo,hA_xo⟩
 refine aG rfl<|ag<|aB [11,10,6,0,1,2,3,4] rfl<|aj (X' :=[_,_,_,_]) (S' :=[_,_,_,_,_,_,_,_,_]) (fun _ m=>m)<|ab<|ae<|ae<|ai<|aw rfl<| ?_
 rw[←hqe,←hown]
 obtain⟨hyd,hD,hok,hrs,hxts,htl,htr,hcO⟩:=hbg
 rw[←hqe]at hok
 refine hy (fun _=>tn rfl rfl (by kernel_rfl))<|ag<|aB [26,11,10,6,0,1,2,3,4] rfl<|ab<| ?_
 refine cN rfl (rfl) ?_
 refine aC<|ab<|ae<|py [0,2] [0,1,2,3,4,5,6,7,8] rfl rfl [5,10] [(0,some 1),(1,some 1),(2,some 1),(3,some 1),(4,some 0),(6,some 1),(7,some 1),(8,some 1),(9,some 1),(5,none),(10,none),(11,some 2)] (by kernel_rfl) (by kernel_rfl) rfl 99<|ak (ah rfl)<|ak (aO rfl)<|ak (aF rfl my (by decide))<|bZ (fun m=>ao rfl og (aA (m.aU 0 rfl) (i:=0) rfl))<|ak (ah rfl)<|ak (ah rfl)<|ak (aO rfl)<|ak (aF rfl w6 (by decide))<|bZ (fun m=>ao rfl Dt ((m.aU 0 rfl).au 42 _ (iE (j:=0))))<| ?_
 refine dF (aq rfl Tryz.call43 (IP (u:=(sd own q A2 c2))) [0] rfl [] rfl ?_)
 rintro _ _ _ ⟨rfl,rfl,rfl⟩
 refine⟨(fun _=>wk [0,2] [0,1,2,3,4,5,6,7,8] rfl rfl), ?_⟩
 refine dF (aq rfl Tryz.call42 (Bt hD hok (by show(cw own q).length≤100000;rw[←hits];omega) (u:=(sd own q A2 c2))) [1,1] rfl [1,8] rfl ?_)
 rintro _ _ _ ⟨A1,k1,c1,rfl,rfl,rfl,hk1⟩
 refine⟨(fun _=>wk [3,3] [0,1,2,3,4,5,6,7,8] rfl rfl), ?_⟩
 refine ak (al rfl)<|bq<|aB [12,26,11,10,6,0,1,2,3,4] rfl<|aj (X' :=[_,_,_,_,_]) (S' :=[_,_,_,_,_,_,_,_,_]) (fun _ m=>m)<|ab<|ae<|cD [17] [(0,some 0),(1,some 0),(2,some 0),(3,some 0),(4,some 0),(5,some 0),(6,some 0),(7,some 0),(8,some 0),(9,some 0),(10,some 0),(11,some 0),(12,some 1),(13,some 0),(14,some 0),(15,some 0),(16,some 0),(17,none),(18,some 1)] (by kernel_rfl) (by kernel_rfl) rfl 99<| ?_
 obtain⟨sl,hsl⟩:∃sl,sl=ib (cG y.d q (rs.map aR.l)) its:=⟨_,rfl⟩
 have hsl1:ib (cG y.d q (rs.map aR.l)) (sd own q A2 c2).its=sl:=by rw[hsl,hits];rfl
 have hsl2:ib (cG y.d q (trs.map aR.l)) (sd own q A2 c2).its=sl:=by rw[←hrs];exact hsl1
 have hsll:sl.length≤60:=by rw[hsl];exact Nat.le_trans (ky _) hil
 have hsb:∀t∈sl,1≤t.2∧t.2≤3:=by rw[hsl];exact fun t ht=>nH (fun nm=>EJ _ _ _ nm) _ t ht
 rw[hsl1]at hk1 ⊢
 subst hk1
 refine ak (ah rfl)<|ak (aO rfl)<|ak (aF rfl ki (by decide))<|bZ (fun m=>yV (aQ rfl cF bP rfl (vY (m.aU 3 rfl))) ((rfl:_=Value.agg y.cs.toArray)))<|ak (ah rfl)<|ak (aO rfl)<|ak (aF rfl oK (by decide))<|bZ (fun m=>aQ rfl Ih FR (IX.gG _) (rQ (m.aU 3 rfl)))<|ak (ah rfl)<|ak (aO rfl)<|ak (aF rfl qA (by decide))<|bZ (fun m=>ao rfl wW ((m.aU 3 rfl).au 43 _ (iE (j:=1))))<|ak (ah rfl)<|ak (aO rfl)<|ak (aF rfl oK (by decide))<|ak (aF rfl wg (by decide))<|bZ (fun m=>yV (aQ rfl gC gg rfl (fun j v hv=>rQ (m.aU 3 rfl) j v (BK (u:=sd own q A2 c2) hv))) ((rfl:_=Value.agg q.p.cs.toArray)))<| ?_
 refine dF (aq rfl Tryz.call44 (Ap hD.C2 (by omega) hD.KE hq htl (fun r hr=>⟨(htr r hr).1,(htr r hr).2.1,by have:=(htr r hr).2.2;omega⟩) (by decide) (by show(cw own q).length≤100000;rw[←hits];omega) (q:=q) (u:=(sd own q A2 c2))) [] rfl [0,1,2,3,8] rfl ?_)
 rintro _ _ _ ⟨A12,k,c12,rfl,rfl,rfl,hk2⟩
 refine⟨(fun _=>wk [1,1,1,1,1] [0,1,2,3,4,5,6,7,8] rfl rfl), ?_⟩
 refine ak (al rfl)<|bq<|aB [13,12,26,11,10,6,0,1,2,3,4] rfl<|aj (X' :=[_,_,_,_,_,_]) (S' :=[_,_,_,_,_,_,_,_,_]) (fun _ m=>m)<|ab<|ae<|ae<|ai<| ?_
 rw[hsl2]at hk2 ⊢
 subst hk2
 refine aJ (fun w m=>(m.perm (ar [1] _ [_] _ rfl)).freeze) ?_
 refine aJ (fun w m=>m.fA 0 rfl .own) ?_
 refine az (fun m=>fH (m.rd 0 rfl)) ?_
 rintro⟨hl_z2r,hA_z2r⟩
 refine aJ (fun w m=>(m.perm (ar [0] _ [_] _ rfl)).freeze) ?_
 refine aJ (fun w m=>m.fA 0 rfl .own) ?_
 refine az (fun m=>fH (m.rd 0 rfl)) ?_
 rintro⟨hl_or,hA_or⟩
 refine aw rfl<|aw rfl<| ?_
 refine hx (aq rfl Tryz.call45 (E4 rfl (by omega) hsb (l:=sl)) [] rfl [2,0] rfl ?_)
 rintro _ _ _ ⟨rfl,rfl,rfl⟩
 refine hy (fun _=>(iK rfl))<|ag<|aB [59,13,12,26,11,10,6,0,1,2,3,4] rfl<|aj (X' :=[_,_,_,_]) (S' :=[_,_,_,_,_,_,_,_,_,_,_,_,_]) (fun _ m=>m)<|ab<| ?_
 refine cN rfl (rfl) ?_
 have hB0:Bd y.d 20 20:=by rw[hyd];exact ER _ _
 have har:=ef pw 14 (by decide)
 refine aC<|ab<|ae<|ai<|aw rfl<| ?_
 refine hx (aq rfl Tryz.call16 (lq hpw.1 hpw.2 (by decide) (n:=pw) (m:=14)) [] rfl [] rfl ?_)
 rintro _ _ _ ⟨rfl,rfl,rfl⟩
 refine hy (fun _=>cn rfl rfl (bA (by omega) (by omega)))<|aG rfl<|ag<|aB [14,59,13,12,26,11,10,6,0,1,2,3,4] rfl<|aj (X' :=[_,_,_,_]) (S' :=[_,_,_,_,_,_,_,_,_,_,_,_,_]) (fun _ m=>m)<|ab<|ae<|ai<|aw rfl<|hy (fun _=>aO rfl)<|hy (fun _=>aF rfl my (by decide))<|hy (fun m=>ao rfl og (aA (m.aU 2 rfl) (i:=0) rfl))<|aw rfl<| ?_
 refine hx (aq rfl Tryz.call57 (Ez hD (show dr pw 14-1≤1000000000000 by omega)) [0] rfl [] rfl ?_)
 rintro _ _ _ ⟨st1,rfl,rfl,rfl,hE1⟩
 refine ag<|aB [14,59,13,12,26,11,10,6,0,1,2,3,4] rfl<|aj (X' :=[_,_,_,_]) (S' :=[_,_,_,_,_,_,_,_,_,_,_,_,_]) (fun _ m=>m)<|ab<|ae<|ai<|aw rfl<|aw rfl<|hy (fun _=>aO rfl)<|hy (fun _=>aF rfl ki (by decide))<|hy (fun m=>yV (aQ rfl cF bP rfl (vY (m.aU 2 rfl))) ((rfl:_=Value.agg y.cs.toArray)))<|aw rfl<| ?_
 refine hx (aq rfl Tryz.call58 (Eh) [] rfl [4] rfl ?_)
 rintro _ _ _ ⟨y2,rfl,rfl,rfl,hyw⟩
 refine hy (fun _=>aO rfl)<|hy (fun _=>aF rfl ki (by decide))<| ?_
 refine cI (p9 2 rfl rfl rfl bP rfl cH (by rw[qb];decide) ?_)
 refine ag<|aB [14,59,13,12,26,11,10,6,0,1,2,3,4] rfl<|aj (X' :=[_,_,_,_]) (S' :=[_,_,_,_,_,_,_,_,_,_,_,_,_,_]) (fun _ m=>m)<|ab<|ae<| ?_
 refine bk (fun w m=>m.bz 0 rfl (show _=aH gw 86 (p7 gd y2 (sd own q A2 c2) gs (.slice T 2 2) (.slice AO own.length cO))from congrArg (aH _ _) qB)) ?_
 rw[←hyw]at hE1
 have hB1:Bd y2.d 20 20:=by rw[hyw];exact hB0.ck
 refine BJ (fun(y3:RX) (g15:Nat)=>[(15,.pointer (some ⟨g15,0,none⟩)),(16,.int .i64 (ec q (trs.map aR.l) y2.d sl 0).2.1),(17,.int .i64 (ec q (trs.map aR.l) y2.d sl 0).2.2)]) (fun(y3:RX) (g15:Nat)=>[aH g15 39 y3.cs]) (fun(y3:RX) (g15:Nat)=>[eL y3]) (fun(y3:RX) (g15:Nat)=>y3.d=(ec q (trs.map aR.l) y2.d sl 0).1) [(14,_),(59,_),(13,_),(12,_),(26,_),(11,_),(10,_),(6,_),(0,_),(1,_),(2,_),(3,_),(4,_)] ⟨rfl,rfl,rfl,rfl,rfl,rfl,rfl,rfl,rfl,rfl,rfl,rfl,rfl,trivial⟩ [] rfl ?_ (fun y3 g15 hyf=> ?_)
 ·refine F4 [0,0,0,0] [0,1,2,3,4,5,6,7,8,9,10,11,12,13] rfl rfl [14,19,20] (.take 0 2<|.take 1 2<|.take 2 2<|.take 3 2<|.take 4 2<|.take 5 2<|.take 6 2<|.take 7 2<|.take 8 2<|.take 9 2<|.take 10 2<|.take 11 2<|.take 12 2<|.take 13 2<|.alt 14 (.take 15 2<|.take 16 2<|.take 17 3<|.take 18 3<|.alt 19 (.alt 20 (.take 21 3<|.take 22 3<|.done) (.stop)) (.stop)) (.alt 19 (.alt 14 (.take 15 2<|.take 16 2<|.take 17 3<|.take 18 3<|.alt 20 (.take 21 3<|.take 22 3<|.done) (.stop)) (.stop)) (.stop))) (by kernel_rfl) (by kernel_rfl) rfl 2<|fW (ah rfl)<|fW (aO rfl)<|fW (aF rfl ki (by decide))<|J3 (fun m=>yV (aQ rfl cF bP rfl (vY (m.aU 0 rfl))) ((rfl:_=Value.agg y2.cs.toArray)))<|fW (ah rfl)<|fW (ah rfl)<|fW (aO rfl)<|fW (aF rfl qA (by decide))<|J3 (fun m=>ao rfl wW ((m.aU 0 rfl).au 43 _ (iE (j:=1))))<|fW (ah rfl)<|fW (aO rfl)<|fW (aF rfl oK (by decide))<|fW (aF rfl wg (by decide))<|J3 (fun m=>yV (aQ rfl gC gg rfl (fun j v hv=>rQ (m.aU 0 rfl) j v (BK (u:=sd own q A2 c2) hv))) ((rfl:_=Value.agg q.p.cs.toArray)))<| ?_
  refine qq ?_ ?_
  ·refine xA (aq rfl Tryz.call59 (uA (⟨_,hE1⟩) (by omega) hq rfl htl htr (by decide) (q:=q) (l:=sl)) [] rfl [0,1,7,8,13] rfl ?_)
   rintro _ _ _ ⟨y3,rfl,rfl,rfl,hyf⟩
   refine⟨(fun _=>wk [0,0,0,0] [1,2,3,4,5,6,7,8,9,10,11,12,13,14] rfl rfl), ?_⟩
   refine fW (ah rfl)<|fW (aD rfl rfl)<|fW (aD rfl rfl)<|fW (aD rfl rfl)<| ?_
   refine xA (bf ou (fun g15=>⟨(fun _=>wk [1,1,1,1] [1,2,3,4,5,6,7,8,9,10,11,12,13,14] rfl rfl), ?_⟩))
   refine mX (ba 0 rfl rfl rfl bP rfl cH rfl ⟨(fun h=>absurd h (by decide)), ?_⟩)
   refine fW (al rfl)<|fW (al rfl)<|pk<|aB [17,16,15,14,59,13,12,26,11,10,6,0,1,2,3,4] rfl<|aj (X' :=[_,_,_,_,_]) (S' :=[_,_,_,_,_,_,_,_,_,_,_,_,_,_,_]) (fun _ m=>m)<| ?_
   exact mT (R:=fun(y3:RX) (g15:Nat)=>[(15,.pointer (some ⟨g15,0,none⟩)),(16,.int .i64 (ec q (trs.map aR.l) y2.d sl 0).2.1),(17,.int .i64 (ec q (trs.map aR.l) y2.d sl 0).2.2)]) (X1:=fun(y3:RX) (g15:Nat)=>[aH g15 39 y3.cs]) (S1:=fun(y3:RX) (g15:Nat)=>[eL y3]) (I:=fun(y3:RX) (g15:Nat)=>y3.d=(ec q (trs.map aR.l) y2.d sl 0).1) y3 g15 ⟨rfl,rfl,rfl,rfl,rfl,rfl,rfl,rfl,rfl,rfl,rfl,rfl,rfl,rfl,rfl,rfl,trivial⟩ [0,0,0,0,0] rfl [0,1,2,3,4,5,6,7,8,9,10,11,12,13,14] rfl hyf
  ·refine xA (bf ou (fun g15=>⟨(fun _=>wk [1,1,1,1] [0,1,2,3,4,5,6,7,8,9,10,11,12,13] rfl rfl), ?_⟩))
   refine xA (aq rfl Tryz.call59 (uA (⟨_,hE1⟩) (by omega) hq rfl htl htr (by decide) (q:=q) (l:=sl)) [] rfl [0,1,7,8,13] rfl ?_)
   rintro _ _ _ ⟨y3,rfl,rfl,rfl,hyf⟩
   refine⟨(fun _=>wk [1,1,1,1] [1,2,3,4,5,6,7,8,9,10,11,12,13,14] rfl rfl), ?_⟩
   refine fW (ah rfl)<|fW (aD rfl rfl)<|fW (aD rfl rfl)<|fW (aD rfl rfl)<| ?_
   refine mX (ba 0 rfl rfl rfl bP rfl cH rfl ⟨(fun h=>absurd h (by decide)), ?_⟩)
   refine fW (al rfl)<|fW (al rfl)<|pk<|aB [17,16,15,14,59,13,12,26,11,10,6,0,1,2,3,4] rfl<|aj (X' :=[_,_,_,_,_]) (S' :=[_,_,_,_,_,_,_,_,_,_,_,_,_,_,_]) (fun _ m=>m)<| ?_
   exact mT (R:=fun(y3:RX) (g15:Nat)=>[(15,.pointer (some ⟨g15,0,none⟩)),(16,.int .i64 (ec q (trs.map aR.l) y2.d sl 0).2.1),(17,.int .i64 (ec q (trs.map aR.l) y2.d sl 0).2.2)]) (X1:=fun(y3:RX) (g15:Nat)=>[aH g15 39 y3.cs]) (S1:=fun(y3:RX) (g15:Nat)=>[eL y3]) (I:=fun(y3:RX) (g15:Nat)=>y3.d=(ec q (trs.map aR.l) y2.d sl 0).1) y3 g15 ⟨rfl,rfl,rfl,rfl,rfl,rfl,rfl,rfl,rfl,rfl,rfl,rfl,rfl,rfl,rfl,rfl,trivial⟩ [0,0,0,0,0] rfl [0,1,2,3,4,5,6,7,8,9,10,11,12,13,14] rfl hyf
 ·have hB3:Bd y3.d 260 260:=by rw[hyf];exact(Bd.fill sl 0 hB1).le (by omega) (by omega)
  refine ab<|ae<|ai<|aw rfl<|hy (fun m=>yV (aQ rfl cF bP rfl ((m.aU 0 rfl).au)) ((rfl:_=Value.agg y3.cs.toArray)))<|hy (fun _=>aO rfl)<|hy (fun _=>aF rfl ki (by decide))<| ?_
  refine cI (p9 1 rfl rfl rfl bP rfl cH (by rw[qb];decide) ?_)
  refine ag<|aB [15,16,17,14,59,13,12,26,11,10,6,0,1,2,3,4] rfl<|aj (X' :=[_,_,_,_,_]) (S' :=[_,_,_,_,_,_,_,_,_,_,_,_,_,_,_]) (fun _ m=>m)<|ab<|ae<| ?_
  refine bk (fun w m=>m.bz 0 rfl (show _=aH gw 86 (p7 gd y3 (sd own q A2 c2) gs (.slice T 2 2) (.slice AO own.length cO))from congrArg (aH _ _) qB)) ?_
  refine py [0,0,2] [0,1,2,3,4,5,6,7,8,9,10,11,12,13,14] rfl rfl [9] [(0,some 0),(1,some 0),(2,some 0),(3,some 0),(4,some 0),(5,some 0),(6,some 0),(7,some 0),(8,some 0),(9,none),(10,some 1),(11,some 1),(12,some 1),(13,some 1),(14,some 1)] (by kernel_rfl) (by kernel_rfl) rfl 99<|ak (ah rfl)<|ak (aO rfl)<|ak (aF rfl my (by decide))<|bZ (fun m=>ao rfl og (aA (m.aU 0 rfl) (i:=0) rfl))<|ak (ah rfl)<|ak (ah rfl)<|ak (aO rfl)<|ak (aF rfl w6 (by decide))<|bZ (fun m=>ao rfl Dt ((m.aU 0 rfl).au 42 _ (iE (j:=0))))<| ?_
  refine dF (aq rfl Tryz.call55 (Hi hq hE1 (by omega) hok rfl (by omega) (sl:=sl)) [2,2] rfl [4,14] rfl ?_)
  rintro _ _ _ ⟨st12,rfl,rfl,rfl,hE2⟩
  refine⟨(fun _=>wk [2,2,2] [0,1,2,3,4,5,6,7,8,9,10,11,12,13,14] rfl rfl), ?_⟩
  rw[hrs]at hE2 ⊢
  rw[←hyf]at hE2
  replace hE2:DS st12 y3.d (20+4*sl.length):=hE2
  have hls:=xk (d:=y3.d) hE2.pJ.files.ord
  have hld:xh (gj y3.d):=wU y3.d
  have hle:(gj y3.d).length≤300:=Nat.le_trans (xm y3.d) (Nat.le_trans hE2.C2.seen (by omega))
  have hwt:st12.waits.length=y3.d.waits.length:=hE2.pJ.waits
  refine ak (ah rfl)<|ak (aD rfl rfl)<|ak (aD rfl rfl)<|ak (al rfl)<|ak (al rfl)<|bq<|aB [19,18,15,16,17,14,59,13,12,26,11,10,6,0,1,2,3,4] rfl<|aj (X' :=[_,_,_,_,_]) (S' :=[_,_,_,_,_,_,_,_,_,_,_,_,_,_,_]) (fun _ m=>m)<|ab<|ae<|ae<|ai<|aw rfl<|aw rfl<|hy (fun _=>yF (cT rfl rfl) ((decide_eq_false (not_not_intro rfl))))<|aw rfl<|cy (o:=_) rfl rfl rfl (fun _=>ah rfl)<|cy (o:=_) rfl rfl rfl (fun _=>ah rfl)<|cy (o:=_) rfl rfl rfl (fun _=>cT rfl rfl)<|hy (fun _=>bo rfl rfl)<|ag<|aB [121,19,18,15,16,17,14,59,13,12,26,11,10,6,0,1,2,3,4] rfl<|ab<| ?_
  refine cN rfl ((decide_eq_false (not_not_intro rfl))) ?_
  refine aC<|ab<|ae<|py [1,1,1,1] [0,1,2,3,4,5,6,7,8,9,10,11,12,13,14] rfl rfl [4,9,10,16,26] [(0,some 5),(1,some 5),(2,some 5),(3,some 5),(5,some 5),(6,some 5),(7,some 5),(8,some 5),(4,none),(9,none),(10,none),(11,some 3),(12,some 5),(13,some 5),(14,some 3),(15,some 3),(17,some 5),(18,some 5),(19,some 5),(20,some 5),(21,some 5),(22,some 4),(16,none),(23,some 4),(24,some 4),(25,some 4),(26,none),(27,some 5),(28,some 5)] (by kernel_rfl) (by kernel_rfl) rfl 99<|ak (ah rfl)<|ak (aO rfl)<|ak (aF rfl my (by decide))<|bZ (fun m=>ao rfl og (aA (m.aU 1 rfl) (i:=0) rfl))<|ak (ah rfl)<|ak (aO rfl)<|ak (aF rfl ki (by decide))<|bZ (fun m=>yV (aQ rfl cF bP rfl (vY (m.aU 1 rfl))) ((rfl:_=Value.agg y3.cs.toArray)))<| ?_
  refine dF (aq rfl Tryz.call20 (G9 hE2 (by omega) hB3.Kx) [0] rfl [] rfl ?_)
  rintro _ _ _ ⟨v,k2,rfl,rfl,rfl,hk5⟩
  refine⟨(fun _=>wk [2,2,2,2] [0,1,2,3,4,5,6,7,8,9,10,11,12,13,14] rfl rfl), ?_⟩
  refine cd (fun m=>(m.own 1 rfl).slice) ?_
  rintro⟨A_o2,c_o2,rfl,hc_o2⟩
  refine cd (fun m=>(m.ord 1 rfl).2.1) fun hA_o2=> ?_
  refine dF (aq rfl Tryz.call21 (AR hE2.C2 (by omega) hB3.Kx) [] rfl [0] rfl ?_)
  rintro _ _ _ ⟨A13,k3,c13,rfl,rfl,rfl,hk6⟩
  refine⟨(fun _=>wk [3,3,3,3] [0,1,2,3,4,5,6,7,8,9,10,11,12,13,14] rfl rfl), ?_⟩
  rw[hls]at hk6
  subst hk5 hk6
  rw[hls]
  refine dF (c6 rfl Tryz.call19 (wT hld (by omega)) [] rfl (.x 2 rfl .own (.x 0 rfl .own .nil)) ?_)
  rintro _ _ _ ⟨rfl,rfl,rfl⟩
  refine⟨rfl, ?_⟩
  refine⟨(fun _=>wk [3,3,3,3] [0,1,2,3,4,5,6,7,8,9,10,11,12,13,14] rfl rfl), ?_⟩
  refine ak (ah rfl)<|bB (o:=_) rfl rfl rfl (ah rfl)<|bB (o:=_) rfl rfl rfl (aO rfl)<|bB (o:=_) rfl rfl rfl (aF rfl my (by decide))<|iW (o:=_) rfl rfl rfl (fun m=>ao rfl og (aA (m.aU 1 rfl) (i:=0) rfl))<|bB (o:=_) rfl rfl rfl (ah rfl)<|bB (o:=_) rfl rfl rfl (aO rfl)<|bB (o:=_) rfl rfl rfl (aF rfl ki (by decide))<|bB (o:=_) rfl rfl rfl (aF rfl s3 (by decide))<|iW (o:=_) rfl rfl rfl (fun m=>ao rfl Ib (aA (m.aU 1 rfl) (i:=4) rfl))<|bB (o:=_) rfl rfl rfl (aY rfl Tryz.underlying37)<| ?_
  refine El (o:=_) rfl rfl rfl (aq rfl Tryz.call60 (FZ) [1] rfl [] rfl ?_)
  rintro _ _ _ ⟨rfl,rfl,rfl⟩
  refine⟨(fun _=>wk [3,3,3,3] [0,1,2,3,4,5,6,7,8,9,10,11,12,13,14] rfl rfl), ?_⟩
  refine bB (o:=_) rfl rfl rfl (yT (cx rfl rfl) ((decide_eq_true (by omega))))<|ak (bC rfl rfl)<|ak (ah rfl)<| ?_
  refine El (o:=_) rfl rfl rfl (aq rfl Tryz.call49 (C0) [] rfl [14] rfl ?_)
  rintro _ _ _ ⟨rfl,rfl,rfl⟩
  refine⟨(fun _=>wk [3,3,3,3] [0,1,2,3,4,5,6,7,8,9,10,11,12,13,14] rfl rfl), ?_⟩
  refine ak (bC rfl rfl)<|ak (al rfl)<|bq<|aB [10,121,19,18,15,16,17,14,59,13,12,26,11,6,0,1,2,3,4] rfl<|aj (X' :=[_,_,_,_,_,_,_]) (S' :=[_,_,_,_,_,_,_,_,_,_,_,_,_,_,_]) (fun _ m=>m)<|ab<|aV<| ?_
  exact bc trivial rfl rfl [] rfl [] rfl ⟨rfl,rfl,rfl⟩
theorem lE(I:Option Addr)(ni ci:Nat)(img:List UInt8)(xs:List Cell)(L:Option Addr)(np cp:Nat)(ys:List Cell)(fr:Int)(pw:Int)(W:World)(h1:Rd W 1 I ni (aW img))(hc1:ni≤ci)(hn1:ni≤140737488351232)(_:im W xs)(hT:Ty Tryz.prog 75 xs)(h3:(yM (.s 1 L np cp ys)).holds W)(hT3:Ty Tryz.prog 44 [.s 1 L np cp ys])(hfr:-9223372036854775808≤fr∧fr≤9223372036854775807)(hpw:-9223372036854775808≤pw∧pw≤9223372036854775807)(hro:dZ.holds W):
  Calls Tryz.prog 9 #[.slice I ni ci,.agg (xs.map Cell.val).toArray,.slice L np cp,.int .i64 fr,.int .i64 pw] W fun e w' =>e= .returned (.bool true)∧Fr No W w' :=by
 obtain⟨p,e,p1,p2,p3⟩:=Jy hT
 rw[e]
 obtain⟨_,_,_,_,l3,e3,hv3,hz3⟩:=EG hT3
 cases e3
 have r3:=(View.rowOf (n:=np) (c:=cp) (A:=L) hv3).ok.1 W h3
 exact rX (xg hc1 hn1 p1 p2 p3 hz3 hfr hpw) (by
  intro s hs
  simp only[List.mem_cons,List.not_mem_nil,or_false]at hs
  rcases hs with rfl|rfl|rfl
  ·exact h1
  ·exact r3
  ·exact hro)
end Go.Proofs.YtmibdabdlgmafaaGreatDoor
end
