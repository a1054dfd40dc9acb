/- Part. -/
import Derived.Test.YtmibdabdlgmafaaGreatDoorSWA5
set_option linter.all false
section
set_option maxRecDepth 20000
set_option maxHeartbeats 4000000
namespace Go.Proofs.YtmibdabdlgmafaaGreatDoor
open Go.Eng Go.Hx
theorem sr{acc:List (List UInt8)}{p:List UInt8}(h:db acc):db (rA acc p):=by
 unfold rA
 split
 ·exact j8 _ _ h
 ·exact h
theorem mj:∀(l acc:List (List UInt8)),db acc→db (l.foldl rA acc)
 | [],acc,h=>h
 |p::r,acc,h=>mj r _ (sr h)
theorem eR{d:RD}(h:jZ d.seen):db (bq d):=by
 rw[←uf h]
 exact mj _ _ List.Pairwise.nil
theorem ju{l:List (List UInt8)}(h:db l):l.Nodup:=h.imp fun{a b} hab e=>by
 subst e
 rw[oc]at hab
 omega
theorem qZ{l m:List (List UInt8)}(hp:l.Perm m)(hs:db m):jw l=m:=
 db.ext (te (hp.nodup_iff.2 (ju hs))) hs fun x=>by rw[(jg l).mem_iff,hp.mem_iff]
def ck(ns kp:List (List UInt8)):List (List UInt8):=ns.filter fun d=>decide (¬d∈kp)
theorem w6{ns kp kp' :List (List UInt8)}(h:∀x,x∈kp↔x∈kp'):ck ns kp=ck ns kp' :=by
 unfold ck
 congr 1
 funext d
 rw[decide_eq_decide,h]
theorem jO{ns kp:List (List UInt8)}(h:db ns):db (ck ns kp):=h.filter _
theorem qB{ns kp:List (List UInt8)}(h:nV ns):nV (ck ns kp):=fun d hd=>h d (List.mem_filter.1 hd).1
theorem wy{ns kp:List (List UInt8)}:(ck ns kp).length≤ns.length:=List.length_filter_le _ _
def tv(k:Dg):Dg×Value:=(k,.bool true)
theorem Eb{l:List Dg}{k:Dg}(h:¬k∈l):cJ (l.map tv) k (.bool true)=(l++[k]).map tv:=by
 have:bY (l.map tv) k=none:=je.2 (by simpa[b7,tv,Function.comp_def]using h)
 rw[mG this,List.map_append];rfl
theorem zN:∀(l:List Dg) (k:Dg),ej (l.map tv) k=(l.erase k).map tv
 | [],k=>rfl
 |a::r,k=>by
  have ih:=zN r k
  by_cases h:a=k
  ·subst h;simp[tv,ej]
  ·have h2:(a == k)=false:=beq_false_of_ne h
   rw[List.erase_cons,h2,List.map_cons]
   show ej ((a,_)::r.map tv) k=_
   unfold ej
   rw[if_neg h,ih];rfl
theorem BT{ds:List (List UInt8)}(h:nV ds):∃l:List Dg,l.map (·.1)=ds:=by
 induction ds with
 |nil=>exact⟨[],rfl⟩
 |cons d r ih=>
  obtain⟨l,hl⟩:=ih (fun x hx=>h x (List.mem_cons_of_mem _ hx))
  exact⟨⟨d,h d (List.mem_cons_self ..)⟩::l,by rw[List.map_cons,hl]⟩
def xr(k:Dg):List UInt8:=k.1
theorem B4(l:List Dg):nV (l.map xr):=fun d hd=>by
 obtain⟨x,_,rfl⟩:=List.mem_map.1 hd
 exact x.2
theorem wF{l:List Dg}:(l.map xr).Nodup↔l.Nodup:=by
 constructor
 ·exact fun h=>List.Pairwise.of_map _ (fun a b hab e=>hab (by rw[e])) h
 ·exact fun h=>List.Pairwise.map _ (fun a b hab e=>hab (Subtype.ext e)) h
theorem xD{l:List Dg}{i:Nat}{k:Dg}(h:l[i]? =some k):(l.map xr).getD i []=k.1:=by
 obtain⟨hi,rfl⟩:=List.getElem?_eq_some_iff.1 h
 simp[List.getD,hi,xr]
theorem xP{l:List Dg}(hn:l.Nodup){i:Nat}{k:Dg}(h:l[i]? =some k):¬k∈l.take i∧l.take (i+1)=l.take i++[k]:=by
 obtain⟨hi,rfl⟩:=List.getElem?_eq_some_iff.1 h
 have e:=List.take_succ_eq_append_getElem hi
 refine⟨fun hm=> ?_,e⟩
 have h1:(l.take (i+1)).Nodup:=hn.sublist (List.take_sublist _ _)
 rw[e,List.nodup_append]at h1
 exact h1.2.2 _ hm _ (List.mem_singleton.2 rfl) rfl
def jc(l:List Dg)(kp:List (List UInt8)):List Dg:=l.filter fun k=>decide (¬k.1∈kp)
theorem wU{l:List Dg}(hn:l.Nodup)(kp:List (List UInt8))(q:Dg):(jc l kp).erase q=jc l (kp++[q.1]):=by
 have hn2:(jc l kp).Nodup:=hn.filter _
 rw[hn2.erase_eq_filter]
 unfold jc
 rw[List.filter_filter]
 congr 1
 funext k
 by_cases h2:k=q
 ·subst h2;simp
 ·have h3:¬k.1=q.1:=fun e=>h2 (Subtype.ext e)
  simp[h2,h3]
theorem wJ{l:List Dg}(hn:l.Nodup){kp:List (List UInt8)}{j:Nat}(hj:j<kp.length)(h32:(kp.getD j []).length=32):(jc l (kp.take j)).erase ⟨kp.getD j [],h32⟩=jc l (kp.take (j+1)):=by
 have e:kp.take (j+1)=kp.take j++[kp.getD j []]:=by rw[List.take_succ_eq_append_getElem hj];simp[List.getD,hj]
 rw[wU hn,e]
theorem yh(l:List Dg)(kp:List (List UInt8)):(jc l kp).map xr=ck (l.map xr) kp:=by
 unfold jc ck
 rw[List.filter_map]
 rfl
theorem Fg{left:List Dg}{j:Nat}{x:Dg×Value}(h:(left.map tv)[j]? =some x):∃k,left[j]? =some k∧x=tv k:=by
 rw[List.getElem?_map]at h
 cases hk:left[j]? with
 |none=>rw[hk]at h;cases h
 |some k=>rw[hk]at h;exact⟨k,rfl,(Option.some.inj h).symm⟩
theorem yq(left:List Dg)(j:Nat):(left.map tv).eraseIdx j=(left.eraseIdx j).map tv:=(map_eraseIdx ..).symm
theorem CG{g:Nat}{st:cF}{d:RD}{kk:Nat}{K:Option Addr}{n c:Nat}{L:List IX}(hD:DS st d kk)(hkk:kk≤90000)(hnl:∀x∈d.seen,x.1.length≤1000000)(hL:L.length=n)(hn:n≤100000)(hs:(dx L).length≤100000):cf Tryz.prog 66 [.pointer (some ⟨g,0,none⟩),.slice K n c] [bn g st] [c6 36 K n (FG L),mX (L.map IX.sg)] (fun v_ X_ S_=>∃A1 k c1,v_=(.slice A1 k c1)∧X_=[bn g st,aG 53 32 (.slice A1 k c1) k (dc (ck (bq d) (dx L)))]∧S_=[]∧(k=(ck (bq d) (dx L)).length∧k≤c1)):=by
 have hcd:=lK d
 have hst:=eR hD.mH.files.ord
 have hlen:(bq d).length≤kk:=Nat.le_trans (lu d) hD.ug.seen
 obtain⟨l,hl⟩:=BT hcd
 have hl:l.map xr=bq d:=hl
 rw[←hl]at hst hcd hlen
 have hll:l.length≤kk:=by rw[List.length_map]at hlen;exact hlen
 have hln:l.Nodup:=wF.1 (ju hst)
 obtain⟨hks,hkm⟩:=j3 (dx L) [] List.Pairwise.nil
 have hkm:∀x,x∈(dx L).foldl ey []↔x∈dx L:=fun x=>by rw[hkm x];simp
 have hkD:nV ((dx L).foldl ey []):=fun x hx=>lO L x ((hkm x).1 hx)
 have hkl:((dx L).foldl ey []).length≤100000:=by
  have:=(zm (lO L) (dx L).length).2
  rw[List.take_length]at this
  omega
 rw[←w6 hkm]
 refine aO (N:=46) Tryz.func66 rfl rfl (by simp) fun b=> ?_
 refine a6 (fun m=>ki (m.rd 0 rfl)) ?_
 rintro⟨hl_r,hA_r⟩
 refine ah<|aj<|hy (fun _=>ab rfl)<|ai<|ag<|ah<|aj<| ?_
 refine hx (mD DK (fun g12=> ?_))
 refine aU (fun w m=>m.bU 0 rfl (show _=cY DK g12 ((l.take 0).map tv)from rfl)) ?_
 refine hy (fun _=>ab rfl)<|ai<|al (ρ' :=[(5,_),(4,_),(0,_),(1,_)]) ⟨rfl,rfl,rfl,rfl,trivial⟩<|ak (X' :=[_,_]) (S' :=[_,_]) (fun _ m=>m)<|ag<|ah<|ah<|aj<|hy (fun _=>aa rfl)<| ?_
 refine hx (aq rfl Tryz.call20 (uc hD (by omega) hnl) [1] rfl [] rfl ?_)
 rintro _ _ _ ⟨v,k,rfl,rfl,rfl,hk1⟩
 refine aB (fun m=>(m.own 1 rfl).slice) ?_
 rintro⟨A_o,c_o,rfl,hc_o⟩
 refine aB (fun m=>(m.ord 1 rfl).2.1) fun hA_o=> ?_
 refine hy (fun _=>aW rfl Tryz.underlying33)<|hy (fun _=>aa rfl)<|ai<|al (ρ' :=[(16,_),(15,_),(14,_),(5,_),(4,_),(0,_),(1,_)]) ⟨rfl,rfl,rfl,rfl,rfl,rfl,rfl,trivial⟩<|ak (X' :=[_,_,_]) (S' :=[_,_]) (fun _ m=>m)<|ag<|aK<| ?_
 rw[←hl]at hk1
 rw[←hl]
 rw[List.length_map]at hk1
 subst hk1
 refine dD (fun i=>l.length-i) (fun i=>[(16,.int .i64 (i:Nat))]) (fun i=>[cY DK g12 ((l.take i).map tv)]) (fun i=>[]) (fun i=>i≤l.length) 0 [(15,_),(14,_),(5,_),(4,_),(0,_),(1,_)] ⟨rfl,rfl,rfl,rfl,rfl,rfl,trivial⟩ [2] rfl [] rfl (Nat.zero_le _) ⟨rfl,trivial⟩ (fun i hi=> ?_)
 refine ah<|aj<|hy (fun _=>bA rfl rfl)<|ai<|ag<|ah<| ?_
 refine cC rfl (fun hlt=> ?_) (fun hlt=> ?_)
 ·obtain⟨k,hk⟩:∃k,l[i]? =some k:=⟨_,List.getElem?_eq_getElem (by omega)⟩
  have h32:(aQ k.1).length=32:=by rw[ay,k.2]
  have hgd:=xD hk
  obtain⟨hno,htk⟩:=xP hln hk
  refine aD<|ag<|ah<|aK<|ah<|aj<|hy (fun _=>cW rfl rfl Tryz.underlying33 bp hA_o rfl (by omega))<|hy (fun m=>yV (a7 rfl cy bp (by rw[hgd];exact h32) ((m.ord 2 rfl).k8 hcd (i:=i) (by rw[List.length_map];omega))) ((show Value.agg (aQ ((l.map xr).getD i [])).toArray= .agg (aQ k.1).toArray from by rw[hgd])))<| ?_
  refine hx (aP dQ (fun g7=> ?_))
  refine cH (aI 0 rfl rfl rfl bp h32 aR rfl ?_)
  refine ai<|al (ρ' :=[(7,_),(17,_),(16,_),(15,_),(14,_),(5,_),(4,_),(0,_),(1,_)]) ⟨rfl,rfl,rfl,rfl,rfl,rfl,rfl,rfl,rfl,trivial⟩<|ak (X' :=[_,_,_,_]) (S' :=[_,_]) (fun _ m=>m)<|ag<|aj<|hy (fun _=>aa rfl)<|hy (fun m=>yV (a7 rfl cy bp h32 ((m.aX 0 rfl).az)) ((rfl:_=DK k)))<| ?_
  refine cH (pI (enc:=DK) 1 rfl rfl rfl rfl Tryz.underlying225 (zF rfl Tryz.underlying53 Tryz.underlying5 (by kernel_rfl) (by kernel_rfl) (by kernel_rfl)) ?_)
  refine ai<|al (ρ' :=[(7,_),(17,_),(16,_),(15,_),(14,_),(5,_),(4,_),(0,_),(1,_)]) ⟨rfl,rfl,rfl,rfl,rfl,rfl,rfl,rfl,rfl,trivial⟩<|ak (X' :=[_,_,_,_]) (S' :=[_,_]) (fun _ m=>m)<|aS<|ag<|aj<|hy (fun _=>aN rfl rfl (bE (by omega) (by omega)))<|hy (fun _=>aa rfl)<|ai<|al (ρ' :=[(16,_),(7,_),(17,_),(15,_),(14,_),(5,_),(4,_),(0,_),(1,_)]) ⟨rfl,rfl,rfl,rfl,rfl,rfl,rfl,rfl,rfl,trivial⟩<| ?_
  refine ak (fun w m=>m.bU 0 rfl (show _=cY DK g12 ((l.take (i+1)).map tv)from congrArg (cY DK g12) (by rw[Eb hno,htk]))) ?_
  refine cM (i+1) ⟨rfl,rfl,rfl,rfl,rfl,rfl,rfl,trivial⟩ [0,1,1] rfl [0,1] rfl (by omega) (by omega)
 ·obtain rfl:i=l.length:=by omega
  rw[List.take_length]
  refine bL<|ao<|ao<|aC<|ag<|ah<|ah<|aj<|hy (fun _=>aa rfl)<| ?_
  refine hx (aq rfl Tryz.call146 (w9 hL hn hs) [] rfl [0,1] rfl ?_)
  rintro _ _ _ ⟨A1,k2,c1,rfl,rfl,rfl,hk2⟩
  refine hy (fun _=>aW rfl Tryz.underlying33)<|hy (fun _=>aa rfl)<|ai<|al (ρ' :=[(26,_),(25,_),(24,_),(17,_),(16,_),(15,_),(14,_),(5,_),(4,_),(0,_),(1,_)]) ⟨rfl,rfl,rfl,rfl,rfl,rfl,rfl,rfl,rfl,rfl,rfl,trivial⟩<|ak (X' :=[_,_,_,_]) (S' :=[_,_]) (fun _ m=>m)<|ag<|aK<| ?_
  obtain⟨hk2,_⟩:=hk2
  refine a6 (fun m=>(m.ord 0 rfl).2.1) fun hA_o2=> ?_
  generalize hkp:(dx L).foldl ey []=kp at hkD hkl hk2 ⊢
  subst hk2
  have hm0:l.map tv=(jc l (kp.take 0)).map tv:=by
   rw[List.take_zero]
   unfold jc
   rw[List.filter_eq_self.2 (fun k _=>by simp)]
  rw[hm0]
  refine dD (fun j=>kp.length-j) (fun j=>[(26,.int .i64 (j:Nat))]) (fun j=>[cY DK g12 ((jc l (kp.take j)).map tv)]) (fun j=>[]) (fun j=>j≤kp.length) 0 [(25,_),(24,_),(17,_),(16,_),(15,_),(14,_),(5,_),(4,_),(0,_),(1,_)] ⟨rfl,rfl,rfl,rfl,rfl,rfl,rfl,rfl,rfl,rfl,trivial⟩ [1] rfl [] rfl (Nat.zero_le _) ⟨rfl,trivial⟩ (fun j hj=> ?_)
  refine ah<|aj<|hy (fun _=>bA rfl rfl)<|ai<|ag<|ah<| ?_
  refine cC rfl (fun hlt2=> ?_) (fun hlt2=> ?_)
  ·have hj2:j<kp.length:=by omega
   have hk3:=jB hkD hj2
   have h32:(aQ (kp.getD j [])).length=32:=by rw[ay,hk3]
   refine aD<|ag<|ah<|aK<|ah<|aj<|hy (fun _=>cW rfl rfl Tryz.underlying33 bp hA_o2 rfl (by omega))<|hy (fun m=>a7 rfl cy bp h32 ((m.ord 1 rfl).k8 hkD hj2))<| ?_
   refine hx (aP dQ (fun g9=> ?_))
   refine cH (aI 0 rfl rfl rfl bp h32 aR rfl ?_)
   refine ai<|al (ρ' :=[(9,_),(27,_),(26,_),(25,_),(24,_),(17,_),(16,_),(15,_),(14,_),(5,_),(4,_),(0,_),(1,_)]) ⟨rfl,rfl,rfl,rfl,rfl,rfl,rfl,rfl,rfl,rfl,rfl,rfl,rfl,trivial⟩<|ak (X' :=[_,_,_,_,_]) (S' :=[_,_]) (fun _ m=>m)<|ag<|aj<|hy (fun _=>aa rfl)<|hy (fun m=>yV (a7 rfl cy bp h32 ((m.aX 0 rfl).az)) ((rfl:_=DK ⟨kp.getD j [],hk3⟩)))<| ?_
   refine cH (nf (enc:=DK) 1 rfl rfl rfl Tryz.underlying225 (zF rfl Tryz.underlying53 Tryz.underlying5 (by kernel_rfl) (by kernel_rfl) (by kernel_rfl)) ?_)
   refine ai<|al (ρ' :=[(9,_),(27,_),(26,_),(25,_),(24,_),(17,_),(16,_),(15,_),(14,_),(5,_),(4,_),(0,_),(1,_)]) ⟨rfl,rfl,rfl,rfl,rfl,rfl,rfl,rfl,rfl,rfl,rfl,rfl,rfl,trivial⟩<|ak (X' :=[_,_,_,_,_]) (S' :=[_,_]) (fun _ m=>m)<|aS<|ag<|aj<|hy (fun _=>aN rfl rfl (bE (by omega) (by omega)))<|hy (fun _=>aa rfl)<|ai<|al (ρ' :=[(26,_),(9,_),(27,_),(25,_),(24,_),(17,_),(16,_),(15,_),(14,_),(5,_),(4,_),(0,_),(1,_)]) ⟨rfl,rfl,rfl,rfl,rfl,rfl,rfl,rfl,rfl,rfl,rfl,rfl,rfl,trivial⟩<| ?_
   refine ak (fun w m=>m.bU 0 rfl (show _=cY DK g12 ((jc l (kp.take (j+1))).map tv)from congrArg (cY DK g12) (by rw[zN,wJ hln hj2 hk3]))) ?_
   refine cM (j+1) ⟨rfl,rfl,rfl,rfl,rfl,rfl,rfl,rfl,rfl,rfl,rfl,trivial⟩ [0,1,1,1] rfl [0,1] rfl (by omega) (by omega)
  ·obtain rfl:j=kp.length:=by omega
   rw[List.take_length]
   have hle:=yh l kp
   generalize hLL:jc l kp=LL at hle ⊢
   rw[←hle]
   have hsL:db (LL.map xr):=by rw[hle];exact jO hst
   have hLlen:LL.length≤kk:=by rw[←hLL];exact Nat.le_trans (List.length_filter_le _ _) hll
   refine bL<|ao<|ao<|aC<|ag<|ah<|aj<|hy (fun _=>ab rfl)<|ai<|ag<|ah<|ah<|aj<|hy (fun _=>aa rfl)<| ?_
   refine hx (oy 0 rfl rfl Tryz.underlying225 (fun r34=> ?_))
   refine ai<|al (ρ' :=[(34,_),(10,_),(27,_),(26,_),(25,_),(24,_),(17,_),(16,_),(15,_),(14,_),(5,_),(4,_),(0,_),(1,_)]) ⟨rfl,rfl,rfl,rfl,rfl,rfl,rfl,rfl,rfl,rfl,rfl,rfl,rfl,rfl,trivial⟩<|ak (X' :=[_,_,_,_]) (S' :=[_,_]) (fun _ m=>m)<|ag<|aK<| ?_
   refine bw (fun w m=>m.dy (r' :=aG 53 32 (.slice none 0 0) 0 []) (.refl _ _) (Own.nil _ _ _ _) (fun k hk=>hk.elim)) ?_
   refine oU (fun left cur A3 k3 c3 ks=>left.length) (fun left cur A3 k3 c3 ks=>[(10,.slice A3 k3 c3)]) (fun left cur A3 k3 c3 ks=>[aG 53 32 (.slice A3 k3 c3) k3 (dc (ks.map xr)),jj DK r34 g12 (LL.map tv) (left.map tv) cur]) (fun left cur A3 k3 c3 ks=>[]) (fun left cur A3 k3 c3 ks=>k3=ks.length∧(ks++left).Perm LL) LL none none 0 0 ([]:List Dg) [(34,_),(27,_),(26,_),(25,_),(24,_),(17,_),(16,_),(15,_),(14,_),(5,_),(4,_),(0,_),(1,_)] ⟨rfl,rfl,rfl,rfl,rfl,rfl,rfl,rfl,rfl,rfl,rfl,rfl,rfl,trivial⟩ [0,0] rfl [] rfl (⟨rfl,List.Perm.refl _⟩) ⟨rfl,trivial⟩ (fun left cur A3 k3 c3 ks ⟨hkn,hpm⟩=> ?_)
   refine ah<|aj<| ?_
   refine hx (rX 1 rfl rfl (fun h0=> ?_) (fun j2 x hx1=> ?_))
   ·obtain rfl:left=[]:=List.map_eq_nil_iff.1 h0
    rw[List.append_nil]at hpm
    refine hy (fun _=>au rfl rfl)<|ai<|al (ρ' :=[(36,_),(10,_),(34,_),(27,_),(26,_),(25,_),(24,_),(17,_),(16,_),(15,_),(14,_),(5,_),(4,_),(0,_),(1,_)]) ⟨rfl,rfl,rfl,rfl,rfl,rfl,rfl,rfl,rfl,rfl,rfl,rfl,rfl,rfl,rfl,trivial⟩<|ag<|ah<| ?_
    refine dO rfl (rfl) ?_
    refine a6 (fun m=>(Own.rd (m.own 0 rfl)).2.1) fun hcc=> ?_
    have hkl2:=hpm.length_eq
    refine bL<|ao<|ao<|aC<|ag<|ah<|aj<|hy (fun _=>aa rfl)<| ?_
    refine hx (aq rfl Tryz.call147 (qN (B4 ks) (by omega)) [0] rfl [] rfl ?_)
    rintro _ _ _ ⟨rfl,rfl,rfl⟩
    rw[qZ (hpm.map xr) hsL]
    refine ai<|al (ρ' :=[(36,_),(10,_),(34,_),(27,_),(26,_),(25,_),(24,_),(17,_),(16,_),(15,_),(14,_),(5,_),(4,_),(0,_),(1,_)]) ⟨rfl,rfl,rfl,rfl,rfl,rfl,rfl,rfl,rfl,rfl,rfl,rfl,rfl,rfl,rfl,trivial⟩<|ak (X' :=[_,_,_,_,_]) (S' :=[_,_]) (fun _ m=>m)<|ag<|ah<|aj<|hy (fun _=>aa rfl)<|hy (fun _=>ab rfl)<|ai<|al (ρ' :=[(4,_),(36,_),(10,_),(34,_),(27,_),(26,_),(25,_),(24,_),(17,_),(16,_),(15,_),(14,_),(5,_),(0,_),(1,_)]) ⟨rfl,rfl,rfl,rfl,rfl,rfl,rfl,rfl,rfl,rfl,rfl,rfl,rfl,rfl,rfl,trivial⟩<|ag<|aV<| ?_
    refine ak (fun w m=>m.ub 1 rfl) ?_
    exact bh trivial rfl rfl [3,1] rfl [] rfl ⟨_,_,_,rfl,rfl,rfl,⟨by rw[List.length_map];omega,hcc⟩⟩
   ·obtain⟨kx,hkx,rfl⟩:=Fg hx1
    have h32:(aQ kx.1).length=32:=by rw[ay,kx.2]
    have hlt3:=(List.getElem?_eq_some_iff.1 hkx).1
    have hp2:(ks++[kx]++left.eraseIdx j2).Perm LL:=by
     rw[List.append_assoc]
     exact((List.Perm.append_left ks (lz hkx)).symm.trans hpm)
    have hkl2:=hpm.length_eq
    rw[List.length_append]at hkl2
    refine hy (fun _=>au rfl rfl)<|ai<|al (ρ' :=[(36,_),(10,_),(34,_),(27,_),(26,_),(25,_),(24,_),(17,_),(16,_),(15,_),(14,_),(5,_),(4,_),(0,_),(1,_)]) ⟨rfl,rfl,rfl,rfl,rfl,rfl,rfl,rfl,rfl,rfl,rfl,rfl,rfl,rfl,rfl,trivial⟩<|ag<|ah<| ?_
    refine gY rfl (rfl) ?_
    refine aD<|ag<|aK<|ah<|aj<|hy (fun m=>oM rfl (m.Ed 0 rfl))<| ?_
    refine hy (fun _=>yV (au rfl rfl) ((rfl:_=Value.agg (aQ kx.1).toArray)))<| ?_
    refine hx (aP dQ (fun g11=> ?_))
    refine cH (aI 0 rfl rfl rfl bp h32 aR rfl ?_)
    refine ai<|al (ρ' :=[(11,_),(36,_),(10,_),(34,_),(27,_),(26,_),(25,_),(24,_),(17,_),(16,_),(15,_),(14,_),(5,_),(4,_),(0,_),(1,_)]) ⟨rfl,rfl,rfl,rfl,rfl,rfl,rfl,rfl,rfl,rfl,rfl,rfl,rfl,rfl,rfl,rfl,trivial⟩<|ak (X' :=[_,_,_,_,_,_]) (S' :=[_,_]) (fun _ m=>m)<|ag<|aj<|hy (fun _=>aa rfl)<|hy (fun m=>a7 rfl cy bp h32 ((m.aX 0 rfl).az))<| ?_
    refine hx (b4 Tryz.underlying33 dQ rfl rfl rfl (by simpa[Value.cells,B8]using h32) (by decide) (by decide) (fun g41=> ?_))
    have hA_b41:0<1→(some (⟨g41,0,none⟩:Addr))≠none:=fun _ h=>by cases h
    refine aU (fun w m=>m.bU 0 rfl (show _=aG 53 32 (.slice (some ⟨g41,0,none⟩) 1 1) 1 (dc [kx.1])from rfl)) ?_
    refine hx (bI 3 rfl rfl rfl Tryz.underlying33 Tryz.underlying33 (by exact .inl rfl) dQ rfl (fun m=>Src.bZ (m.ord 0 rfl)) lq (by unfold maxLen;omega) (by omega) (fun u=> ?_))
    refine aB (fun m=>(m.own 0 rfl).slice) ?_
    rintro⟨A_z,c_z,rfl,hc_z⟩
    refine aB (fun m=>(m.ord 0 rfl).2.1) fun hA_z=> ?_
    refine aU (fun w m=>m.bU 0 rfl (show _=aG 53 32 (.slice A_z (k3+1) c_z) (k3+1) (dc ((ks++[kx]).map xr))from congrArg (aG _ _ _ _) (by rw[List.map_append,fR];rfl))) ?_
    refine hy (fun _=>ab rfl)<|ai<|al (ρ' :=[(10,_),(11,_),(36,_),(34,_),(27,_),(26,_),(25,_),(24,_),(17,_),(16,_),(15,_),(14,_),(5,_),(4,_),(0,_),(1,_)]) ⟨rfl,rfl,rfl,rfl,rfl,rfl,rfl,rfl,rfl,rfl,rfl,rfl,rfl,rfl,rfl,rfl,trivial⟩<|ak (X' :=[_,_,_,_,_,_,_]) (S' :=[_,_]) (fun _ m=>m)<|aS<| ?_
    refine ak (fun w m=>m.bU 3 rfl (show _=jj DK r34 g12 (LL.map tv) ((left.eraseIdx j2).map tv) (some (tv kx))from congrArg (fun q=>jj DK r34 g12 (LL.map tv) q (some (tv kx))) (yq left j2))) ?_
    refine gy (left.eraseIdx j2) (some (tv kx)) A_z (k3+1) c_z (ks++[kx]) ⟨rfl,rfl,rfl,rfl,rfl,rfl,rfl,rfl,rfl,rfl,rfl,rfl,rfl,rfl,trivial⟩ [1,0,2,2,2] rfl [0,1] rfl (⟨by rw[List.length_append,hkn];rfl,hp2⟩) (by rw[List.length_eraseIdx,if_pos hlt3];omega)
end Go.Proofs.YtmibdabdlgmafaaGreatDoor
end
section
set_option maxRecDepth 20000
set_option maxHeartbeats 4000000
namespace Go.Proofs.YtmibdabdlgmafaaGreatDoor
open Go.Eng Go.Hx
def cL(ns:List (List UInt8)):List (RD→RD×Int):=ns.map fun nm=>mQ (aF nm)
def RD.rm(d:RD)(ns:List (List UInt8)):RD×Int:=if ns=[]then(d,0)else b6 (cL ns++[cq]) d
theorem pa(a b:List (List UInt8)):cL (a++b)=cL a++cL b:=List.map_append
theorem BG{d y:RD}{ns:List (List UInt8)}{i:Nat}(hi:i<ns.length)(hr:b6 (cL (ns.take i)) d=(y,0))(he:y.ca (aF (ns.getD i []))≠0):d.rm ns=(y,y.ca (aF (ns.getD i []))):=by
 have hs:ns=ns.take i++ns.getD i []::ns.drop (i+1):=by
  have:=List.take_append_drop i ns
  rw[List.drop_eq_getElem_cons hi]at this
  simpa[List.getD,hi]using this.symm
 have hne:ns≠ []:=fun e=>by rw[e]at hi;exact absurd hi (Nat.not_lt_zero _)
 unfold RD.rm
 rw[if_neg hne]
 generalize ns.getD i []=nm at hs he ⊢
 rw[hs,pa,List.append_assoc,mw,hr,if_neg (by show¬(0:Int)≠0;decide)]
 show b6 (mQ (aF nm)::(cL (ns.drop (i+1))++[cq])) y=_
 rw[b6,if_pos (by exact he)]
 exact Prod.ext (by show y.remove (aF nm)=y;rw[RD.remove,if_neg he]) rfl
theorem AU{d y:RD}{ns:List (List UInt8)}{i:Nat}(hi:i<ns.length)(hr:b6 (cL (ns.take i)) d=(y,0))(he:y.ca (aF (ns.getD i []))=0):b6 (cL (ns.take (i+1))) d=(y.remove (aF (ns.getD i [])),0):=by
 have e:ns.take (i+1)=ns.take i++[ns.getD i []]:=by rw[List.take_succ_eq_append_getElem hi];simp[List.getD,hi]
 rw[e,pa,mw,hr,if_neg (by show¬(0:Int)≠0;decide)]
 show b6 [mQ (aF (ns.getD i []))] y=_
 rw[b6,if_neg (by show¬y.ca _≠0;rw[he];decide)]
 rfl
theorem DT{d y:RD}{ns:List (List UInt8)}(hn:ns≠ [])(hr:b6 (cL ns) d=(y,0)):d.rm ns=(y.sync,y.cR):=by
 unfold RD.rm
 rw[if_neg hn,mw,hr,if_neg (by show¬(0:Int)≠0;decide)]
 show b6 [cq] y=_
 rw[b6]
 by_cases h2:(cq y).2=0
 ·rw[if_neg (fun q=>q h2)]
  exact Prod.ext rfl h2.symm
 ·rw[if_pos h2];rfl
theorem Bf{d y:RD}{ns:List (List UInt8)}(hn:ns.length=0)(hr:b6 (cL (ns.take 0)) d=(y,0)):y=d∧d.rm ns=(d,0):=by
 rw[List.take_zero]at hr
 refine⟨(congrArg Prod.fst hr).symm, ?_⟩
 unfold RD.rm
 rw[if_pos (List.eq_nil_of_length_eq_zero hn)]
theorem zj{g:Nat}{st:cF}{d:RD}{kk:Nat}{A:Option Addr}{n c:Nat}{ns:List (List UInt8)}(hD:DS st d kk)(hkk:kk≤40000)(h32:nV ns)(hl:ns.length=n)(hn:n≤40000):cf Tryz.prog 144 [.pointer (some ⟨g,0,none⟩),.slice A n c] [bn g st] [c6 32 A n (dc ns)] (fun v_ X_ S_=>∃st1,v_=(.int .i64 (d.rm ns).2)∧X_=[bn g st1]∧S_=[]∧(DS st1 (d.rm ns).1 (kk+n))):=by
 refine aO (N:=27) Tryz.func144 rfl rfl (by simp) fun b=> ?_
 refine a6 (fun m=>ki (m.rd 0 rfl)) ?_
 rintro⟨hl_r,hA_r⟩
 refine ah<|aj<|hy (fun _=>ab rfl)<|ai<|ag<|ah<|ah<|aj<|hy (fun _=>aa rfl)<|hy (fun _=>aW rfl Tryz.underlying33)<|hy (fun _=>aa rfl)<|ai<|ag<|aK<| ?_
 refine fm (fun i st2 y=>n-i) (fun i st2 y=>[(10,.int .i64 (i:Nat))]) (fun i st2 y=>[bn g st2]) (fun i st2 y=>[]) (fun i st2 y=>i≤n∧b6 (cL (ns.take i)) d=(y,0)∧DS st2 y (kk+i)) 0 st d [(9,_),(8,_),(0,_),(1,_)] ⟨rfl,rfl,rfl,rfl,trivial⟩ [0] rfl [] rfl (⟨Nat.zero_le _,rfl,hD⟩) ⟨rfl,trivial⟩ (fun i st2 y ⟨hin,hr,hDi⟩=> ?_)
 refine ah<|aj<|hy (fun _=>bA rfl rfl)<|ai<|ag<|ah<| ?_
 refine cC rfl (fun hlt=> ?_) (fun hlt=> ?_)
 ·have hi:i<ns.length:=by omega
  have hm:=jB h32 hi
  have hm2:(aQ (ns.getD i [])).length=32:=by rw[ay,hm]
  refine aD<|ag<|ah<|aK<|ah<|aj<|hy (fun _=>cW rfl rfl Tryz.underlying33 bp hA_r rfl (by omega))<|hy (fun m=>a7 rfl cy bp hm2 ((m.rd 0 rfl).k8 h32 hi))<| ?_
  refine hx (aP dQ (fun g6=> ?_))
  refine cH (aI 0 rfl rfl rfl bp hm2 aR rfl ?_)
  refine ai<|al (ρ' :=[(6,_),(11,_),(10,_),(9,_),(8,_),(0,_),(1,_)]) ⟨rfl,rfl,rfl,rfl,rfl,rfl,rfl,trivial⟩<|ak (X' :=[_,_]) (S' :=[_]) (fun _ m=>m)<|ag<|ah<|aj<|hy (fun _=>aa rfl)<|hy (fun m=>a7 rfl cy bp hm2 ((m.aX 0 rfl).az))<| ?_
  refine hx (aq rfl Tryz.call94 (rH hm) [] rfl [] rfl ?_)
  rintro _ _ _ ⟨rfl,rfl,rfl⟩
  refine hx (aq rfl Tryz.call79 (yC hDi (by omega) (p:=(aF (ns.getD i [])))) [1] rfl [] rfl ?_)
  rintro _ _ _ ⟨st1,rfl,rfl,rfl,hE1⟩
  refine hy (fun _=>ab rfl)<|ai<|al (ρ' :=[(7,_),(6,_),(11,_),(10,_),(9,_),(8,_),(0,_),(1,_)]) ⟨rfl,rfl,rfl,rfl,rfl,rfl,rfl,rfl,trivial⟩<|ak (X' :=[_,_]) (S' :=[_]) (fun _ m=>m)<|ag<|ah<|aj<|hy (fun _=>aa rfl)<|hy (fun _=>dL rfl rfl)<|ai<|al (ρ' :=[(19,_),(7,_),(6,_),(11,_),(10,_),(9,_),(8,_),(0,_),(1,_)]) ⟨rfl,rfl,rfl,rfl,rfl,rfl,rfl,rfl,rfl,trivial⟩<|ag<| ?_
  refine cC rfl (fun he=> ?_) (fun he=> ?_)
  ·rw[BG hi hr he]
   rw[RD.remove,if_neg he]at hE1
   refine ah<|aj<|hy (fun _=>aa rfl)<|hy (fun _=>ab rfl)<|ai<|al (ρ' :=[(4,_),(19,_),(7,_),(6,_),(11,_),(10,_),(9,_),(8,_),(0,_),(1,_)]) ⟨rfl,rfl,rfl,rfl,rfl,rfl,rfl,rfl,rfl,rfl,trivial⟩<|ag<|aV<|aY<|ax<|ax<|aY<|ax<| ?_
   exact bh trivial rfl rfl [0] rfl [] rfl ⟨st1,rfl,rfl,rfl,hE1.le (by omega)⟩
  ·have he:=Decidable.not_not.1 he
   refine aD<|aS<|ag<|aj<|hy (fun _=>aN rfl rfl (bE (by omega) (by omega)))<|hy (fun _=>aa rfl)<|ai<|al (ρ' :=[(10,_),(19,_),(7,_),(6,_),(11,_),(9,_),(8,_),(0,_),(1,_)]) ⟨rfl,rfl,rfl,rfl,rfl,rfl,rfl,rfl,rfl,trivial⟩<| ?_
   refine eZ (i+1) st1 (y.remove (aF (ns.getD i []))) ⟨rfl,rfl,rfl,rfl,rfl,trivial⟩ [0] rfl [0] rfl (⟨by omega,AU hi hr he,hE1.le (by omega)⟩) (by omega)
 ·obtain rfl:i=n:=by omega
  refine bL<|ao<|ao<|aC<|ag<|ah<|ah<|aj<|hy (fun _=>aa rfl)<|hy (fun _=>aW rfl Tryz.underlying33)<|hy (fun _=>cx rfl rfl)<|ai<|al (ρ' :=[(24,_),(11,_),(10,_),(9,_),(8,_),(0,_),(1,_)]) ⟨rfl,rfl,rfl,rfl,rfl,rfl,rfl,trivial⟩<|ag<| ?_
  refine cC rfl (fun hz=> ?_) (fun hz=> ?_)
  ·obtain rfl:i=0:=by omega
   obtain⟨rfl,e0⟩:=Bf hl hr
   rw[e0]
   refine ah<|aj<|hy (fun _=>ab rfl)<|ai<|ag<|aV<|ax<| ?_
   exact bh trivial rfl rfl [0] rfl [] rfl ⟨st2,rfl,rfl,rfl,hDi⟩
  ·have hne:ns≠ []:=fun q=>hz (by rw[q]at hl;rw[←hl];rfl)
   rw[List.take_of_length_le (by omega)]at hr
   rw[DT hne hr]
   refine aD<|ag<|ah<|aj<|hy (fun _=>aa rfl)<| ?_
   refine hx (aq rfl Tryz.call110 (uA hDi) [0] rfl [] rfl ?_)
   rintro _ _ _ ⟨st1,rfl,rfl,rfl,hE1⟩
   refine hy (fun _=>ab rfl)<|ai<|al (ρ' :=[(4,_),(24,_),(11,_),(10,_),(9,_),(8,_),(0,_),(1,_)]) ⟨rfl,rfl,rfl,rfl,rfl,rfl,rfl,rfl,trivial⟩<|ak (X' :=[_]) (S' :=[_]) (fun _ m=>m)<|ag<|aV<| ?_
   exact bh trivial rfl rfl [0] rfl [] rfl ⟨st1,rfl,rfl,rfl,hE1⟩
def RD.prune(d:RD)(kp:List (List UInt8)):RD×Int×Int:=
 if d.pw=0 then(d,0,6)else if(d.rm (ck (bq d) kp)).2≠0 then((d.rm (ck (bq d) kp)).1,0,(d.rm (ck (bq d) kp)).2)else((d.rm (ck (bq d) kp)).1,(((ck (bq d) kp).length:Nat):Int),0)
theorem tQ{d:RD}{kp:List (List UInt8)}(h:d.pw=0):d.prune kp=(d,0,6):=by unfold RD.prune;rw[if_pos h]
theorem ur{d:RD}{kp:List (List UInt8)}(h:¬d.pw=0)(h2:(d.rm (ck (bq d) kp)).2≠0):d.prune kp=((d.rm (ck (bq d) kp)).1,0,(d.rm (ck (bq d) kp)).2):=by unfold RD.prune;rw[if_neg h,if_pos h2]
theorem pE{d:RD}{kp:List (List UInt8)}(h:¬d.pw=0)(h2:(d.rm (ck (bq d) kp)).2=0):d.prune kp=((d.rm (ck (bq d) kp)).1,(((ck (bq d) kp).length:Nat):Int),0):=by unfold RD.prune;rw[if_neg h,if_neg (fun q=>q h2)]
theorem rz{g:Nat}{st:cF}{d:RD}{kk:Nat}{K:Option Addr}{n c:Nat}{L:List IX}(hD:DS st d kk)(hkk:kk≤30000)(hnl:∀x∈d.seen,x.1.length≤1000000)(hL:L.length=n)(hn:n≤100000)(hs:(dx L).length≤100000):cf Tryz.prog 62 [.pointer (some ⟨g,0,none⟩),.slice K n c] [bn g st] [c6 36 K n (FG L),mX (L.map IX.sg)] (fun v_ X_ S_=>∃st1,v_=(.tuple #[.int .i64 (d.prune (dx L)).2.1,.int .i64 (d.prune (dx L)).2.2])∧X_=[bn g st1]∧S_=[]∧(DS st1 (d.prune (dx L)).1 (kk+kk))):=by
 have hlen:(bq d).length≤kk:=Nat.le_trans (lu d) hD.ug.seen
 have hpw:=hD.mH.cj
 have hl0:(ck (bq d) (dx L)).length≤kk:=Nat.le_trans wy hlen
 have hl32:nV (ck (bq d) (dx L)):=qB (lK d)
 refine aO (N:=22) Tryz.func62 rfl rfl (by simp) fun b=> ?_
 refine a6 (fun m=>ki (m.rd 0 rfl)) ?_
 rintro⟨hl_r,hA_r⟩
 refine ah<|aj<|hy (fun _=>ab rfl)<|hy (fun _=>ab rfl)<|ai<|ag<|ah<|ah<|aj<|hy (fun _=>aa rfl)<| ?_
 refine hx (aq rfl Tryz.call87 (FL) [0] rfl [] rfl ?_)
 rintro _ _ _ ⟨rfl,rfl,rfl⟩
 refine hy (fun _=>(lX rfl))<|ai<|al (ρ' :=[(10,_),(5,_),(4,_),(0,_),(1,_)]) ⟨rfl,rfl,rfl,rfl,rfl,trivial⟩<|ak (X' :=[_]) (S' :=[_,_]) (fun _ m=>m)<|ag<| ?_
 by_cases h0:d.pw=0
 ·rw[tQ h0]
  refine gY rfl ((by rw[hpw,h0];rfl)) ?_
  refine ah<|aj<|hy (fun _=>ab rfl)<|hy (fun _=>ab rfl)<|ai<|ag<|aV<|ax<| ?_
  exact dh trivial rfl rfl rfl [0] rfl [] rfl ⟨st,rfl,rfl,rfl,hD.le (by omega)⟩
 ·refine dO rfl ((by rw[hpw];simp[h0])) ?_
  refine aD<|ag<|ah<|aj<|hy (fun _=>aa rfl)<|hy (fun _=>aa rfl)<| ?_
  refine hx (aq rfl Tryz.call66 (CG hD (by omega) hnl hL hn hs) [0] rfl [0,1] rfl ?_)
  rintro _ _ _ ⟨A1,k,c1,rfl,rfl,rfl,hk1⟩
  obtain⟨hk1,_⟩:=hk1
  refine hy (fun _=>ab rfl)<|ai<|al (ρ' :=[(6,_),(10,_),(5,_),(4,_),(0,_),(1,_)]) ⟨rfl,rfl,rfl,rfl,rfl,rfl,trivial⟩<|ak (X' :=[_,_]) (S' :=[_,_]) (fun _ m=>m)<|ag<|ah<|ah<|aj<|hy (fun _=>aa rfl)<|hy (fun _=>aa rfl)<| ?_
  refine hx (cI rfl Tryz.call144 (zj hD (by omega) hl32 hk1.symm (by omega)) [0] rfl (.x 0 rfl .own .nil) ?_)
  rintro _ _ _ ⟨st1,rfl,rfl,rfl,hE1⟩
  refine⟨rfl, ?_⟩
  refine hy (fun _=>ab rfl)<|ai<|al (ρ' :=[(7,_),(6,_),(10,_),(5,_),(4,_),(0,_),(1,_)]) ⟨rfl,rfl,rfl,rfl,rfl,rfl,rfl,trivial⟩<|ak (X' :=[_,_]) (S' :=[_,_]) (fun _ m=>m)<|ag<|ah<|aj<|hy (fun _=>aa rfl)<|hy (fun _=>dL rfl rfl)<|ai<|al (ρ' :=[(18,_),(7,_),(6,_),(10,_),(5,_),(4,_),(0,_),(1,_)]) ⟨rfl,rfl,rfl,rfl,rfl,rfl,rfl,rfl,trivial⟩<|ag<| ?_
  refine cC rfl (fun he=> ?_) (fun he=> ?_)
  ·rw[ur h0 he]
   refine ah<|aj<|hy (fun _=>aa rfl)<|hy (fun _=>ab rfl)<|hy (fun _=>ab rfl)<|ai<|al (ρ' :=[(5,_),(4,_),(18,_),(7,_),(6,_),(10,_),(0,_),(1,_)]) ⟨rfl,rfl,rfl,rfl,rfl,rfl,rfl,rfl,trivial⟩<|ag<|aV<|ax<| ?_
   exact dh trivial rfl rfl rfl [0] rfl [] rfl ⟨st1,rfl,rfl,rfl,hE1.le (by omega)⟩
  ·rw[pE h0 (Decidable.not_not.1 he),←hk1]
   refine aD<|ag<|ah<|aj<|hy (fun _=>aa rfl)<|hy (fun _=>aW rfl Tryz.underlying33)<|hy (fun _=>ab rfl)<|hy (fun _=>ab rfl)<|ai<|al (ρ' :=[(5,_),(4,_),(18,_),(7,_),(6,_),(10,_),(0,_),(1,_)]) ⟨rfl,rfl,rfl,rfl,rfl,rfl,rfl,rfl,trivial⟩<|ag<|aV<| ?_
   exact dh trivial rfl rfl rfl [0] rfl [] rfl ⟨st1,rfl,rfl,rfl,hE1.le (by omega)⟩
end Go.Proofs.YtmibdabdlgmafaaGreatDoor
end
section
set_option maxRecDepth 20000
set_option maxHeartbeats 4000000
namespace Go.Proofs.YtmibdabdlgmafaaGreatDoor
open Go.Eng Go.Hx
theorem zE{w:World}{g:Nat}{t:TypeId}{p:Value}{x:RX}(h:fe w g t (p::x.cs)):∀(j:Nat) (u:Value),x.cs[j]? =some u→w.cell? ((⟨g,0,none⟩:Addr).add 1|>.add j)=some u:=fun j u hu=>by
 rw[add_add]
 exact h.az (1+j) u (by rw[Nat.add_comm];exact hu)
end Go.Proofs.YtmibdabdlgmafaaGreatDoor
end
section
set_option maxRecDepth 20000
set_option maxHeartbeats 4000000
namespace Go.Proofs.YtmibdabdlgmafaaGreatDoor
open Go.Eng Go.Hx
theorem q8{p:Value}{x y:RX}:bs (p::x.cs) 1 y.cs=p::y.cs:=rfl
end Go.Proofs.YtmibdabdlgmafaaGreatDoor
end
section
namespace Go.Proofs.YtmibdabdlgmafaaGreatDoor
open Go.Eng Go.Hx
def D8(d:RD):Nat:=(d.waits.filter fun c=>decide (c.1≠2)).length
structure Bd(d:RD)(B W:Nat):Prop where
 sn:d.seen.length≤B
 la:d.cp.length+D8 d≤B
 wt:d.waits.length≤W
 nS:∀y∈d.seen,y.1.length≤1000
 nL:∀y∈d.cp,y.1.length≤1000
 nW:∀c∈d.waits,(c.1=0→c.2.1.length≤1000)∧c.2.2.1.length≤1000
theorem Bd.le{d:RD}{B W B' W' :Nat}(h:Bd d B W)(hB:B≤B')(hW:W≤W'):Bd d B' W' :=⟨Nat.le_trans h.sn hB,Nat.le_trans h.la hB,Nat.le_trans h.wt hW,h.nS,h.nL,h.nW⟩
theorem Bd.new(room:Int):Bd (RD.new room) 0 0:=⟨Nat.le_refl _,Nat.le_refl _,Nat.le_refl _,fun y h=>(List.not_mem_nil h).elim,fun y h=>(List.not_mem_nil h).elim,fun y h=>(List.not_mem_nil h).elim⟩
theorem ph:∀(l:List FP) (x:FP),(gJ l x).length≤l.length+1
 | [],x=>Nat.le_refl _
 |a::r,x=>by
  unfold gJ
  have:=ph r x
  split
  ·simp only[List.length_cons];omega
  ·rw[List.length_cons];exact Nat.succ_le_succ (List.length_filter_le _ _)
theorem si(l:List FP)(x:FP):(gn l x).length≤l.length+1:=by
 rw[iY]
 exact ph l x
theorem vj{l:List FP}{p b:List UInt8}(h:∀y∈l,y.1.length≤1000)(hp:p.length≤1000):∀y∈gn l (p,b),y.1.length≤1000:=by
 intro y hy
 rw[iY]at hy
 rcases vK hy with rfl|hy
 ·exact hp
 ·exact h y hy
theorem BE{l:List FP}{k:Int}{p t b:List UInt8}(h:∀y∈l,y.1.length≤1000)(hp:k=0→p.length≤1000)(ht:t.length≤1000):∀y∈dw l k p t b,y.1.length≤1000:=by
 unfold dw
 split
 ·exact vj h (hp (by assumption))
 ·split
  ·exact h
  ·split
   ·exact fun y hy=>h y (List.mem_filter.1 hy).1
   ·exact vj (fun y hy=>h y (List.mem_filter.1 hy).1) ht
theorem xJ{l:List FP}{k:Int}{p t b:List UInt8}:(dw l k p t b).length≤l.length+(if k≠2 then 1 else 0):=by
 by_cases h0:k=0
 ·rw[dw,if_pos h0,if_pos (by rw[h0];decide)];exact si _ _
 ·rw[dw,if_neg h0]
  cases hq:l[cr l p]? with
  |none=>exact Nat.le_add_right _ _
  |some x=>
   by_cases h2:k=2
   ·simp only[if_pos h2]
    exact Nat.le_trans (List.length_filter_le _ _) (Nat.le_add_right _ _)
   ·simp only[if_neg h2]
    rw[if_pos h2]
    exact Nat.le_trans (si _ _) (Nat.succ_le_succ (List.length_filter_le _ _))
theorem Bd.gj{d:RD}{B W:Nat}(h:Bd d B W){k:Int}{p t b:List UInt8}(hp:k=0→p.length≤1000)(ht:t.length≤1000):Bd (d.gj k p t b) (B+(if k≠2 then 1 else 0)) (W+1):=by
 have h1:=h.sn
 have h2:=h.la
 have h3:=h.wt
 refine⟨Nat.le_trans xJ (Nat.add_le_add_right h1 _), ?_, ?_,BE h.nS hp ht,h.nL,fun c hc=> ?_⟩
 ·have:D8 (d.gj k p t b)=D8 d+(if k≠2 then 1 else 0):=by
   show((d.waits++[(k,p,t,b)]).filter _).length=_
   rw[List.filter_append,List.length_append]
   congr 1
   by_cases hk:k=2
   ·simp[hk]
   ·simp[hk]
  rw[this]
  show d.cp.length+_≤_
  omega
 ·show(d.waits++[_]).length≤_
  rw[List.length_append]
  exact Nat.add_le_add_right h3 1
 ·rcases List.mem_append.1 hc with hc|hc
  ·exact h.nW c hc
  ·rw[List.mem_singleton.1 hc];exact⟨hp,ht⟩
theorem Bd.write{d:RD}{B W:Nat}(h:Bd d B W){p l:List UInt8}(hp:p.length≤1000):Bd (d.write p l) (B+1) (W+1):=by
 unfold RD.write
 split
 ·exact h.gj (fun _=>hp) (by decide)
 ·exact h.le (by omega) (by omega)
theorem Bd.rename{d:RD}{B W:Nat}(h:Bd d B W){a c:List UInt8}(hc:c.length≤1000):Bd (d.rename a c) (B+1) (W+1):=by
 unfold RD.rename
 split
 ·exact h.gj (fun e=>absurd e (by decide)) hc
 ·exact h.le (by omega) (by omega)
theorem Bd.remove{d:RD}{B W:Nat}(h:Bd d B W){p:List UInt8}:Bd (d.remove p) B (W+1):=by
 unfold RD.remove
 split
 ·exact h.gj (fun e=>absurd e (by decide)) (by decide)
 ·exact h.le (by omega) (by omega)
theorem Bd.sync{d:RD}{B W:Nat}(h:Bd d B W):Bd d.sync B W:=by
 unfold RD.sync
 split
 ·exact h
 ·exact⟨h.sn,h.sn,Nat.zero_le _,h.nS,h.nS,fun c hc=>(List.not_mem_nil hc).elim⟩
theorem Bd.b6(a:Nat):∀(Fs:List (RD→RD×Int)) {d:RD} {B W:Nat},(∀F∈Fs,∀d B W,Bd d B W→Bd (F d).1 (B+a) (W+1))→Bd d B W→Bd (b6 Fs d).1 (B+a*Fs.length) (W+Fs.length)
 | [],d,B,W,_,h=>h
 |F::r,d,B,W,hF,h=>by
  have h1:=hF F (List.mem_cons_self ..) d B W h
  rw[Go.Proofs.YtmibdabdlgmafaaGreatDoor.b6]
  split
  ·refine h1.le ?_ (by rw[List.length_cons];omega)
   rw[List.length_cons,Nat.mul_succ];omega
  ·refine(Bd.b6 a r (fun G hG=>hF G (List.mem_cons_of_mem _ hG)) h1).le ?_ (by rw[List.length_cons];omega)
   rw[List.length_cons,Nat.mul_succ];omega
theorem Bd.put{d:RD}{B W:Nat}(h:Bd d B W)(bb:List UInt8):Bd (d.put bb).1 (B+4) (W+4):=by
 have hm:=bj bb
 have hR:Bd (d.gQ bb).1 (B+4) (W+4):=Bd.b6 1 (vL (bJ (ba bb)) bb (ba bb)) (fun F hF d B W h=>by
  simp only[List.mem_cons,List.not_mem_nil,or_false]at hF
  rcases hF with rfl|rfl|rfl|rfl
  ·exact h.write (by rw[iC hm];decide)
  ·exact h.sync.le (by omega) (by omega)
  ·exact h.rename (by rw[dP hm];decide)
  ·exact h.sync.le (by omega) (by omega)) h
 unfold RD.put
 split
 ·exact h.le (by omega) (by omega)
 ·split
  ·exact h.le (by omega) (by omega)
  ·split
   ·exact h.le (by omega) (by omega)
   ·exact hR
end Go.Proofs.YtmibdabdlgmafaaGreatDoor
end
section
set_option maxRecDepth 20000
set_option maxHeartbeats 4000000
namespace Go.Proofs.YtmibdabdlgmafaaGreatDoor
open Go.Eng Go.Hx
def ints(l:List Int):List Value:=l.map (Value.int .i64)
def rr(l:List Int):Prop:=∀z∈l,-9223372036854775808≤z∧z≤9223372036854775807
theorem lN{l:List Int}{i:Nat}(h:i<l.length):(ints l)[i]? =some (.int .i64 (l.getD i 0)):=by simp[ints,List.getElem?_map,List.getElem?_eq_getElem h,List.getD]
theorem rr.at{l:List Int}(h:rr l){i:Nat}(hi:i<l.length):-9223372036854775808≤l.getD i 0∧l.getD i 0≤9223372036854775807:=by
 rw[List.getD,List.getElem?_eq_getElem hi]
 exact h _ (List.getElem_mem hi)
theorem qv{P:RD→Prop}:∀(Fs:List (RD→RD×Int)) (d:RD),(∀F∈Fs,∀d,P d→P (F d).1)→P d→P (b6 Fs d).1
 | [],d,_,h=>h
 |F::r,d,hF,h=>by
  have h1:=hF F (List.mem_cons_self ..) d h
  rw[b6]
  split
  ·exact h1
  ·exact qv r _ (fun G hG=>hF G (List.mem_cons_of_mem _ hG)) h1
theorem BB(d:RD)(bb:List UInt8):(d.put bb).2.1.length=32:=by
 unfold RD.put
 split
 ·exact eQ
 ·split
  ·exact eQ
  ·split
   ·exact bj _
   ·show(if _ then _ else _:List UInt8).length=32
    split
    ·exact bj _
    ·exact eQ
theorem xF(z:Int):∃k:Nat,dR z 6=(k:Int)∧k<6:=by
 have:=qH z 6 (by decide)
 exact⟨(dR z 6).toNat,by omega,by omega⟩
theorem xd{P:Program}{e:TypeId}(he:P.underlying e=some (.int .i64)):∀{n:Nat} {ys:List Cell},ys.length=n→(∀i,i<n→Ty P e ((ys.drop i).take 1))→∃l:List Int,ys.map Cell.val=ints l∧l.length=n∧rr l:=by
 intro n ys hl h
 have hg:∀i,i<n→∃z:Int,ys[i]? =some (.v (.int .i64 z))∧-9223372036854775808≤z∧z≤9223372036854775807:=fun i hi=>by
  obtain⟨z,hz,hb⟩:=Ee he (h i hi)
  have h2:((ys.drop i).take 1)[0]? =some (.v (.int .i64 z)):=by rw[hz];rfl
  rw[List.getElem?_take,if_pos (by omega),List.getElem?_drop,Nat.add_zero]at h2
  exact⟨z,h2,hb⟩
 refine⟨ys.map fun y=>match y.val with| .int _ z=>z|_=>0, ?_,by simpa using hl,fun z hz=> ?_⟩
 ·apply List.ext_getElem?
  intro i
  simp only[ints,List.map_map,List.getElem?_map]
  by_cases hi:i<n
  ·obtain⟨z,hz,_⟩:=hg i hi
   rw[hz]
   simp[Cell.val]
  ·rw[List.getElem?_eq_none (by omega)]
   rfl
 ·obtain⟨y,hy,rfl⟩:=List.mem_map.1 hz
  obtain⟨i,hi⟩:=List.mem_iff_getElem?.1 hy
  have hin:i<n:=by rw[←hl];exact(List.getElem?_eq_some_iff.1 hi).1
  obtain⟨z,hz2,hb⟩:=hg i hin
  rw[hi]at hz2
  cases hz2
  exact hb
theorem vN{xs:List Cell}(h:Ty Tryz.prog 44 xs):∃A n c ys l,xs=[.s 1 A n c ys]∧ys.map Cell.val=ints l∧rr l:=by
 obtain⟨A,n,c,ys,rfl,h1,h2,h3,h4⟩:=th Tryz.underlying44 h
 have c1:Tryz.prog.cellsOf 3=1:=by kernel_rfl
 rw[c1]at h3 h4 ⊢
 obtain⟨l,h5,h6,h7⟩:=xd Tryz.underlying3 (by omega:ys.length=n) (fun i hi=>by have:=h4 i hi;rwa [Nat.mul_one]at this)
 exact⟨A,n,c,ys,l,rfl,h5,h7⟩
end Go.Proofs.YtmibdabdlgmafaaGreatDoor
end
section
set_option maxRecDepth 20000
set_option maxHeartbeats 4000000
namespace Go.Proofs.YtmibdabdlgmafaaGreatDoor
open Go.Eng Go.Hx
def iS(z:Int):List UInt8:=bc (dR z 6).toNat
def eK(d:RD)(zl:List Int):RD:=zl.foldl (fun d z=>(d.put (iS z)).1) d
def iI(d:RD)(zb:List Int)(bb:List UInt8):RD:=zb.foldl (fun d z=>d.write (aF (ba (iS z))) bb) d
def fV(zl zb:List Int)(bb:List UInt8):RD:=(iI (eK (RD.new 2000) (zl.take 6)) (zb.take 3) (bb.take 30)).sync
theorem sd{d:RD}{zl:List Int}{i:Nat}(h:i<zl.length):eK d (zl.take (i+1))=((eK d (zl.take i)).put (iS (zl.getD i 0))).1:=by
 rw[List.take_succ_eq_append_getElem h,eK,List.foldl_append,List.getD,List.getElem?_eq_getElem h];rfl
theorem s9{d:RD}{zb:List Int}{bb:List UInt8}{i:Nat}(h:i<zb.length):iI d (zb.take (i+1)) bb=(iI d (zb.take i) bb).write (aF (ba (iS (zb.getD i 0)))) bb:=by
 rw[List.take_succ_eq_append_getElem h,iI,List.foldl_append,List.getD,List.getElem?_eq_getElem h];rfl
theorem kU{z:Int}{k:Nat}(h:dR z 6=(k:Int)):iS z=bc k:=by unfold iS;rw[h];rfl
theorem gP{l:List Int}{i n:Nat}(h:¬(i<l.length∧i<n))(hi:i≤l.length)(hn:i≤n):l.take i=l.take n:=by
 by_cases h1:i<l.length
 ·have:i=n:=by omega
  rw[this]
 ·rw[List.take_of_length_le (by omega),List.take_of_length_le (by omega)]
theorem Bm{P:Program}{pl:Nat→Option (Nat×Nat)}{A:Option Addr}{x:RX}{zs:List Value}(hz:zs.length=6)(p0:pl 0=some (0,1))(p1:pl 1=some (1,5)):
  u6 P pl zs [(0,.pointer A),(1,.agg x.cs.toArray)] (.pointer A::x.cs):=by
 match zs,hz with
 | [_,_,_,_,_,_],_=>exact .cons (vs:=[.pointer A]) p0 rfl rfl (by show 0+1≤6;decide) (.cons (vs:=x.cs) p1 rfl rfl (by show 1+5≤6;decide) .nil)
theorem sU{A B C:Option Addr}{n c m mc_ k kc:Nat}{zl zb:List Int}{bb:List UInt8}(hzl:rr zl)(hzb:rr zb)(hkc:k≤kc)(hkb:k≤140737488351232):cf Tryz.prog 61 [.slice A n c,.slice B m mc_,.slice C k kc] [] [c6 1 A n (ints zl),c6 1 B m (ints zb),c6 1 C k (aQ bb),eM] (fun v_ X_ S_=>∃gw gd st y,v_=(.pointer (some ⟨gw,0,none⟩))∧X_=[aJ gw 121 (.pointer (some ⟨gd,0,none⟩)::y.cs),bn gd st]∧S_=[dH y]∧(y.d=fV zl zb bb∧DS st y.d 100∧Bd y.d 27 27)):=by
 refine aO (N:=130) Tryz.func61 rfl rfl (by simp) fun b=> ?_
 refine a6 (fun m=>ki (m.rd 0 rfl)) ?_
 rintro⟨hl_rl,hA_rl⟩
 refine a6 (fun m=>ki (m.rd 1 rfl)) ?_
 rintro⟨hl_rb,hA_rb⟩
 refine a6 (fun m=>gz (m.rd 2 rfl)) ?_
 rintro⟨hl_rc,hA_rc⟩
 refine ah<|aj<|hy (fun _=>ab rfl)<|ai<|ag<|ah<|aj<| ?_
 refine hx (aq rfl Tryz.call24 (FM (by decide) (by decide)) [] rfl [] rfl ?_)
 rintro _ _ _ ⟨g,gs,gl,rfl,rfl,rfl⟩
 refine hy (fun _=>aa rfl)<|hy (fun _=>au rfl rfl)<|hy (fun _=>au rfl rfl)<|hy (fun _=>ab rfl)<|hy (fun _=>ab rfl)<|ai<|al (ρ' :=[(8,_),(7,_),(6,_),(0,_),(1,_),(2,_)]) ⟨rfl,rfl,rfl,rfl,rfl,rfl,trivial⟩<|ak (X' :=[_]) (S' :=[_,_,_,_]) (fun _ m=>m)<|ag<|ah<|ah<|aj<|hy (fun _=>aa rfl)<|hy (fun _=>tZ rfl rfl (by kernel_rfl))<|hy (fun _=>aa rfl)<| ?_
 refine de (o:=_) rfl rfl rfl (fun _=>aa rfl)<|de (o:=_) rfl rfl rfl (fun _=>dL rfl rfl)<|hy (fun _=>bN rfl rfl)<|ai<|al (ρ' :=[(29,_),(8,_),(7,_),(6,_),(0,_),(1,_),(2,_)]) ⟨rfl,rfl,rfl,rfl,rfl,rfl,rfl,trivial⟩<|ag<| ?_
 refine dO rfl ((by decide)) ?_
 refine aD<|ag<|ah<|aj<|hy (fun _=>aa rfl)<| ?_
 refine hx (aq rfl Tryz.call25 (EU) [] rfl [] rfl ?_)
 rintro _ _ _ ⟨y,rfl,rfl,rfl,hy1⟩
 refine hy (fun _=>cn EP rfl rfl (by kernel_rfl) (Bm rfl AD Bu))<| ?_
 refine hx (cE rfl (fun g33=> ?_))
 refine aU (fun w m=>m.bU 0 rfl (show _=aJ g33 121 (.pointer (some ⟨g,0,none⟩)::y.cs)from congrArg (aJ _ _) (bB _))) ?_
 refine aB (fun m=>(m.rd 1 rfl).1) fun hln1=> ?_
 refine aB (fun m=>(m.rd 2 rfl).1) fun hln2=> ?_
 refine aB (fun m=>(m.rd 3 rfl).1) fun hln3=> ?_
 have hln1:zl.length=n:=by rw[ints,List.length_map,Nat.mul_one]at hln1;exact hln1
 have hln2:zb.length=m:=by rw[ints,List.length_map,Nat.mul_one]at hln2;exact hln2
 have hln3:bb.length=k:=by rw[ay,Nat.mul_one]at hln3;exact hln3
 have hD0:DS (mE 2000 gs gl) y.d 0:=by rw[hy1];exact DS.init (by decide)
 have hB0:Bd y.d 0 0:=by rw[hy1];exact Bd.new _
 have hbt:(bb.take 30).length=min k 30:=by rw[List.length_take,hln3,Nat.min_comm]
 refine hy (fun _=>ab rfl)<|ai<|al (ρ' :=[(9,_),(29,_),(8,_),(7,_),(6,_),(0,_),(1,_),(2,_)]) ⟨rfl,rfl,rfl,rfl,rfl,rfl,rfl,rfl,trivial⟩<|ak (X' :=[_,_]) (S' :=[_,_,_,_,_]) (fun _ m=>m)<|ag<|ah<|ah<|aj<|hy (fun _=>ab rfl)<|ai<|ag<| ?_
 refine rL (fun(st1:cF) (x1:RX)=>[]) (fun(st1:cF) (x1:RX)=>[aJ g33 121 (.pointer (some ⟨g,0,none⟩)::x1.cs),bn g st1]) (fun(st1:cF) (x1:RX)=>[dH x1]) (fun(st1:cF) (x1:RX)=>x1.d=eK (RD.new 2000) (zl.take 6)∧DS st1 x1.d 24∧Bd x1.d 24 24) [(9,_),(29,_),(8,_),(7,_),(6,_),(0,_),(1,_),(2,_)] ⟨rfl,rfl,rfl,rfl,rfl,rfl,rfl,rfl,trivial⟩ [0,0] rfl ?_ (fun st1 x1 ⟨hE1,hD1,hB1⟩=> ?_)
 ·refine aK<| ?_
  refine fm (fun i st x=>n-i) (fun i st x=>[(10,.int .i64 (i:Nat))]) (fun i st x=>[aJ g33 121 (.pointer (some ⟨g,0,none⟩)::x.cs),bn g st]) (fun i st x=>[dH x]) (fun i st x=>i≤n∧i≤6∧x.d=eK (RD.new 2000) (zl.take i)∧DS st x.d (4*i)∧Bd x.d (4*i) (4*i)) 0 (mE 2000 gs gl) y [(9,_),(29,_),(8,_),(7,_),(6,_),(0,_),(1,_),(2,_)] ⟨rfl,rfl,rfl,rfl,rfl,rfl,rfl,rfl,trivial⟩ [0,0] rfl [0] rfl (⟨Nat.zero_le _,Nat.zero_le _,hy1,hD0,hB0⟩) ⟨rfl,trivial⟩ (fun i st x ⟨hin,hi6,hE,hD,hB⟩=> ?_)
  refine ah<|ah<|aj<|hy (fun _=>aa rfl)<|hy (fun _=>aa rfl)<|hy (fun _=>aW rfl Tryz.underlying44)<|hy (fun _=>bA rfl rfl)<|hy (fun _=>aa rfl)<| ?_
  refine er 38 rfl (fun h1=> ?_) (fun h1=> ?_)
  ·refine de (o:=_) rfl rfl rfl (fun _=>aa rfl)<|de (o:=_) rfl rfl rfl (fun _=>bA rfl rfl)<|hy (fun _=>bK rfl rfl)<|ai<|al (ρ' :=[(41,_),(10,_),(9,_),(29,_),(8,_),(7,_),(6,_),(0,_),(1,_),(2,_)]) ⟨rfl,rfl,rfl,rfl,rfl,rfl,rfl,rfl,rfl,rfl,trivial⟩<|ag<| ?_
   refine cC rfl (fun h2=> ?_) (fun h2=> ?_)
   ·obtain⟨k6,hk6,hk6l⟩:=xF (zl.getD i 0)
    have hil:i<zl.length:=by omega
    have hz:=hzl.at hil
    have hcl:=iM k6
    have hDo:x.d.ok (4*i):=⟨st,hD⟩
    have hcz:=kU hk6
    have hp32:(aQ (x.d.put (bc k6)).2.1).length=32:=by
     rw[ay]
     exact BB _ _
    refine aD<|ag<|ah<|aK<|ah<| ?_
    refine rL (fun(y2:RX) (g11:Nat)=>[(11,.pointer (some ⟨g11,0,none⟩))]) (fun(y2:RX) (g11:Nat)=>[aJ g11 39 y2.cs]) (fun(y2:RX) (g11:Nat)=>[dH y2]) (fun(y2:RX) (g11:Nat)=>y2.d=(x.d.put (bc k6)).1) [(41,_),(10,_),(9,_),(29,_),(8,_),(7,_),(6,_),(0,_),(1,_),(2,_)] ⟨rfl,rfl,rfl,rfl,rfl,rfl,rfl,rfl,rfl,rfl,trivial⟩ [] rfl ?_ (fun y2 g11 hyd2=> ?_)
    ·refine wb [8,9,14,15,16,17] (.take 0 4<|.take 1 4<|.take 2 4<|.take 3 4<|.take 4 4<|.take 5 4<|.take 6 4<|.take 7 4<|.alt 8 (.alt 9 (.take 10 4<|.take 11 4<|.take 12 5<|.take 13 6<|.alt 14 (.alt 15 (.alt 16 (.alt 17 (.take 18 6<|.done) (.stop)) (.stop)) (.stop)) (.alt 15 (.alt 14 (.alt 16 (.alt 17 (.take 18 6<|.done) (.stop)) (.stop)) (.stop)) (.stop))) (.alt 14 (.alt 9 (.take 10 4<|.take 11 4<|.take 12 5<|.take 13 6<|.alt 15 (.alt 16 (.alt 17 (.take 18 6<|.done) (.stop)) (.stop)) (.stop)) (.alt 15 (.alt 9 (.take 10 4<|.take 11 4<|.take 12 5<|.take 13 6<|.alt 16 (.alt 17 (.take 18 6<|.done) (.stop)) (.stop)) (.stop)) (.stop))) (.alt 15 (.alt 9 (.take 10 4<|.take 11 4<|.take 12 5<|.take 13 6<|.alt 14 (.alt 16 (.alt 17 (.take 18 6<|.done) (.stop)) (.stop)) (.stop)) (.alt 14 (.alt 9 (.take 10 4<|.take 11 4<|.take 12 5<|.take 13 6<|.alt 16 (.alt 17 (.take 18 6<|.done) (.stop)) (.stop)) (.stop)) (.stop))) (.stop)))) (.alt 14 (.alt 8 (.alt 9 (.take 10 4<|.take 11 4<|.take 12 5<|.take 13 6<|.alt 15 (.alt 16 (.alt 17 (.take 18 6<|.done) (.stop)) (.stop)) (.stop)) (.alt 15 (.alt 9 (.take 10 4<|.take 11 4<|.take 12 5<|.take 13 6<|.alt 16 (.alt 17 (.take 18 6<|.done) (.stop)) (.stop)) (.stop)) (.stop))) (.alt 15 (.alt 8 (.alt 9 (.take 10 4<|.take 11 4<|.take 12 5<|.take 13 6<|.alt 16 (.alt 17 (.take 18 6<|.done) (.stop)) (.stop)) (.stop)) (.stop)) (.stop))) (.alt 15 (.alt 8 (.alt 9 (.take 10 4<|.take 11 4<|.take 12 5<|.take 13 6<|.alt 14 (.alt 16 (.alt 17 (.take 18 6<|.done) (.stop)) (.stop)) (.stop)) (.alt 14 (.alt 9 (.take 10 4<|.take 11 4<|.take 12 5<|.take 13 6<|.alt 16 (.alt 17 (.take 18 6<|.done) (.stop)) (.stop)) (.stop)) (.stop))) (.alt 14 (.alt 8 (.alt 9 (.take 10 4<|.take 11 4<|.take 12 5<|.take 13 6<|.alt 16 (.alt 17 (.take 18 6<|.done) (.stop)) (.stop)) (.stop)) (.stop)) (.stop))) (.stop)))) (by kernel_rfl) (by kernel_rfl) rfl 4<|bW (aa rfl)<|bW (bd rfl)<|bW (aL rfl kG (by decide))<|F1 (fun m=>yV (a7 rfl cD bz rfl (zE (m.aX 0 rfl))) ((rfl:_=Value.agg x.cs.toArray)))<|bW (aa rfl)<|bW (aa rfl)<|bW (aM rfl rfl Tryz.underlying44 tG hA_rl rfl (by omega))<|F1 (fun m=>aw rfl fG ((m.rd 2 rfl).cell (lN hil)))<| ?_
     refine eh ?_ ?_
     ·refine fA (aq rfl Tryz.call27 (ly hz hk6 hk6l) [] rfl [] rfl ?_)
      rintro _ _ _ ⟨v,rfl,rfl,rfl⟩
      refine⟨(fun _=>wk [1,1] [0,1,2,3,4,5] rfl rfl), ?_⟩
      refine fq (fun m=>(m.own 0 rfl).slice) ?_
      rintro⟨A_x,c_x,rfl,hc_x⟩
      refine fq (fun m=>(m.ord 0 rfl).2.1) fun hA_x=> ?_
      refine k7 (fun w m=>(m.perm (ar [0] _ [_] _ rfl)).freeze) ?_
      refine k7 (fun w m=>m.kM 0 rfl .own) ?_
      refine eh ?_ ?_
      ·refine fA (aq rfl Tryz.call26 (kd hDo (by omega) hc_x hcl (by omega)) [] rfl [2,0,7] rfl ?_)
       rintro _ _ _ ⟨y2,rfl,rfl,rfl,hyd2⟩
       refine⟨(fun _=>wk [0,0] [3,4,5,6,7,8] rfl rfl), ?_⟩
       refine bW (aa rfl)<|bW (au rfl rfl)<|bW (au rfl rfl)<|bW (au rfl rfl)<| ?_
       refine eh ?_ ?_
       ·refine fA (aP iJ (fun g11=>⟨(fun _=>wk [1,1] [3,4,5,6,7,8] rfl rfl), ?_⟩))
        refine fA (aP dQ (fun g12=>⟨(fun _=>wk [2,2] [3,4,5,6,7,8] rfl rfl), ?_⟩))
        refine dV (aI 1 rfl rfl rfl bz rfl bO rfl ⟨(fun h=>absurd h (by decide)), ?_⟩)
        refine dV (aI 1 rfl rfl rfl bp hp32 aR rfl ⟨(fun h=>absurd h (by decide)), ?_⟩)
        refine bW (ab rfl)<|eH<|al (ρ' :=[(11,_),(41,_),(10,_),(9,_),(29,_),(8,_),(7,_),(6,_),(0,_),(1,_),(2,_)]) ⟨rfl,rfl,rfl,rfl,rfl,rfl,rfl,rfl,rfl,rfl,rfl,trivial⟩<|ak (X' :=[_,_,_,_]) (S' :=[_,_,_,_,_,_,_,_,_]) (fun _ m=>m)<| ?_
        exact di (R:=fun(y2:RX) (g11:Nat)=>[(11,.pointer (some ⟨g11,0,none⟩))]) (X1:=fun(y2:RX) (g11:Nat)=>[aJ g11 39 y2.cs]) (S1:=fun(y2:RX) (g11:Nat)=>[dH y2]) (I:=fun(y2:RX) (g11:Nat)=>y2.d=(x.d.put (bc k6)).1) y2 g11 ⟨rfl,rfl,rfl,rfl,rfl,rfl,rfl,rfl,rfl,rfl,rfl,trivial⟩ [1,1,1] rfl [0,3,4,5,6,7,8] rfl hyd2
       ·refine fA (aP dQ (fun g12=>⟨(fun _=>wk [1,1] [3,4,5,6,7,8] rfl rfl), ?_⟩))
        refine fA (aP iJ (fun g11=>⟨(fun _=>wk [2,2] [3,4,5,6,7,8] rfl rfl), ?_⟩))
        refine dV (aI 0 rfl rfl rfl bz rfl bO rfl ⟨(fun h=>absurd h (by decide)), ?_⟩)
        refine dV (aI 1 rfl rfl rfl bp hp32 aR rfl ⟨(fun h=>absurd h (by decide)), ?_⟩)
        refine bW (ab rfl)<|eH<|al (ρ' :=[(11,_),(41,_),(10,_),(9,_),(29,_),(8,_),(7,_),(6,_),(0,_),(1,_),(2,_)]) ⟨rfl,rfl,rfl,rfl,rfl,rfl,rfl,rfl,rfl,rfl,rfl,trivial⟩<|ak (X' :=[_,_,_,_]) (S' :=[_,_,_,_,_,_,_,_,_]) (fun _ m=>m)<| ?_
        exact di (R:=fun(y2:RX) (g11:Nat)=>[(11,.pointer (some ⟨g11,0,none⟩))]) (X1:=fun(y2:RX) (g11:Nat)=>[aJ g11 39 y2.cs]) (S1:=fun(y2:RX) (g11:Nat)=>[dH y2]) (I:=fun(y2:RX) (g11:Nat)=>y2.d=(x.d.put (bc k6)).1) y2 g11 ⟨rfl,rfl,rfl,rfl,rfl,rfl,rfl,rfl,rfl,rfl,rfl,trivial⟩ [1,1,1] rfl [0,3,4,5,6,7,8] rfl hyd2
      ·refine eh ?_ ?_
       ·refine fA (aP iJ (fun g11=>⟨(fun _=>wk [1,1] [2,3,4,5,6,7] rfl rfl), ?_⟩))
        refine eh ?_ ?_
        ·refine fA (aq rfl Tryz.call26 (kd hDo (by omega) hc_x hcl (by omega)) [] rfl [2,0,7] rfl ?_)
         rintro _ _ _ ⟨y2,rfl,rfl,rfl,hyd2⟩
         refine⟨(fun _=>wk [1,1] [3,4,5,6,7,8] rfl rfl), ?_⟩
         refine bW (aa rfl)<|bW (au rfl rfl)<|bW (au rfl rfl)<|bW (au rfl rfl)<| ?_
         refine fA (aP dQ (fun g12=>⟨(fun _=>wk [2,2] [3,4,5,6,7,8] rfl rfl), ?_⟩))
         refine dV (aI 1 rfl rfl rfl bz rfl bO rfl ⟨(fun h=>absurd h (by decide)), ?_⟩)
         refine dV (aI 1 rfl rfl rfl bp hp32 aR rfl ⟨(fun h=>absurd h (by decide)), ?_⟩)
         refine bW (ab rfl)<|eH<|al (ρ' :=[(11,_),(41,_),(10,_),(9,_),(29,_),(8,_),(7,_),(6,_),(0,_),(1,_),(2,_)]) ⟨rfl,rfl,rfl,rfl,rfl,rfl,rfl,rfl,rfl,rfl,rfl,trivial⟩<|ak (X' :=[_,_,_,_]) (S' :=[_,_,_,_,_,_,_,_,_]) (fun _ m=>m)<| ?_
         exact di (R:=fun(y2:RX) (g11:Nat)=>[(11,.pointer (some ⟨g11,0,none⟩))]) (X1:=fun(y2:RX) (g11:Nat)=>[aJ g11 39 y2.cs]) (S1:=fun(y2:RX) (g11:Nat)=>[dH y2]) (I:=fun(y2:RX) (g11:Nat)=>y2.d=(x.d.put (bc k6)).1) y2 g11 ⟨rfl,rfl,rfl,rfl,rfl,rfl,rfl,rfl,rfl,rfl,rfl,trivial⟩ [1,1,1] rfl [0,3,4,5,6,7,8] rfl hyd2
        ·refine fA (aP dQ (fun g12=>⟨(fun _=>wk [2,2] [2,3,4,5,6,7] rfl rfl), ?_⟩))
         refine fA (aq rfl Tryz.call26 (kd hDo (by omega) hc_x hcl (by omega)) [] rfl [2,0,7] rfl ?_)
         rintro _ _ _ ⟨y2,rfl,rfl,rfl,hyd2⟩
         refine⟨(fun _=>wk [2,2] [3,4,5,6,7,8] rfl rfl), ?_⟩
         refine bW (aa rfl)<|bW (au rfl rfl)<|bW (au rfl rfl)<|bW (au rfl rfl)<| ?_
         refine dV (aI 1 rfl rfl rfl bz rfl bO rfl ⟨(fun h=>absurd h (by decide)), ?_⟩)
         refine dV (aI 1 rfl rfl rfl bp hp32 aR rfl ⟨(fun h=>absurd h (by decide)), ?_⟩)
         refine bW (ab rfl)<|eH<|al (ρ' :=[(11,_),(41,_),(10,_),(9,_),(29,_),(8,_),(7,_),(6,_),(0,_),(1,_),(2,_)]) ⟨rfl,rfl,rfl,rfl,rfl,rfl,rfl,rfl,rfl,rfl,rfl,trivial⟩<|ak (X' :=[_,_,_,_]) (S' :=[_,_,_,_,_,_,_,_,_]) (fun _ m=>m)<| ?_
         exact di (R:=fun(y2:RX) (g11:Nat)=>[(11,.pointer (some ⟨g11,0,none⟩))]) (X1:=fun(y2:RX) (g11:Nat)=>[aJ g11 39 y2.cs]) (S1:=fun(y2:RX) (g11:Nat)=>[dH y2]) (I:=fun(y2:RX) (g11:Nat)=>y2.d=(x.d.put (bc k6)).1) y2 g11 ⟨rfl,rfl,rfl,rfl,rfl,rfl,rfl,rfl,rfl,rfl,rfl,trivial⟩ [1,1,1] rfl [0,3,4,5,6,7,8] rfl hyd2
       ·refine fA (aP dQ (fun g12=>⟨(fun _=>wk [1,1] [2,3,4,5,6,7] rfl rfl), ?_⟩))
        refine eh ?_ ?_
        ·refine fA (aq rfl Tryz.call26 (kd hDo (by omega) hc_x hcl (by omega)) [] rfl [2,0,7] rfl ?_)
         rintro _ _ _ ⟨y2,rfl,rfl,rfl,hyd2⟩
         refine⟨(fun _=>wk [1,1] [3,4,5,6,7,8] rfl rfl), ?_⟩
         refine bW (aa rfl)<|bW (au rfl rfl)<|bW (au rfl rfl)<|bW (au rfl rfl)<| ?_
         refine fA (aP iJ (fun g11=>⟨(fun _=>wk [2,2] [3,4,5,6,7,8] rfl rfl), ?_⟩))
         refine dV (aI 0 rfl rfl rfl bz rfl bO rfl ⟨(fun h=>absurd h (by decide)), ?_⟩)
         refine dV (aI 1 rfl rfl rfl bp hp32 aR rfl ⟨(fun h=>absurd h (by decide)), ?_⟩)
         refine bW (ab rfl)<|eH<|al (ρ' :=[(11,_),(41,_),(10,_),(9,_),(29,_),(8,_),(7,_),(6,_),(0,_),(1,_),(2,_)]) ⟨rfl,rfl,rfl,rfl,rfl,rfl,rfl,rfl,rfl,rfl,rfl,trivial⟩<|ak (X' :=[_,_,_,_]) (S' :=[_,_,_,_,_,_,_,_,_]) (fun _ m=>m)<| ?_
         exact di (R:=fun(y2:RX) (g11:Nat)=>[(11,.pointer (some ⟨g11,0,none⟩))]) (X1:=fun(y2:RX) (g11:Nat)=>[aJ g11 39 y2.cs]) (S1:=fun(y2:RX) (g11:Nat)=>[dH y2]) (I:=fun(y2:RX) (g11:Nat)=>y2.d=(x.d.put (bc k6)).1) y2 g11 ⟨rfl,rfl,rfl,rfl,rfl,rfl,rfl,rfl,rfl,rfl,rfl,trivial⟩ [1,1,1] rfl [0,3,4,5,6,7,8] rfl hyd2
        ·refine fA (aP iJ (fun g11=>⟨(fun _=>wk [2,2] [2,3,4,5,6,7] rfl rfl), ?_⟩))
         refine fA (aq rfl Tryz.call26 (kd hDo (by omega) hc_x hcl (by omega)) [] rfl [2,0,7] rfl ?_)
         rintro _ _ _ ⟨y2,rfl,rfl,rfl,hyd2⟩
         refine⟨(fun _=>wk [2,2] [3,4,5,6,7,8] rfl rfl), ?_⟩
         refine bW (aa rfl)<|bW (au rfl rfl)<|bW (au rfl rfl)<|bW (au rfl rfl)<| ?_
         refine dV (aI 0 rfl rfl rfl bz rfl bO rfl ⟨(fun h=>absurd h (by decide)), ?_⟩)
         refine dV (aI 1 rfl rfl rfl bp hp32 aR rfl ⟨(fun h=>absurd h (by decide)), ?_⟩)
         refine bW (ab rfl)<|eH<|al (ρ' :=[(11,_),(41,_),(10,_),(9,_),(29,_),(8,_),(7,_),(6,_),(0,_),(1,_),(2,_)]) ⟨rfl,rfl,rfl,rfl,rfl,rfl,rfl,rfl,rfl,rfl,rfl,trivial⟩<|ak (X' :=[_,_,_,_]) (S' :=[_,_,_,_,_,_,_,_,_]) (fun _ m=>m)<| ?_
         exact di (R:=fun(y2:RX) (g11:Nat)=>[(11,.pointer (some ⟨g11,0,none⟩))]) (X1:=fun(y2:RX) (g11:Nat)=>[aJ g11 39 y2.cs]) (S1:=fun(y2:RX) (g11:Nat)=>[dH y2]) (I:=fun(y2:RX) (g11:Nat)=>y2.d=(x.d.put (bc k6)).1) y2 g11 ⟨rfl,rfl,rfl,rfl,rfl,rfl,rfl,rfl,rfl,rfl,rfl,trivial⟩ [1,1,1] rfl [0,3,4,5,6,7,8] rfl hyd2
     ·refine eh ?_ ?_
      ·refine fA (aP iJ (fun g11=>⟨(fun _=>wk [1,1] [0,1,2,3,4,5] rfl rfl), ?_⟩))
       refine eh ?_ ?_
       ·refine fA (aq rfl Tryz.call27 (ly hz hk6 hk6l) [] rfl [] rfl ?_)
        rintro _ _ _ ⟨v,rfl,rfl,rfl⟩
        refine⟨(fun _=>wk [2,2] [0,1,2,3,4,5] rfl rfl), ?_⟩
        refine fq (fun m=>(m.own 0 rfl).slice) ?_
        rintro⟨A_x,c_x,rfl,hc_x⟩
        refine fq (fun m=>(m.ord 0 rfl).2.1) fun hA_x=> ?_
        refine k7 (fun w m=>(m.perm (ar [0] _ [_] _ rfl)).freeze) ?_
        refine k7 (fun w m=>m.kM 0 rfl .own) ?_
        refine eh ?_ ?_
        ·refine fA (aq rfl Tryz.call26 (kd hDo (by omega) hc_x hcl (by omega)) [] rfl [2,0,7] rfl ?_)
         rintro _ _ _ ⟨y2,rfl,rfl,rfl,hyd2⟩
         refine⟨(fun _=>wk [1,1] [3,4,5,6,7,8] rfl rfl), ?_⟩
         refine bW (aa rfl)<|bW (au rfl rfl)<|bW (au rfl rfl)<|bW (au rfl rfl)<| ?_
         refine fA (aP dQ (fun g12=>⟨(fun _=>wk [2,2] [3,4,5,6,7,8] rfl rfl), ?_⟩))
         refine dV (aI 1 rfl rfl rfl bz rfl bO rfl ⟨(fun h=>absurd h (by decide)), ?_⟩)
         refine dV (aI 1 rfl rfl rfl bp hp32 aR rfl ⟨(fun h=>absurd h (by decide)), ?_⟩)
         refine bW (ab rfl)<|eH<|al (ρ' :=[(11,_),(41,_),(10,_),(9,_),(29,_),(8,_),(7,_),(6,_),(0,_),(1,_),(2,_)]) ⟨rfl,rfl,rfl,rfl,rfl,rfl,rfl,rfl,rfl,rfl,rfl,trivial⟩<|ak (X' :=[_,_,_,_]) (S' :=[_,_,_,_,_,_,_,_,_]) (fun _ m=>m)<| ?_
         exact di (R:=fun(y2:RX) (g11:Nat)=>[(11,.pointer (some ⟨g11,0,none⟩))]) (X1:=fun(y2:RX) (g11:Nat)=>[aJ g11 39 y2.cs]) (S1:=fun(y2:RX) (g11:Nat)=>[dH y2]) (I:=fun(y2:RX) (g11:Nat)=>y2.d=(x.d.put (bc k6)).1) y2 g11 ⟨rfl,rfl,rfl,rfl,rfl,rfl,rfl,rfl,rfl,rfl,rfl,trivial⟩ [1,1,1] rfl [0,3,4,5,6,7,8] rfl hyd2
        ·refine fA (aP dQ (fun g12=>⟨(fun _=>wk [2,2] [2,3,4,5,6,7] rfl rfl), ?_⟩))
         refine fA (aq rfl Tryz.call26 (kd hDo (by omega) hc_x hcl (by omega)) [] rfl [2,0,7] rfl ?_)
         rintro _ _ _ ⟨y2,rfl,rfl,rfl,hyd2⟩
         refine⟨(fun _=>wk [2,2] [3,4,5,6,7,8] rfl rfl), ?_⟩
         refine bW (aa rfl)<|bW (au rfl rfl)<|bW (au rfl rfl)<|bW (au rfl rfl)<| ?_
         refine dV (aI 1 rfl rfl rfl bz rfl bO rfl ⟨(fun h=>absurd h (by decide)), ?_⟩)
         refine dV (aI 1 rfl rfl rfl bp hp32 aR rfl ⟨(fun h=>absurd h (by decide)), ?_⟩)
         refine bW (ab rfl)<|eH<|al (ρ' :=[(11,_),(41,_),(10,_),(9,_),(29,_),(8,_),(7,_),(6,_),(0,_),(1,_),(2,_)]) ⟨rfl,rfl,rfl,rfl,rfl,rfl,rfl,rfl,rfl,rfl,rfl,trivial⟩<|ak (X' :=[_,_,_,_]) (S' :=[_,_,_,_,_,_,_,_,_]) (fun _ m=>m)<| ?_
         exact di (R:=fun(y2:RX) (g11:Nat)=>[(11,.pointer (some ⟨g11,0,none⟩))]) (X1:=fun(y2:RX) (g11:Nat)=>[aJ g11 39 y2.cs]) (S1:=fun(y2:RX) (g11:Nat)=>[dH y2]) (I:=fun(y2:RX) (g11:Nat)=>y2.d=(x.d.put (bc k6)).1) y2 g11 ⟨rfl,rfl,rfl,rfl,rfl,rfl,rfl,rfl,rfl,rfl,rfl,trivial⟩ [1,1,1] rfl [0,3,4,5,6,7,8] rfl hyd2
       ·refine fA (aP dQ (fun g12=>⟨(fun _=>wk [2,2] [0,1,2,3,4,5] rfl rfl), ?_⟩))
        refine fA (aq rfl Tryz.call27 (ly hz hk6 hk6l) [] rfl [] rfl ?_)
        rintro _ _ _ ⟨v,rfl,rfl,rfl⟩
        refine⟨(fun _=>wk [3,3] [0,1,2,3,4,5] rfl rfl), ?_⟩
        refine fq (fun m=>(m.own 0 rfl).slice) ?_
        rintro⟨A_x,c_x,rfl,hc_x⟩
        refine fq (fun m=>(m.ord 0 rfl).2.1) fun hA_x=> ?_
        refine k7 (fun w m=>(m.perm (ar [0] _ [_] _ rfl)).freeze) ?_
        refine k7 (fun w m=>m.kM 0 rfl .own) ?_
        refine fA (aq rfl Tryz.call26 (kd hDo (by omega) hc_x hcl (by omega)) [] rfl [2,0,7] rfl ?_)
        rintro _ _ _ ⟨y2,rfl,rfl,rfl,hyd2⟩
        refine⟨(fun _=>wk [2,2] [3,4,5,6,7,8] rfl rfl), ?_⟩
        refine bW (aa rfl)<|bW (au rfl rfl)<|bW (au rfl rfl)<|bW (au rfl rfl)<| ?_
        refine dV (aI 1 rfl rfl rfl bz rfl bO rfl ⟨(fun h=>absurd h (by decide)), ?_⟩)
        refine dV (aI 1 rfl rfl rfl bp hp32 aR rfl ⟨(fun h=>absurd h (by decide)), ?_⟩)
        refine bW (ab rfl)<|eH<|al (ρ' :=[(11,_),(41,_),(10,_),(9,_),(29,_),(8,_),(7,_),(6,_),(0,_),(1,_),(2,_)]) ⟨rfl,rfl,rfl,rfl,rfl,rfl,rfl,rfl,rfl,rfl,rfl,trivial⟩<|ak (X' :=[_,_,_,_]) (S' :=[_,_,_,_,_,_,_,_,_]) (fun _ m=>m)<| ?_
        exact di (R:=fun(y2:RX) (g11:Nat)=>[(11,.pointer (some ⟨g11,0,none⟩))]) (X1:=fun(y2:RX) (g11:Nat)=>[aJ g11 39 y2.cs]) (S1:=fun(y2:RX) (g11:Nat)=>[dH y2]) (I:=fun(y2:RX) (g11:Nat)=>y2.d=(x.d.put (bc k6)).1) y2 g11 ⟨rfl,rfl,rfl,rfl,rfl,rfl,rfl,rfl,rfl,rfl,rfl,trivial⟩ [1,1,1] rfl [0,3,4,5,6,7,8] rfl hyd2
      ·refine fA (aP dQ (fun g12=>⟨(fun _=>wk [1,1] [0,1,2,3,4,5] rfl rfl), ?_⟩))
       refine eh ?_ ?_
       ·refine fA (aq rfl Tryz.call27 (ly hz hk6 hk6l) [] rfl [] rfl ?_)
        rintro _ _ _ ⟨v,rfl,rfl,rfl⟩
        refine⟨(fun _=>wk [2,2] [0,1,2,3,4,5] rfl rfl), ?_⟩
        refine fq (fun m=>(m.own 0 rfl).slice) ?_
        rintro⟨A_x,c_x,rfl,hc_x⟩
        refine fq (fun m=>(m.ord 0 rfl).2.1) fun hA_x=> ?_
        refine k7 (fun w m=>(m.perm (ar [0] _ [_] _ rfl)).freeze) ?_
        refine k7 (fun w m=>m.kM 0 rfl .own) ?_
        refine eh ?_ ?_
        ·refine fA (aq rfl Tryz.call26 (kd hDo (by omega) hc_x hcl (by omega)) [] rfl [2,0,7] rfl ?_)
         rintro _ _ _ ⟨y2,rfl,rfl,rfl,hyd2⟩
         refine⟨(fun _=>wk [1,1] [3,4,5,6,7,8] rfl rfl), ?_⟩
         refine bW (aa rfl)<|bW (au rfl rfl)<|bW (au rfl rfl)<|bW (au rfl rfl)<| ?_
         refine fA (aP iJ (fun g11=>⟨(fun _=>wk [2,2] [3,4,5,6,7,8] rfl rfl), ?_⟩))
         refine dV (aI 0 rfl rfl rfl bz rfl bO rfl ⟨(fun h=>absurd h (by decide)), ?_⟩)
         refine dV (aI 1 rfl rfl rfl bp hp32 aR rfl ⟨(fun h=>absurd h (by decide)), ?_⟩)
         refine bW (ab rfl)<|eH<|al (ρ' :=[(11,_),(41,_),(10,_),(9,_),(29,_),(8,_),(7,_),(6,_),(0,_),(1,_),(2,_)]) ⟨rfl,rfl,rfl,rfl,rfl,rfl,rfl,rfl,rfl,rfl,rfl,trivial⟩<|ak (X' :=[_,_,_,_]) (S' :=[_,_,_,_,_,_,_,_,_]) (fun _ m=>m)<| ?_
         exact di (R:=fun(y2:RX) (g11:Nat)=>[(11,.pointer (some ⟨g11,0,none⟩))]) (X1:=fun(y2:RX) (g11:Nat)=>[aJ g11 39 y2.cs]) (S1:=fun(y2:RX) (g11:Nat)=>[dH y2]) (I:=fun(y2:RX) (g11:Nat)=>y2.d=(x.d.put (bc k6)).1) y2 g11 ⟨rfl,rfl,rfl,rfl,rfl,rfl,rfl,rfl,rfl,rfl,rfl,trivial⟩ [1,1,1] rfl [0,3,4,5,6,7,8] rfl hyd2
        ·refine fA (aP iJ (fun g11=>⟨(fun _=>wk [2,2] [2,3,4,5,6,7] rfl rfl), ?_⟩))
         refine fA (aq rfl Tryz.call26 (kd hDo (by omega) hc_x hcl (by omega)) [] rfl [2,0,7] rfl ?_)
         rintro _ _ _ ⟨y2,rfl,rfl,rfl,hyd2⟩
         refine⟨(fun _=>wk [2,2] [3,4,5,6,7,8] rfl rfl), ?_⟩
         refine bW (aa rfl)<|bW (au rfl rfl)<|bW (au rfl rfl)<|bW (au rfl rfl)<| ?_
         refine dV (aI 0 rfl rfl rfl bz rfl bO rfl ⟨(fun h=>absurd h (by decide)), ?_⟩)
         refine dV (aI 1 rfl rfl rfl bp hp32 aR rfl ⟨(fun h=>absurd h (by decide)), ?_⟩)
         refine bW (ab rfl)<|eH<|al (ρ' :=[(11,_),(41,_),(10,_),(9,_),(29,_),(8,_),(7,_),(6,_),(0,_),(1,_),(2,_)]) ⟨rfl,rfl,rfl,rfl,rfl,rfl,rfl,rfl,rfl,rfl,rfl,trivial⟩<|ak (X' :=[_,_,_,_]) (S' :=[_,_,_,_,_,_,_,_,_]) (fun _ m=>m)<| ?_
         exact di (R:=fun(y2:RX) (g11:Nat)=>[(11,.pointer (some ⟨g11,0,none⟩))]) (X1:=fun(y2:RX) (g11:Nat)=>[aJ g11 39 y2.cs]) (S1:=fun(y2:RX) (g11:Nat)=>[dH y2]) (I:=fun(y2:RX) (g11:Nat)=>y2.d=(x.d.put (bc k6)).1) y2 g11 ⟨rfl,rfl,rfl,rfl,rfl,rfl,rfl,rfl,rfl,rfl,rfl,trivial⟩ [1,1,1] rfl [0,3,4,5,6,7,8] rfl hyd2
       ·refine fA (aP iJ (fun g11=>⟨(fun _=>wk [2,2] [0,1,2,3,4,5] rfl rfl), ?_⟩))
        refine fA (aq rfl Tryz.call27 (ly hz hk6 hk6l) [] rfl [] rfl ?_)
        rintro _ _ _ ⟨v,rfl,rfl,rfl⟩
        refine⟨(fun _=>wk [3,3] [0,1,2,3,4,5] rfl rfl), ?_⟩
        refine fq (fun m=>(m.own 0 rfl).slice) ?_
        rintro⟨A_x,c_x,rfl,hc_x⟩
        refine fq (fun m=>(m.ord 0 rfl).2.1) fun hA_x=> ?_
        refine k7 (fun w m=>(m.perm (ar [0] _ [_] _ rfl)).freeze) ?_
        refine k7 (fun w m=>m.kM 0 rfl .own) ?_
        refine fA (aq rfl Tryz.call26 (kd hDo (by omega) hc_x hcl (by omega)) [] rfl [2,0,7] rfl ?_)
        rintro _ _ _ ⟨y2,rfl,rfl,rfl,hyd2⟩
        refine⟨(fun _=>wk [2,2] [3,4,5,6,7,8] rfl rfl), ?_⟩
        refine bW (aa rfl)<|bW (au rfl rfl)<|bW (au rfl rfl)<|bW (au rfl rfl)<| ?_
        refine dV (aI 0 rfl rfl rfl bz rfl bO rfl ⟨(fun h=>absurd h (by decide)), ?_⟩)
        refine dV (aI 1 rfl rfl rfl bp hp32 aR rfl ⟨(fun h=>absurd h (by decide)), ?_⟩)
        refine bW (ab rfl)<|eH<|al (ρ' :=[(11,_),(41,_),(10,_),(9,_),(29,_),(8,_),(7,_),(6,_),(0,_),(1,_),(2,_)]) ⟨rfl,rfl,rfl,rfl,rfl,rfl,rfl,rfl,rfl,rfl,rfl,trivial⟩<|ak (X' :=[_,_,_,_]) (S' :=[_,_,_,_,_,_,_,_,_]) (fun _ m=>m)<| ?_
        exact di (R:=fun(y2:RX) (g11:Nat)=>[(11,.pointer (some ⟨g11,0,none⟩))]) (X1:=fun(y2:RX) (g11:Nat)=>[aJ g11 39 y2.cs]) (S1:=fun(y2:RX) (g11:Nat)=>[dH y2]) (I:=fun(y2:RX) (g11:Nat)=>y2.d=(x.d.put (bc k6)).1) y2 g11 ⟨rfl,rfl,rfl,rfl,rfl,rfl,rfl,rfl,rfl,rfl,rfl,trivial⟩ [1,1,1] rfl [0,3,4,5,6,7,8] rfl hyd2
    ·refine ag<|ah<|aj<|hy (fun _=>aa rfl)<|hy (fun m=>yV (a7 rfl cD bz rfl ((m.aX 0 rfl).az)) ((rfl:_=Value.agg y2.cs.toArray)))<|hy (fun _=>bd rfl)<|hy (fun _=>aL rfl kG (by decide))<| ?_
     refine cH (oq 1 rfl rfl rfl bz rfl bO (show 6≤6 from Nat.le_refl 6) ?_)
     refine aU (fun w m=>m.bU 0 rfl (show _=aJ g33 121 (.pointer (some ⟨g,0,none⟩)::y2.cs)from congrArg (aJ _ _) q8)) ?_
     refine ai<|al (ρ' :=[(11,_),(41,_),(10,_),(9,_),(29,_),(8,_),(7,_),(6,_),(0,_),(1,_),(2,_)]) ⟨rfl,rfl,rfl,rfl,rfl,rfl,rfl,rfl,rfl,rfl,rfl,trivial⟩<|ak (X' :=[_,_,_]) (S' :=[_,_,_,_,_,_,_]) (fun _ m=>m)<|ag<|qe [0,0] [0,1,2,3,4,5,6] rfl rfl [8,9] [(0,some 1),(1,some 1),(2,some 1),(3,some 1),(4,some 0),(5,some 0),(6,some 0),(7,some 0),(8,none),(9,none)] (by kernel_rfl) (by kernel_rfl) rfl 99<|an (aa rfl)<|an (bd rfl)<|an (aL rfl fx (by decide))<|cm (fun m=>aw rfl kX (aA (m.aX 0 rfl) (i:=0) rfl))<|an (aa rfl)<|an (aa rfl)<|an (aM rfl rfl Tryz.underlying44 tG hA_rl rfl (by omega))<|cm (fun m=>aw rfl fG ((m.rd 3 rfl).cell (lN hil)))<| ?_
     refine eb (aq rfl Tryz.call27 (ly hz hk6 hk6l) [] rfl [] rfl ?_)
     rintro _ _ _ ⟨v,rfl,rfl,rfl⟩
     refine⟨(fun _=>wk [1,1] [0,1,2,3,4,5,6] rfl rfl), ?_⟩
     refine cd (fun m=>(m.own 0 rfl).slice) ?_
     rintro⟨A_x,c_x,rfl,hc_x⟩
     refine cd (fun m=>(m.ord 0 rfl).2.1) fun hA_x=> ?_
     refine eb (cI rfl Tryz.call28 (Fy hD (by omega) hc_x hcl (by omega)) [3] rfl (.x 0 rfl .own (.s 6 rfl .nil)) ?_)
     rintro _ _ _ ⟨st1,rfl,rfl,rfl,hD2⟩
     refine⟨rfl, ?_⟩
     refine⟨(fun _=>wk [2,2] [0,1,2,3,4,5,6] rfl rfl), ?_⟩
     refine bF<|al (ρ' :=[(11,_),(41,_),(10,_),(9,_),(29,_),(8,_),(7,_),(6,_),(0,_),(1,_),(2,_)]) ⟨rfl,rfl,rfl,rfl,rfl,rfl,rfl,rfl,rfl,rfl,rfl,trivial⟩<|ak (X' :=[_,_,_,_]) (S' :=[_,_,_,_,_,_,_]) (fun _ m=>m)<|aS<|ag<|aj<|hy (fun _=>aa rfl)<|hy (fun _=>aN rfl rfl (bE (by omega) (by omega)))<|hy (fun _=>ab rfl)<|ai<|al (ρ' :=[(10,_),(11,_),(41,_),(9,_),(29,_),(8,_),(7,_),(6,_),(0,_),(1,_),(2,_)]) ⟨rfl,rfl,rfl,rfl,rfl,rfl,rfl,rfl,rfl,rfl,rfl,trivial⟩<| ?_
     rw[←hyd2]at hD2
     have hB2:Bd y2.d (4*(i+1)) (4*(i+1)):=by rw[hyd2];exact(hB.put _).le (by omega) (by omega)
     have hE2:y2.d=eK (RD.new 2000) (zl.take (i+1)):=by rw[hyd2,sd hil,←hE,hcz]
     refine eZ (i+1) st1 y2 ⟨rfl,rfl,rfl,rfl,rfl,rfl,rfl,rfl,rfl,trivial⟩ [2,0] rfl [0,2,3,4,5,6] rfl (⟨by omega,by omega,hE2,hD2.le (by omega),hB2⟩) (by omega)
   ·refine bL<|ao<|ao<|aC<| ?_
    have htm:=gP (l:=zl) (i:=i) (n:=6) (by omega) (by omega) hi6
    rw[htm]at hE
    exact di (R:=fun(st1:cF) (x1:RX)=>[]) (X1:=fun(st1:cF) (x1:RX)=>[aJ g33 121 (.pointer (some ⟨g,0,none⟩)::x1.cs),bn g st1]) (S1:=fun(st1:cF) (x1:RX)=>[dH x1]) (I:=fun(st1:cF) (x1:RX)=>x1.d=eK (RD.new 2000) (zl.take 6)∧DS st1 x1.d 24∧Bd x1.d 24 24) st x ⟨rfl,rfl,rfl,rfl,rfl,rfl,rfl,rfl,trivial⟩ [0,0] rfl [0,1,2,3,4,5] rfl (⟨hE,hD.le (by omega),hB.le (by omega) (by omega)⟩)
  ·refine bu rfl rfl rfl (by decide)<|bu rfl rfl rfl (by decide)<|hy (fun _=>bN rfl rfl)<|ai<|al (ρ' :=[(41,_),(10,_),(9,_),(29,_),(8,_),(7,_),(6,_),(0,_),(1,_),(2,_)]) ⟨rfl,rfl,rfl,rfl,rfl,rfl,rfl,rfl,rfl,rfl,trivial⟩<|ag<| ?_
   refine dO rfl (rfl) ?_
   refine bL<|ao<|ao<|aC<| ?_
   have htm:=gP (l:=zl) (i:=i) (n:=6) (by omega) (by omega) hi6
   rw[htm]at hE
   exact di (R:=fun(st1:cF) (x1:RX)=>[]) (X1:=fun(st1:cF) (x1:RX)=>[aJ g33 121 (.pointer (some ⟨g,0,none⟩)::x1.cs),bn g st1]) (S1:=fun(st1:cF) (x1:RX)=>[dH x1]) (I:=fun(st1:cF) (x1:RX)=>x1.d=eK (RD.new 2000) (zl.take 6)∧DS st1 x1.d 24∧Bd x1.d 24 24) st x ⟨rfl,rfl,rfl,rfl,rfl,rfl,rfl,rfl,trivial⟩ [0,0] rfl [0,1,2,3,4,5] rfl (⟨hE,hD.le (by omega),hB.le (by omega) (by omega)⟩)
 ·refine ag<|ah<|ah<|aj<|hy (fun _=>ab rfl)<|ai<|ag<| ?_
  refine rL (fun(st2:cF) (x2:RX)=>[]) (fun(st2:cF) (x2:RX)=>[aJ g33 121 (.pointer (some ⟨g,0,none⟩)::x2.cs),bn g st2]) (fun(st2:cF) (x2:RX)=>[dH x2]) (fun(st2:cF) (x2:RX)=>x2.d=iI (eK (RD.new 2000) (zl.take 6)) (zb.take 3) (bb.take 30)∧DS st2 x2.d 27∧Bd x2.d 27 27) [(9,_),(29,_),(8,_),(7,_),(6,_),(0,_),(1,_),(2,_)] ⟨rfl,rfl,rfl,rfl,rfl,rfl,rfl,rfl,trivial⟩ [0,0] rfl ?_ (fun st2 x2 ⟨hE2,hD2,hB2⟩=> ?_)
  ·refine aK<| ?_
   refine fm (fun i st x=>m-i) (fun i st x=>[(14,.int .i64 (i:Nat))]) (fun i st x=>[aJ g33 121 (.pointer (some ⟨g,0,none⟩)::x.cs),bn g st]) (fun i st x=>[dH x]) (fun i st x=>i≤m∧i≤3∧x.d=iI (eK (RD.new 2000) (zl.take 6)) (zb.take i) (bb.take 30)∧DS st x.d (24+i)∧Bd x.d (24+i) (24+i)) 0 st1 x1 [(9,_),(29,_),(8,_),(7,_),(6,_),(0,_),(1,_),(2,_)] ⟨rfl,rfl,rfl,rfl,rfl,rfl,rfl,rfl,trivial⟩ [0,0] rfl [0] rfl (⟨Nat.zero_le _,Nat.zero_le _,hE1,hD1,hB1⟩) ⟨rfl,trivial⟩ (fun i st x ⟨hin,hi6,hE,hD,hB⟩=> ?_)
   refine ah<|ah<|aj<|hy (fun _=>aa rfl)<|hy (fun _=>aa rfl)<|hy (fun _=>aW rfl Tryz.underlying44)<|hy (fun _=>bA rfl rfl)<|hy (fun _=>aa rfl)<| ?_
   refine er 76 rfl (fun h1=> ?_) (fun h1=> ?_)
   ·refine de (o:=_) rfl rfl rfl (fun _=>aa rfl)<|de (o:=_) rfl rfl rfl (fun _=>bA rfl rfl)<|hy (fun _=>bK rfl rfl)<|ai<|al (ρ' :=[(79,_),(14,_),(9,_),(29,_),(8,_),(7,_),(6,_),(0,_),(1,_),(2,_)]) ⟨rfl,rfl,rfl,rfl,rfl,rfl,rfl,rfl,rfl,rfl,trivial⟩<|ag<| ?_
    refine cC rfl (fun h2=> ?_) (fun h2=> ?_)
    ·obtain⟨k6,hk6,hk6l⟩:=xF (zb.getD i 0)
     have hil:i<zb.length:=by omega
     have hz:=hzb.at hil
     have hm:=bj (bc k6)
     have hDo:x.d.ok (24+i):=⟨st,hD⟩
     have hcz:=kU hk6
     have hbl:(bb.take 30).length≤30:=by rw[hbt];omega
     refine aD<|ag<|ah<|aK<|ah<|aj<|hy (fun _=>aa rfl)<|hy (fun _=>aa rfl)<|hy (fun _=>aM rfl rfl Tryz.underlying44 tG hA_rb rfl (by omega))<|hy (fun m=>aw rfl fG ((m.rd 4 rfl).cell (lN hil)))<| ?_
     refine hx (aq rfl Tryz.call30 (og hz hk6 hk6l) [] rfl [6] rfl ?_)
     rintro _ _ _ ⟨rfl,rfl,rfl⟩
     refine hx (aq rfl Tryz.call29 (rT hm) [] rfl [] rfl ?_)
     rintro _ _ _ ⟨rfl,rfl,rfl⟩
     refine hy (fun _=>ab rfl)<|ai<|al (ρ' :=[(15,_),(79,_),(14,_),(9,_),(29,_),(8,_),(7,_),(6,_),(0,_),(1,_),(2,_)]) ⟨rfl,rfl,rfl,rfl,rfl,rfl,rfl,rfl,rfl,rfl,rfl,trivial⟩<|ak (X' :=[_,_]) (S' :=[_,_,_,_,_,_,_]) (fun _ m=>m)<|ag<|ah<| ?_
     have hbs:=s9 (d:=eK (RD.new 2000) (zl.take 6)) (bb:=bb.take 30) hil
     rw[hcz,←hE]at hbs
     generalize hpp:aF (ba (bc k6))=pp at hbs ⊢
     have hpl:pp.length=69:=by rw[←hpp,dP hm]
     refine rL (fun(y2:RX) (g16:Nat)=>[(16,.pointer (some ⟨g16,0,none⟩))]) (fun(y2:RX) (g16:Nat)=>[aJ g16 39 y2.cs]) (fun(y2:RX) (g16:Nat)=>[dH y2]) (fun(y2:RX) (g16:Nat)=>y2.d=x.d.write pp (bb.take 30)) [(15,_),(79,_),(14,_),(9,_),(29,_),(8,_),(7,_),(6,_),(0,_),(1,_),(2,_)] ⟨rfl,rfl,rfl,rfl,rfl,rfl,rfl,rfl,rfl,rfl,rfl,trivial⟩ [] rfl ?_ (fun y2 g16 hyd2=> ?_)
     ·refine wb [6,7,8,12,13] (.take 0 4<|.take 1 4<|.take 2 4<|.take 3 4<|.take 4 4<|.take 5 4<|.alt 6 (.alt 7 (.alt 8 (.take 9 4<|.take 10 4<|.take 11 5<|.alt 12 (.alt 13 (.take 14 5<|.done) (.stop)) (.stop)) (.alt 12 (.alt 8 (.take 9 4<|.take 10 4<|.take 11 5<|.alt 13 (.take 14 5<|.done) (.stop)) (.stop)) (.stop))) (.alt 12 (.alt 7 (.alt 8 (.take 9 4<|.take 10 4<|.take 11 5<|.alt 13 (.take 14 5<|.done) (.stop)) (.stop)) (.stop)) (.stop))) (.alt 12 (.alt 6 (.alt 7 (.alt 8 (.take 9 4<|.take 10 4<|.take 11 5<|.alt 13 (.take 14 5<|.done) (.stop)) (.stop)) (.stop)) (.stop)) (.stop))) (by kernel_rfl) (by kernel_rfl) rfl 4<|bW (aa rfl)<|bW (bd rfl)<|bW (aL rfl kG (by decide))<|F1 (fun m=>yV (a7 rfl cD bz rfl (zE (m.aX 0 rfl))) ((rfl:_=Value.agg x.cs.toArray)))<|bW (aa rfl)<|bW (aa rfl)<| ?_
      refine eh ?_ ?_
      ·refine fA (aq rfl Tryz.call32 (CN hkc hkb (m:=30)) [] rfl [5] rfl ?_)
       rintro _ _ _ ⟨v,rfl,rfl,rfl⟩
       refine⟨(fun _=>wk [1,1] [0,1,2,3,4,5,6] rfl rfl), ?_⟩
       refine fq (fun m=>(m.own 0 rfl).slice) ?_
       rintro⟨A_x,c_x,rfl,hc_x⟩
       refine fq (fun m=>(m.ord 0 rfl).2.1) fun hA_x=> ?_
       refine eh ?_ ?_
       ·refine fA<|mC (fun m=>jW rfl Tryz.underlying27 Tryz.underlying5 Tryz.underlying9 (m.ord 0 rfl))<|And.intro (fun _=>wk [1,1] [0,1,2,3,4,5,6] rfl rfl)<| ?_
        refine eh ?_ ?_
        ·refine fA (aq rfl Tryz.call31 (mg hDo.ug (by omega) (by omega) (by omega) (p:=pp) (bb:=(bb.take 30))) [] rfl [0] rfl ?_)
         rintro _ _ _ ⟨y2,rfl,rfl,rfl,hyd2⟩
         refine⟨(fun _=>wk [1,1] [1,2,3,4,5,6,7] rfl rfl), ?_⟩
         refine bW (aa rfl)<|bW (au rfl rfl)<|bW (au rfl rfl)<| ?_
         refine fA (aP iJ (fun g16=>⟨(fun _=>wk [2,2] [1,2,3,4,5,6,7] rfl rfl), ?_⟩))
         refine dV (aI 0 rfl rfl rfl bz rfl bO rfl ⟨(fun h=>absurd h (by decide)), ?_⟩)
         refine bW (ab rfl)<|eH<|al (ρ' :=[(16,_),(15,_),(79,_),(14,_),(9,_),(29,_),(8,_),(7,_),(6,_),(0,_),(1,_),(2,_)]) ⟨rfl,rfl,rfl,rfl,rfl,rfl,rfl,rfl,rfl,rfl,rfl,rfl,trivial⟩<|ak (X' :=[_,_,_,_]) (S' :=[_,_,_,_,_,_,_,_]) (fun _ m=>m)<| ?_
         exact di (R:=fun(y2:RX) (g16:Nat)=>[(16,.pointer (some ⟨g16,0,none⟩))]) (X1:=fun(y2:RX) (g16:Nat)=>[aJ g16 39 y2.cs]) (S1:=fun(y2:RX) (g16:Nat)=>[dH y2]) (I:=fun(y2:RX) (g16:Nat)=>y2.d=x.d.write pp (bb.take 30)) y2 g16 ⟨rfl,rfl,rfl,rfl,rfl,rfl,rfl,rfl,rfl,rfl,rfl,rfl,trivial⟩ [0,1,1] rfl [0,1,2,3,4,5,6,7] rfl hyd2
        ·refine fA (aP iJ (fun g16=>⟨(fun _=>wk [2,2] [0,1,2,3,4,5,6] rfl rfl), ?_⟩))
         refine fA (aq rfl Tryz.call31 (mg hDo.ug (by omega) (by omega) (by omega) (p:=pp) (bb:=(bb.take 30))) [] rfl [0] rfl ?_)
         rintro _ _ _ ⟨y2,rfl,rfl,rfl,hyd2⟩
         refine⟨(fun _=>wk [2,2] [1,2,3,4,5,6,7] rfl rfl), ?_⟩
         refine bW (aa rfl)<|bW (au rfl rfl)<|bW (au rfl rfl)<| ?_
         refine dV (aI 0 rfl rfl rfl bz rfl bO rfl ⟨(fun h=>absurd h (by decide)), ?_⟩)
         refine bW (ab rfl)<|eH<|al (ρ' :=[(16,_),(15,_),(79,_),(14,_),(9,_),(29,_),(8,_),(7,_),(6,_),(0,_),(1,_),(2,_)]) ⟨rfl,rfl,rfl,rfl,rfl,rfl,rfl,rfl,rfl,rfl,rfl,rfl,trivial⟩<|ak (X' :=[_,_,_,_]) (S' :=[_,_,_,_,_,_,_,_]) (fun _ m=>m)<| ?_
         exact di (R:=fun(y2:RX) (g16:Nat)=>[(16,.pointer (some ⟨g16,0,none⟩))]) (X1:=fun(y2:RX) (g16:Nat)=>[aJ g16 39 y2.cs]) (S1:=fun(y2:RX) (g16:Nat)=>[dH y2]) (I:=fun(y2:RX) (g16:Nat)=>y2.d=x.d.write pp (bb.take 30)) y2 g16 ⟨rfl,rfl,rfl,rfl,rfl,rfl,rfl,rfl,rfl,rfl,rfl,rfl,trivial⟩ [0,1,1] rfl [0,1,2,3,4,5,6,7] rfl hyd2
       ·refine fA (aP iJ (fun g16=>⟨(fun _=>wk [2,2] [0,1,2,3,4,5,6] rfl rfl), ?_⟩))
        refine fA<|mC (fun m=>jW rfl Tryz.underlying27 Tryz.underlying5 Tryz.underlying9 (m.ord 1 rfl))<|And.intro (fun _=>wk [2,2] [0,1,2,3,4,5,6] rfl rfl)<| ?_
        refine fA (aq rfl Tryz.call31 (mg hDo.ug (by omega) (by omega) (by omega) (p:=pp) (bb:=(bb.take 30))) [] rfl [0] rfl ?_)
        rintro _ _ _ ⟨y2,rfl,rfl,rfl,hyd2⟩
        refine⟨(fun _=>wk [2,2] [1,2,3,4,5,6,7] rfl rfl), ?_⟩
        refine bW (aa rfl)<|bW (au rfl rfl)<|bW (au rfl rfl)<| ?_
        refine dV (aI 0 rfl rfl rfl bz rfl bO rfl ⟨(fun h=>absurd h (by decide)), ?_⟩)
        refine bW (ab rfl)<|eH<|al (ρ' :=[(16,_),(15,_),(79,_),(14,_),(9,_),(29,_),(8,_),(7,_),(6,_),(0,_),(1,_),(2,_)]) ⟨rfl,rfl,rfl,rfl,rfl,rfl,rfl,rfl,rfl,rfl,rfl,rfl,trivial⟩<|ak (X' :=[_,_,_,_]) (S' :=[_,_,_,_,_,_,_,_]) (fun _ m=>m)<| ?_
        exact di (R:=fun(y2:RX) (g16:Nat)=>[(16,.pointer (some ⟨g16,0,none⟩))]) (X1:=fun(y2:RX) (g16:Nat)=>[aJ g16 39 y2.cs]) (S1:=fun(y2:RX) (g16:Nat)=>[dH y2]) (I:=fun(y2:RX) (g16:Nat)=>y2.d=x.d.write pp (bb.take 30)) y2 g16 ⟨rfl,rfl,rfl,rfl,rfl,rfl,rfl,rfl,rfl,rfl,rfl,rfl,trivial⟩ [0,1,1] rfl [0,1,2,3,4,5,6,7] rfl hyd2
      ·refine fA (aP iJ (fun g16=>⟨(fun _=>wk [1,1] [0,1,2,3,4,5,6] rfl rfl), ?_⟩))
       refine fA (aq rfl Tryz.call32 (CN hkc hkb (m:=30)) [] rfl [5] rfl ?_)
       rintro _ _ _ ⟨v,rfl,rfl,rfl⟩
       refine⟨(fun _=>wk [2,2] [0,1,2,3,4,5,6] rfl rfl), ?_⟩
       refine fq (fun m=>(m.own 0 rfl).slice) ?_
       rintro⟨A_x,c_x,rfl,hc_x⟩
       refine fq (fun m=>(m.ord 0 rfl).2.1) fun hA_x=> ?_
       refine fA<|mC (fun m=>jW rfl Tryz.underlying27 Tryz.underlying5 Tryz.underlying9 (m.ord 0 rfl))<|And.intro (fun _=>wk [2,2] [0,1,2,3,4,5,6] rfl rfl)<| ?_
       refine fA (aq rfl Tryz.call31 (mg hDo.ug (by omega) (by omega) (by omega) (p:=pp) (bb:=(bb.take 30))) [] rfl [0] rfl ?_)
       rintro _ _ _ ⟨y2,rfl,rfl,rfl,hyd2⟩
       refine⟨(fun _=>wk [2,2] [1,2,3,4,5,6,7] rfl rfl), ?_⟩
       refine bW (aa rfl)<|bW (au rfl rfl)<|bW (au rfl rfl)<| ?_
       refine dV (aI 1 rfl rfl rfl bz rfl bO rfl ⟨(fun h=>absurd h (by decide)), ?_⟩)
       refine bW (ab rfl)<|eH<|al (ρ' :=[(16,_),(15,_),(79,_),(14,_),(9,_),(29,_),(8,_),(7,_),(6,_),(0,_),(1,_),(2,_)]) ⟨rfl,rfl,rfl,rfl,rfl,rfl,rfl,rfl,rfl,rfl,rfl,rfl,trivial⟩<|ak (X' :=[_,_,_,_]) (S' :=[_,_,_,_,_,_,_,_]) (fun _ m=>m)<| ?_
       exact di (R:=fun(y2:RX) (g16:Nat)=>[(16,.pointer (some ⟨g16,0,none⟩))]) (X1:=fun(y2:RX) (g16:Nat)=>[aJ g16 39 y2.cs]) (S1:=fun(y2:RX) (g16:Nat)=>[dH y2]) (I:=fun(y2:RX) (g16:Nat)=>y2.d=x.d.write pp (bb.take 30)) y2 g16 ⟨rfl,rfl,rfl,rfl,rfl,rfl,rfl,rfl,rfl,rfl,rfl,rfl,trivial⟩ [0,1,1] rfl [0,1,2,3,4,5,6,7] rfl hyd2
     ·refine ag<|ah<|aj<|hy (fun _=>aa rfl)<|hy (fun m=>yV (a7 rfl cD bz rfl ((m.aX 0 rfl).az)) ((rfl:_=Value.agg y2.cs.toArray)))<|hy (fun _=>bd rfl)<|hy (fun _=>aL rfl kG (by decide))<| ?_
      refine cH (oq 1 rfl rfl rfl bz rfl bO (show 6≤6 from Nat.le_refl 6) ?_)
      refine aU (fun w m=>m.bU 0 rfl (show _=aJ g33 121 (.pointer (some ⟨g,0,none⟩)::y2.cs)from congrArg (aJ _ _) q8)) ?_
      refine ai<|al (ρ' :=[(16,_),(15,_),(79,_),(14,_),(9,_),(29,_),(8,_),(7,_),(6,_),(0,_),(1,_),(2,_)]) ⟨rfl,rfl,rfl,rfl,rfl,rfl,rfl,rfl,rfl,rfl,rfl,rfl,trivial⟩<|ak (X' :=[_,_,_]) (S' :=[_,_,_,_,_,_,_,_]) (fun _ m=>m)<|ag<|qe [0,0] [0,1,2,3,4,5,6,7] rfl rfl [6,7] [(0,some 1),(1,some 1),(2,some 1),(3,some 1),(4,some 1),(5,some 0),(6,none),(7,none)] (by kernel_rfl) (by kernel_rfl) rfl 99<|an (aa rfl)<|an (bd rfl)<|an (aL rfl fx (by decide))<|cm (fun m=>aw rfl kX (aA (m.aX 0 rfl) (i:=0) rfl))<|an (aa rfl)<|an (aa rfl)<| ?_
      refine eb (aq rfl Tryz.call32 (CN hkc hkb (m:=30)) [] rfl [6] rfl ?_)
      rintro _ _ _ ⟨v,rfl,rfl,rfl⟩
      refine⟨(fun _=>wk [1,1] [0,1,2,3,4,5,6,7] rfl rfl), ?_⟩
      refine cd (fun m=>(m.own 0 rfl).slice) ?_
      rintro⟨A_x,c_x,rfl,hc_x⟩
      refine cd (fun m=>(m.ord 0 rfl).2.1) fun hA_x=> ?_
      refine eb (cI rfl Tryz.call33 (uQ hD (by omega) hbt (Nat.le_trans (Nat.min_le_right _ _) (by decide)) (p:=pp) (l:=(bb.take 30))) [3] rfl (.x 0 rfl .own .nil) ?_)
      rintro _ _ _ ⟨st12,rfl,rfl,rfl,hD2⟩
      refine⟨rfl, ?_⟩
      refine⟨(fun _=>wk [2,2] [0,1,2,3,4,5,6,7] rfl rfl), ?_⟩
      refine bF<|al (ρ' :=[(16,_),(15,_),(79,_),(14,_),(9,_),(29,_),(8,_),(7,_),(6,_),(0,_),(1,_),(2,_)]) ⟨rfl,rfl,rfl,rfl,rfl,rfl,rfl,rfl,rfl,rfl,rfl,rfl,trivial⟩<|ak (X' :=[_,_,_,_]) (S' :=[_,_,_,_,_,_,_,_]) (fun _ m=>m)<|aS<|ag<|aj<|hy (fun _=>aa rfl)<|hy (fun _=>aN rfl rfl (bE (by omega) (by omega)))<|hy (fun _=>ab rfl)<|ai<|al (ρ' :=[(14,_),(16,_),(15,_),(79,_),(9,_),(29,_),(8,_),(7,_),(6,_),(0,_),(1,_),(2,_)]) ⟨rfl,rfl,rfl,rfl,rfl,rfl,rfl,rfl,rfl,rfl,rfl,rfl,trivial⟩<| ?_
      rw[←hyd2]at hD2
      have hB2:Bd y2.d (24+(i+1)) (24+(i+1)):=by rw[hyd2];exact(hB.write (by omega)).le (by omega) (by omega)
      have hE2:y2.d=iI (eK (RD.new 2000) (zl.take 6)) (zb.take (i+1)) (bb.take 30):=by rw[hyd2,hbs]
      refine eZ (i+1) _ y2 ⟨rfl,rfl,rfl,rfl,rfl,rfl,rfl,rfl,rfl,trivial⟩ [2,0] rfl [0,2,3,4,5,6,7] rfl (⟨by omega,by omega,hE2,hD2.le (by omega),hB2⟩) (by omega)
    ·refine bL<|ao<|ao<|aC<| ?_
     have htm:=gP (l:=zb) (i:=i) (n:=3) (by omega) (by omega) hi6
     rw[htm]at hE
     exact di (R:=fun(st2:cF) (x2:RX)=>[]) (X1:=fun(st2:cF) (x2:RX)=>[aJ g33 121 (.pointer (some ⟨g,0,none⟩)::x2.cs),bn g st2]) (S1:=fun(st2:cF) (x2:RX)=>[dH x2]) (I:=fun(st2:cF) (x2:RX)=>x2.d=iI (eK (RD.new 2000) (zl.take 6)) (zb.take 3) (bb.take 30)∧DS st2 x2.d 27∧Bd x2.d 27 27) st x ⟨rfl,rfl,rfl,rfl,rfl,rfl,rfl,rfl,trivial⟩ [0,0] rfl [0,1,2,3,4,5,6] rfl (⟨hE,hD.le (by omega),hB.le (by omega) (by omega)⟩)
   ·refine bu rfl rfl rfl (by decide)<|bu rfl rfl rfl (by decide)<|hy (fun _=>bN rfl rfl)<|ai<|al (ρ' :=[(79,_),(14,_),(9,_),(29,_),(8,_),(7,_),(6,_),(0,_),(1,_),(2,_)]) ⟨rfl,rfl,rfl,rfl,rfl,rfl,rfl,rfl,rfl,rfl,trivial⟩<|ag<| ?_
    refine dO rfl (rfl) ?_
    refine bL<|ao<|ao<|aC<| ?_
    have htm:=gP (l:=zb) (i:=i) (n:=3) (by omega) (by omega) hi6
    rw[htm]at hE
    exact di (R:=fun(st2:cF) (x2:RX)=>[]) (X1:=fun(st2:cF) (x2:RX)=>[aJ g33 121 (.pointer (some ⟨g,0,none⟩)::x2.cs),bn g st2]) (S1:=fun(st2:cF) (x2:RX)=>[dH x2]) (I:=fun(st2:cF) (x2:RX)=>x2.d=iI (eK (RD.new 2000) (zl.take 6)) (zb.take 3) (bb.take 30)∧DS st2 x2.d 27∧Bd x2.d 27 27) st x ⟨rfl,rfl,rfl,rfl,rfl,rfl,rfl,rfl,trivial⟩ [0,0] rfl [0,1,2,3,4,5,6] rfl (⟨hE,hD.le (by omega),hB.le (by omega) (by omega)⟩)
  ·have hEe:x2.d.sync=fV zl zb bb:=by rw[hE2];rfl
   refine ag<|ah<|aj<|hy (fun _=>aa rfl)<|hy (fun _=>bd rfl)<|hy (fun _=>aL rfl kG (by decide))<|hy (fun m=>yV (a7 rfl cD bz rfl (zE (m.aX 0 rfl))) ((rfl:_=Value.agg x2.cs.toArray)))<| ?_
   refine hx (aq rfl Tryz.call99 (uj hD2.ug) [] rfl [0] rfl ?_)
   rintro _ _ _ ⟨y2,rfl,rfl,rfl,hyv⟩
   refine hy (fun _=>aa rfl)<|hy (fun _=>au rfl rfl)<|hy (fun _=>au rfl rfl)<| ?_
   refine hx (aP iJ (fun g18=> ?_))
   refine cH (aI 0 rfl rfl rfl bz rfl bO rfl ?_)
   refine hy (fun _=>ab rfl)<|ai<|al (ρ' :=[(18,_),(9,_),(29,_),(8,_),(7,_),(6,_),(0,_),(1,_),(2,_)]) ⟨rfl,rfl,rfl,rfl,rfl,rfl,rfl,rfl,rfl,trivial⟩<|ak (X' :=[_,_,_]) (S' :=[_,_,_,_,_,_,_,_]) (fun _ m=>m)<|ag<|ah<|aj<|hy (fun _=>aa rfl)<|hy (fun m=>yV (a7 rfl cD bz rfl ((m.aX 0 rfl).az)) ((rfl:_=Value.agg y2.cs.toArray)))<|hy (fun _=>bd rfl)<|hy (fun _=>aL rfl kG (by decide))<| ?_
   refine cH (oq 1 rfl rfl rfl bz rfl bO (show 6≤6 from Nat.le_refl 6) ?_)
   refine aU (fun w m=>m.bU 0 rfl (show _=aJ g33 121 (.pointer (some ⟨g,0,none⟩)::y2.cs)from congrArg (aJ _ _) q8)) ?_
   refine ai<|al (ρ' :=[(18,_),(9,_),(29,_),(8,_),(7,_),(6,_),(0,_),(1,_),(2,_)]) ⟨rfl,rfl,rfl,rfl,rfl,rfl,rfl,rfl,rfl,trivial⟩<|ak (X' :=[_,_,_]) (S' :=[_,_,_,_,_,_,_,_]) (fun _ m=>m)<|ag<|ah<|aj<|hy (fun _=>aa rfl)<|hy (fun _=>bd rfl)<|hy (fun _=>aL rfl fx (by decide))<|hy (fun m=>aw rfl kX (aA (m.aX 0 rfl) (i:=0) rfl))<| ?_
   refine hx (aq rfl Tryz.call110 (uA hD2) [2] rfl [] rfl ?_)
   rintro _ _ _ ⟨st12,rfl,rfl,rfl,hD3⟩
   refine ai<|al (ρ' :=[(18,_),(9,_),(29,_),(8,_),(7,_),(6,_),(0,_),(1,_),(2,_)]) ⟨rfl,rfl,rfl,rfl,rfl,rfl,rfl,rfl,rfl,trivial⟩<|ak (X' :=[_,_,_]) (S' :=[_,_,_,_,_,_,_,_]) (fun _ m=>m)<|ag<|ah<|aj<|hy (fun _=>aa rfl)<|hy (fun _=>ab rfl)<|ai<|al (ρ' :=[(6,_),(18,_),(9,_),(29,_),(8,_),(7,_),(0,_),(1,_),(2,_)]) ⟨rfl,rfl,rfl,rfl,rfl,rfl,rfl,rfl,rfl,trivial⟩<|ag<|aV<| ?_
   exact bh trivial rfl rfl [1,0] rfl [0] rfl ⟨g33,g,_,y2,rfl,rfl,rfl,⟨by rw[hyv,hEe],by rw[hyv];exact hD3.le (by omega),by rw[hyv];exact hB2.sync⟩⟩
end Go.Proofs.YtmibdabdlgmafaaGreatDoor
end
section
namespace Go.Proofs.YtmibdabdlgmafaaGreatDoor
open Go.Eng Go.Hx
theorem gX{d:RD}{x:List UInt8}:x∈bq d↔x.length=32∧lk d.seen (aF x)≠none:=by
 unfold bq
 rw[List.mem_filterMap]
 constructor
 ·rintro⟨p,hp,h⟩
  rw[←j7]at h
  have h2:=ew h
  refine⟨h2.1, ?_⟩
  rw[←h2.2]
  exact uz.2 hp
 ·rintro⟨h1,h2⟩
  exact⟨aF x,uz.1 h2,by
   have:lW (aF x)=some x:=by
    unfold lW
    rw[if_pos (dP h1),ik h1]
    exact oA h1
   exact this⟩
theorem Ai{d d' :RD}{nm:List UInt8}(h:d.pw≠0)(h' :d'.pw≠0)(e:lk d'.seen (aF nm)=lk d.seen (aF nm)):d'.eI nm=d.eI nm∧d'.o6 nm=d.o6 nm:=by
 have e2:(d'.seen[cr d'.seen (aF nm)]?).map (·.2)=(d.seen[cr d.seen (aF nm)]?).map (·.2):=by rw[fu,fu,e]
 have hE:d'.ca (aF nm)=d.ca (aF nm):=by
  unfold RD.ca
  rw[if_neg h,if_neg h']
  cases h1:d'.seen[cr d'.seen (aF nm)]? with
  |none=>
   rw[h1]at e2
   have:d.seen[cr d.seen (aF nm)]? =none:=by
    cases h2:d.seen[cr d.seen (aF nm)]? with
    |none=>rfl
    |some y=>rw[h2]at e2;cases e2
   rw[this]
  |some x=>
   rw[h1]at e2
   cases h2:d.seen[cr d.seen (aF nm)]? with
   |none=>rw[h2]at e2;cases e2
   |some y=>rw[if_neg (by simp),if_neg (by simp)]
 have hB:d'.ct (aF nm)=d.ct (aF nm):=by
  unfold RD.ct
  rw[if_neg h,if_neg h',e2]
 have ho:d'.wh nm=d.wh nm:=by unfold RD.wh;rw[hB]
 have hg:d'.eI nm=d.eI nm:=by unfold RD.eI;rw[hE,ho]
 refine⟨hg, ?_⟩
 unfold RD.o6
 rw[hg,ho]
structure EM(d0 d:RD)(ps:List (List UInt8)):Prop where
 seen:∀q,¬q∈ps→lk d.seen q=lk d0.seen q
 cp:∀q,¬q∈ps→lk d.cp q=lk d0.seen q
 waits:∀c∈d.waits,c.1=2∧c.2.1∈ps
theorem pd{l:List FP}{p q:List UInt8}(h:q≠p):lk (cU l p) q=lk l q:=by
 unfold cU
 rw[gM,if_neg h]
theorem EI{l:List FP}{p t b:List UInt8}{q:List UInt8}(h:q≠p):lk (dw l 2 p t b) q=lk l q:=by
 unfold dw
 rw[if_neg (by decide)]
 split
 ·rfl
 ·rw[if_pos rfl];exact pd h
theorem v8:∀(ns:List (List UInt8)) {d:RD},(b6 (cL ns++[cq]) d).2=0→(∀q,lk (b6 (cL ns++[cq]) d).1.seen q=if q∈ns.map aF then none else lk d.seen q)∧(b6 (cL ns++[cq]) d).1.cp=(b6 (cL ns++[cq]) d).1.seen∧(b6 (cL ns++[cq]) d).1.waits=[]
 | [],d,h=>by
  have h0:d.pw≠0:=fun e=>by
   change (b6 [cq] d).2=0 at h
   rw[b6]at h
   have:(cq d).2=6:=by show d.cR=6;rw[RD.cR,if_pos e]
   rw[if_pos (by rw[this];decide),this]at h
   exact absurd h (by decide)
  have e:(b6 (cL []++[cq]) d).1=d.sync:=by
   show(b6 [cq] d).1=_
   rw[b6]
   split <;> rfl
  rw[e]
  have es:d.sync={d with cp:=d.seen,waits:=[],pw:=dG d.pw}:=by rw[RD.sync,if_neg h0]
  rw[es]
  exact⟨fun q=>by rw[if_neg (by simp)],rfl,rfl⟩
 |nm::r,d,h=>by
  have hE:d.ca (aF nm)=0:=by
   refine Decidable.byContradiction fun hn=> ?_
   change (b6 (mQ (aF nm)::(cL r++[cq])) d).2=0 at h
   rw[b6,if_pos (by exact hn)]at h
   exact hn h
  have e:b6 (cL (nm::r)++[cq]) d=b6 (cL r++[cq]) (d.remove (aF nm)):=by
   show b6 (mQ (aF nm)::(cL r++[cq])) d=_
   rw[b6,if_neg (by show¬d.ca (aF nm)≠0;rw[hE];decide)]
   rfl
  rw[e]at h ⊢
  obtain⟨h1,h2⟩:=v8 r h
  refine⟨fun q=> ?_,h2⟩
  have hs:(d.remove (aF nm)).seen=cU d.seen (aF nm):=by
   rw[RD.remove,if_pos hE]
   show dw d.seen 2 (aF nm) [] []=_
   have h3:d.seen[cr d.seen (aF nm)]? ≠none:=fun e=>by
    unfold RD.ca at hE
    split at hE
    ·exact absurd hE (by decide)
    ·exact absurd hE (by decide)
   unfold dw
   rw[if_neg (by decide)]
   split
   ·next h4=>exact absurd h4 h3
   ·rw[if_pos rfl]
  rw[h1 q,hs,List.map_cons]
  by_cases hq:q∈r.map aF
  ·rw[if_pos hq,if_pos (List.mem_cons_of_mem _ hq)]
  ·rw[if_neg hq]
   by_cases hp:q=aF nm
   ·subst hp;rw[if_pos (List.mem_cons_self ..)];unfold cU;rw[gM,if_pos rfl]
   ·rw[if_neg (fun h=>(List.mem_cons.1 h).elim hp hq),pd hp]
theorem Cj:∀(ns:List (List UInt8)) {d:RD},d.pw=-1→(ns.map aF).Nodup→(∀nm∈ns,lk d.seen (aF nm)≠none)→(b6 (cL ns++[cq]) d).2=0∧(b6 (cL ns++[cq]) d).1.pw=-1
 | [],d,hp,_,_=>by
  show(b6 [cq] d).2=0∧_
  have e0:(cq d).2=0:=by show d.cR=0;rw[RD.cR,if_neg (by rw[hp];decide)]
  have e1:b6 (cL []++[cq]) d=(d.sync,0):=by
   show b6 [cq] d=_
   rw[b6,if_neg (by rw[e0];decide)];rfl
  rw[e1]
  refine⟨by show(b6 [cq] d).2=0;rw[show b6 [cq] d=(d.sync,0)from e1], ?_⟩
  show d.sync.pw=-1
  rw[RD.sync,if_neg (by rw[hp];decide)]
  show dG d.pw=-1
  rw[hp];rfl
 |nm::r,d,hp,hnd,hl=>by
  rw[List.map_cons,List.nodup_cons]at hnd
  have h0:=hl nm (List.mem_cons_self ..)
  have hE:d.ca (aF nm)=0:=by
   unfold RD.ca
   rw[if_neg (by rw[hp];decide),if_neg]
   intro e
   rw[←fu,e]at h0
   exact h0 rfl
  have hp2:(d.remove (aF nm)).pw=-1:=by
   rw[RD.remove,if_pos hE]
   show dG d.pw=-1
   rw[hp];rfl
  have e:b6 (cL (nm::r)++[cq]) d=b6 (cL r++[cq]) (d.remove (aF nm)):=by
   show b6 (mQ (aF nm)::(cL r++[cq])) d=_
   rw[b6,if_neg (by show¬d.ca (aF nm)≠0;rw[hE];decide)]
   rfl
  rw[e]
  refine Cj r hp2 hnd.2 fun x hx=> ?_
  have hne:aF x≠aF nm:=fun e=>hnd.1 (by rw[←e];exact List.mem_map_of_mem hx)
  have hk:EM d (d.remove (aF nm)) [aF nm]∨True:=.inr trivial
  have:lk (d.remove (aF nm)).seen (aF x)=lk d.seen (aF x):=by
   rw[RD.remove,if_pos hE]
   show lk (dw d.seen 2 (aF nm) [] []) (aF x)=_
   exact EI hne
  rw[this]
  exact hl x (List.mem_cons_of_mem _ hx)
theorem qT{ns:List (List UInt8)}(h:ns.Nodup)(h32:nV ns):(ns.map aF).Nodup:=by
 induction ns with
 |nil=>exact List.nodup_nil
 |cons a r ih=>
  rw[List.nodup_cons]at h
  rw[List.map_cons,List.nodup_cons]
  refine⟨fun hm=> ?_,ih h.2 (fun x hx=>h32 x (List.mem_cons_of_mem _ hx))⟩
  obtain⟨b,hb,e⟩:=List.mem_map.1 hm
  have:=gZ (h32 b (List.mem_cons_of_mem _ hb)) (h32 a (List.mem_cons_self ..)) e
  subst this
  exact h.1 hb
theorem ow{d:RD}{kp:List (List UInt8)}(hp:d.pw=-1)(hs:jZ d.seen)(hl:d.cp=d.seen)(hw:d.waits=[]):
  d.prune kp=((d.prune kp).1,(((ck (bq d) kp).length:Nat):Int),0)∧(d.prune kp).1.pw=-1∧(d.prune kp).1.cp=(d.prune kp).1.seen∧(d.prune kp).1.waits=[]∧
   ∀q,lk (d.prune kp).1.seen q=if q∈(ck (bq d) kp).map aF then none else lk d.seen q:=by
 have h0:¬d.pw=0:=by rw[hp];decide
 have hst:=eR hs
 have h32:nV (ck (bq d) kp):=qB (lK d)
 by_cases hn:ck (bq d) kp=[]
 ·have e:d.rm (ck (bq d) kp)=(d,0):=by unfold RD.rm;rw[if_pos hn]
  have e2:d.prune kp=(d,0,0):=by
   rw[pE h0 (by rw[e]),e,hn];rfl
  rw[e2,hn]
  exact⟨rfl,hp,hl,hw,fun q=>by rw[if_neg (by simp)]⟩
 ·have e:d.rm (ck (bq d) kp)=b6 (cL (ck (bq d) kp)++[cq]) d:=by unfold RD.rm;rw[if_neg hn]
  obtain⟨h1,h2⟩:=Cj (ck (bq d) kp) hp (qT (ju (jO hst)) h32) (fun nm hm=>(gX.1 (List.mem_filter.1 hm).1).2)
  obtain⟨h3,h4,h5⟩:=v8 _ h1
  have e2:=pE (kp:=kp) h0 (by rw[e];exact h1)
  rw[e]at e2
  rw[e2]
  exact⟨rfl,h2,h4,h5,h3⟩
theorem uw{d:RD}{kp:List (List UInt8)}(hp:d.pw=-1)(hs:jZ d.seen)(hl:d.cp=d.seen)(hw:d.waits=[])(hs2:jZ (d.prune kp).1.seen):bq (d.prune kp).1=(bq d).filter fun x=>decide (x∈kp):=by
 obtain⟨_,_,_,_,hlk⟩:=ow (kp:=kp) hp hs hl hw
 refine db.ext (eR hs2) ((eR hs).filter _) fun x=> ?_
 rw[List.mem_filter,gX,gX,hlk,decide_eq_true_eq]
 have hpl:∀y,y∈ck (bq d) kp↔(y.length=32∧lk d.seen (aF y)≠none)∧¬y∈kp:=fun y=>by
  unfold ck
  rw[List.mem_filter,gX,decide_eq_true_eq]
 constructor
 ·rintro⟨h1,h2⟩
  have hno:¬aF x∈(ck (bq d) kp).map aF:=fun hm=>h2 (if_pos hm)
  rw[if_neg hno]at h2
  refine⟨⟨h1,h2⟩,Decidable.byContradiction fun hk=>hno (List.mem_map_of_mem ((hpl x).2 ⟨⟨h1,h2⟩,hk⟩))⟩
 ·rintro⟨⟨h1,h2⟩,hk⟩
  refine⟨h1, ?_⟩
  rw[if_neg]
  ·exact h2
  ·intro hm
   obtain⟨y,hy,e⟩:=List.mem_map.1 hm
   have h3:=(hpl y).1 hy
   have:=gZ h3.1.1 h1 e
   subst this
   exact h3.2 hk
theorem sX{d:RD}{p l:List UInt8}(h:d.pw=-1):(d.write p l).pw=-1:=by
 unfold RD.write
 split
 ·show dG d.pw=-1;rw[h];rfl
 ·exact h
theorem wK{d:RD}{a c:List UInt8}(h:d.pw=-1):(d.rename a c).pw=-1:=by
 unfold RD.rename
 split
 ·show dG d.pw=-1;rw[h];rfl
 ·exact h
theorem qU{d:RD}(h:d.pw=-1):d.sync.pw=-1∧d.sync.cp=d.sync.seen∧d.sync.waits=[]:=by
 have e:d.sync={d with cp:=d.seen,waits:=[],pw:=dG d.pw}:=by rw[RD.sync,if_neg (by rw[h];decide)]
 rw[e]
 exact⟨by show dG d.pw=-1;rw[h];rfl,rfl,rfl⟩
theorem CI{d:RD}(h:d.pw=-1)(bb:List UInt8):(d.put bb).1.pw=-1:=by
 have hR:(d.gQ bb).1.pw=-1:=qv (P:=fun d=>d.pw=-1) _ _ (fun F hF d h=>by
  simp only[List.mem_cons,List.not_mem_nil,or_false]at hF
  rcases hF with rfl|rfl|rfl|rfl
  ·exact sX h
  ·exact(qU h).1
  ·exact wK h
  ·exact(qU h).1) h
 unfold RD.put
 split
 ·exact h
 ·split
  ·exact h
  ·split
   ·exact h
   ·exact hR
theorem p8:∀(zl:List Int) {d:RD},d.pw=-1→(eK d zl).pw=-1
 | [],d,h=>h
 |z::r,d,h=>p8 r (CI h _)
theorem qy:∀(zl:List Int) {d:RD} {bb:List UInt8},d.pw=-1→(iI d zl bb).pw=-1
 | [],d,_,h=>h
 |z::r,d,_,h=>qy r (sX h)
theorem uG(zl zb:List Int)(bb:List UInt8):(fV zl zb bb).pw=-1∧(fV zl zb bb).cp=(fV zl zb bb).seen∧(fV zl zb bb).waits=[]:=qU (qy _ (p8 _ rfl))
theorem xi(ns:List (List UInt8)):ck ns []=ns:=List.filter_eq_self.2 (fun a _=>by simp)
theorem filter_none(ns:List (List UInt8)):ns.filter (fun x=>decide (x∈([]:List (List UInt8))))=[]:=List.filter_eq_nil_iff.2 (fun a _=>by simp)
end Go.Proofs.YtmibdabdlgmafaaGreatDoor
end
section
set_option maxRecDepth 20000
set_option maxHeartbeats 4000000
namespace Go.Proofs.YtmibdabdlgmafaaGreatDoor
open Go.Eng Go.Hx
def mL:od:=⟨List.replicate 32 0,List.length_replicate⟩
def FJ:IX:=⟨0,0,0,mL,[],none,0⟩
def vH(nR:List It)(A:Option Addr)(c:Nat):IX:=⟨1,8,20,mL,nR,A,c⟩
def kz(z:Int):Nat:=(1+dR z 5).toNat
def fp(zl:List Int):List It:=(zl.take 5).map fun z=>(⟨ba (bc (kz z)),bj _⟩,((3*kz z:Nat):Int))
def j9(zl:List Int)(i:Nat):List It:=(zl.take i).map fun z=>(⟨ba (bc (kz z)),bj _⟩,((3*kz z:Nat):Int))
theorem xe{zl:List Int}{i:Nat}(h:i<zl.length):j9 zl (i+1)=j9 zl i++[(⟨ba (bc (kz (zl.getD i 0))),bj _⟩,((3*kz (zl.getD i 0):Nat):Int))]:=by
 unfold j9
 rw[List.take_succ_eq_append_getElem h,List.map_append]
 simp[List.getD,h]
theorem lZ{zl:List Int}{i:Nat}(h:i≤zl.length):(j9 zl i).length=i:=by
 unfold j9
 rw[List.length_map,List.length_take]
 omega
theorem Gk{P:Program}{pl:Nat→Option (Nat×Nat)}(h0:pl 0=some (0,3)):u6 P pl FJ.cs [(0,.agg [Value.int .i64 1,.int .i64 8,.int .i64 20].toArray)] (vH [] none 0).cs:=
 .cons h0 (bB _) rfl (by rw[IX.eL];decide) (show u6 P pl (bs FJ.cs 0 [Value.int .i64 1,.int .i64 8,.int .i64 20]) [] _ from .nil)
theorem Gg{P:Program}{pl:Nat→Option (Nat×Nat)}{x:IX}(h0:pl 0=some (0,3))(h1:pl 1=some (3,32))(h2:pl 2=some (35,1)):u6 P pl FJ.cs [(0,.agg [Value.int .i64 x.mn,.int .i64 x.av,.int .i64 x.mx].toArray),(1,.agg (aQ x.uN.b).toArray),(2,.slice x.A x.nR.length x.c)] x.cs:=by
 have hi:(aQ x.uN.b).length=32:=by rw[ay,x.uN.h]
 have hz:(aQ mL.b).length=32:=by rw[ay,mL.h]
 have e1:bs FJ.cs 0 [Value.int .i64 x.mn,.int .i64 x.av,.int .i64 x.mx]=[Value.int .i64 x.mn,.int .i64 x.av,.int .i64 x.mx]++aQ mL.b++[.slice none 0 0]:=rfl
 have e2:bs ([Value.int .i64 x.mn,.int .i64 x.av,.int .i64 x.mx]++aQ mL.b++[.slice none 0 0]) 3 (aQ x.uN.b)=[Value.int .i64 x.mn,.int .i64 x.av,.int .i64 x.mx]++aQ x.uN.b++[.slice none 0 0]:=gR rfl (by rw[hi,hz])
 have e3:bs ([Value.int .i64 x.mn,.int .i64 x.av,.int .i64 x.mx]++aQ x.uN.b++[.slice none 0 0]) 35 [.slice x.A x.nR.length x.c]=x.cs:=by
  have:=gR (a:=[Value.int .i64 x.mn,.int .i64 x.av,.int .i64 x.mx]++aQ x.uN.b) (b:=[Value.slice none 0 0]) (c:=[]) (vs:=[.slice x.A x.nR.length x.c]) (o:=35) (by simp[hi]) rfl
  rw[List.append_nil,List.append_nil]at this
  exact this
 exact .cons h0 (bB _) rfl (by rw[IX.eL];decide) (by rw[e1];exact .cons h1 (bB _) hi (by simp[hz]) (by rw[e2];exact .cons h2 rfl rfl (by simp[hi]) (by rw[show(Value.slice x.A x.nR.length x.c).cells.toList=[Value.slice x.A x.nR.length x.c]from rfl,e3];exact .nil)))
theorem BD{w:World}{g:Nat}{ty:TypeId}{a b c:List Value}(h:fe w g ty (a++b++c)):∀(j:Nat) (u:Value),b[j]? =some u→w.cell? (((⟨g,0,none⟩:Addr).add a.length).add j)=some u:=fun j u hu=>by
 have hj:=(List.getElem?_eq_some_iff.1 hu).1
 have:=h.az (a.length+j) u (by rw[List.getElem?_append_left (by rw[List.length_append];omega),List.getElem?_append_right (by omega),Nat.add_sub_cancel_left];exact hu)
 rw[add_add]
 exact this
theorem FE{x:IX}:cf Tryz.prog 65 [.agg x.cs.toArray] [] [] (fun v_ X_ S_=>v_=(.agg x.cs.toArray)∧X_=[]∧S_=[]):=by
 have hi:(aQ x.uN.b).length=32:=by rw[ay,x.uN.h]
 refine aO (N:=10) Tryz.func65 rfl rfl (by simp) fun b=> ?_
 refine ah<|aj<| ?_
 refine hx (cE rfl (fun g1=> ?_))
 refine aU (fun w m=>m.bU 0 rfl (show _=aJ g1 82 x.cs from congrArg (aJ _ _) (bB _))) ?_
 refine hx (aP BK (fun g2=> ?_))
 refine ai<|ak (X' :=[_,_]) (S' :=[]) (fun _ m=>m)<|ag<|ah<|aj<|hy (fun _=>aL rfl CF (by decide))<|hy (fun m=>a7 rfl FU FQ rfl (u5 (a:=[Value.int .i64 x.mn,.int .i64 x.av,.int .i64 x.mx]) (b:=aQ x.uN.b++[.slice x.A x.nR.length x.c]) (by have:=m.aX 1 rfl;rwa [IX.cs,List.append_assoc]at this)))<|hy (fun _=>aL rfl Dt (by decide))<|hy (fun m=>a7 rfl cy bp hi (BD (a:=[Value.int .i64 x.mn,.int .i64 x.av,.int .i64 x.mx]) (c:=[.slice x.A x.nR.length x.c]) (m.aX 1 rfl)))<|hy (fun _=>aL rfl tV (by decide))<|hy (fun m=>aw rfl CY (aA (m.aX 1 rfl) (i:=35) x.Dw))<|hy (fun _=>cn BK rfl rfl (by kernel_rfl) (Gg (x:=x) DD CW Du))<| ?_
 refine cH (aI 0 rfl rfl rfl za x.eL x.bO rfl ?_)
 refine ai<|al (ρ' :=[(2,_),(1,_),(0,_)]) ⟨rfl,rfl,rfl,trivial⟩<|ak (X' :=[_,_]) (S' :=[]) (fun _ m=>m)<|ag<|aV<| ?_
 exact fg trivial rfl rfl Fz za x.eL (fun m=>(m.aX 0 rfl).az) [] rfl [] rfl ⟨rfl,rfl,rfl⟩
theorem Ft{P:Program}{pl:Nat→Option (Nat×Nat)}{t:It}(h0:pl 0=some (0,32))(h1:pl 1=some (32,1)):u6 P pl (xB (mL,0)) [(0,.agg (aQ t.1.b).toArray),(1,.int .i64 t.2)] (xB t):=by
 have hz:(aQ mL.b).length=32:=by rw[ay,mL.h]
 have hn:(aQ t.1.b).length=32:=by rw[ay,t.1.h]
 have e1:bs (xB (mL,0)) 0 (aQ t.1.b)=aQ t.1.b++[.int .i64 0]:=by
  have:=gR (a:=[]) (b:=aQ mL.b) (c:=[Value.int .i64 0]) (vs:=aQ t.1.b) (o:=0) rfl (by rw[hn,hz])
  exact this
 have e2:bs (aQ t.1.b++[.int .i64 0]) 32 [.int .i64 t.2]=xB t:=by
  have:=gR (a:=aQ t.1.b) (b:=[Value.int .i64 0]) (c:=[]) (vs:=[.int .i64 t.2]) (o:=32) hn rfl
  rw[List.append_nil,List.append_nil]at this
  exact this
 exact .cons h0 (bB _) hn (by rw[mF];decide) (by rw[e1];exact .cons h1 rfl rfl (by simp[hn]) (by rw[show(Value.int .i64 t.2).cells.toList=[Value.int .i64 t.2]from rfl,e2];exact .nil))
theorem Bg{nR its' :List It}{A A' :Option Addr}{c c' n:Nat}(hn:n=its'.length):(vH nR A c).cs.set 35 (.slice A' n c')=(vH its' A' c').cs:=by
 subst hn
 have hz:(aQ mL.b).length=32:=by rw[ay,mL.h]
 unfold IX.cs vH
 rw[List.set_append,if_neg (by simp[hz])]
 simp[hz]
theorem yL{A:Option Addr}{n c:Nat}{zl:List Int}(hzl:rr zl):cf Tryz.prog 64 [.slice A n c] [] [c6 1 A n (ints zl),eM] (fun v_ X_ S_=>∃A1 c1,v_=(.agg (vH (fp zl) A1 c1).cs.toArray)∧X_=[]∧S_=[c6 33 A1 (fp zl).length (z6 (fp zl))]):=by
 refine aO (N:=35) Tryz.func64 rfl rfl (by simp) fun b=> ?_
 refine a6 (fun m=>ki (m.rd 0 rfl)) ?_
 rintro⟨hl_rl,hA_rl⟩
 refine a6 (fun m=>(m.rd 0 rfl).1) fun hln=> ?_
 have hln:zl.length=n:=by rw[ints,List.length_map,Nat.mul_one]at hln;exact hln
 refine ah<|aj<| ?_
 refine hx (aP DB (fun g2=> ?_))
 refine ai<|ak (X' :=[_]) (S' :=[_,_]) (fun _ m=>m)<|ag<|ah<|aj<|hy (fun _=>cn Ge rfl rfl (by kernel_rfl) (.cons (o:=0) (sz:=1) (by kernel_rfl) rfl rfl (Nat.le_of_ble_eq_true rfl) (.cons (o:=1) (sz:=1) (by kernel_rfl) rfl rfl (Nat.le_of_ble_eq_true rfl) (.cons (o:=2) (sz:=1) (by kernel_rfl) rfl rfl (Nat.le_of_ble_eq_true rfl) .nil))))<|hy (fun _=>cn DB rfl rfl (by kernel_rfl) (Gk Cx))<| ?_
 refine hx (aP DB (fun g3=> ?_))
 refine cH (aI 0 rfl rfl rfl uF (IX.eL _) (IX.bO _) rfl ?_)
 refine aU (fun w m=>m.bU 0 rfl (show _=aJ g3 82 (vH (j9 zl 0) none 0).cs from rfl)) ?_
 refine ai<|al (ρ' :=[(3,_),(2,_),(0,_)]) ⟨rfl,rfl,rfl,trivial⟩<|ak (X' :=[_,_]) (S' :=[_,_]) (fun _ m=>m)<|ag<|ah<|ah<|aj<|hy (fun _=>ab rfl)<|ai<|ag<|aK<| ?_
 refine bw (fun w m=>m.dy (r' :=aG 100 33 (.slice none 0 0) 0 []) (.refl _ _) (Own.nil _ _ _ _) (fun k hk=>hk.elim)) ?_
 refine fm (fun i A1 c1=>n-i) (fun i A1 c1=>[(4,.int .i64 (i:Nat))]) (fun i A1 c1=>[aJ g3 82 (vH (j9 zl i) A1 c1).cs,aG 100 33 (.slice A1 i c1) i (z6 (j9 zl i))]) (fun i A1 c1=>[]) (fun i A1 c1=>i≤n∧i≤5) 0 none 0 [(3,_),(2,_),(0,_)] ⟨rfl,rfl,rfl,trivial⟩ [1,0] rfl [] rfl (⟨Nat.zero_le _,Nat.zero_le _⟩) ⟨rfl,trivial⟩ (fun i A1 c1 ⟨hin,hi5⟩=> ?_)
 refine ah<|ah<|aj<|hy (fun _=>aa rfl)<|hy (fun _=>aa rfl)<|hy (fun _=>aW rfl Tryz.underlying44)<|hy (fun _=>bA rfl rfl)<|hy (fun _=>aa rfl)<| ?_
 refine er 12 rfl (fun h1=> ?_) (fun h1=> ?_)
 ·refine de (o:=_) rfl rfl rfl (fun _=>aa rfl)<|de (o:=_) rfl rfl rfl (fun _=>bA rfl rfl)<|hy (fun _=>bK rfl rfl)<|ai<|al (ρ' :=[(15,_),(4,_),(3,_),(2,_),(0,_)]) ⟨rfl,rfl,rfl,rfl,rfl,trivial⟩<|ag<| ?_
  refine cC rfl (fun h2=> ?_) (fun h2=> ?_)
  ·have hil:i<zl.length:=by omega
   have hz:=hzl.at hil
   have har:=qH (zl.getD i 0) 5 (by decide)
   obtain⟨k5,hk5,hk5l⟩:∃k5:Nat,dR (zl.getD i 0) 5=(k5:Int)∧k5<5:=⟨(dR (zl.getD i 0) 5).toNat,by omega,by omega⟩
   have hkz:kz (zl.getD i 0)=k5+1:=by unfold kz;rw[hk5];omega
   have h6:dR ((k5+1:Nat):Int) 6=((k5+1:Nat):Int):=by unfold dR;rw[if_neg (by omega)];omega
   have hsc:=xe hil
   rw[hkz]at hsc
   obtain⟨tt,htt⟩:∃tt:It,tt=(⟨ba (bc (k5+1)),bj _⟩,((3*(k5+1):Nat):Int)):=⟨_,rfl⟩
   rw[←htt]at hsc
   have hl1:(j9 zl (i+1)).length=i+1:=lZ (by omega)
   refine aD<|ag<|ah<|aK<|ah<|aj<|hy (fun _=>aa rfl)<|hy (fun _=>aa rfl)<|hy (fun _=>aM rfl rfl Tryz.underlying44 tG hA_rl rfl (by omega))<|hy (fun m=>aw rfl fG ((m.rd 0 rfl).cell (lN hil)))<| ?_
   refine hx (aq rfl Tryz.call16 (vB hz.1 hz.2 (by decide) (n:=(zl.getD i 0)) (m:=5)) [] rfl [] rfl ?_)
   rintro _ _ _ ⟨rfl,rfl,rfl⟩
   refine hy (fun _=>yV (aN rfl rfl (bE (by omega) (by omega))) ((show Value.int .i64 (1+dR (zl.getD i 0) 5)= .int .i64 ((k5+1:Nat):Int)from by rw[hk5];congr 1;omega)))<|hy (fun _=>ab rfl)<|ai<|al (ρ' :=[(5,_),(15,_),(4,_),(3,_),(2,_),(0,_)]) ⟨rfl,rfl,rfl,rfl,rfl,rfl,trivial⟩<|ak (X' :=[_,_,_]) (S' :=[_,_]) (fun _ m=>m)<|ag<|cT [3,7,8,10] [(0,some 2),(1,some 2),(2,some 0),(4,some 1),(5,some 1),(3,none),(6,some 1),(7,none),(8,none),(9,some 3),(10,none)] (by kernel_rfl) (by kernel_rfl) rfl 2<|an (aL rfl tV (by decide))<|cm (fun m=>aw rfl CY (aA (m.aX 0 rfl) (i:=35) (show(vH (j9 zl i) A1 c1).cs[35]? =some (Value.slice A1 i c1)from by rw[IX.Dw];show some (Value.slice A1 (j9 zl i).length c1)=_;rw[lZ (by omega)])))<|an (aa rfl)<|an (aa rfl)<|an (yV (fk rfl rfl (bE (by omega) (by omega))) ((show Value.int .i64 (3*((k5+1:Nat):Int))= .int .i64 tt.2 from by rw[htt];congr 1)))<| ?_
   refine eb (aq rfl Tryz.call30 (og (⟨by omega,by omega⟩) h6 (by omega)) [] rfl [1] rfl ?_)
   rintro _ _ _ ⟨rfl,rfl,rfl⟩
   refine⟨(fun _=>wk [0,0,0] [0,1] rfl rfl), ?_⟩
   have hta:Value.agg (aQ (ba (bc (k5+1)))).toArray= .agg (aQ tt.1.b).toArray:=by rw[htt]
   rw[hta]
   refine an (cn uP rfl rfl (by kernel_rfl) (Ft Bv Bw))<| ?_
   refine eb (b4 Tryz.underlying80 uP rfl rfl rfl (by intro v hv;rw[List.mem_singleton.1 hv];show(xB tt).toArray.size=33;rw[List.size_toArray,mF]) (by decide) (by decide) (fun g31=>⟨(fun _=>wk [1,1,1] [0,1] rfl rfl), ?_⟩))
   have hA_b31:0<1→(some (⟨g31,0,none⟩:Addr))≠none:=fun _ h=>by cases h
   refine gb (fun w m=>m.bU 0 rfl (show _=aG 100 33 (.slice (some ⟨g31,0,none⟩) 1 1) 1 (z6 [tt])from rfl)) ?_
   refine eb (bI 2 rfl rfl rfl Tryz.underlying80 Tryz.underlying80 (by exact .inl rfl) uP rfl (fun m=>Src.bZ (m.ord 0 rfl)) BW (by unfold maxLen;omega) (by omega) (fun u=>⟨(fun h=>absurd h (by decide)), ?_⟩))
   refine cd (fun m=>(m.own 0 rfl).slice) ?_
   rintro⟨A_z,c_z,rfl,hc_z⟩
   refine cd (fun m=>(m.ord 0 rfl).2.1) fun hA_z=> ?_
   refine gb (fun w m=>m.bU 0 rfl (show _=aG 100 33 (.slice A_z (i+1) c_z) (i+1) (z6 (j9 zl (i+1)))from congrArg (aG _ _ _ _) (by rw[hsc,uq]))) ?_
   refine an (aL rfl tV (by decide))<| ?_
   refine jY (cA 2 rfl rfl rfl Gq rfl (by rw[IX.eL];decide) ⟨(fun h=>absurd h (by decide)), ?_⟩)
   refine bF<|al (ρ' :=[(5,_),(15,_),(4,_),(3,_),(2,_),(0,_)]) ⟨rfl,rfl,rfl,rfl,rfl,rfl,trivial⟩<|ak (X' :=[_,_,_,_]) (S' :=[_,_]) (fun _ m=>m)<|aS<|ag<|aj<|hy (fun _=>aa rfl)<|hy (fun _=>aN rfl rfl (bE (by omega) (by omega)))<|hy (fun _=>ab rfl)<|ai<|al (ρ' :=[(4,_),(5,_),(15,_),(3,_),(2,_),(0,_)]) ⟨rfl,rfl,rfl,rfl,rfl,rfl,trivial⟩<| ?_
   refine ak (fun w m=>m.bU 0 rfl (show _=aJ g3 82 (vH (j9 zl (i+1)) A_z c_z).cs from congrArg (aJ _ _) (Bg hl1.symm))) ?_
   refine eZ (i+1) A_z c_z ⟨rfl,rfl,rfl,rfl,trivial⟩ [0,0,1] rfl [0,1] rfl (⟨by omega,by omega⟩) (by omega)
  ·refine bL<|ao<|ao<|aC<|ag<|ah<|aj<|hy (fun m=>a7 rfl Aj uF (IX.eL _) ((m.aX 0 rfl).az))<| ?_
   have htm:=gP (l:=zl) (i:=i) (n:=5) (by omega) (by omega) hi5
   have hid:j9 zl i=fp zl:=by unfold j9 fp;rw[htm]
   have hle:(fp zl).length=i:=by rw[←hid];exact lZ (by omega)
   rw[hid,←hle]
   refine aU (fun w m=>(m.perm (ar [1] _ [_] _ rfl)).freeze) ?_
   refine aU (fun w m=>m.kM 0 rfl .own) ?_
   refine cH (aI 1 rfl rfl rfl uF (IX.eL _) (IX.bO _) rfl ?_)
   refine ai<|al (ρ' :=[(15,_),(4,_),(3,_),(2,_),(0,_)]) ⟨rfl,rfl,rfl,rfl,rfl,trivial⟩<|ak (X' :=[_,_]) (S' :=[_,_,_,_]) (fun _ m=>m)<|ag<|aV<| ?_
   exact fg trivial rfl rfl Aj uF (IX.eL _) (fun m=>(m.aX 0 rfl).az) [] rfl [0] rfl ⟨A1,c1,rfl,rfl,rfl⟩
 ·refine bu rfl rfl rfl (by decide)<|bu rfl rfl rfl (by decide)<|hy (fun _=>bN rfl rfl)<|ai<|al (ρ' :=[(15,_),(4,_),(3,_),(2,_),(0,_)]) ⟨rfl,rfl,rfl,rfl,rfl,trivial⟩<|ag<| ?_
  refine dO rfl (rfl) ?_
  refine bL<|ao<|ao<|aC<|ag<|ah<|aj<|hy (fun m=>a7 rfl Aj uF (IX.eL _) ((m.aX 0 rfl).az))<| ?_
  have htm:=gP (l:=zl) (i:=i) (n:=5) (by omega) (by omega) hi5
  have hid:j9 zl i=fp zl:=by unfold j9 fp;rw[htm]
  have hle:(fp zl).length=i:=by rw[←hid];exact lZ (by omega)
  rw[hid,←hle]
  refine aU (fun w m=>(m.perm (ar [1] _ [_] _ rfl)).freeze) ?_
  refine aU (fun w m=>m.kM 0 rfl .own) ?_
  refine cH (aI 1 rfl rfl rfl uF (IX.eL _) (IX.bO _) rfl ?_)
  refine ai<|al (ρ' :=[(15,_),(4,_),(3,_),(2,_),(0,_)]) ⟨rfl,rfl,rfl,rfl,rfl,trivial⟩<|ak (X' :=[_,_]) (S' :=[_,_,_,_]) (fun _ m=>m)<|ag<|aV<| ?_
  exact fg trivial rfl rfl Aj uF (IX.eL _) (fun m=>(m.aX 0 rfl).az) [] rfl [0] rfl ⟨A1,c1,rfl,rfl,rfl⟩
theorem SD.sync{d:RD}{F:List UInt8→Option (List UInt8)}{T:Nat}{room:Int}(h:SD d F T room):SD d.sync F T room:=by
 have e:d.sync={d with cp:=d.seen,waits:=[],pw:=dG d.pw}:=by rw[RD.sync,if_neg (by rw[h.at_.pw];decide)]
 refine⟨h.at_.sync, ?_, ?_⟩
 ·rw[e]
 ·rw[e]
theorem pM(hs:jZ (fV [1,2] [] []).seen):∃d',(fV [1,2] [] []).prune [ba (bc 1)]=(d',1,0)∧d'.eI (ba (bc 1))=0∧d'.eI (ba (bc 2))=4:=by
 have l1:=iM 1
 have l2:=iM 2
 obtain⟨_,s1⟩:=kj (bc 1)
 obtain⟨_,s2⟩:=kj (bc 2)
 have m1:=bj (bc 1)
 have m2:=bj (bc 2)
 have hne:ba (bc 1)≠ba (bc 2):=fun e=>absurd (wu (by decide) (by decide) e) (by decide)
 have hpn:aF (ba (bc 2))≠aF (ba (bc 1)):=fun e=>hne (gZ m2 m1 e).symm
 obtain⟨d1,e1,h1⟩:=(SD.new 2000).put (b:=bc 1) (by omega) rfl (by omega)
 have hF2:nQ (fun _=>none) (bc 1) (aF (ba (bc 2)))=none:=by
  unfold nQ rC
  rw[if_neg hpn,if_neg (dZ _ _),if_neg (dZ _ _)]
 obtain⟨d2,e2,h2⟩:=h1.put (b:=bc 2) (by omega) hF2 (by omega)
 have hb:fV [1,2] [] []=d2.sync:=by
  have c1:iS 1=bc 1:=kU (show dR 1 6=((1:Nat):Int) by decide)
  have c2:iS 2=bc 2:=kU (show dR 2 6=((2:Nat):Int) by decide)
  show(((RD.new 2000).put (iS 1)).1.put (iS 2)).1.sync=_
  rw[c1,c2,e1,e2]
 have hd:=h2.sync
 rw[←hb]at hd
 generalize fV [1,2] [] []=d at hs hd ⊢
 have hF:∀q,lk d.seen q=nQ (nQ (fun _=>none) (bc 1)) (bc 2) q:=hd.at_.look
 have hF1:nQ (nQ (fun _=>none) (bc 1)) (bc 2) (aF (ba (bc 1)))=some (bx (bc 1)):=by
  rw[nQ,rC,if_neg (fun e=>hpn e.symm),rC,if_neg (dZ _ _),rC,if_neg (dZ _ _)]
  exact pB _ _
 have hlo:ck (bq d) [ba (bc 1)]=[ba (bc 2)]:=by
  refine db.ext (jO (eR hs)) (List.pairwise_singleton _ _) fun x=> ?_
  unfold ck
  rw[List.mem_filter,gX,hF,decide_eq_true_eq,List.mem_singleton,List.mem_singleton]
  constructor
  ·rintro⟨⟨hx,hq⟩,hn⟩
   refine Decidable.byContradiction fun h2' =>hq ?_
   have p2:aF x≠aF (ba (bc 2)):=fun e=>h2' (gZ hx m2 e)
   have p1:aF x≠aF (ba (bc 1)):=fun e=>hn (gZ hx m1 e)
   rw[nQ,rC,if_neg p2,rC,if_neg (dZ _ _),rC,if_neg (dZ _ _),nQ,rC,if_neg p1,rC,if_neg (dZ _ _),rC,if_neg (dZ _ _)]
  ·rintro rfl
   exact⟨⟨m2,by rw[pB];simp⟩,fun e=>hne e.symm⟩
 obtain⟨g1,g2,g3,g4,g5⟩:=ow (kp:=[ba (bc 1)]) hd.at_.pw hs hd.same hd.waits
 rw[hlo]at g1 g5
 refine⟨_,g1, ?_, ?_⟩
 ·have e5:=g5 (aF (ba (bc 1)))
  rw[if_neg (by rw[List.map_singleton,List.mem_singleton];exact fun e=>hpn e.symm)]at e5
  rw[(Ai (by rw[hd.at_.pw];decide) (by rw[g2];decide) e5).1]
  exact(get_at hd.at_ (by omega) hF1).1
 ·have e5:=g5 (aF (ba (bc 2)))
  rw[if_pos (by rw[List.map_singleton];exact List.mem_singleton.2 rfl)]at e5
  exact uT (d:=(d.prune [ba (bc 1)]).1) (F:=lk (d.prune [ba (bc 1)]).1.seen) (T:=dm (d.prune [ba (bc 1)]).1.seen) (room:=(d.prune [ba (bc 1)]).1.room) ⟨g2,rfl,fun _=>rfl,Nat.le_refl _⟩ e5
end Go.Proofs.YtmibdabdlgmafaaGreatDoor
end
section
set_option maxRecDepth 20000
set_option maxHeartbeats 4000000
namespace Go.Proofs.YtmibdabdlgmafaaGreatDoor
open Go.Eng Go.Hx
theorem Bd.E6{d:RD}{B W:Nat}(h:Bd d B W):∀x∈d.seen,x.1.length≤1000000:=fun f hf=>Nat.le_trans (h.nS f hf) (by decide)
theorem zd:cf Tryz.prog 63 [] [] [eM] (fun v_ X_ S_=>v_=(.bool true)∧X_=[]∧S_=[]):=by
 refine aO (N:=43) Tryz.func63 rfl rfl (by simp) fun b=> ?_
 refine ah<|aj<|hy (fun _=>ab rfl)<|ai<|ag<|ah<|aj<| ?_
 refine hx (b4 Tryz.underlying44 DU rfl rfl rfl (by simp[Value.cells,B8]) (by decide) (by decide) (fun g4=> ?_))
 have hA_b4:0<2→(some (⟨g4,0,none⟩:Addr))≠none:=fun _ h=>by cases h
 refine aU (fun w m=>m.bU 0 rfl (show _=aG 3 1 (.slice (some ⟨g4,0,none⟩) 2 2) 2 (ints [1,2])from rfl)) ?_
 refine aU (fun w m=>(m.perm (ar [0] _ [_] _ rfl)).freeze) ?_
 refine aU (fun w m=>m.kM 0 rfl .own) ?_
 refine aB (fun m=>ki (m.rd 0 rfl)) ?_
 rintro⟨hl_b4r,hA_b4r⟩
 refine aU (fun w m=>m.nT (r' :=c6 1 none 0 []) (.refl _ _) (Rd.nil _ _ _) (fun k hk=>absurd rfl hk.1)) ?_
 have hA_z1:0<0→(none:Option Addr)≠none:=fun h=>absurd h (by decide)
 refine aU (fun w m=>m.nT (r' :=c6 1 none 0 []) (.refl _ _) (Rd.nil _ _ _) (fun k hk=>absurd rfl hk.1)) ?_
 have hA_z2:0<0→(none:Option Addr)≠none:=fun h=>absurd h (by decide)
 refine hx (aq rfl Tryz.call61 (sU (by intro z hz;simp only[List.mem_cons,List.not_mem_nil,or_false]at hz;rcases hz with rfl|rfl <;> decide) (fun z hz=>absurd hz (List.not_mem_nil)) (Nat.le_refl 0) (by decide) (zl:=[1,2]) (zb:=[]) (bb:=[])) [] rfl [2,1,0,4] rfl ?_)
 rintro _ _ _ ⟨gw,gd,st,y,rfl,rfl,rfl,hbg⟩
 refine hy (fun _=>ab rfl)<|ai<|al (ρ' :=[(1,_),(0,_)]) ⟨rfl,rfl,trivial⟩<|ak (X' :=[_,_]) (S' :=[_,_,_,_,_,_]) (fun _ m=>m)<|ag<|ah<|ah<|aj<|hy (fun _=>aa rfl)<|hy (fun _=>tZ rfl rfl (by kernel_rfl))<|ai<|al (ρ' :=[(7,_),(1,_),(0,_)]) ⟨rfl,rfl,rfl,trivial⟩<|ag<| ?_
 refine dO rfl (rfl) ?_
 refine aD<|ag<|ah<|cT [4,5,6,7,8] [(0,some 4),(1,some 4),(2,some 4),(3,some 4),(4,none),(5,none),(6,none),(7,none),(8,none),(9,some 5),(10,some 5),(11,some 5),(12,some 5),(13,some 5)] (by kernel_rfl) (by kernel_rfl) rfl 4<|an (aa rfl)<|an (bd rfl)<|an (aL rfl fx (by decide))<|cm (fun m=>aw rfl kX (aA (m.aX 0 rfl) (i:=0) rfl))<| ?_
 refine eb (b4 Tryz.underlying44 DU rfl rfl rfl (by simp[Value.cells,B8]) (by decide) (by decide) (fun g13=>⟨(fun _=>wk [1,1] [0,1,2,3,4,5] rfl rfl), ?_⟩))
 have hA_b13:0<1→(some (⟨g13,0,none⟩:Addr))≠none:=fun _ h=>by cases h
 refine gb (fun w m=>m.bU 0 rfl (show _=aG 3 1 (.slice (some ⟨g13,0,none⟩) 1 1) 1 (ints [0])from rfl)) ?_
 refine gb (fun w m=>(m.perm (ar [0] _ [_] _ rfl)).freeze) ?_
 refine gb (fun w m=>m.kM 0 rfl .own) ?_
 refine cd (fun m=>ki (m.rd 0 rfl)) ?_
 rintro⟨hl_b13r,hA_b13r⟩
 refine eb (aq rfl Tryz.call64 (yL (by intro z hz;rw[List.mem_singleton.1 hz];decide) (zl:=[0])) [] rfl [0,7] rfl ?_)
 rintro _ _ _ ⟨A1,c1,rfl,rfl,rfl⟩
 refine⟨(fun _=>wk [0,0] [3,4,5,6,7,8] rfl rfl), ?_⟩
 refine cd (fun m=>ki (m.rd 0 rfl)) ?_
 rintro⟨hl_q2,hA_q2⟩
 refine eb (aq rfl Tryz.call65 (FE (x:=(vH (fp [0]) A1 c1))) [] rfl [] rfl ?_)
 rintro _ _ _ ⟨rfl,rfl,rfl⟩
 refine⟨(fun _=>wk [0,0] [3,4,5,6,7,8] rfl rfl), ?_⟩
 refine eb (b4 Tryz.underlying125 BK rfl rfl rfl (by simpa[Value.cells]using IX.eL _) (by decide) (by decide) (fun g16=>⟨(fun _=>wk [1,1] [3,4,5,6,7,8] rfl rfl), ?_⟩))
 have hA_b16:0<1→(some (⟨g16,0,none⟩:Addr))≠none:=fun _ h=>by cases h
 refine gb (fun w m=>m.bU 0 rfl (show _=aG 88 36 (.slice (some ⟨g16,0,none⟩) 1 1) 1 (FG [vH (fp [0]) A1 c1])from congrArg (aG _ _ _ _) (by simp[FG,Value.cells]))) ?_
 refine gb (fun w m=>(m.perm (ar [0] _ [_] _ rfl)).freeze) ?_
 refine gb (fun w m=>m.kM 0 rfl .own) ?_
 refine cd (fun m=>ki (m.rd 0 rfl)) ?_
 rintro⟨hl_b16r,hA_b16r⟩
 refine gb (S' :=mX ([vH (fp [0]) A1 c1].map IX.sg)::_) (fun w m=>m.A5 [2] rfl) ?_
 obtain⟨hye,hD,hB⟩:=hbg
 have hal:dx [vH (fp [0]) A1 c1]=[ba (bc 1)]:=by
  show [ba (bc (kz 0))]=_
  rw[show kz 0=1 by decide]
 have hsr:jZ y.d.seen:=hD.mH.files.ord
 obtain⟨d',hpr,hg1,hg2⟩:=pM (by rw[←hye];exact hsr)
 rw[←hye,←hal]at hpr
 refine eb (aq rfl Tryz.call62 (rz hD (by omega) hB.E6 rfl (by decide) (by rw[hal];decide) (L:=[vH (fp [0]) A1 c1])) [1] rfl [1,0] rfl ?_)
 rintro _ _ _ ⟨st1,rfl,rfl,rfl,hE1⟩
 refine⟨(fun h=>absurd h (by decide)), ?_⟩
 rw[hpr]at hE1 ⊢
 replace hE1:DS st1 d' (100+100):=hE1
 refine an (aa rfl)<|an (au rfl rfl)<|an (au rfl rfl)<|an (ab rfl)<|an (ab rfl)<|bF<|al (ρ' :=[(3,_),(2,_),(7,_),(1,_),(0,_)]) ⟨rfl,rfl,rfl,rfl,rfl,trivial⟩<|ak (X' :=[_,_]) (S' :=[_,_,_,_,_,_,_,_,_,_,_,_]) (fun _ m=>m)<|ag<|ah<|qe [1] [0,1,2,3,4,5,6,7,8,9,10,11] rfl rfl [11,12,19,20] [(0,some 4),(1,some 4),(2,some 0),(3,some 4),(4,some 4),(5,some 0),(6,some 0),(7,some 4),(8,some 4),(9,some 1),(10,some 1),(11,none),(12,none),(13,some 2),(14,some 2),(15,some 3),(16,some 3),(17,some 3),(18,some 3),(19,none),(20,none),(21,some 4),(22,some 4),(23,some 4)] (by kernel_rfl) (by kernel_rfl) rfl 99<|an (aa rfl)<|an (cx rfl rfl)<|an (aa rfl)<|bP (o:=_) rfl rfl rfl (aa rfl)<|bP (o:=_) rfl rfl rfl (cx rfl rfl)<|an (bK rfl rfl)<|an (aa rfl)<|bP (o:=_) rfl rfl rfl (aa rfl)<|bP (o:=_) rfl rfl rfl (bd rfl)<|bP (o:=_) rfl rfl rfl (aL rfl fx (by decide))<|mU (o:=_) rfl rfl rfl (fun m=>aw rfl kX (aA (m.aX 0 rfl) (i:=0) rfl))<| ?_
 refine yg (o:=_) rfl rfl rfl (aq rfl Tryz.call30 (og (⟨by omega,by omega⟩) (by decide) (by omega) (k:=1)) [] rfl [11] rfl ?_)
 rintro _ _ _ ⟨rfl,rfl,rfl⟩
 refine⟨(fun _=>wk [1] [0,1,2,3,4,5,6,7,8,9,10,11] rfl rfl), ?_⟩
 refine yg (o:=_) rfl rfl rfl (aq rfl Tryz.call145 (Ex hE1 (bj _)) [0] rfl [11] rfl ?_)
 rintro _ _ _ ⟨rfl,rfl,rfl⟩
 refine⟨(fun _=>wk [1] [0,1,2,3,4,5,6,7,8,9,10,11] rfl rfl), ?_⟩
 rw[decide_eq_true hg1]
 refine an (bK rfl rfl)<|an (aa rfl)<|bP (o:=_) rfl rfl rfl (aa rfl)<|bP (o:=_) rfl rfl rfl (bd rfl)<|bP (o:=_) rfl rfl rfl (aL rfl fx (by decide))<|mU (o:=_) rfl rfl rfl (fun m=>aw rfl kX (aA (m.aX 0 rfl) (i:=0) rfl))<| ?_
 refine yg (o:=_) rfl rfl rfl (aq rfl Tryz.call30 (og (⟨by omega,by omega⟩) (by decide) (by omega) (k:=2)) [] rfl [11] rfl ?_)
 rintro _ _ _ ⟨rfl,rfl,rfl⟩
 refine⟨(fun _=>wk [1] [0,1,2,3,4,5,6,7,8,9,10,11] rfl rfl), ?_⟩
 refine yg (o:=_) rfl rfl rfl (aq rfl Tryz.call145 (Ex hE1 (bj _)) [0] rfl [11] rfl ?_)
 rintro _ _ _ ⟨rfl,rfl,rfl⟩
 refine⟨(fun _=>wk [1] [0,1,2,3,4,5,6,7,8,9,10,11] rfl rfl), ?_⟩
 rw[decide_eq_false (show¬d'.eI (ba (bc 2))=0 by rw[hg2];decide)]
 refine bP (o:=_) rfl rfl rfl ((lX rfl))<|an (bK rfl rfl)<|an (ab rfl)<|bF<|al (ρ' :=[(0,_),(3,_),(2,_),(7,_),(1,_)]) ⟨rfl,rfl,rfl,rfl,rfl,trivial⟩<|ak (X' :=[_,_]) (S' :=[_,_,_,_,_,_,_,_,_,_,_,_]) (fun _ m=>m)<|ag<|aV<| ?_
 exact bh trivial rfl rfl [] rfl [] rfl ⟨rfl,rfl,rfl⟩
theorem zY{P:(RD→RD×Int)→Prop}(hP:∀F,P F→∀d B W,Bd d B W→Bd (F d).1 B (W+1)):∀(Fs:List (RD→RD×Int)) {d:RD} {B W:Nat},(∀F∈Fs,P F)→Bd d B W→Bd (b6 Fs d).1 B (W+Fs.length):=by
 intro Fs d B W hF h
 have:=Bd.b6 0 Fs (d:=d) (B:=B) (W:=W) (fun F hf d B W h=>(hP F (hF F hf) d B W h).le (Nat.le_refl _) (Nat.le_refl _)) h
 exact this.le (Nat.le_of_eq (by rw[Nat.zero_mul];rfl)) (Nat.le_refl _)
theorem Bd.rm{d:RD}{B W:Nat}(h:Bd d B W)(ns:List (List UInt8)):Bd (d.rm ns).1 B (W+ns.length+1):=by
 unfold RD.rm
 split
 ·exact h.le (Nat.le_refl _) (by omega)
 ·have:=zY (P:=fun F=>∀d B W,Bd d B W→Bd (F d).1 B (W+1)) (fun _ h=>h) (cL ns++[cq]) (d:=d) (B:=B) (W:=W) (fun F hF=>by
   rcases List.mem_append.1 hF with hF|hF
   ·obtain⟨nm,_,rfl⟩:=List.mem_map.1 hF
    exact fun d B W h=>h.remove
   ·rw[List.mem_singleton.1 hF]
    exact fun d B W h=>h.sync.le (Nat.le_refl _) (Nat.le_succ _)) h
  refine this.le (Nat.le_refl _) ?_
  simp[cL]
  omega
theorem Bd.prune{d:RD}{B W:Nat}(h:Bd d B W)(kp:List (List UInt8)):Bd (d.prune kp).1 B (W+(ck (bq d) kp).length+1):=by
 unfold RD.prune
 split
 ·exact h.le (Nat.le_refl _) (by omega)
 ·split
  ·exact h.rm _
  ·exact h.rm _
theorem oB{d:RD}(hp:d.pw=-1)(hs:jZ d.seen)(hl:d.cp=d.seen)(hw:d.waits=[]):∃d1,d.prune (dx [])=(d1,(((bq d).length:Nat):Int),0)∧d1.pw=-1∧d1.cp=d1.seen∧d1.waits=[]∧(jZ d1.seen→bq d1=[]):=by
 obtain⟨g1,g2,g3,g4,_⟩:=ow (kp:=[]) hp hs hl hw
 rw[xi]at g1
 exact⟨_,g1,g2,g3,g4,fun h=>by rw[uw hp hs hl hw h,filter_none]⟩
theorem wv{A B C:Option Addr}{n c m mc_ k kc:Nat}{zl zb:List Int}{bb:List UInt8}(hzl:rr zl)(hzb:rr zb)(hkc:k≤kc)(hkb:k≤140737488351232):cf Tryz.prog 10 [.slice A n c,.slice B m mc_,.slice C k kc] [] [c6 1 A n (ints zl),c6 1 B m (ints zb),c6 1 C k (aQ bb),eM] (fun v_ X_ S_=>v_=(.bool true)∧X_=[]∧S_=[]):=by
 refine aO (N:=76) Tryz.func10 rfl rfl (by simp) fun b=> ?_
 refine a6 (fun m=>ki (m.rd 0 rfl)) ?_
 rintro⟨hl_rl,hA_rl⟩
 refine a6 (fun m=>ki (m.rd 1 rfl)) ?_
 rintro⟨hl_rb,hA_rb⟩
 refine a6 (fun m=>gz (m.rd 2 rfl)) ?_
 rintro⟨hl_rc,hA_rc⟩
 refine ah<|aj<|hy (fun _=>ab rfl)<|ai<|ag<|ah<|aj<|hy (fun _=>aa rfl)<|hy (fun _=>aa rfl)<|hy (fun _=>aa rfl)<| ?_
 refine hx (aq rfl Tryz.call61 (sU hzl hzb hkc hkb) [] rfl [0,1,2,3] rfl ?_)
 rintro _ _ _ ⟨gw,gd,st,y,rfl,rfl,rfl,hbg⟩
 refine hy (fun _=>ab rfl)<|ai<|al (ρ' :=[(7,_),(6,_),(0,_),(1,_),(2,_)]) ⟨rfl,rfl,rfl,rfl,rfl,trivial⟩<|ak (X' :=[_,_]) (S' :=[_,_,_,_,_]) (fun _ m=>m)<|ag<|ah<|ah<|aj<|hy (fun _=>aa rfl)<|hy (fun _=>tZ rfl rfl (by kernel_rfl))<|ai<|al (ρ' :=[(18,_),(7,_),(6,_),(0,_),(1,_),(2,_)]) ⟨rfl,rfl,rfl,rfl,rfl,rfl,trivial⟩<|ag<| ?_
 obtain⟨hye,hD,hB⟩:=hbg
 obtain⟨u1,u2,u3⟩:=uG zl zb bb
 rw[←hye]at u1 u2 u3
 have hcl:(bq y.d).length≤100:=Nat.le_trans (lu y.d) hD.ug.seen
 obtain⟨d1,e1,v1,v2,v3,v4⟩:=oB u1 hD.mH.files.ord u2 u3
 refine dO rfl (rfl) ?_
 refine bw (fun w m=>m.nT (r' :=c6 36 none 0 []) (.refl _ _) (Rd.nil _ _ _) (fun k hk=>absurd rfl hk.1)) ?_
 have hA_zr:0<0→(none:Option Addr)≠none:=fun h=>absurd h (by decide)
 refine bw (S' :=mX (([]:List IX).map IX.sg)::_) (fun w m=>m.A5 [] rfl) ?_
 refine aD<|ag<|ah<|aj<|hy (fun _=>aa rfl)<|hy (fun _=>bd rfl)<|hy (fun _=>aL rfl fx (by decide))<|hy (fun m=>aw rfl kX (aA (m.aX 0 rfl) (i:=0) rfl))<| ?_
 refine hx (aq rfl Tryz.call20 (uc hD (by omega) hB.E6) [1] rfl [] rfl ?_)
 rintro _ _ _ ⟨v,k2,rfl,rfl,rfl,hk1⟩
 refine aB (fun m=>(m.own 1 rfl).slice) ?_
 rintro⟨A_o,c_o,rfl,hc_o⟩
 refine aB (fun m=>(m.ord 1 rfl).2.1) fun hA_o=> ?_
 subst hk1
 refine hy (fun _=>aW rfl Tryz.underlying33)<|hy (fun _=>ab rfl)<|ai<|al (ρ' :=[(8,_),(18,_),(7,_),(6,_),(0,_),(1,_),(2,_)]) ⟨rfl,rfl,rfl,rfl,rfl,rfl,rfl,trivial⟩<|ak (X' :=[_,_,_]) (S' :=[_,_,_,_,_,_,_]) (fun _ m=>m)<|ag<|ah<|aj<|hy (fun _=>aa rfl)<|hy (fun _=>bd rfl)<|hy (fun _=>aL rfl fx (by decide))<|hy (fun m=>aw rfl kX (aA (m.aX 2 rfl) (i:=0) rfl))<| ?_
 refine hx (aq rfl Tryz.call62 (rz hD (by omega) hB.E6 rfl (by decide) (by decide) (L:=[])) [0] rfl [1,0] rfl ?_)
 rintro _ _ _ ⟨st1,rfl,rfl,rfl,hE1⟩
 rw[e1]at hE1 ⊢
 replace hE1:DS st1 d1 (100+100):=hE1
 have hn1:∀x∈d1.seen,x.1.length≤1000000:=by
  have:=(hB.prune (dx []):Bd (y.d.prune (dx [])).1 _ _)
  rw[e1]at this
  exact this.E6
 have hc1:=v4 hE1.mH.files.ord
 obtain⟨d2,e2,x1,x2,x3,x4⟩:=oB v1 hE1.mH.files.ord v2 v3
 rw[hc1]at e2
 refine hy (fun _=>aa rfl)<|hy (fun _=>au rfl rfl)<|hy (fun _=>au rfl rfl)<|hy (fun _=>ab rfl)<|hy (fun _=>ab rfl)<|ai<|al (ρ' :=[(10,_),(9,_),(8,_),(18,_),(7,_),(6,_),(0,_),(1,_),(2,_)]) ⟨rfl,rfl,rfl,rfl,rfl,rfl,rfl,rfl,rfl,trivial⟩<|ak (X' :=[_,_,_]) (S' :=[_,_,_,_,_,_,_]) (fun _ m=>m)<|ag<|ah<|aj<|hy (fun _=>aa rfl)<|hy (fun _=>bd rfl)<|hy (fun _=>aL rfl fx (by decide))<|hy (fun m=>aw rfl kX (aA (m.aX 2 rfl) (i:=0) rfl))<| ?_
 refine hx (aq rfl Tryz.call62 (rz hE1 (by omega) hn1 rfl (by decide) (by decide) (L:=[])) [0] rfl [1,0] rfl ?_)
 rintro _ _ _ ⟨st12,rfl,rfl,rfl,hE2⟩
 rw[e2]at hE2 ⊢
 replace hE2:DS st12 d2 (100+100+(100+100)):=hE2
 have hn2:∀x∈d2.seen,x.1.length≤1000000:=by
  have:=((hB.prune (dx [])).prune (dx []):Bd ((y.d.prune (dx [])).1.prune (dx [])).1 _ _)
  rw[e1]at this
  replace this:Bd (d1.prune (dx [])).1 _ _:=this
  rw[e2]at this
  exact this.E6
 have hc2:=x4 hE2.mH.files.ord
 have hw2:st12.waits.length=0:=by rw[hE2.mH.waits,x3];rfl
 refine hy (fun _=>aa rfl)<|hy (fun _=>au rfl rfl)<|hy (fun _=>au rfl rfl)<|hy (fun _=>ab rfl)<|hy (fun _=>ab rfl)<|ai<|al (ρ' :=[(12,_),(11,_),(10,_),(9,_),(8,_),(18,_),(7,_),(6,_),(0,_),(1,_),(2,_)]) ⟨rfl,rfl,rfl,rfl,rfl,rfl,rfl,rfl,rfl,rfl,rfl,trivial⟩<|ak (X' :=[_,_,_]) (S' :=[_,_,_,_,_,_,_]) (fun _ m=>m)<|ag<|ah<|aj<|hy (fun _=>aa rfl)<|hy (fun _=>aa rfl)<|hy (fun _=>yT (cx rfl rfl) ((decide_eq_true rfl)))<|hy (fun _=>aa rfl)<|de (o:=_) rfl rfl rfl (fun _=>aa rfl)<|de (o:=_) rfl rfl rfl (fun _=>cx rfl rfl)<|hy (fun _=>bK rfl rfl)<|hy (fun _=>aa rfl)<|de (o:=_) rfl rfl rfl (fun _=>aa rfl)<|de (o:=_) rfl rfl rfl (fun _=>cx rfl rfl)<|hy (fun _=>bK rfl rfl)<|hy (fun _=>aa rfl)<|de (o:=_) rfl rfl rfl (fun _=>aa rfl)<|de (o:=_) rfl rfl rfl (fun _=>cx rfl rfl)<|hy (fun _=>bK rfl rfl)<|hy (fun _=>aa rfl)<|de (o:=_) rfl rfl rfl (fun _=>aa rfl)<|de (o:=_) rfl rfl rfl (fun _=>bd rfl)<|de (o:=_) rfl rfl rfl (fun _=>aL rfl fx (by decide))<|de (o:=_) rfl rfl rfl (fun m=>aw rfl kX (aA (m.aX 2 rfl) (i:=0) rfl))<| ?_
 refine EO (o:=_) rfl rfl rfl (aq rfl Tryz.call20 (uc hE2 (by omega) hn2) [0] rfl [] rfl ?_)
 rintro _ _ _ ⟨v2,k3,rfl,rfl,rfl,hk2⟩
 refine aB (fun m=>(m.own 1 rfl).slice) ?_
 rintro⟨A_o2,c_o2,rfl,hc_o2⟩
 refine aB (fun m=>(m.ord 1 rfl).2.1) fun hA_o2=> ?_
 have hk20:k3=0:=by rw[hk2,hc2];rfl
 refine de (o:=_) rfl rfl rfl (fun _=>aW rfl Tryz.underlying33)<|de (o:=_) rfl rfl rfl (fun _=>yT (cx rfl rfl) ((decide_eq_true (by omega))))<|hy (fun _=>bK rfl rfl)<|hy (fun _=>aa rfl)<|de (o:=_) rfl rfl rfl (fun _=>aa rfl)<|de (o:=_) rfl rfl rfl (fun _=>bd rfl)<|de (o:=_) rfl rfl rfl (fun _=>aL rfl fx (by decide))<|de (o:=_) rfl rfl rfl (fun m=>aw rfl kX (aA (m.aX 3 rfl) (i:=0) rfl))<| ?_
 refine EO (o:=_) rfl rfl rfl (aq rfl Tryz.call60 (C7) [0] rfl [] rfl ?_)
 rintro _ _ _ ⟨rfl,rfl,rfl⟩
 refine de (o:=_) rfl rfl rfl (fun _=>yT (cx rfl rfl) ((decide_eq_true (by rw[hw2];rfl))))<|hy (fun _=>bK rfl rfl)<|hy (fun _=>aa rfl)<| ?_
 refine EO (o:=_) rfl rfl rfl (aq rfl Tryz.call63 (zd) [] rfl [6] rfl ?_)
 rintro _ _ _ ⟨rfl,rfl,rfl⟩
 refine hy (fun _=>bK rfl rfl)<|hy (fun _=>ab rfl)<|ai<|al (ρ' :=[(6,_),(12,_),(11,_),(10,_),(9,_),(8,_),(18,_),(7,_),(0,_),(1,_),(2,_)]) ⟨rfl,rfl,rfl,rfl,rfl,rfl,rfl,rfl,rfl,rfl,rfl,trivial⟩<|ak (X' :=[_,_,_,_]) (S' :=[_,_,_,_,_,_,_]) (fun _ m=>m)<|ag<|aV<| ?_
 exact bh trivial rfl rfl [] rfl [] rfl ⟨rfl,rfl,rfl⟩
theorem mz(A:Option Addr)(n c:Nat)(xs:List Cell)(B:Option Addr)(m mc_:Nat)(ys:List Cell)(K:Option Addr)(k kc:Nat)(bl:List UInt8)(W:World)(h1:(sD (.s 1 A n c xs)).holds W)(hT1:Ty Tryz.prog 44 [.s 1 A n c xs])(h2:(sD (.s 1 B m mc_ ys)).holds W)(hT2:Ty Tryz.prog 44 [.s 1 B m mc_ ys])(h3:Rd W 1 K k (aQ bl))(hkc:k≤kc)(hkb:k≤140737488351232)(hro:eM.holds W):
  Calls Tryz.prog 10 #[.slice A n c,.slice B m mc_,.slice K k kc] W fun e w' =>e= .returned (.bool true)∧Fr No W w' :=by
 obtain⟨_,_,_,_,l1,e1,hv1,hz1⟩:=vN hT1
 cases e1
 obtain⟨_,_,_,_,l2,e2,hv2,hz2⟩:=vN hT2
 cases e2
 have r1:=(View.rowOf (n:=n) (c:=c) (A:=A) hv1).ok.1 W h1
 have r2:=(View.rowOf (n:=m) (c:=mc_) (A:=B) hv2).ok.1 W h2
 exact qC (wv hz1 hz2 hkc hkb) (by
  intro s hs
  simp only[List.mem_cons,List.not_mem_nil,or_false]at hs
  rcases hs with rfl|rfl|rfl|rfl
  ·exact r1
  ·exact r2
  ·exact h3
  ·exact hro)
end Go.Proofs.YtmibdabdlgmafaaGreatDoor
end
