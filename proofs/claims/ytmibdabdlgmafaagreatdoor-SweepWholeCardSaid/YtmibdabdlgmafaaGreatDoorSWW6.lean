/- Part. -/
import Derived.Test.YtmibdabdlgmafaaGreatDoorSWW5
set_option linter.all false
section
set_option maxRecDepth 20000
set_option maxHeartbeats 4000000
namespace Go.Proofs.YtmibdabdlgmafaaGreatDoor
open Go.Eng Go.Hx
theorem si{acc:List (List UInt8)}{p:List UInt8}(h:dm acc):dm (rT acc p):=by
 unfold rT
 split
 ·exact kf _ _ h
 ·exact h
theorem l8:∀(l acc:List (List UInt8)),dm acc→dm (l.foldl rT acc)
 | [],acc,h=>h
 |p::r,acc,h=>l8 r _ (si h)
theorem iW{d:RD}(h:lN d.seen):dm (bL d):=by
 rw[←uj h]
 exact l8 _ _ List.Pairwise.nil
theorem jU{l:List (List UInt8)}(h:dm l):l.Nodup:=h.imp fun{a b} hab e=>by
 subst e
 rw[oa]at hab
 omega
theorem rk{l m:List (List UInt8)}(hp:l.Perm m)(hs:dm m):jK l=m:=
 dm.ext (tH (hp.nodup_iff.2 (jU hs))) hs fun x=>by rw[(jj l).mem_iff,hp.mem_iff]
def cx(ns kp:List (List UInt8)):List (List UInt8):=ns.filter fun d=>decide (¬d∈kp)
theorem wQ{ns kp kp' :List (List UInt8)}(h:∀x,x∈kp↔x∈kp'):cx ns kp=cx ns kp' :=by
 unfold cx
 congr 1
 funext d
 rw[decide_eq_decide,h]
theorem jN{ns kp:List (List UInt8)}(h:dm ns):dm (cx ns kp):=h.filter _
theorem ql{ns kp:List (List UInt8)}(h:mN ns):mN (cx ns kp):=fun d hd=>h d (List.mem_filter.1 hd).1
theorem wY{ns kp:List (List UInt8)}:(cx ns kp).length≤ns.length:=List.length_filter_le _ _
def tv(k:Dg):Dg×Value:=(k,.bool true)
theorem C4{l:List Dg}{k:Dg}(h:¬k∈l):cL (l.map tv) k (.bool true)=(l++[k]).map tv:=by
 have:b4 (l.map tv) k=none:=jd.2 (by simpa[b7,tv,Function.comp_def]using h)
 rw[l0 this,List.map_append];rfl
theorem xU:∀(l:List Dg) (k:Dg),eu (l.map tv) k=(l.erase k).map tv
 | [],k=>rfl
 |a::r,k=>by
  have ih:=xU r k
  by_cases h:a=k
  ·subst h;simp[tv,eu]
  ·have h2:(a == k)=false:=beq_false_of_ne h
   rw[List.erase_cons,h2,List.map_cons]
   show eu ((a,_)::r.map tv) k=_
   unfold eu
   rw[if_neg h,ih];rfl
theorem B0{ds:List (List UInt8)}(h:mN ds):∃l:List Dg,l.map (·.1)=ds:=by
 induction ds with
 |nil=>exact⟨[],rfl⟩
 |cons d r ih=>
  obtain⟨l,hl⟩:=ih (fun x hx=>h x (List.mem_cons_of_mem _ hx))
  exact⟨⟨d,h d (List.mem_cons_self ..)⟩::l,by rw[List.map_cons,hl]⟩
def xP(k:Dg):List UInt8:=k.1
theorem BG(l:List Dg):mN (l.map xP):=fun d hd=>by
 obtain⟨x,_,rfl⟩:=List.mem_map.1 hd
 exact x.2
theorem xn{l:List Dg}:(l.map xP).Nodup↔l.Nodup:=by
 constructor
 ·exact fun h=>List.Pairwise.of_map _ (fun a b hab e=>hab (by rw[e])) h
 ·exact fun h=>List.Pairwise.map _ (fun a b hab e=>hab (Subtype.ext e)) h
theorem yd{l:List Dg}{i:Nat}{k:Dg}(h:l[i]? =some k):(l.map xP).getD i []=k.1:=by
 obtain⟨hi,rfl⟩:=List.getElem?_eq_some_iff.1 h
 simp[List.getD,hi,xP]
theorem x4{l:List Dg}(hn:l.Nodup){i:Nat}{k:Dg}(h:l[i]? =some k):¬k∈l.take i∧l.take (i+1)=l.take i++[k]:=by
 obtain⟨hi,rfl⟩:=List.getElem?_eq_some_iff.1 h
 have e:=List.take_succ_eq_append_getElem hi
 refine⟨fun hm=> ?_,e⟩
 have h1:(l.take (i+1)).Nodup:=hn.sublist (List.take_sublist _ _)
 rw[e,List.nodup_append]at h1
 exact h1.2.2 _ hm _ (List.mem_singleton.2 rfl) rfl
def ji(l:List Dg)(kp:List (List UInt8)):List Dg:=l.filter fun k=>decide (¬k.1∈kp)
theorem xA{l:List Dg}(hn:l.Nodup)(kp:List (List UInt8))(q:Dg):(ji l kp).erase q=ji l (kp++[q.1]):=by
 have hn2:(ji l kp).Nodup:=hn.filter _
 rw[hn2.erase_eq_filter]
 unfold ji
 rw[List.filter_filter]
 congr 1
 funext k
 by_cases h2:k=q
 ·subst h2;simp
 ·have h3:¬k.1=q.1:=fun e=>h2 (Subtype.ext e)
  simp[h2,h3]
theorem xd{l:List Dg}(hn:l.Nodup){kp:List (List UInt8)}{j:Nat}(hj:j<kp.length)(h32:(kp.getD j []).length=32):(ji l (kp.take j)).erase ⟨kp.getD j [],h32⟩=ji l (kp.take (j+1)):=by
 have e:kp.take (j+1)=kp.take j++[kp.getD j []]:=by rw[List.take_succ_eq_append_getElem hj];simp[List.getD,hj]
 rw[xA hn,e]
theorem yE(l:List Dg)(kp:List (List UInt8)):(ji l kp).map xP=cx (l.map xP) kp:=by
 unfold ji cx
 rw[List.filter_map]
 rfl
theorem E3{left:List Dg}{j:Nat}{x:Dg×Value}(h:(left.map tv)[j]? =some x):∃k,left[j]? =some k∧x=tv k:=by
 rw[List.getElem?_map]at h
 cases hk:left[j]? with
 |none=>rw[hk]at h;cases h
 |some k=>rw[hk]at h;exact⟨k,rfl,(Option.some.inj h).symm⟩
theorem Ac(left:List Dg)(j:Nat):(left.map tv).eraseIdx j=(left.eraseIdx j).map tv:=(map_eraseIdx ..).symm
theorem DO{g:Nat}{st:cG}{d:RD}{kk:Nat}{K:Option Addr}{n c:Nat}{L:List IX}(hD:DS st d kk)(hkk:kk≤90000)(hnl:∀x∈d.seen,x.1.length≤1000000)(hL:L.length=n)(hn:n≤100000)(hs:(dG L).length≤100000):cf Tryz.prog 66 [.pointer (some ⟨g,0,none⟩),.slice K n c] [bn g st] [c6 36 K n (Cz L),lM (L.map IX.oB)] (fun v_ X_ S_=>∃A1 k c1,v_=(.slice A1 k c1)∧X_=[bn g st,aG 53 32 (.slice A1 k c1) k (dc (cx (bL d) (dG L)))]∧S_=[]∧(k=(cx (bL d) (dG L)).length∧k≤c1)):=by
 have hcd:=lA d
 have hst:=iW hD.n7.files.ord
 have hlen:(bL d).length≤kk:=Nat.le_trans (pr d) hD.uZ.seen
 obtain⟨l,hl⟩:=B0 hcd
 have hl:l.map xP=bL d:=hl
 rw[←hl]at hst hcd hlen
 have hll:l.length≤kk:=by rw[List.length_map]at hlen;exact hlen
 have hln:l.Nodup:=xn.1 (jU hst)
 obtain⟨hks,hkm⟩:=iq (dG L) [] List.Pairwise.nil
 have hkm:∀x,x∈(dG L).foldl ek []↔x∈dG L:=fun x=>by rw[hkm x];simp
 have hkD:mN ((dG L).foldl ek []):=fun x hx=>km L x ((hkm x).1 hx)
 have hkl:((dG L).foldl ek []).length≤100000:=by
  have:=(sB (km L) (dG L).length).2
  rw[List.take_length]at this
  omega
 rw[←wQ hkm]
 refine aP (N:=46) Tryz.func66 rfl rfl (by simp) fun b=> ?_
 refine aZ (fun m=>jq (m.rd 0 rfl)) ?_
 rintro⟨hl_r,hA_r⟩
 refine ah<|aj<|hy (fun _=>ab rfl)<|ai<|ag<|ah<|aj<| ?_
 refine hx (mg DK (fun g12=> ?_))
 refine aR (fun w m=>m.bO 0 rfl (show _=c5 DK g12 ((l.take 0).map tv)from rfl)) ?_
 refine hy (fun _=>ab rfl)<|ai<|al (ρ' :=[(5,_),(4,_),(0,_),(1,_)]) ⟨rfl,rfl,rfl,rfl,trivial⟩<|ak (X' :=[_,_]) (S' :=[_,_]) (fun _ m=>m)<|ag<|ah<|ah<|aj<|hy (fun _=>aa rfl)<| ?_
 refine hx (aq rfl Tryz.call20 (Ez hD (by omega) hnl) [1] rfl [] rfl ?_)
 rintro _ _ _ ⟨v,k,rfl,rfl,rfl,hk1⟩
 refine aB (fun m=>(m.own 1 rfl).slice) ?_
 rintro⟨A_o,c_o,rfl,hc_o⟩
 refine aB (fun m=>(m.ord 1 rfl).2.1) fun hA_o=> ?_
 refine hy (fun _=>aX rfl Tryz.underlying33)<|hy (fun _=>aa rfl)<|ai<|al (ρ' :=[(16,_),(15,_),(14,_),(5,_),(4,_),(0,_),(1,_)]) ⟨rfl,rfl,rfl,rfl,rfl,rfl,rfl,trivial⟩<|ak (X' :=[_,_,_]) (S' :=[_,_]) (fun _ m=>m)<|ag<|aK<| ?_
 rw[←hl]at hk1
 rw[←hl]
 rw[List.length_map]at hk1
 subst hk1
 refine dz (fun i=>l.length-i) (fun i=>[(16,.int .i64 (i:Nat))]) (fun i=>[c5 DK g12 ((l.take i).map tv)]) (fun i=>[]) (fun i=>i≤l.length) 0 [(15,_),(14,_),(5,_),(4,_),(0,_),(1,_)] ⟨rfl,rfl,rfl,rfl,rfl,rfl,trivial⟩ [2] rfl [] rfl (Nat.zero_le _) ⟨rfl,trivial⟩ (fun i hi=> ?_)
 refine ah<|aj<|hy (fun _=>bw rfl rfl)<|ai<|ag<|ah<| ?_
 refine cD rfl (fun hlt=> ?_) (fun hlt=> ?_)
 ·obtain⟨k,hk⟩:∃k,l[i]? =some k:=⟨_,List.getElem?_eq_getElem (by omega)⟩
  have h32:(aQ k.1).length=32:=by rw[az,k.2]
  have hgd:=yd hk
  obtain⟨hno,htk⟩:=x4 hln hk
  refine aD<|ag<|ah<|aK<|ah<|aj<|hy (fun _=>cQ rfl rfl Tryz.underlying33 bp hA_o rfl (by omega))<|hy (fun m=>yV (a6 rfl cr bp (by rw[hgd];exact h32) ((m.ord 2 rfl).k7 hcd (i:=i) (by rw[List.length_map];omega))) ((show Value.agg (aQ ((l.map xP).getD i [])).toArray= .agg (aQ k.1).toArray from by rw[hgd])))<| ?_
  refine hx (aN dL (fun g7=> ?_))
  refine cI (aJ 0 rfl rfl rfl bp h32 aS rfl ?_)
  refine ai<|al (ρ' :=[(7,_),(17,_),(16,_),(15,_),(14,_),(5,_),(4,_),(0,_),(1,_)]) ⟨rfl,rfl,rfl,rfl,rfl,rfl,rfl,rfl,rfl,trivial⟩<|ak (X' :=[_,_,_,_]) (S' :=[_,_]) (fun _ m=>m)<|ag<|aj<|hy (fun _=>aa rfl)<|hy (fun m=>yV (a6 rfl cr bp h32 ((m.aY 0 rfl).ay)) ((rfl:_=DK k)))<| ?_
  refine cI (oW (enc:=DK) 1 rfl rfl rfl rfl Tryz.underlying225 (yR rfl Tryz.underlying53 Tryz.underlying5 (by kernel_rfl) (by kernel_rfl) (by kernel_rfl)) ?_)
  refine ai<|al (ρ' :=[(7,_),(17,_),(16,_),(15,_),(14,_),(5,_),(4,_),(0,_),(1,_)]) ⟨rfl,rfl,rfl,rfl,rfl,rfl,rfl,rfl,rfl,trivial⟩<|ak (X' :=[_,_,_,_]) (S' :=[_,_]) (fun _ m=>m)<|aT<|ag<|aj<|hy (fun _=>aM rfl rfl (bD (by omega) (by omega)))<|hy (fun _=>aa rfl)<|ai<|al (ρ' :=[(16,_),(7,_),(17,_),(15,_),(14,_),(5,_),(4,_),(0,_),(1,_)]) ⟨rfl,rfl,rfl,rfl,rfl,rfl,rfl,rfl,rfl,trivial⟩<| ?_
  refine ak (fun w m=>m.bO 0 rfl (show _=c5 DK g12 ((l.take (i+1)).map tv)from congrArg (c5 DK g12) (by rw[C4 hno,htk]))) ?_
  refine cM (i+1) ⟨rfl,rfl,rfl,rfl,rfl,rfl,rfl,trivial⟩ [0,1,1] rfl [0,1] rfl (by omega) (by omega)
 ·obtain rfl:i=l.length:=by omega
  rw[List.take_length]
  refine bK<|ao<|ao<|aC<|ag<|ah<|ah<|aj<|hy (fun _=>aa rfl)<| ?_
  refine hx (aq rfl Tryz.call146 (qt hL hn hs) [] rfl [0,1] rfl ?_)
  rintro _ _ _ ⟨A1,k2,c1,rfl,rfl,rfl,hk2⟩
  refine hy (fun _=>aX rfl Tryz.underlying33)<|hy (fun _=>aa rfl)<|ai<|al (ρ' :=[(26,_),(25,_),(24,_),(17,_),(16,_),(15,_),(14,_),(5,_),(4,_),(0,_),(1,_)]) ⟨rfl,rfl,rfl,rfl,rfl,rfl,rfl,rfl,rfl,rfl,rfl,trivial⟩<|ak (X' :=[_,_,_,_]) (S' :=[_,_]) (fun _ m=>m)<|ag<|aK<| ?_
  obtain⟨hk2,_⟩:=hk2
  refine aZ (fun m=>(m.ord 0 rfl).2.1) fun hA_o2=> ?_
  generalize hkp:(dG L).foldl ek []=kp at hkD hkl hk2 ⊢
  subst hk2
  have hm0:l.map tv=(ji l (kp.take 0)).map tv:=by
   rw[List.take_zero]
   unfold ji
   rw[List.filter_eq_self.2 (fun k _=>by simp)]
  rw[hm0]
  refine dz (fun j=>kp.length-j) (fun j=>[(26,.int .i64 (j:Nat))]) (fun j=>[c5 DK g12 ((ji l (kp.take j)).map tv)]) (fun j=>[]) (fun j=>j≤kp.length) 0 [(25,_),(24,_),(17,_),(16,_),(15,_),(14,_),(5,_),(4,_),(0,_),(1,_)] ⟨rfl,rfl,rfl,rfl,rfl,rfl,rfl,rfl,rfl,rfl,trivial⟩ [1] rfl [] rfl (Nat.zero_le _) ⟨rfl,trivial⟩ (fun j hj=> ?_)
  refine ah<|aj<|hy (fun _=>bw rfl rfl)<|ai<|ag<|ah<| ?_
  refine cD rfl (fun hlt2=> ?_) (fun hlt2=> ?_)
  ·have hj2:j<kp.length:=by omega
   have hk3:=iu hkD hj2
   have h32:(aQ (kp.getD j [])).length=32:=by rw[az,hk3]
   refine aD<|ag<|ah<|aK<|ah<|aj<|hy (fun _=>cQ rfl rfl Tryz.underlying33 bp hA_o2 rfl (by omega))<|hy (fun m=>a6 rfl cr bp h32 ((m.ord 1 rfl).k7 hkD hj2))<| ?_
   refine hx (aN dL (fun g9=> ?_))
   refine cI (aJ 0 rfl rfl rfl bp h32 aS rfl ?_)
   refine ai<|al (ρ' :=[(9,_),(27,_),(26,_),(25,_),(24,_),(17,_),(16,_),(15,_),(14,_),(5,_),(4,_),(0,_),(1,_)]) ⟨rfl,rfl,rfl,rfl,rfl,rfl,rfl,rfl,rfl,rfl,rfl,rfl,rfl,trivial⟩<|ak (X' :=[_,_,_,_,_]) (S' :=[_,_]) (fun _ m=>m)<|ag<|aj<|hy (fun _=>aa rfl)<|hy (fun m=>yV (a6 rfl cr bp h32 ((m.aY 0 rfl).ay)) ((rfl:_=DK ⟨kp.getD j [],hk3⟩)))<| ?_
   refine cI (mP (enc:=DK) 1 rfl rfl rfl Tryz.underlying225 (yR rfl Tryz.underlying53 Tryz.underlying5 (by kernel_rfl) (by kernel_rfl) (by kernel_rfl)) ?_)
   refine ai<|al (ρ' :=[(9,_),(27,_),(26,_),(25,_),(24,_),(17,_),(16,_),(15,_),(14,_),(5,_),(4,_),(0,_),(1,_)]) ⟨rfl,rfl,rfl,rfl,rfl,rfl,rfl,rfl,rfl,rfl,rfl,rfl,rfl,trivial⟩<|ak (X' :=[_,_,_,_,_]) (S' :=[_,_]) (fun _ m=>m)<|aT<|ag<|aj<|hy (fun _=>aM rfl rfl (bD (by omega) (by omega)))<|hy (fun _=>aa rfl)<|ai<|al (ρ' :=[(26,_),(9,_),(27,_),(25,_),(24,_),(17,_),(16,_),(15,_),(14,_),(5,_),(4,_),(0,_),(1,_)]) ⟨rfl,rfl,rfl,rfl,rfl,rfl,rfl,rfl,rfl,rfl,rfl,rfl,rfl,trivial⟩<| ?_
   refine ak (fun w m=>m.bO 0 rfl (show _=c5 DK g12 ((ji l (kp.take (j+1))).map tv)from congrArg (c5 DK g12) (by rw[xU,xd hln hj2 hk3]))) ?_
   refine cM (j+1) ⟨rfl,rfl,rfl,rfl,rfl,rfl,rfl,rfl,rfl,rfl,rfl,trivial⟩ [0,1,1,1] rfl [0,1] rfl (by omega) (by omega)
  ·obtain rfl:j=kp.length:=by omega
   rw[List.take_length]
   have hle:=yE l kp
   generalize hLL:ji l kp=LL at hle ⊢
   rw[←hle]
   have hsL:dm (LL.map xP):=by rw[hle];exact jN hst
   have hLlen:LL.length≤kk:=by rw[←hLL];exact Nat.le_trans (List.length_filter_le _ _) hll
   refine bK<|ao<|ao<|aC<|ag<|ah<|aj<|hy (fun _=>ab rfl)<|ai<|ag<|ah<|ah<|aj<|hy (fun _=>aa rfl)<| ?_
   refine hx (oF 0 rfl rfl Tryz.underlying225 (fun r34=> ?_))
   refine ai<|al (ρ' :=[(34,_),(10,_),(27,_),(26,_),(25,_),(24,_),(17,_),(16,_),(15,_),(14,_),(5,_),(4,_),(0,_),(1,_)]) ⟨rfl,rfl,rfl,rfl,rfl,rfl,rfl,rfl,rfl,rfl,rfl,rfl,rfl,rfl,trivial⟩<|ak (X' :=[_,_,_,_]) (S' :=[_,_]) (fun _ m=>m)<|ag<|aK<| ?_
   refine bB (fun w m=>m.dx (r' :=aG 53 32 (.slice none 0 0) 0 []) (.refl _ _) (Own.nil _ _ _ _) (fun k hk=>hk.elim)) ?_
   refine pf (fun left cur A3 k3 c3 ks=>left.length) (fun left cur A3 k3 c3 ks=>[(10,.slice A3 k3 c3)]) (fun left cur A3 k3 c3 ks=>[aG 53 32 (.slice A3 k3 c3) k3 (dc (ks.map xP)),iY DK r34 g12 (LL.map tv) (left.map tv) cur]) (fun left cur A3 k3 c3 ks=>[]) (fun left cur A3 k3 c3 ks=>k3=ks.length∧(ks++left).Perm LL) LL none none 0 0 ([]:List Dg) [(34,_),(27,_),(26,_),(25,_),(24,_),(17,_),(16,_),(15,_),(14,_),(5,_),(4,_),(0,_),(1,_)] ⟨rfl,rfl,rfl,rfl,rfl,rfl,rfl,rfl,rfl,rfl,rfl,rfl,rfl,trivial⟩ [0,0] rfl [] rfl (⟨rfl,List.Perm.refl _⟩) ⟨rfl,trivial⟩ (fun left cur A3 k3 c3 ks ⟨hkn,hpm⟩=> ?_)
   refine ah<|aj<| ?_
   refine hx (rJ 1 rfl rfl (fun h0=> ?_) (fun j2 x hx1=> ?_))
   ·obtain rfl:left=[]:=List.map_eq_nil_iff.1 h0
    rw[List.append_nil]at hpm
    refine hy (fun _=>au rfl rfl)<|ai<|al (ρ' :=[(36,_),(10,_),(34,_),(27,_),(26,_),(25,_),(24,_),(17,_),(16,_),(15,_),(14,_),(5,_),(4,_),(0,_),(1,_)]) ⟨rfl,rfl,rfl,rfl,rfl,rfl,rfl,rfl,rfl,rfl,rfl,rfl,rfl,rfl,rfl,trivial⟩<|ag<|ah<| ?_
    refine dP rfl (rfl) ?_
    refine aZ (fun m=>(Own.rd (m.own 0 rfl)).2.1) fun hcc=> ?_
    have hkl2:=hpm.length_eq
    refine bK<|ao<|ao<|aC<|ag<|ah<|aj<|hy (fun _=>aa rfl)<| ?_
    refine hx (aq rfl Tryz.call147 (qb (BG ks) (by omega)) [0] rfl [] rfl ?_)
    rintro _ _ _ ⟨rfl,rfl,rfl⟩
    rw[rk (hpm.map xP) hsL]
    refine ai<|al (ρ' :=[(36,_),(10,_),(34,_),(27,_),(26,_),(25,_),(24,_),(17,_),(16,_),(15,_),(14,_),(5,_),(4,_),(0,_),(1,_)]) ⟨rfl,rfl,rfl,rfl,rfl,rfl,rfl,rfl,rfl,rfl,rfl,rfl,rfl,rfl,rfl,trivial⟩<|ak (X' :=[_,_,_,_,_]) (S' :=[_,_]) (fun _ m=>m)<|ag<|ah<|aj<|hy (fun _=>aa rfl)<|hy (fun _=>ab rfl)<|ai<|al (ρ' :=[(4,_),(36,_),(10,_),(34,_),(27,_),(26,_),(25,_),(24,_),(17,_),(16,_),(15,_),(14,_),(5,_),(0,_),(1,_)]) ⟨rfl,rfl,rfl,rfl,rfl,rfl,rfl,rfl,rfl,rfl,rfl,rfl,rfl,rfl,rfl,trivial⟩<|ag<|aU<| ?_
    refine ak (fun w m=>m.uP 1 rfl) ?_
    exact bc trivial rfl rfl [3,1] rfl [] rfl ⟨_,_,_,rfl,rfl,rfl,⟨by rw[List.length_map];omega,hcc⟩⟩
   ·obtain⟨kx,hkx,rfl⟩:=E3 hx1
    have h32:(aQ kx.1).length=32:=by rw[az,kx.2]
    have hlt3:=(List.getElem?_eq_some_iff.1 hkx).1
    have hp2:(ks++[kx]++left.eraseIdx j2).Perm LL:=by
     rw[List.append_assoc]
     exact((List.Perm.append_left ks (lS hkx)).symm.trans hpm)
    have hkl2:=hpm.length_eq
    rw[List.length_append]at hkl2
    refine hy (fun _=>au rfl rfl)<|ai<|al (ρ' :=[(36,_),(10,_),(34,_),(27,_),(26,_),(25,_),(24,_),(17,_),(16,_),(15,_),(14,_),(5,_),(4,_),(0,_),(1,_)]) ⟨rfl,rfl,rfl,rfl,rfl,rfl,rfl,rfl,rfl,rfl,rfl,rfl,rfl,rfl,rfl,trivial⟩<|ag<|ah<| ?_
    refine ib rfl (rfl) ?_
    refine aD<|ag<|aK<|ah<|aj<|hy (fun m=>pa rfl (m.DH 0 rfl))<| ?_
    refine hy (fun _=>yV (au rfl rfl) ((rfl:_=Value.agg (aQ kx.1).toArray)))<| ?_
    refine hx (aN dL (fun g11=> ?_))
    refine cI (aJ 0 rfl rfl rfl bp h32 aS rfl ?_)
    refine ai<|al (ρ' :=[(11,_),(36,_),(10,_),(34,_),(27,_),(26,_),(25,_),(24,_),(17,_),(16,_),(15,_),(14,_),(5,_),(4,_),(0,_),(1,_)]) ⟨rfl,rfl,rfl,rfl,rfl,rfl,rfl,rfl,rfl,rfl,rfl,rfl,rfl,rfl,rfl,rfl,trivial⟩<|ak (X' :=[_,_,_,_,_,_]) (S' :=[_,_]) (fun _ m=>m)<|ag<|aj<|hy (fun _=>aa rfl)<|hy (fun m=>a6 rfl cr bp h32 ((m.aY 0 rfl).ay))<| ?_
    refine hx (bV Tryz.underlying33 dL rfl rfl rfl (by simpa[Value.cells,B8]using h32) (by decide) (by decide) (fun g41=> ?_))
    have hA_b41:0<1→(some (⟨g41,0,none⟩:Addr))≠none:=fun _ h=>by cases h
    refine aR (fun w m=>m.bO 0 rfl (show _=aG 53 32 (.slice (some ⟨g41,0,none⟩) 1 1) 1 (dc [kx.1])from rfl)) ?_
    refine hx (bH 3 rfl rfl rfl Tryz.underlying33 Tryz.underlying33 (by exact .inl rfl) dL rfl (fun m=>Src.bY (m.ord 0 rfl)) jx (by unfold maxLen;omega) (by omega) (fun u=> ?_))
    refine aB (fun m=>(m.own 0 rfl).slice) ?_
    rintro⟨A_z,c_z,rfl,hc_z⟩
    refine aB (fun m=>(m.ord 0 rfl).2.1) fun hA_z=> ?_
    refine aR (fun w m=>m.bO 0 rfl (show _=aG 53 32 (.slice A_z (k3+1) c_z) (k3+1) (dc ((ks++[kx]).map xP))from congrArg (aG _ _ _ _) (by rw[List.map_append,fj];rfl))) ?_
    refine hy (fun _=>ab rfl)<|ai<|al (ρ' :=[(10,_),(11,_),(36,_),(34,_),(27,_),(26,_),(25,_),(24,_),(17,_),(16,_),(15,_),(14,_),(5,_),(4,_),(0,_),(1,_)]) ⟨rfl,rfl,rfl,rfl,rfl,rfl,rfl,rfl,rfl,rfl,rfl,rfl,rfl,rfl,rfl,rfl,trivial⟩<|ak (X' :=[_,_,_,_,_,_,_]) (S' :=[_,_]) (fun _ m=>m)<|aT<| ?_
    refine ak (fun w m=>m.bO 3 rfl (show _=iY DK r34 g12 (LL.map tv) ((left.eraseIdx j2).map tv) (some (tv kx))from congrArg (fun q=>iY DK r34 g12 (LL.map tv) q (some (tv kx))) (Ac left j2))) ?_
    refine gy (left.eraseIdx j2) (some (tv kx)) A_z (k3+1) c_z (ks++[kx]) ⟨rfl,rfl,rfl,rfl,rfl,rfl,rfl,rfl,rfl,rfl,rfl,rfl,rfl,rfl,trivial⟩ [1,0,2,2,2] rfl [0,1] rfl (⟨by rw[List.length_append,hkn];rfl,hp2⟩) (by rw[List.length_eraseIdx,if_pos hlt3];omega)
end Go.Proofs.YtmibdabdlgmafaaGreatDoor
end
section
set_option maxRecDepth 20000
set_option maxHeartbeats 4000000
namespace Go.Proofs.YtmibdabdlgmafaaGreatDoor
open Go.Eng Go.Hx
def cU(ns:List (List UInt8)):List (RD→RD×Int):=ns.map fun nm=>nj (aF nm)
def RD.rm(d:RD)(ns:List (List UInt8)):RD×Int:=if ns=[]then(d,0)else cg (cU ns++[cq]) d
theorem oC(a b:List (List UInt8)):cU (a++b)=cU a++cU b:=List.map_append
theorem BM{d y:RD}{ns:List (List UInt8)}{i:Nat}(hi:i<ns.length)(hr:cg (cU (ns.take i)) d=(y,0))(he:y.cd (aF (ns.getD i []))≠0):d.rm ns=(y,y.cd (aF (ns.getD i []))):=by
 have hs:ns=ns.take i++ns.getD i []::ns.drop (i+1):=by
  have:=List.take_append_drop i ns
  rw[List.drop_eq_getElem_cons hi]at this
  simpa[List.getD,hi]using this.symm
 have hne:ns≠ []:=fun e=>by rw[e]at hi;exact absurd hi (Nat.not_lt_zero _)
 unfold RD.rm
 rw[if_neg hne]
 generalize ns.getD i []=nm at hs he ⊢
 rw[hs,oC,List.append_assoc,mh,hr,if_neg (by show¬(0:Int)≠0;decide)]
 show cg (nj (aF nm)::(cU (ns.drop (i+1))++[cq])) y=_
 rw[cg,if_pos (by exact he)]
 exact Prod.ext (by show y.remove (aF nm)=y;rw[RD.remove,if_neg he]) rfl
theorem Bu{d y:RD}{ns:List (List UInt8)}{i:Nat}(hi:i<ns.length)(hr:cg (cU (ns.take i)) d=(y,0))(he:y.cd (aF (ns.getD i []))=0):cg (cU (ns.take (i+1))) d=(y.remove (aF (ns.getD i [])),0):=by
 have e:ns.take (i+1)=ns.take i++[ns.getD i []]:=by rw[List.take_succ_eq_append_getElem hi];simp[List.getD,hi]
 rw[e,oC,mh,hr,if_neg (by show¬(0:Int)≠0;decide)]
 show cg [nj (aF (ns.getD i []))] y=_
 rw[cg,if_neg (by show¬y.cd _≠0;rw[he];decide)]
 rfl
theorem Dc{d y:RD}{ns:List (List UInt8)}(hn:ns≠ [])(hr:cg (cU ns) d=(y,0)):d.rm ns=(y.sync,y.cT):=by
 unfold RD.rm
 rw[if_neg hn,mh,hr,if_neg (by show¬(0:Int)≠0;decide)]
 show cg [cq] y=_
 rw[cg]
 by_cases h2:(cq y).2=0
 ·rw[if_neg (fun q=>q h2)]
  exact Prod.ext rfl h2.symm
 ·rw[if_pos h2];rfl
theorem Bh{d y:RD}{ns:List (List UInt8)}(hn:ns.length=0)(hr:cg (cU (ns.take 0)) d=(y,0)):y=d∧d.rm ns=(d,0):=by
 rw[List.take_zero]at hr
 refine⟨(congrArg Prod.fst hr).symm, ?_⟩
 unfold RD.rm
 rw[if_pos (List.eq_nil_of_length_eq_zero hn)]
theorem yY{g:Nat}{st:cG}{d:RD}{kk:Nat}{A:Option Addr}{n c:Nat}{ns:List (List UInt8)}(hD:DS st d kk)(hkk:kk≤40000)(h32:mN ns)(hl:ns.length=n)(hn:n≤40000):cf Tryz.prog 144 [.pointer (some ⟨g,0,none⟩),.slice A n c] [bn g st] [c6 32 A n (dc ns)] (fun v_ X_ S_=>∃st1,v_=(.int .i64 (d.rm ns).2)∧X_=[bn g st1]∧S_=[]∧(DS st1 (d.rm ns).1 (kk+n))):=by
 refine aP (N:=27) Tryz.func144 rfl rfl (by simp) fun b=> ?_
 refine aZ (fun m=>jq (m.rd 0 rfl)) ?_
 rintro⟨hl_r,hA_r⟩
 refine ah<|aj<|hy (fun _=>ab rfl)<|ai<|ag<|ah<|ah<|aj<|hy (fun _=>aa rfl)<|hy (fun _=>aX rfl Tryz.underlying33)<|hy (fun _=>aa rfl)<|ai<|ag<|aK<| ?_
 refine fv (fun i st2 y=>n-i) (fun i st2 y=>[(10,.int .i64 (i:Nat))]) (fun i st2 y=>[bn g st2]) (fun i st2 y=>[]) (fun i st2 y=>i≤n∧cg (cU (ns.take i)) d=(y,0)∧DS st2 y (kk+i)) 0 st d [(9,_),(8,_),(0,_),(1,_)] ⟨rfl,rfl,rfl,rfl,trivial⟩ [0] rfl [] rfl (⟨Nat.zero_le _,rfl,hD⟩) ⟨rfl,trivial⟩ (fun i st2 y ⟨hin,hr,hDi⟩=> ?_)
 refine ah<|aj<|hy (fun _=>bw rfl rfl)<|ai<|ag<|ah<| ?_
 refine cD rfl (fun hlt=> ?_) (fun hlt=> ?_)
 ·have hi:i<ns.length:=by omega
  have hm:=iu h32 hi
  have hm2:(aQ (ns.getD i [])).length=32:=by rw[az,hm]
  refine aD<|ag<|ah<|aK<|ah<|aj<|hy (fun _=>cQ rfl rfl Tryz.underlying33 bp hA_r rfl (by omega))<|hy (fun m=>a6 rfl cr bp hm2 ((m.rd 0 rfl).k7 h32 hi))<| ?_
  refine hx (aN dL (fun g6=> ?_))
  refine cI (aJ 0 rfl rfl rfl bp hm2 aS rfl ?_)
  refine ai<|al (ρ' :=[(6,_),(11,_),(10,_),(9,_),(8,_),(0,_),(1,_)]) ⟨rfl,rfl,rfl,rfl,rfl,rfl,rfl,trivial⟩<|ak (X' :=[_,_]) (S' :=[_]) (fun _ m=>m)<|ag<|ah<|aj<|hy (fun _=>aa rfl)<|hy (fun m=>a6 rfl cr bp hm2 ((m.aY 0 rfl).ay))<| ?_
  refine hx (aq rfl Tryz.call94 (rp hm) [] rfl [] rfl ?_)
  rintro _ _ _ ⟨rfl,rfl,rfl⟩
  refine hx (aq rfl Tryz.call79 (zg hDi (by omega) (p:=(aF (ns.getD i [])))) [1] rfl [] rfl ?_)
  rintro _ _ _ ⟨st1,rfl,rfl,rfl,hE1⟩
  refine hy (fun _=>ab rfl)<|ai<|al (ρ' :=[(7,_),(6,_),(11,_),(10,_),(9,_),(8,_),(0,_),(1,_)]) ⟨rfl,rfl,rfl,rfl,rfl,rfl,rfl,rfl,trivial⟩<|ak (X' :=[_,_]) (S' :=[_]) (fun _ m=>m)<|ag<|ah<|aj<|hy (fun _=>aa rfl)<|hy (fun _=>dN rfl rfl)<|ai<|al (ρ' :=[(19,_),(7,_),(6,_),(11,_),(10,_),(9,_),(8,_),(0,_),(1,_)]) ⟨rfl,rfl,rfl,rfl,rfl,rfl,rfl,rfl,rfl,trivial⟩<|ag<| ?_
  refine cD rfl (fun he=> ?_) (fun he=> ?_)
  ·rw[BM hi hr he]
   rw[RD.remove,if_neg he]at hE1
   refine ah<|aj<|hy (fun _=>aa rfl)<|hy (fun _=>ab rfl)<|ai<|al (ρ' :=[(4,_),(19,_),(7,_),(6,_),(11,_),(10,_),(9,_),(8,_),(0,_),(1,_)]) ⟨rfl,rfl,rfl,rfl,rfl,rfl,rfl,rfl,rfl,rfl,trivial⟩<|ag<|aU<|aW<|ax<|ax<|aW<|ax<| ?_
   exact bc trivial rfl rfl [0] rfl [] rfl ⟨st1,rfl,rfl,rfl,hE1.le (by omega)⟩
  ·have he:=Decidable.not_not.1 he
   refine aD<|aT<|ag<|aj<|hy (fun _=>aM rfl rfl (bD (by omega) (by omega)))<|hy (fun _=>aa rfl)<|ai<|al (ρ' :=[(10,_),(19,_),(7,_),(6,_),(11,_),(9,_),(8,_),(0,_),(1,_)]) ⟨rfl,rfl,rfl,rfl,rfl,rfl,rfl,rfl,rfl,trivial⟩<| ?_
   refine eZ (i+1) st1 (y.remove (aF (ns.getD i []))) ⟨rfl,rfl,rfl,rfl,rfl,trivial⟩ [0] rfl [0] rfl (⟨by omega,Bu hi hr he,hE1.le (by omega)⟩) (by omega)
 ·obtain rfl:i=n:=by omega
  refine bK<|ao<|ao<|aC<|ag<|ah<|ah<|aj<|hy (fun _=>aa rfl)<|hy (fun _=>aX rfl Tryz.underlying33)<|hy (fun _=>cH rfl rfl)<|ai<|al (ρ' :=[(24,_),(11,_),(10,_),(9,_),(8,_),(0,_),(1,_)]) ⟨rfl,rfl,rfl,rfl,rfl,rfl,rfl,trivial⟩<|ag<| ?_
  refine cD rfl (fun hz=> ?_) (fun hz=> ?_)
  ·obtain rfl:i=0:=by omega
   obtain⟨rfl,e0⟩:=Bh hl hr
   rw[e0]
   refine ah<|aj<|hy (fun _=>ab rfl)<|ai<|ag<|aU<|ax<| ?_
   exact bc trivial rfl rfl [0] rfl [] rfl ⟨st2,rfl,rfl,rfl,hDi⟩
  ·have hne:ns≠ []:=fun q=>hz (by rw[q]at hl;rw[←hl];rfl)
   rw[List.take_of_length_le (by omega)]at hr
   rw[Dc hne hr]
   refine aD<|ag<|ah<|aj<|hy (fun _=>aa rfl)<| ?_
   refine hx (aq rfl Tryz.call110 (uL hDi) [0] rfl [] rfl ?_)
   rintro _ _ _ ⟨st1,rfl,rfl,rfl,hE1⟩
   refine hy (fun _=>ab rfl)<|ai<|al (ρ' :=[(4,_),(24,_),(11,_),(10,_),(9,_),(8,_),(0,_),(1,_)]) ⟨rfl,rfl,rfl,rfl,rfl,rfl,rfl,rfl,trivial⟩<|ak (X' :=[_]) (S' :=[_]) (fun _ m=>m)<|ag<|aU<| ?_
   exact bc trivial rfl rfl [0] rfl [] rfl ⟨st1,rfl,rfl,rfl,hE1⟩
def RD.prune(d:RD)(kp:List (List UInt8)):RD×Int×Int:=
 if d.pw=0 then(d,0,6)else if(d.rm (cx (bL d) kp)).2≠0 then((d.rm (cx (bL d) kp)).1,0,(d.rm (cx (bL d) kp)).2)else((d.rm (cx (bL d) kp)).1,(((cx (bL d) kp).length:Nat):Int),0)
theorem uI{d:RD}{kp:List (List UInt8)}(h:d.pw=0):d.prune kp=(d,0,6):=by unfold RD.prune;rw[if_pos h]
theorem uu{d:RD}{kp:List (List UInt8)}(h:¬d.pw=0)(h2:(d.rm (cx (bL d) kp)).2≠0):d.prune kp=((d.rm (cx (bL d) kp)).1,0,(d.rm (cx (bL d) kp)).2):=by unfold RD.prune;rw[if_neg h,if_pos h2]
theorem pg{d:RD}{kp:List (List UInt8)}(h:¬d.pw=0)(h2:(d.rm (cx (bL d) kp)).2=0):d.prune kp=((d.rm (cx (bL d) kp)).1,(((cx (bL d) kp).length:Nat):Int),0):=by unfold RD.prune;rw[if_neg h,if_neg (fun q=>q h2)]
theorem vE{g:Nat}{st:cG}{d:RD}{kk:Nat}{K:Option Addr}{n c:Nat}{L:List IX}(hD:DS st d kk)(hkk:kk≤30000)(hnl:∀x∈d.seen,x.1.length≤1000000)(hL:L.length=n)(hn:n≤100000)(hs:(dG L).length≤100000):cf Tryz.prog 62 [.pointer (some ⟨g,0,none⟩),.slice K n c] [bn g st] [c6 36 K n (Cz L),lM (L.map IX.oB)] (fun v_ X_ S_=>∃st1,v_=(.tuple #[.int .i64 (d.prune (dG L)).2.1,.int .i64 (d.prune (dG L)).2.2])∧X_=[bn g st1]∧S_=[]∧(DS st1 (d.prune (dG L)).1 (kk+kk))):=by
 have hlen:(bL d).length≤kk:=Nat.le_trans (pr d) hD.uZ.seen
 have hpw:=hD.n7.cj
 have hl0:(cx (bL d) (dG L)).length≤kk:=Nat.le_trans wY hlen
 have hl32:mN (cx (bL d) (dG L)):=ql (lA d)
 refine aP (N:=22) Tryz.func62 rfl rfl (by simp) fun b=> ?_
 refine aZ (fun m=>jq (m.rd 0 rfl)) ?_
 rintro⟨hl_r,hA_r⟩
 refine ah<|aj<|hy (fun _=>ab rfl)<|hy (fun _=>ab rfl)<|ai<|ag<|ah<|ah<|aj<|hy (fun _=>aa rfl)<| ?_
 refine hx (aq rfl Tryz.call87 (FW) [0] rfl [] rfl ?_)
 rintro _ _ _ ⟨rfl,rfl,rfl⟩
 refine hy (fun _=>(mH rfl))<|ai<|al (ρ' :=[(10,_),(5,_),(4,_),(0,_),(1,_)]) ⟨rfl,rfl,rfl,rfl,rfl,trivial⟩<|ak (X' :=[_]) (S' :=[_,_]) (fun _ m=>m)<|ag<| ?_
 by_cases h0:d.pw=0
 ·rw[uI h0]
  refine ib rfl ((by rw[hpw,h0];rfl)) ?_
  refine ah<|aj<|hy (fun _=>ab rfl)<|hy (fun _=>ab rfl)<|ai<|ag<|aU<|ax<| ?_
  exact dg trivial rfl rfl rfl [0] rfl [] rfl ⟨st,rfl,rfl,rfl,hD.le (by omega)⟩
 ·refine dP rfl ((by rw[hpw];simp[h0])) ?_
  refine aD<|ag<|ah<|aj<|hy (fun _=>aa rfl)<|hy (fun _=>aa rfl)<| ?_
  refine hx (aq rfl Tryz.call66 (DO hD (by omega) hnl hL hn hs) [0] rfl [0,1] rfl ?_)
  rintro _ _ _ ⟨A1,k,c1,rfl,rfl,rfl,hk1⟩
  obtain⟨hk1,_⟩:=hk1
  refine hy (fun _=>ab rfl)<|ai<|al (ρ' :=[(6,_),(10,_),(5,_),(4,_),(0,_),(1,_)]) ⟨rfl,rfl,rfl,rfl,rfl,rfl,trivial⟩<|ak (X' :=[_,_]) (S' :=[_,_]) (fun _ m=>m)<|ag<|ah<|ah<|aj<|hy (fun _=>aa rfl)<|hy (fun _=>aa rfl)<| ?_
  refine hx (cC rfl Tryz.call144 (yY hD (by omega) hl32 hk1.symm (by omega)) [0] rfl (.x 0 rfl .own .nil) ?_)
  rintro _ _ _ ⟨st1,rfl,rfl,rfl,hE1⟩
  refine⟨rfl, ?_⟩
  refine hy (fun _=>ab rfl)<|ai<|al (ρ' :=[(7,_),(6,_),(10,_),(5,_),(4,_),(0,_),(1,_)]) ⟨rfl,rfl,rfl,rfl,rfl,rfl,rfl,trivial⟩<|ak (X' :=[_,_]) (S' :=[_,_]) (fun _ m=>m)<|ag<|ah<|aj<|hy (fun _=>aa rfl)<|hy (fun _=>dN rfl rfl)<|ai<|al (ρ' :=[(18,_),(7,_),(6,_),(10,_),(5,_),(4,_),(0,_),(1,_)]) ⟨rfl,rfl,rfl,rfl,rfl,rfl,rfl,rfl,trivial⟩<|ag<| ?_
  refine cD rfl (fun he=> ?_) (fun he=> ?_)
  ·rw[uu h0 he]
   refine ah<|aj<|hy (fun _=>aa rfl)<|hy (fun _=>ab rfl)<|hy (fun _=>ab rfl)<|ai<|al (ρ' :=[(5,_),(4,_),(18,_),(7,_),(6,_),(10,_),(0,_),(1,_)]) ⟨rfl,rfl,rfl,rfl,rfl,rfl,rfl,rfl,trivial⟩<|ag<|aU<|ax<| ?_
   exact dg trivial rfl rfl rfl [0] rfl [] rfl ⟨st1,rfl,rfl,rfl,hE1.le (by omega)⟩
  ·rw[pg h0 (Decidable.not_not.1 he),←hk1]
   refine aD<|ag<|ah<|aj<|hy (fun _=>aa rfl)<|hy (fun _=>aX rfl Tryz.underlying33)<|hy (fun _=>ab rfl)<|hy (fun _=>ab rfl)<|ai<|al (ρ' :=[(5,_),(4,_),(18,_),(7,_),(6,_),(10,_),(0,_),(1,_)]) ⟨rfl,rfl,rfl,rfl,rfl,rfl,rfl,rfl,trivial⟩<|ag<|aU<| ?_
   exact dg trivial rfl rfl rfl [0] rfl [] rfl ⟨st1,rfl,rfl,rfl,hE1.le (by omega)⟩
def RD.whole(d:RD)(ns:List (List UInt8)):Bool:=ns.all fun nm=>decide (d.dY nm=0)
theorem uQ{d:RD}{ns:List (List UInt8)}:decide ((jY d (ns.foldl ek [])).length=0)=d.whole ns:=by
 obtain⟨_,hm⟩:=iq ns [] List.Pairwise.nil
 rw[Bool.eq_iff_iff,decide_eq_true_eq,RD.whole,List.all_eq_true,List.length_eq_zero_iff,jY,List.filter_eq_nil_iff]
 constructor
 ·intro h x hx
  have:=h x ((hm x).2 (.inr hx))
  simpa using this
 ·intro h x hx
  have:=h x (((hm x).1 hx).resolve_left List.not_mem_nil)
  simpa using this
theorem wW{d:RD}{ns:List (List UInt8)}:Value.bool (decide (((jY d (ns.foldl ek [])).length:Int)=0))= .bool (d.whole ns):=by
 rw[←uQ]
 congr 1
 rw[decide_eq_decide]
 omega
theorem vR{g:Nat}{st:cG}{d:RD}{kk:Nat}{x:IX}(hD:DS st d kk)(hkk:kk≤30000)(hs:x.kT.length≤10000):cf Tryz.prog 70 [.pointer (some ⟨g,0,none⟩),.agg x.cs.toArray] [bn g st] [lM ([x].map IX.oB),ef] (fun v_ X_ S_=>v_=(.bool (d.whole x.names))∧X_=[bn g st]∧S_=[]):=by
 have hfl:=sB (qu x) x.names.length
 rw[List.take_length]at hfl
 have hnl:=gQ x
 have ha:dG [x]=x.names:=List.append_nil _
 refine aP (N:=12) Tryz.func70 rfl rfl (by simp) fun b=> ?_
 refine ah<|aj<| ?_
 refine hx (cy rfl (fun g3=> ?_))
 refine aR (fun w m=>m.bO 0 rfl (show _=aI g3 88 x.cs from congrArg (aI _ _) (bq _))) ?_
 refine hy (fun _=>ab rfl)<|ai<|ak (X' :=[_,_]) (S' :=[_,_]) (fun _ m=>m)<|ag<|ah<|aj<|hy (fun _=>aa rfl)<|hy (fun m=>a6 rfl C8 wT x.dy ((m.aY 0 rfl).ay))<| ?_
 refine hx (bV Tryz.underlying125 wO rfl rfl rfl (by simpa[Value.cells]using x.dy) (by decide) (by decide) (fun g7=> ?_))
 have hA_b7:0<1→(some (⟨g7,0,none⟩:Addr))≠none:=fun _ h=>by cases h
 refine aR (fun w m=>m.bO 0 rfl (show _=aG 88 36 (.slice (some ⟨g7,0,none⟩) 1 1) 1 (Cz [x])from rfl)) ?_
 refine hx (cC rfl Tryz.call146 (qt rfl (by decide) (by rw[ha];omega)) [] rfl (.x 0 rfl .own (.s 0 rfl .nil)) ?_)
 rintro _ _ _ ⟨A1,k,c1,rfl,rfl,rfl,hk1⟩
 refine⟨rfl, ?_⟩
 obtain⟨hk1,_⟩:=hk1
 rw[ha]at hk1
 rw[ha]
 refine hx (cC rfl Tryz.call77 (Fk hD hfl.1 (by omega)) [3] rfl (.x 0 rfl .own (.s 1 rfl .nil)) ?_)
 rintro _ _ _ ⟨v,k2,rfl,rfl,rfl,hk2⟩
 refine⟨rfl, ?_⟩
 refine aB (fun m=>(m.own 1 rfl).slice) ?_
 rintro⟨A_o2,c_o2,rfl,hc_o2⟩
 refine aB (fun m=>(m.ord 1 rfl).2.1) fun hA_o2=> ?_
 subst hk2
 refine hy (fun _=>aX rfl Tryz.underlying33)<| ?_
 refine hy (fun _=>yV (cH rfl rfl) (wW))<|hy (fun _=>ab rfl)<|ai<|al (ρ' :=[(4,_),(3,_),(0,_),(1,_)]) ⟨rfl,rfl,rfl,rfl,trivial⟩<|ak (X' :=[_,_,_,_,_]) (S' :=[_,_]) (fun _ m=>m)<|ag<|aU<| ?_
 exact bc trivial rfl rfl [0] rfl [] rfl ⟨rfl,rfl,rfl⟩
end Go.Proofs.YtmibdabdlgmafaaGreatDoor
end
section
set_option maxRecDepth 20000
set_option maxHeartbeats 4000000
namespace Go.Proofs.YtmibdabdlgmafaaGreatDoor
open Go.Eng Go.Hx
theorem zF{ds:List (List UInt8)}{i:Nat}(hi:i<ds.length):ds.take (i+1)=ds.take i++[ds.getD i []]:=by rw[List.take_succ_eq_append_getElem hi];simp[List.getD,hi]
end Go.Proofs.YtmibdabdlgmafaaGreatDoor
end
section
set_option maxRecDepth 20000
set_option maxHeartbeats 4000000
namespace Go.Proofs.YtmibdabdlgmafaaGreatDoor
open Go.Eng Go.Hx
theorem uY{d:RD}{ns:List (List UInt8)}{i:Nat}(hi:i<ns.length):d.whole (ns.take (i+1))=(d.whole (ns.take i) && decide (d.dY (ns.getD i [])=0)):=by
 rw[zF hi,RD.whole,RD.whole,List.all_append]
 simp
theorem x6{d:RD}{ns:List (List UInt8)}{i:Nat}(hi:i<ns.length)(h:d.dY (ns.getD i [])≠0):d.whole ns=false:=by
 rw[Bool.eq_false_iff]
 intro hw
 rw[RD.whole,List.all_eq_true]at hw
 have:=hw (ns.getD i []) (by rw[List.getD,List.getElem?_eq_getElem hi];exact List.getElem_mem hi)
 exact h (by simpa using this)
theorem xD{x:RX}{kk:Nat}{u:IX}(ok:yh x.d kk)(hkk:kk≤90000)(hrd:∀p,(x.d.cm p).length≤10000000)(hs:u.kT.length≤10000):cf Tryz.prog 71 [.agg x.cs.toArray,.agg u.cs.toArray] [] [dE x,lM ([u].map IX.oB),ef] (fun v_ X_ S_=>v_=(.bool (x.d.whole u.names))∧X_=[]∧S_=[]):=by
 refine aP (N:=28) Tryz.func71 rfl rfl (by simp) fun b=> ?_
 refine ah<|aj<| ?_
 refine hx (cy rfl (fun g2=> ?_))
 refine aR (fun w m=>m.bO 0 rfl (show _=aI g2 39 x.cs from congrArg (aI _ _) (bq _))) ?_
 refine hx (cy rfl (fun g3=> ?_))
 refine aR (fun w m=>m.bO 0 rfl (show _=aI g3 82 u.cs from congrArg (aI _ _) (bq _))) ?_
 refine aR (fun w m=>m.j6 1 rfl (View.n0 0 rfl)) ?_
 refine aB (fun m=>jq (m.rd 0 rfl)) ?_
 rintro⟨hl_it,hA_it⟩
 refine aB (fun m=>(m.rd 0 rfl).2.1) fun hA_it=> ?_
 refine hy (fun _=>ab rfl)<|ai<|ak (X' :=[_,_]) (S' :=[_,_,_,_]) (fun _ m=>m)<|ag<|ah<|ah<|aj<|hy (fun _=>ab rfl)<|ai<|ag<|aK<| ?_
 refine dz (fun i=>u.kT.length-i) (fun i=>[(5,.int .i64 (i:Nat))]) (fun i=>[]) (fun i=>[]) (fun i=>i≤u.kT.length∧x.d.whole (u.names.take i)=true) 0 [(3,_),(2,_),(0,_),(1,_)] ⟨rfl,rfl,rfl,rfl,trivial⟩ [] rfl [] rfl (⟨Nat.zero_le _,rfl⟩) ⟨rfl,trivial⟩ (fun i ⟨hi,hw⟩=> ?_)
 refine ah<|ah<|aj<|hy (fun _=>aa rfl)<|hy (fun _=>aL rfl pD (by decide))<|hy (fun m=>aw rfl zP (aA (m.aY 0 rfl) (i:=35) u.zN))<|hy (fun _=>aX rfl Tryz.underlying80)<|hy (fun _=>bw rfl rfl)<|ai<|al (ρ' :=[(12,_),(5,_),(3,_),(2,_),(0,_),(1,_)]) ⟨rfl,rfl,rfl,rfl,rfl,rfl,trivial⟩<|ag<| ?_
 refine cD rfl (fun hlt=> ?_) (fun hlt=> ?_)
 ·have hi2:i<u.kT.length:=by omega
  have hi3:i<u.names.length:=by rw[gQ];exact hi2
  obtain⟨t,ht⟩:∃t,u.kT[i]? =some t:=⟨_,List.getElem?_eq_getElem hi2⟩
  have hgd:u.names.getD i []=t.1.b:=by
   obtain⟨_,rfl⟩:=List.getElem?_eq_some_iff.1 ht
   simp[IX.names,List.getD,hi2]
  have hwn:=uY (d:=x.d) hi3
  rw[hgd,hw]at hwn
  have hwo:=x6 (d:=x.d) hi3
  rw[hgd]at hwo
  have h32:(aQ t.1.b).length=32:=by rw[az,t.1.h]
  refine aD<|ag<|ah<|aK<|ah<|cN [7] [(0,some 0),(1,some 1),(2,some 0),(3,some 0),(4,some 0),(5,some 0),(6,some 0),(7,none),(8,some 1),(9,some 1),(10,some 1),(11,some 1),(12,some 1)] (by kernel_rfl) (by kernel_rfl) rfl 99<|b6 (fun m=>yV (a6 rfl cE bu rfl ((m.aY 1 rfl).ay)) ((rfl:_=Value.agg x.cs.toArray)))<|an (aL rfl pD (by decide))<|b6 (fun m=>aw rfl zP (aA (m.aY 0 rfl) (i:=35) u.zN))<|an (aa rfl)<|an (cQ rfl rfl Tryz.underlying80 vW hA_it rfl (by omega))<|an (aL rfl vM (by decide))<|b6 (fun m=>a6 rfl cr bp h32 (DG (m.rd 0 rfl) ht))<| ?_
  refine dT (aq rfl Tryz.call74 (CO ok (by omega) t.1.h (hrd _)) [] rfl [1,3] rfl ?_)
  rintro _ _ _ ⟨rfl,rfl,rfl⟩
  refine⟨(fun _=>wk [0,0] [0,1,2,3] rfl rfl), ?_⟩
  refine an (aa rfl)<|an (au rfl rfl)<|an (au rfl rfl)<|an (ab rfl)<|an (ab rfl)<|bz<|al (ρ' :=[(7,_),(12,_),(5,_),(3,_),(2,_),(0,_),(1,_)]) ⟨rfl,rfl,rfl,rfl,rfl,rfl,rfl,trivial⟩<|ak (X' :=[_,_]) (S' :=[_,_,_,_]) (fun _ m=>m)<|ag<|ah<|aj<|hy (fun _=>aa rfl)<|hy (fun _=>dN rfl rfl)<|ai<|al (ρ' :=[(27,_),(7,_),(12,_),(5,_),(3,_),(2,_),(0,_),(1,_)]) ⟨rfl,rfl,rfl,rfl,rfl,rfl,rfl,rfl,trivial⟩<|ag<| ?_
  refine cD rfl (fun he=> ?_) (fun he=> ?_)
  ·rw[hwo he]
   refine ah<|aj<|hy (fun _=>ab rfl)<|ai<|ag<|aU<|aW<|ax<|ax<|aW<|ax<| ?_
   exact bc trivial rfl rfl [] rfl [] rfl ⟨rfl,rfl,rfl⟩
  ·rw[decide_eq_true (Decidable.not_not.1 he)]at hwn
   refine aD<|aT<|ag<|aj<|hy (fun _=>aa rfl)<|hy (fun _=>aM rfl rfl (bD (by omega) (by omega)))<|hy (fun _=>ab rfl)<|ai<|al (ρ' :=[(5,_),(27,_),(7,_),(12,_),(3,_),(2,_),(0,_),(1,_)]) ⟨rfl,rfl,rfl,rfl,rfl,rfl,rfl,rfl,trivial⟩<| ?_
   refine cM (i+1) ⟨rfl,rfl,rfl,rfl,rfl,trivial⟩ [0,0] rfl [0,1,2,3] rfl (⟨by omega,hwn⟩) (by omega)
 ·rw[List.take_of_length_le (by rw[gQ];omega)]at hw
  rw[hw]
  refine bK<|ao<|ao<|aC<|ag<|ah<|aj<|hy (fun _=>ab rfl)<|ai<|ag<|aU<| ?_
  exact bc trivial rfl rfl [] rfl [] rfl ⟨rfl,rfl,rfl⟩
end Go.Proofs.YtmibdabdlgmafaaGreatDoor
end
section
set_option maxRecDepth 20000
set_option maxHeartbeats 4000000
namespace Go.Proofs.YtmibdabdlgmafaaGreatDoor
open Go.Eng Go.Hx
theorem vy{w:World}{g:Nat}{t:TypeId}{p:Value}{x:RX}(h:fb w g t (p::x.cs)):∀(j:Nat) (u:Value),x.cs[j]? =some u→w.cell? ((⟨g,0,none⟩:Addr).add 1|>.add j)=some u:=fun j u hu=>by
 rw[add_add]
 exact h.ay (1+j) u (by rw[Nat.add_comm];exact hu)
end Go.Proofs.YtmibdabdlgmafaaGreatDoor
end
section
set_option maxRecDepth 20000
set_option maxHeartbeats 4000000
namespace Go.Proofs.YtmibdabdlgmafaaGreatDoor
open Go.Eng Go.Hx
theorem rQ{p:Value}{x y:RX}:br (p::x.cs) 1 y.cs=p::y.cs:=rfl
end Go.Proofs.YtmibdabdlgmafaaGreatDoor
end
section
namespace Go.Proofs.YtmibdabdlgmafaaGreatDoor
open Go.Eng Go.Hx
def Dw(d:RD):Nat:=(d.waits.filter fun c=>decide (c.1≠2)).length
structure Bd(d:RD)(B W:Nat):Prop where
 sn:d.seen.length≤B
 la:d.ct.length+Dw d≤B
 wt:d.waits.length≤W
 nS:∀y∈d.seen,y.1.length≤1000
 nL:∀y∈d.ct,y.1.length≤1000
 nW:∀c∈d.waits,(c.1=0→c.2.1.length≤1000)∧c.2.2.1.length≤1000
theorem Bd.le{d:RD}{B W B' W' :Nat}(h:Bd d B W)(hB:B≤B')(hW:W≤W'):Bd d B' W' :=⟨Nat.le_trans h.sn hB,Nat.le_trans h.la hB,Nat.le_trans h.wt hW,h.nS,h.nL,h.nW⟩
theorem Bd.new(room:Int):Bd (RD.new room) 0 0:=⟨Nat.le_refl _,Nat.le_refl _,Nat.le_refl _,fun y h=>(List.not_mem_nil h).elim,fun y h=>(List.not_mem_nil h).elim,fun y h=>(List.not_mem_nil h).elim⟩
theorem oV:∀(l:List FP) (x:FP),(gI l x).length≤l.length+1
 | [],x=>Nat.le_refl _
 |a::r,x=>by
  unfold gI
  have:=oV r x
  split
  ·simp only[List.length_cons];omega
  ·rw[List.length_cons];exact Nat.succ_le_succ (List.length_filter_le _ _)
theorem tB(l:List FP)(x:FP):(gi l x).length≤l.length+1:=by
 rw[ja]
 exact oV l x
theorem va{l:List FP}{p b:List UInt8}(h:∀y∈l,y.1.length≤1000)(hp:p.length≤1000):∀y∈gi l (p,b),y.1.length≤1000:=by
 intro y hy
 rw[ja]at hy
 rcases wi hy with rfl|hy
 ·exact hp
 ·exact h y hy
theorem AJ{l:List FP}{k:Int}{p t b:List UInt8}(h:∀y∈l,y.1.length≤1000)(hp:k=0→p.length≤1000)(ht:t.length≤1000):∀y∈dw l k p t b,y.1.length≤1000:=by
 unfold dw
 split
 ·exact va h (hp (by assumption))
 ·split
  ·exact h
  ·split
   ·exact fun y hy=>h y (List.mem_filter.1 hy).1
   ·exact va (fun y hy=>h y (List.mem_filter.1 hy).1) ht
theorem yr{l:List FP}{k:Int}{p t b:List UInt8}:(dw l k p t b).length≤l.length+(if k≠2 then 1 else 0):=by
 by_cases h0:k=0
 ·rw[dw,if_pos h0,if_pos (by rw[h0];decide)];exact tB _ _
 ·rw[dw,if_neg h0]
  cases hq:l[cp l p]? with
  |none=>exact Nat.le_add_right _ _
  |some x=>
   by_cases h2:k=2
   ·simp only[if_pos h2]
    exact Nat.le_trans (List.length_filter_le _ _) (Nat.le_add_right _ _)
   ·simp only[if_neg h2]
    rw[if_pos h2]
    exact Nat.le_trans (tB _ _) (Nat.succ_le_succ (List.length_filter_le _ _))
theorem Bd.gp{d:RD}{B W:Nat}(h:Bd d B W){k:Int}{p t b:List UInt8}(hp:k=0→p.length≤1000)(ht:t.length≤1000):Bd (d.gp k p t b) (B+(if k≠2 then 1 else 0)) (W+1):=by
 have h1:=h.sn
 have h2:=h.la
 have h3:=h.wt
 refine⟨Nat.le_trans yr (Nat.add_le_add_right h1 _), ?_, ?_,AJ h.nS hp ht,h.nL,fun c hc=> ?_⟩
 ·have:Dw (d.gp k p t b)=Dw d+(if k≠2 then 1 else 0):=by
   show((d.waits++[(k,p,t,b)]).filter _).length=_
   rw[List.filter_append,List.length_append]
   congr 1
   by_cases hk:k=2
   ·simp[hk]
   ·simp[hk]
  rw[this]
  show d.ct.length+_≤_
  omega
 ·show(d.waits++[_]).length≤_
  rw[List.length_append]
  exact Nat.add_le_add_right h3 1
 ·rcases List.mem_append.1 hc with hc|hc
  ·exact h.nW c hc
  ·rw[List.mem_singleton.1 hc];exact⟨hp,ht⟩
theorem Bd.write{d:RD}{B W:Nat}(h:Bd d B W){p l:List UInt8}(hp:p.length≤1000):Bd (d.write p l) (B+1) (W+1):=by
 unfold RD.write
 split
 ·exact h.gp (fun _=>hp) (by decide)
 ·exact h.le (by omega) (by omega)
theorem Bd.rename{d:RD}{B W:Nat}(h:Bd d B W){a c:List UInt8}(hc:c.length≤1000):Bd (d.rename a c) (B+1) (W+1):=by
 unfold RD.rename
 split
 ·exact h.gp (fun e=>absurd e (by decide)) hc
 ·exact h.le (by omega) (by omega)
theorem Bd.sync{d:RD}{B W:Nat}(h:Bd d B W):Bd d.sync B W:=by
 unfold RD.sync
 split
 ·exact h
 ·exact⟨h.sn,h.sn,Nat.zero_le _,h.nS,h.nS,fun c hc=>(List.not_mem_nil hc).elim⟩
theorem Bd.cg(a:Nat):∀(Fs:List (RD→RD×Int)) {d:RD} {B W:Nat},(∀F∈Fs,∀d B W,Bd d B W→Bd (F d).1 (B+a) (W+1))→Bd d B W→Bd (cg Fs d).1 (B+a*Fs.length) (W+Fs.length)
 | [],d,B,W,_,h=>h
 |F::r,d,B,W,hF,h=>by
  have h1:=hF F (List.mem_cons_self ..) d B W h
  rw[Go.Proofs.YtmibdabdlgmafaaGreatDoor.cg]
  split
  ·refine h1.le ?_ (by rw[List.length_cons];omega)
   rw[List.length_cons,Nat.mul_succ];omega
  ·refine(Bd.cg a r (fun G hG=>hF G (List.mem_cons_of_mem _ hG)) h1).le ?_ (by rw[List.length_cons];omega)
   rw[List.length_cons,Nat.mul_succ];omega
theorem Bd.put{d:RD}{B W:Nat}(h:Bd d B W)(bb:List UInt8):Bd (d.put bb).1 (B+4) (W+4):=by
 have hm:=bj bb
 have hR:Bd (d.hZ bb).1 (B+4) (W+4):=Bd.cg 1 (vz (bJ (ba bb)) bb (ba bb)) (fun F hF d B W h=>by
  simp only[List.mem_cons,List.not_mem_nil,or_false]at hF
  rcases hF with rfl|rfl|rfl|rfl
  ·exact h.write (by rw[iV hm];decide)
  ·exact h.sync.le (by omega) (by omega)
  ·exact h.rename (by rw[dS hm];decide)
  ·exact h.sync.le (by omega) (by omega)) h
 unfold RD.put
 split
 ·exact h.le (by omega) (by omega)
 ·split
  ·exact h.le (by omega) (by omega)
  ·split
   ·exact h.le (by omega) (by omega)
   ·exact hR
end Go.Proofs.YtmibdabdlgmafaaGreatDoor
end
section
set_option maxRecDepth 20000
set_option maxHeartbeats 4000000
namespace Go.Proofs.YtmibdabdlgmafaaGreatDoor
open Go.Eng Go.Hx
def ints(l:List Int):List Value:=l.map (Value.int .i64)
def pV(l:List Int):Prop:=∀z∈l,-9223372036854775808≤z∧z≤9223372036854775807
theorem lU{l:List Int}{i:Nat}(h:i<l.length):(ints l)[i]? =some (.int .i64 (l.getD i 0)):=by simp[ints,List.getElem?_map,List.getElem?_eq_getElem h,List.getD]
theorem pV.at{l:List Int}(h:pV l){i:Nat}(hi:i<l.length):-9223372036854775808≤l.getD i 0∧l.getD i 0≤9223372036854775807:=by
 rw[List.getD,List.getElem?_eq_getElem hi]
 exact h _ (List.getElem_mem hi)
theorem p4{P:RD→Prop}:∀(Fs:List (RD→RD×Int)) (d:RD),(∀F∈Fs,∀d,P d→P (F d).1)→P d→P (cg Fs d).1
 | [],d,_,h=>h
 |F::r,d,hF,h=>by
  have h1:=hF F (List.mem_cons_self ..) d h
  rw[cg]
  split
  ·exact h1
  ·exact p4 r _ (fun G hG=>hF G (List.mem_cons_of_mem _ hG)) h1
theorem BO(d:RD)(bb:List UInt8):(d.put bb).2.1.length=32:=by
 unfold RD.put
 split
 ·exact eR
 ·split
  ·exact eR
  ·split
   ·exact bj _
   ·show(if _ then _ else _:List UInt8).length=32
    split
    ·exact bj _
    ·exact eR
theorem ym(z:Int):∃k:Nat,dU z 6=(k:Int)∧k<6:=by
 have:=qa z 6 (by decide)
 exact⟨(dU z 6).toNat,by omega,by omega⟩
theorem xf{P:Program}{e:TypeId}(he:P.underlying e=some (.int .i64)):∀{n:Nat} {ys:List Cell},ys.length=n→(∀i,i<n→Ty P e ((ys.drop i).take 1))→∃l:List Int,ys.map Cell.val=ints l∧l.length=n∧pV l:=by
 intro n ys hl h
 have hg:∀i,i<n→∃z:Int,ys[i]? =some (.v (.int .i64 z))∧-9223372036854775808≤z∧z≤9223372036854775807:=fun i hi=>by
  obtain⟨z,hz,hb⟩:=CZ he (h i hi)
  have h2:((ys.drop i).take 1)[0]? =some (.v (.int .i64 z)):=by rw[hz];rfl
  rw[List.getElem?_take,if_pos (by omega),List.getElem?_drop,Nat.add_zero]at h2
  exact⟨z,h2,hb⟩
 refine⟨ys.map fun y=>match y.val with| .int _ z=>z|_=>0, ?_,by simpa using hl,fun z hz=> ?_⟩
 ·apply List.ext_getElem?
  intro i
  simp only[ints,List.map_map,List.getElem?_map]
  by_cases hi:i<n
  ·obtain⟨z,hz,_⟩:=hg i hi
   rw[hz]
   simp[Cell.val]
  ·rw[List.getElem?_eq_none (by omega)]
   rfl
 ·obtain⟨y,hy,rfl⟩:=List.mem_map.1 hz
  obtain⟨i,hi⟩:=List.mem_iff_getElem?.1 hy
  have hin:i<n:=by rw[←hl];exact(List.getElem?_eq_some_iff.1 hi).1
  obtain⟨z,hz2,hb⟩:=hg i hin
  rw[hi]at hz2
  cases hz2
  exact hb
theorem rj{xs:List Cell}(h:Ty Tryz.prog 44 xs):∃A n c ys l,xs=[.s 1 A n c ys]∧ys.map Cell.val=ints l∧pV l:=by
 obtain⟨A,n,c,ys,rfl,h1,h2,h3,h4⟩:=sE Tryz.underlying44 h
 have c1:Tryz.prog.cellsOf 3=1:=by kernel_rfl
 rw[c1]at h3 h4 ⊢
 obtain⟨l,h5,h6,h7⟩:=xf Tryz.underlying3 (by omega:ys.length=n) (fun i hi=>by have:=h4 i hi;rwa [Nat.mul_one]at this)
 exact⟨A,n,c,ys,l,rfl,h5,h7⟩
end Go.Proofs.YtmibdabdlgmafaaGreatDoor
end
section
set_option maxRecDepth 20000
set_option maxHeartbeats 4000000
namespace Go.Proofs.YtmibdabdlgmafaaGreatDoor
open Go.Eng Go.Hx
def iF(z:Int):List UInt8:=bd (dU z 6).toNat
def eO(d:RD)(zl:List Int):RD:=zl.foldl (fun d z=>(d.put (iF z)).1) d
def iR(d:RD)(zb:List Int)(bb:List UInt8):RD:=zb.foldl (fun d z=>d.write (aF (ba (iF z))) bb) d
def fU(zl zb:List Int)(bb:List UInt8):RD:=(iR (eO (RD.new 2000) (zl.take 6)) (zb.take 3) (bb.take 30)).sync
theorem tb{d:RD}{zl:List Int}{i:Nat}(h:i<zl.length):eO d (zl.take (i+1))=((eO d (zl.take i)).put (iF (zl.getD i 0))).1:=by
 rw[List.take_succ_eq_append_getElem h,eO,List.foldl_append,List.getD,List.getElem?_eq_getElem h];rfl
theorem tE{d:RD}{zb:List Int}{bb:List UInt8}{i:Nat}(h:i<zb.length):iR d (zb.take (i+1)) bb=(iR d (zb.take i) bb).write (aF (ba (iF (zb.getD i 0)))) bb:=by
 rw[List.take_succ_eq_append_getElem h,iR,List.foldl_append,List.getD,List.getElem?_eq_getElem h];rfl
theorem kU{z:Int}{k:Nat}(h:dU z 6=(k:Int)):iF z=bd k:=by unfold iF;rw[h];rfl
theorem gM{l:List Int}{i n:Nat}(h:¬(i<l.length∧i<n))(hi:i≤l.length)(hn:i≤n):l.take i=l.take n:=by
 by_cases h1:i<l.length
 ·have:i=n:=by omega
  rw[this]
 ·rw[List.take_of_length_le (by omega),List.take_of_length_le (by omega)]
theorem Bw{P:Program}{pl:Nat→Option (Nat×Nat)}{A:Option Addr}{x:RX}{zs:List Value}(hz:zs.length=6)(p0:pl 0=some (0,1))(p1:pl 1=some (1,5)):
  vq P pl zs [(0,.pointer A),(1,.agg x.cs.toArray)] (.pointer A::x.cs):=by
 match zs,hz with
 | [_,_,_,_,_,_],_=>exact .cons (vs:=[.pointer A]) p0 rfl rfl (by show 0+1≤6;decide) (.cons (vs:=x.cs) p1 rfl rfl (by show 1+5≤6;decide) .nil)
theorem sZ{A B C:Option Addr}{n c m mc_ k kc:Nat}{zl zb:List Int}{bb:List UInt8}(hzl:pV zl)(hzb:pV zb)(hkc:k≤kc)(hkb:k≤140737488351232):cf Tryz.prog 61 [.slice A n c,.slice B m mc_,.slice C k kc] [] [c6 1 A n (ints zl),c6 1 B m (ints zb),c6 1 C k (aQ bb),ef] (fun v_ X_ S_=>∃gw gd st y,v_=(.pointer (some ⟨gw,0,none⟩))∧X_=[aI gw 121 (.pointer (some ⟨gd,0,none⟩)::y.cs),bn gd st]∧S_=[dE y]∧(y.d=fU zl zb bb∧DS st y.d 100∧Bd y.d 27 27)):=by
 refine aP (N:=130) Tryz.func61 rfl rfl (by simp) fun b=> ?_
 refine aZ (fun m=>jq (m.rd 0 rfl)) ?_
 rintro⟨hl_rl,hA_rl⟩
 refine aZ (fun m=>jq (m.rd 1 rfl)) ?_
 rintro⟨hl_rb,hA_rb⟩
 refine aZ (fun m=>gz (m.rd 2 rfl)) ?_
 rintro⟨hl_rc,hA_rc⟩
 refine ah<|aj<|hy (fun _=>ab rfl)<|ai<|ag<|ah<|aj<| ?_
 refine hx (aq rfl Tryz.call24 (Gc (by decide) (by decide)) [] rfl [] rfl ?_)
 rintro _ _ _ ⟨g,gs,gl,rfl,rfl,rfl⟩
 refine hy (fun _=>aa rfl)<|hy (fun _=>au rfl rfl)<|hy (fun _=>au rfl rfl)<|hy (fun _=>ab rfl)<|hy (fun _=>ab rfl)<|ai<|al (ρ' :=[(8,_),(7,_),(6,_),(0,_),(1,_),(2,_)]) ⟨rfl,rfl,rfl,rfl,rfl,rfl,trivial⟩<|ak (X' :=[_]) (S' :=[_,_,_,_]) (fun _ m=>m)<|ag<|ah<|ah<|aj<|hy (fun _=>aa rfl)<|hy (fun _=>uo rfl rfl (by kernel_rfl))<|hy (fun _=>aa rfl)<| ?_
 refine dQ (o:=_) rfl rfl rfl (fun _=>aa rfl)<|dQ (o:=_) rfl rfl rfl (fun _=>dN rfl rfl)<|hy (fun _=>bP rfl rfl)<|ai<|al (ρ' :=[(29,_),(8,_),(7,_),(6,_),(0,_),(1,_),(2,_)]) ⟨rfl,rfl,rfl,rfl,rfl,rfl,rfl,trivial⟩<|ag<| ?_
 refine dP rfl ((by decide)) ?_
 refine aD<|ag<|ah<|aj<|hy (fun _=>aa rfl)<| ?_
 refine hx (aq rfl Tryz.call25 (FL) [] rfl [] rfl ?_)
 rintro _ _ _ ⟨y,rfl,rfl,rfl,hy1⟩
 refine hy (fun _=>cn Fc rfl rfl (by kernel_rfl) (Bw rfl B5 Ck))<| ?_
 refine hx (cy rfl (fun g33=> ?_))
 refine aR (fun w m=>m.bO 0 rfl (show _=aI g33 121 (.pointer (some ⟨g,0,none⟩)::y.cs)from congrArg (aI _ _) (bq _))) ?_
 refine aB (fun m=>(m.rd 1 rfl).1) fun hln1=> ?_
 refine aB (fun m=>(m.rd 2 rfl).1) fun hln2=> ?_
 refine aB (fun m=>(m.rd 3 rfl).1) fun hln3=> ?_
 have hln1:zl.length=n:=by rw[ints,List.length_map,Nat.mul_one]at hln1;exact hln1
 have hln2:zb.length=m:=by rw[ints,List.length_map,Nat.mul_one]at hln2;exact hln2
 have hln3:bb.length=k:=by rw[az,Nat.mul_one]at hln3;exact hln3
 have hD0:DS (lW 2000 gs gl) y.d 0:=by rw[hy1];exact DS.init (by decide)
 have hB0:Bd y.d 0 0:=by rw[hy1];exact Bd.new _
 have hbt:(bb.take 30).length=min k 30:=by rw[List.length_take,hln3,Nat.min_comm]
 refine hy (fun _=>ab rfl)<|ai<|al (ρ' :=[(9,_),(29,_),(8,_),(7,_),(6,_),(0,_),(1,_),(2,_)]) ⟨rfl,rfl,rfl,rfl,rfl,rfl,rfl,rfl,trivial⟩<|ak (X' :=[_,_]) (S' :=[_,_,_,_,_]) (fun _ m=>m)<|ag<|ah<|ah<|aj<|hy (fun _=>ab rfl)<|ai<|ag<| ?_
 refine rK (fun(st1:cG) (x1:RX)=>[]) (fun(st1:cG) (x1:RX)=>[aI g33 121 (.pointer (some ⟨g,0,none⟩)::x1.cs),bn g st1]) (fun(st1:cG) (x1:RX)=>[dE x1]) (fun(st1:cG) (x1:RX)=>x1.d=eO (RD.new 2000) (zl.take 6)∧DS st1 x1.d 24∧Bd x1.d 24 24) [(9,_),(29,_),(8,_),(7,_),(6,_),(0,_),(1,_),(2,_)] ⟨rfl,rfl,rfl,rfl,rfl,rfl,rfl,rfl,trivial⟩ [0,0] rfl ?_ (fun st1 x1 ⟨hE1,hD1,hB1⟩=> ?_)
 ·refine aK<| ?_
  refine fv (fun i st x=>n-i) (fun i st x=>[(10,.int .i64 (i:Nat))]) (fun i st x=>[aI g33 121 (.pointer (some ⟨g,0,none⟩)::x.cs),bn g st]) (fun i st x=>[dE x]) (fun i st x=>i≤n∧i≤6∧x.d=eO (RD.new 2000) (zl.take i)∧DS st x.d (4*i)∧Bd x.d (4*i) (4*i)) 0 (lW 2000 gs gl) y [(9,_),(29,_),(8,_),(7,_),(6,_),(0,_),(1,_),(2,_)] ⟨rfl,rfl,rfl,rfl,rfl,rfl,rfl,rfl,trivial⟩ [0,0] rfl [0] rfl (⟨Nat.zero_le _,Nat.zero_le _,hy1,hD0,hB0⟩) ⟨rfl,trivial⟩ (fun i st x ⟨hin,hi6,hE,hD,hB⟩=> ?_)
  refine ah<|ah<|aj<|hy (fun _=>aa rfl)<|hy (fun _=>aa rfl)<|hy (fun _=>aX rfl Tryz.underlying44)<|hy (fun _=>bw rfl rfl)<|hy (fun _=>aa rfl)<| ?_
  refine eE 38 rfl (fun h1=> ?_) (fun h1=> ?_)
  ·refine dQ (o:=_) rfl rfl rfl (fun _=>aa rfl)<|dQ (o:=_) rfl rfl rfl (fun _=>bw rfl rfl)<|hy (fun _=>bU rfl rfl)<|ai<|al (ρ' :=[(41,_),(10,_),(9,_),(29,_),(8,_),(7,_),(6,_),(0,_),(1,_),(2,_)]) ⟨rfl,rfl,rfl,rfl,rfl,rfl,rfl,rfl,rfl,rfl,trivial⟩<|ag<| ?_
   refine cD rfl (fun h2=> ?_) (fun h2=> ?_)
   ·obtain⟨k6,hk6,hk6l⟩:=ym (zl.getD i 0)
    have hil:i<zl.length:=by omega
    have hz:=hzl.at hil
    have hcl:=iU k6
    have hDo:x.d.ok (4*i):=⟨st,hD⟩
    have hcz:=kU hk6
    have hp32:(aQ (x.d.put (bd k6)).2.1).length=32:=by
     rw[az]
     exact BO _ _
    refine aD<|ag<|ah<|aK<|ah<| ?_
    refine rK (fun(y2:RX) (g11:Nat)=>[(11,.pointer (some ⟨g11,0,none⟩))]) (fun(y2:RX) (g11:Nat)=>[aI g11 39 y2.cs]) (fun(y2:RX) (g11:Nat)=>[dE y2]) (fun(y2:RX) (g11:Nat)=>y2.d=(x.d.put (bd k6)).1) [(41,_),(10,_),(9,_),(29,_),(8,_),(7,_),(6,_),(0,_),(1,_),(2,_)] ⟨rfl,rfl,rfl,rfl,rfl,rfl,rfl,rfl,rfl,rfl,trivial⟩ [] rfl ?_ (fun y2 g11 hyd2=> ?_)
    ·refine wC [8,9,14,15,16,17] (.take 0 4<|.take 1 4<|.take 2 4<|.take 3 4<|.take 4 4<|.take 5 4<|.take 6 4<|.take 7 4<|.alt 8 (.alt 9 (.take 10 4<|.take 11 4<|.take 12 5<|.take 13 6<|.alt 14 (.alt 15 (.alt 16 (.alt 17 (.take 18 6<|.done) (.stop)) (.stop)) (.stop)) (.alt 15 (.alt 14 (.alt 16 (.alt 17 (.take 18 6<|.done) (.stop)) (.stop)) (.stop)) (.stop))) (.alt 14 (.alt 9 (.take 10 4<|.take 11 4<|.take 12 5<|.take 13 6<|.alt 15 (.alt 16 (.alt 17 (.take 18 6<|.done) (.stop)) (.stop)) (.stop)) (.alt 15 (.alt 9 (.take 10 4<|.take 11 4<|.take 12 5<|.take 13 6<|.alt 16 (.alt 17 (.take 18 6<|.done) (.stop)) (.stop)) (.stop)) (.stop))) (.alt 15 (.alt 9 (.take 10 4<|.take 11 4<|.take 12 5<|.take 13 6<|.alt 14 (.alt 16 (.alt 17 (.take 18 6<|.done) (.stop)) (.stop)) (.stop)) (.alt 14 (.alt 9 (.take 10 4<|.take 11 4<|.take 12 5<|.take 13 6<|.alt 16 (.alt 17 (.take 18 6<|.done) (.stop)) (.stop)) (.stop)) (.stop))) (.stop)))) (.alt 14 (.alt 8 (.alt 9 (.take 10 4<|.take 11 4<|.take 12 5<|.take 13 6<|.alt 15 (.alt 16 (.alt 17 (.take 18 6<|.done) (.stop)) (.stop)) (.stop)) (.alt 15 (.alt 9 (.take 10 4<|.take 11 4<|.take 12 5<|.take 13 6<|.alt 16 (.alt 17 (.take 18 6<|.done) (.stop)) (.stop)) (.stop)) (.stop))) (.alt 15 (.alt 8 (.alt 9 (.take 10 4<|.take 11 4<|.take 12 5<|.take 13 6<|.alt 16 (.alt 17 (.take 18 6<|.done) (.stop)) (.stop)) (.stop)) (.stop)) (.stop))) (.alt 15 (.alt 8 (.alt 9 (.take 10 4<|.take 11 4<|.take 12 5<|.take 13 6<|.alt 14 (.alt 16 (.alt 17 (.take 18 6<|.done) (.stop)) (.stop)) (.stop)) (.alt 14 (.alt 9 (.take 10 4<|.take 11 4<|.take 12 5<|.take 13 6<|.alt 16 (.alt 17 (.take 18 6<|.done) (.stop)) (.stop)) (.stop)) (.stop))) (.alt 14 (.alt 8 (.alt 9 (.take 10 4<|.take 11 4<|.take 12 5<|.take 13 6<|.alt 16 (.alt 17 (.take 18 6<|.done) (.stop)) (.stop)) (.stop)) (.stop)) (.stop))) (.stop)))) (by kernel_rfl) (by kernel_rfl) rfl 4<|bX (aa rfl)<|bX (bh rfl)<|bX (aL rfl ju (by decide))<|Gy (fun m=>yV (a6 rfl cE bu rfl (vy (m.aY 0 rfl))) ((rfl:_=Value.agg x.cs.toArray)))<|bX (aa rfl)<|bX (aa rfl)<|bX (aO rfl rfl Tryz.underlying44 tW hA_rl rfl (by omega))<|Gy (fun m=>aw rfl fE ((m.rd 2 rfl).cell (lU hil)))<| ?_
     refine ep ?_ ?_
     ·refine fz (aq rfl Tryz.call27 (lF hz hk6 hk6l) [] rfl [] rfl ?_)
      rintro _ _ _ ⟨v,rfl,rfl,rfl⟩
      refine⟨(fun _=>wk [1,1] [0,1,2,3,4,5] rfl rfl), ?_⟩
      refine fx (fun m=>(m.own 0 rfl).slice) ?_
      rintro⟨A_x,c_x,rfl,hc_x⟩
      refine fx (fun m=>(m.ord 0 rfl).2.1) fun hA_x=> ?_
      refine ld (fun w m=>(m.perm (ar [0] _ [_] _ rfl)).freeze) ?_
      refine ld (fun w m=>m.j6 0 rfl .own) ?_
      refine ep ?_ ?_
      ·refine fz (aq rfl Tryz.call26 (kA hDo (by omega) hc_x hcl (by omega)) [] rfl [2,0,7] rfl ?_)
       rintro _ _ _ ⟨y2,rfl,rfl,rfl,hyd2⟩
       refine⟨(fun _=>wk [0,0] [3,4,5,6,7,8] rfl rfl), ?_⟩
       refine bX (aa rfl)<|bX (au rfl rfl)<|bX (au rfl rfl)<|bX (au rfl rfl)<| ?_
       refine ep ?_ ?_
       ·refine fz (aN iM (fun g11=>⟨(fun _=>wk [1,1] [3,4,5,6,7,8] rfl rfl), ?_⟩))
        refine fz (aN dL (fun g12=>⟨(fun _=>wk [2,2] [3,4,5,6,7,8] rfl rfl), ?_⟩))
        refine ea (aJ 1 rfl rfl rfl bu rfl bN rfl ⟨(fun h=>absurd h (by decide)), ?_⟩)
        refine ea (aJ 1 rfl rfl rfl bp hp32 aS rfl ⟨(fun h=>absurd h (by decide)), ?_⟩)
        refine bX (ab rfl)<|eK<|al (ρ' :=[(11,_),(41,_),(10,_),(9,_),(29,_),(8,_),(7,_),(6,_),(0,_),(1,_),(2,_)]) ⟨rfl,rfl,rfl,rfl,rfl,rfl,rfl,rfl,rfl,rfl,rfl,trivial⟩<|ak (X' :=[_,_,_,_]) (S' :=[_,_,_,_,_,_,_,_,_]) (fun _ m=>m)<| ?_
        exact dh (R:=fun(y2:RX) (g11:Nat)=>[(11,.pointer (some ⟨g11,0,none⟩))]) (X1:=fun(y2:RX) (g11:Nat)=>[aI g11 39 y2.cs]) (S1:=fun(y2:RX) (g11:Nat)=>[dE y2]) (I:=fun(y2:RX) (g11:Nat)=>y2.d=(x.d.put (bd k6)).1) y2 g11 ⟨rfl,rfl,rfl,rfl,rfl,rfl,rfl,rfl,rfl,rfl,rfl,trivial⟩ [1,1,1] rfl [0,3,4,5,6,7,8] rfl hyd2
       ·refine fz (aN dL (fun g12=>⟨(fun _=>wk [1,1] [3,4,5,6,7,8] rfl rfl), ?_⟩))
        refine fz (aN iM (fun g11=>⟨(fun _=>wk [2,2] [3,4,5,6,7,8] rfl rfl), ?_⟩))
        refine ea (aJ 0 rfl rfl rfl bu rfl bN rfl ⟨(fun h=>absurd h (by decide)), ?_⟩)
        refine ea (aJ 1 rfl rfl rfl bp hp32 aS rfl ⟨(fun h=>absurd h (by decide)), ?_⟩)
        refine bX (ab rfl)<|eK<|al (ρ' :=[(11,_),(41,_),(10,_),(9,_),(29,_),(8,_),(7,_),(6,_),(0,_),(1,_),(2,_)]) ⟨rfl,rfl,rfl,rfl,rfl,rfl,rfl,rfl,rfl,rfl,rfl,trivial⟩<|ak (X' :=[_,_,_,_]) (S' :=[_,_,_,_,_,_,_,_,_]) (fun _ m=>m)<| ?_
        exact dh (R:=fun(y2:RX) (g11:Nat)=>[(11,.pointer (some ⟨g11,0,none⟩))]) (X1:=fun(y2:RX) (g11:Nat)=>[aI g11 39 y2.cs]) (S1:=fun(y2:RX) (g11:Nat)=>[dE y2]) (I:=fun(y2:RX) (g11:Nat)=>y2.d=(x.d.put (bd k6)).1) y2 g11 ⟨rfl,rfl,rfl,rfl,rfl,rfl,rfl,rfl,rfl,rfl,rfl,trivial⟩ [1,1,1] rfl [0,3,4,5,6,7,8] rfl hyd2
      ·refine ep ?_ ?_
       ·refine fz (aN iM (fun g11=>⟨(fun _=>wk [1,1] [2,3,4,5,6,7] rfl rfl), ?_⟩))
        refine ep ?_ ?_
        ·refine fz (aq rfl Tryz.call26 (kA hDo (by omega) hc_x hcl (by omega)) [] rfl [2,0,7] rfl ?_)
         rintro _ _ _ ⟨y2,rfl,rfl,rfl,hyd2⟩
         refine⟨(fun _=>wk [1,1] [3,4,5,6,7,8] rfl rfl), ?_⟩
         refine bX (aa rfl)<|bX (au rfl rfl)<|bX (au rfl rfl)<|bX (au rfl rfl)<| ?_
         refine fz (aN dL (fun g12=>⟨(fun _=>wk [2,2] [3,4,5,6,7,8] rfl rfl), ?_⟩))
         refine ea (aJ 1 rfl rfl rfl bu rfl bN rfl ⟨(fun h=>absurd h (by decide)), ?_⟩)
         refine ea (aJ 1 rfl rfl rfl bp hp32 aS rfl ⟨(fun h=>absurd h (by decide)), ?_⟩)
         refine bX (ab rfl)<|eK<|al (ρ' :=[(11,_),(41,_),(10,_),(9,_),(29,_),(8,_),(7,_),(6,_),(0,_),(1,_),(2,_)]) ⟨rfl,rfl,rfl,rfl,rfl,rfl,rfl,rfl,rfl,rfl,rfl,trivial⟩<|ak (X' :=[_,_,_,_]) (S' :=[_,_,_,_,_,_,_,_,_]) (fun _ m=>m)<| ?_
         exact dh (R:=fun(y2:RX) (g11:Nat)=>[(11,.pointer (some ⟨g11,0,none⟩))]) (X1:=fun(y2:RX) (g11:Nat)=>[aI g11 39 y2.cs]) (S1:=fun(y2:RX) (g11:Nat)=>[dE y2]) (I:=fun(y2:RX) (g11:Nat)=>y2.d=(x.d.put (bd k6)).1) y2 g11 ⟨rfl,rfl,rfl,rfl,rfl,rfl,rfl,rfl,rfl,rfl,rfl,trivial⟩ [1,1,1] rfl [0,3,4,5,6,7,8] rfl hyd2
        ·refine fz (aN dL (fun g12=>⟨(fun _=>wk [2,2] [2,3,4,5,6,7] rfl rfl), ?_⟩))
         refine fz (aq rfl Tryz.call26 (kA hDo (by omega) hc_x hcl (by omega)) [] rfl [2,0,7] rfl ?_)
         rintro _ _ _ ⟨y2,rfl,rfl,rfl,hyd2⟩
         refine⟨(fun _=>wk [2,2] [3,4,5,6,7,8] rfl rfl), ?_⟩
         refine bX (aa rfl)<|bX (au rfl rfl)<|bX (au rfl rfl)<|bX (au rfl rfl)<| ?_
         refine ea (aJ 1 rfl rfl rfl bu rfl bN rfl ⟨(fun h=>absurd h (by decide)), ?_⟩)
         refine ea (aJ 1 rfl rfl rfl bp hp32 aS rfl ⟨(fun h=>absurd h (by decide)), ?_⟩)
         refine bX (ab rfl)<|eK<|al (ρ' :=[(11,_),(41,_),(10,_),(9,_),(29,_),(8,_),(7,_),(6,_),(0,_),(1,_),(2,_)]) ⟨rfl,rfl,rfl,rfl,rfl,rfl,rfl,rfl,rfl,rfl,rfl,trivial⟩<|ak (X' :=[_,_,_,_]) (S' :=[_,_,_,_,_,_,_,_,_]) (fun _ m=>m)<| ?_
         exact dh (R:=fun(y2:RX) (g11:Nat)=>[(11,.pointer (some ⟨g11,0,none⟩))]) (X1:=fun(y2:RX) (g11:Nat)=>[aI g11 39 y2.cs]) (S1:=fun(y2:RX) (g11:Nat)=>[dE y2]) (I:=fun(y2:RX) (g11:Nat)=>y2.d=(x.d.put (bd k6)).1) y2 g11 ⟨rfl,rfl,rfl,rfl,rfl,rfl,rfl,rfl,rfl,rfl,rfl,trivial⟩ [1,1,1] rfl [0,3,4,5,6,7,8] rfl hyd2
       ·refine fz (aN dL (fun g12=>⟨(fun _=>wk [1,1] [2,3,4,5,6,7] rfl rfl), ?_⟩))
        refine ep ?_ ?_
        ·refine fz (aq rfl Tryz.call26 (kA hDo (by omega) hc_x hcl (by omega)) [] rfl [2,0,7] rfl ?_)
         rintro _ _ _ ⟨y2,rfl,rfl,rfl,hyd2⟩
         refine⟨(fun _=>wk [1,1] [3,4,5,6,7,8] rfl rfl), ?_⟩
         refine bX (aa rfl)<|bX (au rfl rfl)<|bX (au rfl rfl)<|bX (au rfl rfl)<| ?_
         refine fz (aN iM (fun g11=>⟨(fun _=>wk [2,2] [3,4,5,6,7,8] rfl rfl), ?_⟩))
         refine ea (aJ 0 rfl rfl rfl bu rfl bN rfl ⟨(fun h=>absurd h (by decide)), ?_⟩)
         refine ea (aJ 1 rfl rfl rfl bp hp32 aS rfl ⟨(fun h=>absurd h (by decide)), ?_⟩)
         refine bX (ab rfl)<|eK<|al (ρ' :=[(11,_),(41,_),(10,_),(9,_),(29,_),(8,_),(7,_),(6,_),(0,_),(1,_),(2,_)]) ⟨rfl,rfl,rfl,rfl,rfl,rfl,rfl,rfl,rfl,rfl,rfl,trivial⟩<|ak (X' :=[_,_,_,_]) (S' :=[_,_,_,_,_,_,_,_,_]) (fun _ m=>m)<| ?_
         exact dh (R:=fun(y2:RX) (g11:Nat)=>[(11,.pointer (some ⟨g11,0,none⟩))]) (X1:=fun(y2:RX) (g11:Nat)=>[aI g11 39 y2.cs]) (S1:=fun(y2:RX) (g11:Nat)=>[dE y2]) (I:=fun(y2:RX) (g11:Nat)=>y2.d=(x.d.put (bd k6)).1) y2 g11 ⟨rfl,rfl,rfl,rfl,rfl,rfl,rfl,rfl,rfl,rfl,rfl,trivial⟩ [1,1,1] rfl [0,3,4,5,6,7,8] rfl hyd2
        ·refine fz (aN iM (fun g11=>⟨(fun _=>wk [2,2] [2,3,4,5,6,7] rfl rfl), ?_⟩))
         refine fz (aq rfl Tryz.call26 (kA hDo (by omega) hc_x hcl (by omega)) [] rfl [2,0,7] rfl ?_)
         rintro _ _ _ ⟨y2,rfl,rfl,rfl,hyd2⟩
         refine⟨(fun _=>wk [2,2] [3,4,5,6,7,8] rfl rfl), ?_⟩
         refine bX (aa rfl)<|bX (au rfl rfl)<|bX (au rfl rfl)<|bX (au rfl rfl)<| ?_
         refine ea (aJ 0 rfl rfl rfl bu rfl bN rfl ⟨(fun h=>absurd h (by decide)), ?_⟩)
         refine ea (aJ 1 rfl rfl rfl bp hp32 aS rfl ⟨(fun h=>absurd h (by decide)), ?_⟩)
         refine bX (ab rfl)<|eK<|al (ρ' :=[(11,_),(41,_),(10,_),(9,_),(29,_),(8,_),(7,_),(6,_),(0,_),(1,_),(2,_)]) ⟨rfl,rfl,rfl,rfl,rfl,rfl,rfl,rfl,rfl,rfl,rfl,trivial⟩<|ak (X' :=[_,_,_,_]) (S' :=[_,_,_,_,_,_,_,_,_]) (fun _ m=>m)<| ?_
         exact dh (R:=fun(y2:RX) (g11:Nat)=>[(11,.pointer (some ⟨g11,0,none⟩))]) (X1:=fun(y2:RX) (g11:Nat)=>[aI g11 39 y2.cs]) (S1:=fun(y2:RX) (g11:Nat)=>[dE y2]) (I:=fun(y2:RX) (g11:Nat)=>y2.d=(x.d.put (bd k6)).1) y2 g11 ⟨rfl,rfl,rfl,rfl,rfl,rfl,rfl,rfl,rfl,rfl,rfl,trivial⟩ [1,1,1] rfl [0,3,4,5,6,7,8] rfl hyd2
     ·refine ep ?_ ?_
      ·refine fz (aN iM (fun g11=>⟨(fun _=>wk [1,1] [0,1,2,3,4,5] rfl rfl), ?_⟩))
       refine ep ?_ ?_
       ·refine fz (aq rfl Tryz.call27 (lF hz hk6 hk6l) [] rfl [] rfl ?_)
        rintro _ _ _ ⟨v,rfl,rfl,rfl⟩
        refine⟨(fun _=>wk [2,2] [0,1,2,3,4,5] rfl rfl), ?_⟩
        refine fx (fun m=>(m.own 0 rfl).slice) ?_
        rintro⟨A_x,c_x,rfl,hc_x⟩
        refine fx (fun m=>(m.ord 0 rfl).2.1) fun hA_x=> ?_
        refine ld (fun w m=>(m.perm (ar [0] _ [_] _ rfl)).freeze) ?_
        refine ld (fun w m=>m.j6 0 rfl .own) ?_
        refine ep ?_ ?_
        ·refine fz (aq rfl Tryz.call26 (kA hDo (by omega) hc_x hcl (by omega)) [] rfl [2,0,7] rfl ?_)
         rintro _ _ _ ⟨y2,rfl,rfl,rfl,hyd2⟩
         refine⟨(fun _=>wk [1,1] [3,4,5,6,7,8] rfl rfl), ?_⟩
         refine bX (aa rfl)<|bX (au rfl rfl)<|bX (au rfl rfl)<|bX (au rfl rfl)<| ?_
         refine fz (aN dL (fun g12=>⟨(fun _=>wk [2,2] [3,4,5,6,7,8] rfl rfl), ?_⟩))
         refine ea (aJ 1 rfl rfl rfl bu rfl bN rfl ⟨(fun h=>absurd h (by decide)), ?_⟩)
         refine ea (aJ 1 rfl rfl rfl bp hp32 aS rfl ⟨(fun h=>absurd h (by decide)), ?_⟩)
         refine bX (ab rfl)<|eK<|al (ρ' :=[(11,_),(41,_),(10,_),(9,_),(29,_),(8,_),(7,_),(6,_),(0,_),(1,_),(2,_)]) ⟨rfl,rfl,rfl,rfl,rfl,rfl,rfl,rfl,rfl,rfl,rfl,trivial⟩<|ak (X' :=[_,_,_,_]) (S' :=[_,_,_,_,_,_,_,_,_]) (fun _ m=>m)<| ?_
         exact dh (R:=fun(y2:RX) (g11:Nat)=>[(11,.pointer (some ⟨g11,0,none⟩))]) (X1:=fun(y2:RX) (g11:Nat)=>[aI g11 39 y2.cs]) (S1:=fun(y2:RX) (g11:Nat)=>[dE y2]) (I:=fun(y2:RX) (g11:Nat)=>y2.d=(x.d.put (bd k6)).1) y2 g11 ⟨rfl,rfl,rfl,rfl,rfl,rfl,rfl,rfl,rfl,rfl,rfl,trivial⟩ [1,1,1] rfl [0,3,4,5,6,7,8] rfl hyd2
        ·refine fz (aN dL (fun g12=>⟨(fun _=>wk [2,2] [2,3,4,5,6,7] rfl rfl), ?_⟩))
         refine fz (aq rfl Tryz.call26 (kA hDo (by omega) hc_x hcl (by omega)) [] rfl [2,0,7] rfl ?_)
         rintro _ _ _ ⟨y2,rfl,rfl,rfl,hyd2⟩
         refine⟨(fun _=>wk [2,2] [3,4,5,6,7,8] rfl rfl), ?_⟩
         refine bX (aa rfl)<|bX (au rfl rfl)<|bX (au rfl rfl)<|bX (au rfl rfl)<| ?_
         refine ea (aJ 1 rfl rfl rfl bu rfl bN rfl ⟨(fun h=>absurd h (by decide)), ?_⟩)
         refine ea (aJ 1 rfl rfl rfl bp hp32 aS rfl ⟨(fun h=>absurd h (by decide)), ?_⟩)
         refine bX (ab rfl)<|eK<|al (ρ' :=[(11,_),(41,_),(10,_),(9,_),(29,_),(8,_),(7,_),(6,_),(0,_),(1,_),(2,_)]) ⟨rfl,rfl,rfl,rfl,rfl,rfl,rfl,rfl,rfl,rfl,rfl,trivial⟩<|ak (X' :=[_,_,_,_]) (S' :=[_,_,_,_,_,_,_,_,_]) (fun _ m=>m)<| ?_
         exact dh (R:=fun(y2:RX) (g11:Nat)=>[(11,.pointer (some ⟨g11,0,none⟩))]) (X1:=fun(y2:RX) (g11:Nat)=>[aI g11 39 y2.cs]) (S1:=fun(y2:RX) (g11:Nat)=>[dE y2]) (I:=fun(y2:RX) (g11:Nat)=>y2.d=(x.d.put (bd k6)).1) y2 g11 ⟨rfl,rfl,rfl,rfl,rfl,rfl,rfl,rfl,rfl,rfl,rfl,trivial⟩ [1,1,1] rfl [0,3,4,5,6,7,8] rfl hyd2
       ·refine fz (aN dL (fun g12=>⟨(fun _=>wk [2,2] [0,1,2,3,4,5] rfl rfl), ?_⟩))
        refine fz (aq rfl Tryz.call27 (lF hz hk6 hk6l) [] rfl [] rfl ?_)
        rintro _ _ _ ⟨v,rfl,rfl,rfl⟩
        refine⟨(fun _=>wk [3,3] [0,1,2,3,4,5] rfl rfl), ?_⟩
        refine fx (fun m=>(m.own 0 rfl).slice) ?_
        rintro⟨A_x,c_x,rfl,hc_x⟩
        refine fx (fun m=>(m.ord 0 rfl).2.1) fun hA_x=> ?_
        refine ld (fun w m=>(m.perm (ar [0] _ [_] _ rfl)).freeze) ?_
        refine ld (fun w m=>m.j6 0 rfl .own) ?_
        refine fz (aq rfl Tryz.call26 (kA hDo (by omega) hc_x hcl (by omega)) [] rfl [2,0,7] rfl ?_)
        rintro _ _ _ ⟨y2,rfl,rfl,rfl,hyd2⟩
        refine⟨(fun _=>wk [2,2] [3,4,5,6,7,8] rfl rfl), ?_⟩
        refine bX (aa rfl)<|bX (au rfl rfl)<|bX (au rfl rfl)<|bX (au rfl rfl)<| ?_
        refine ea (aJ 1 rfl rfl rfl bu rfl bN rfl ⟨(fun h=>absurd h (by decide)), ?_⟩)
        refine ea (aJ 1 rfl rfl rfl bp hp32 aS rfl ⟨(fun h=>absurd h (by decide)), ?_⟩)
        refine bX (ab rfl)<|eK<|al (ρ' :=[(11,_),(41,_),(10,_),(9,_),(29,_),(8,_),(7,_),(6,_),(0,_),(1,_),(2,_)]) ⟨rfl,rfl,rfl,rfl,rfl,rfl,rfl,rfl,rfl,rfl,rfl,trivial⟩<|ak (X' :=[_,_,_,_]) (S' :=[_,_,_,_,_,_,_,_,_]) (fun _ m=>m)<| ?_
        exact dh (R:=fun(y2:RX) (g11:Nat)=>[(11,.pointer (some ⟨g11,0,none⟩))]) (X1:=fun(y2:RX) (g11:Nat)=>[aI g11 39 y2.cs]) (S1:=fun(y2:RX) (g11:Nat)=>[dE y2]) (I:=fun(y2:RX) (g11:Nat)=>y2.d=(x.d.put (bd k6)).1) y2 g11 ⟨rfl,rfl,rfl,rfl,rfl,rfl,rfl,rfl,rfl,rfl,rfl,trivial⟩ [1,1,1] rfl [0,3,4,5,6,7,8] rfl hyd2
      ·refine fz (aN dL (fun g12=>⟨(fun _=>wk [1,1] [0,1,2,3,4,5] rfl rfl), ?_⟩))
       refine ep ?_ ?_
       ·refine fz (aq rfl Tryz.call27 (lF hz hk6 hk6l) [] rfl [] rfl ?_)
        rintro _ _ _ ⟨v,rfl,rfl,rfl⟩
        refine⟨(fun _=>wk [2,2] [0,1,2,3,4,5] rfl rfl), ?_⟩
        refine fx (fun m=>(m.own 0 rfl).slice) ?_
        rintro⟨A_x,c_x,rfl,hc_x⟩
        refine fx (fun m=>(m.ord 0 rfl).2.1) fun hA_x=> ?_
        refine ld (fun w m=>(m.perm (ar [0] _ [_] _ rfl)).freeze) ?_
        refine ld (fun w m=>m.j6 0 rfl .own) ?_
        refine ep ?_ ?_
        ·refine fz (aq rfl Tryz.call26 (kA hDo (by omega) hc_x hcl (by omega)) [] rfl [2,0,7] rfl ?_)
         rintro _ _ _ ⟨y2,rfl,rfl,rfl,hyd2⟩
         refine⟨(fun _=>wk [1,1] [3,4,5,6,7,8] rfl rfl), ?_⟩
         refine bX (aa rfl)<|bX (au rfl rfl)<|bX (au rfl rfl)<|bX (au rfl rfl)<| ?_
         refine fz (aN iM (fun g11=>⟨(fun _=>wk [2,2] [3,4,5,6,7,8] rfl rfl), ?_⟩))
         refine ea (aJ 0 rfl rfl rfl bu rfl bN rfl ⟨(fun h=>absurd h (by decide)), ?_⟩)
         refine ea (aJ 1 rfl rfl rfl bp hp32 aS rfl ⟨(fun h=>absurd h (by decide)), ?_⟩)
         refine bX (ab rfl)<|eK<|al (ρ' :=[(11,_),(41,_),(10,_),(9,_),(29,_),(8,_),(7,_),(6,_),(0,_),(1,_),(2,_)]) ⟨rfl,rfl,rfl,rfl,rfl,rfl,rfl,rfl,rfl,rfl,rfl,trivial⟩<|ak (X' :=[_,_,_,_]) (S' :=[_,_,_,_,_,_,_,_,_]) (fun _ m=>m)<| ?_
         exact dh (R:=fun(y2:RX) (g11:Nat)=>[(11,.pointer (some ⟨g11,0,none⟩))]) (X1:=fun(y2:RX) (g11:Nat)=>[aI g11 39 y2.cs]) (S1:=fun(y2:RX) (g11:Nat)=>[dE y2]) (I:=fun(y2:RX) (g11:Nat)=>y2.d=(x.d.put (bd k6)).1) y2 g11 ⟨rfl,rfl,rfl,rfl,rfl,rfl,rfl,rfl,rfl,rfl,rfl,trivial⟩ [1,1,1] rfl [0,3,4,5,6,7,8] rfl hyd2
        ·refine fz (aN iM (fun g11=>⟨(fun _=>wk [2,2] [2,3,4,5,6,7] rfl rfl), ?_⟩))
         refine fz (aq rfl Tryz.call26 (kA hDo (by omega) hc_x hcl (by omega)) [] rfl [2,0,7] rfl ?_)
         rintro _ _ _ ⟨y2,rfl,rfl,rfl,hyd2⟩
         refine⟨(fun _=>wk [2,2] [3,4,5,6,7,8] rfl rfl), ?_⟩
         refine bX (aa rfl)<|bX (au rfl rfl)<|bX (au rfl rfl)<|bX (au rfl rfl)<| ?_
         refine ea (aJ 0 rfl rfl rfl bu rfl bN rfl ⟨(fun h=>absurd h (by decide)), ?_⟩)
         refine ea (aJ 1 rfl rfl rfl bp hp32 aS rfl ⟨(fun h=>absurd h (by decide)), ?_⟩)
         refine bX (ab rfl)<|eK<|al (ρ' :=[(11,_),(41,_),(10,_),(9,_),(29,_),(8,_),(7,_),(6,_),(0,_),(1,_),(2,_)]) ⟨rfl,rfl,rfl,rfl,rfl,rfl,rfl,rfl,rfl,rfl,rfl,trivial⟩<|ak (X' :=[_,_,_,_]) (S' :=[_,_,_,_,_,_,_,_,_]) (fun _ m=>m)<| ?_
         exact dh (R:=fun(y2:RX) (g11:Nat)=>[(11,.pointer (some ⟨g11,0,none⟩))]) (X1:=fun(y2:RX) (g11:Nat)=>[aI g11 39 y2.cs]) (S1:=fun(y2:RX) (g11:Nat)=>[dE y2]) (I:=fun(y2:RX) (g11:Nat)=>y2.d=(x.d.put (bd k6)).1) y2 g11 ⟨rfl,rfl,rfl,rfl,rfl,rfl,rfl,rfl,rfl,rfl,rfl,trivial⟩ [1,1,1] rfl [0,3,4,5,6,7,8] rfl hyd2
       ·refine fz (aN iM (fun g11=>⟨(fun _=>wk [2,2] [0,1,2,3,4,5] rfl rfl), ?_⟩))
        refine fz (aq rfl Tryz.call27 (lF hz hk6 hk6l) [] rfl [] rfl ?_)
        rintro _ _ _ ⟨v,rfl,rfl,rfl⟩
        refine⟨(fun _=>wk [3,3] [0,1,2,3,4,5] rfl rfl), ?_⟩
        refine fx (fun m=>(m.own 0 rfl).slice) ?_
        rintro⟨A_x,c_x,rfl,hc_x⟩
        refine fx (fun m=>(m.ord 0 rfl).2.1) fun hA_x=> ?_
        refine ld (fun w m=>(m.perm (ar [0] _ [_] _ rfl)).freeze) ?_
        refine ld (fun w m=>m.j6 0 rfl .own) ?_
        refine fz (aq rfl Tryz.call26 (kA hDo (by omega) hc_x hcl (by omega)) [] rfl [2,0,7] rfl ?_)
        rintro _ _ _ ⟨y2,rfl,rfl,rfl,hyd2⟩
        refine⟨(fun _=>wk [2,2] [3,4,5,6,7,8] rfl rfl), ?_⟩
        refine bX (aa rfl)<|bX (au rfl rfl)<|bX (au rfl rfl)<|bX (au rfl rfl)<| ?_
        refine ea (aJ 0 rfl rfl rfl bu rfl bN rfl ⟨(fun h=>absurd h (by decide)), ?_⟩)
        refine ea (aJ 1 rfl rfl rfl bp hp32 aS rfl ⟨(fun h=>absurd h (by decide)), ?_⟩)
        refine bX (ab rfl)<|eK<|al (ρ' :=[(11,_),(41,_),(10,_),(9,_),(29,_),(8,_),(7,_),(6,_),(0,_),(1,_),(2,_)]) ⟨rfl,rfl,rfl,rfl,rfl,rfl,rfl,rfl,rfl,rfl,rfl,trivial⟩<|ak (X' :=[_,_,_,_]) (S' :=[_,_,_,_,_,_,_,_,_]) (fun _ m=>m)<| ?_
        exact dh (R:=fun(y2:RX) (g11:Nat)=>[(11,.pointer (some ⟨g11,0,none⟩))]) (X1:=fun(y2:RX) (g11:Nat)=>[aI g11 39 y2.cs]) (S1:=fun(y2:RX) (g11:Nat)=>[dE y2]) (I:=fun(y2:RX) (g11:Nat)=>y2.d=(x.d.put (bd k6)).1) y2 g11 ⟨rfl,rfl,rfl,rfl,rfl,rfl,rfl,rfl,rfl,rfl,rfl,trivial⟩ [1,1,1] rfl [0,3,4,5,6,7,8] rfl hyd2
    ·refine ag<|ah<|aj<|hy (fun _=>aa rfl)<|hy (fun m=>yV (a6 rfl cE bu rfl ((m.aY 0 rfl).ay)) ((rfl:_=Value.agg y2.cs.toArray)))<|hy (fun _=>bh rfl)<|hy (fun _=>aL rfl ju (by decide))<| ?_
     refine cI (ot 1 rfl rfl rfl bu rfl bN (show 6≤6 from Nat.le_refl 6) ?_)
     refine aR (fun w m=>m.bO 0 rfl (show _=aI g33 121 (.pointer (some ⟨g,0,none⟩)::y2.cs)from congrArg (aI _ _) rQ)) ?_
     refine ai<|al (ρ' :=[(11,_),(41,_),(10,_),(9,_),(29,_),(8,_),(7,_),(6,_),(0,_),(1,_),(2,_)]) ⟨rfl,rfl,rfl,rfl,rfl,rfl,rfl,rfl,rfl,rfl,rfl,trivial⟩<|ak (X' :=[_,_,_]) (S' :=[_,_,_,_,_,_,_]) (fun _ m=>m)<|ag<|qg [0,0] [0,1,2,3,4,5,6] rfl rfl [8,9] [(0,some 1),(1,some 1),(2,some 1),(3,some 1),(4,some 0),(5,some 0),(6,some 0),(7,some 0),(8,none),(9,none)] (by kernel_rfl) (by kernel_rfl) rfl 99<|an (aa rfl)<|an (bh rfl)<|an (aL rfl gK (by decide))<|b6 (fun m=>aw rfl l7 (aA (m.aY 0 rfl) (i:=0) rfl))<|an (aa rfl)<|an (aa rfl)<|an (aO rfl rfl Tryz.underlying44 tW hA_rl rfl (by omega))<|b6 (fun m=>aw rfl fE ((m.rd 3 rfl).cell (lU hil)))<| ?_
     refine dT (aq rfl Tryz.call27 (lF hz hk6 hk6l) [] rfl [] rfl ?_)
     rintro _ _ _ ⟨v,rfl,rfl,rfl⟩
     refine⟨(fun _=>wk [1,1] [0,1,2,3,4,5,6] rfl rfl), ?_⟩
     refine b9 (fun m=>(m.own 0 rfl).slice) ?_
     rintro⟨A_x,c_x,rfl,hc_x⟩
     refine b9 (fun m=>(m.ord 0 rfl).2.1) fun hA_x=> ?_
     refine dT (cC rfl Tryz.call28 (Fb hD (by omega) hc_x hcl (by omega)) [3] rfl (.x 0 rfl .own (.s 6 rfl .nil)) ?_)
     rintro _ _ _ ⟨st1,rfl,rfl,rfl,hD2⟩
     refine⟨rfl, ?_⟩
     refine⟨(fun _=>wk [2,2] [0,1,2,3,4,5,6] rfl rfl), ?_⟩
     refine bz<|al (ρ' :=[(11,_),(41,_),(10,_),(9,_),(29,_),(8,_),(7,_),(6,_),(0,_),(1,_),(2,_)]) ⟨rfl,rfl,rfl,rfl,rfl,rfl,rfl,rfl,rfl,rfl,rfl,trivial⟩<|ak (X' :=[_,_,_,_]) (S' :=[_,_,_,_,_,_,_]) (fun _ m=>m)<|aT<|ag<|aj<|hy (fun _=>aa rfl)<|hy (fun _=>aM rfl rfl (bD (by omega) (by omega)))<|hy (fun _=>ab rfl)<|ai<|al (ρ' :=[(10,_),(11,_),(41,_),(9,_),(29,_),(8,_),(7,_),(6,_),(0,_),(1,_),(2,_)]) ⟨rfl,rfl,rfl,rfl,rfl,rfl,rfl,rfl,rfl,rfl,rfl,trivial⟩<| ?_
     rw[←hyd2]at hD2
     have hB2:Bd y2.d (4*(i+1)) (4*(i+1)):=by rw[hyd2];exact(hB.put _).le (by omega) (by omega)
     have hE2:y2.d=eO (RD.new 2000) (zl.take (i+1)):=by rw[hyd2,tb hil,←hE,hcz]
     refine eZ (i+1) st1 y2 ⟨rfl,rfl,rfl,rfl,rfl,rfl,rfl,rfl,rfl,trivial⟩ [2,0] rfl [0,2,3,4,5,6] rfl (⟨by omega,by omega,hE2,hD2.le (by omega),hB2⟩) (by omega)
   ·refine bK<|ao<|ao<|aC<| ?_
    have htm:=gM (l:=zl) (i:=i) (n:=6) (by omega) (by omega) hi6
    rw[htm]at hE
    exact dh (R:=fun(st1:cG) (x1:RX)=>[]) (X1:=fun(st1:cG) (x1:RX)=>[aI g33 121 (.pointer (some ⟨g,0,none⟩)::x1.cs),bn g st1]) (S1:=fun(st1:cG) (x1:RX)=>[dE x1]) (I:=fun(st1:cG) (x1:RX)=>x1.d=eO (RD.new 2000) (zl.take 6)∧DS st1 x1.d 24∧Bd x1.d 24 24) st x ⟨rfl,rfl,rfl,rfl,rfl,rfl,rfl,rfl,trivial⟩ [0,0] rfl [0,1,2,3,4,5] rfl (⟨hE,hD.le (by omega),hB.le (by omega) (by omega)⟩)
  ·refine bx rfl rfl rfl (by decide)<|bx rfl rfl rfl (by decide)<|hy (fun _=>bP rfl rfl)<|ai<|al (ρ' :=[(41,_),(10,_),(9,_),(29,_),(8,_),(7,_),(6,_),(0,_),(1,_),(2,_)]) ⟨rfl,rfl,rfl,rfl,rfl,rfl,rfl,rfl,rfl,rfl,trivial⟩<|ag<| ?_
   refine dP rfl (rfl) ?_
   refine bK<|ao<|ao<|aC<| ?_
   have htm:=gM (l:=zl) (i:=i) (n:=6) (by omega) (by omega) hi6
   rw[htm]at hE
   exact dh (R:=fun(st1:cG) (x1:RX)=>[]) (X1:=fun(st1:cG) (x1:RX)=>[aI g33 121 (.pointer (some ⟨g,0,none⟩)::x1.cs),bn g st1]) (S1:=fun(st1:cG) (x1:RX)=>[dE x1]) (I:=fun(st1:cG) (x1:RX)=>x1.d=eO (RD.new 2000) (zl.take 6)∧DS st1 x1.d 24∧Bd x1.d 24 24) st x ⟨rfl,rfl,rfl,rfl,rfl,rfl,rfl,rfl,trivial⟩ [0,0] rfl [0,1,2,3,4,5] rfl (⟨hE,hD.le (by omega),hB.le (by omega) (by omega)⟩)
 ·refine ag<|ah<|ah<|aj<|hy (fun _=>ab rfl)<|ai<|ag<| ?_
  refine rK (fun(st2:cG) (x2:RX)=>[]) (fun(st2:cG) (x2:RX)=>[aI g33 121 (.pointer (some ⟨g,0,none⟩)::x2.cs),bn g st2]) (fun(st2:cG) (x2:RX)=>[dE x2]) (fun(st2:cG) (x2:RX)=>x2.d=iR (eO (RD.new 2000) (zl.take 6)) (zb.take 3) (bb.take 30)∧DS st2 x2.d 27∧Bd x2.d 27 27) [(9,_),(29,_),(8,_),(7,_),(6,_),(0,_),(1,_),(2,_)] ⟨rfl,rfl,rfl,rfl,rfl,rfl,rfl,rfl,trivial⟩ [0,0] rfl ?_ (fun st2 x2 ⟨hE2,hD2,hB2⟩=> ?_)
  ·refine aK<| ?_
   refine fv (fun i st x=>m-i) (fun i st x=>[(14,.int .i64 (i:Nat))]) (fun i st x=>[aI g33 121 (.pointer (some ⟨g,0,none⟩)::x.cs),bn g st]) (fun i st x=>[dE x]) (fun i st x=>i≤m∧i≤3∧x.d=iR (eO (RD.new 2000) (zl.take 6)) (zb.take i) (bb.take 30)∧DS st x.d (24+i)∧Bd x.d (24+i) (24+i)) 0 st1 x1 [(9,_),(29,_),(8,_),(7,_),(6,_),(0,_),(1,_),(2,_)] ⟨rfl,rfl,rfl,rfl,rfl,rfl,rfl,rfl,trivial⟩ [0,0] rfl [0] rfl (⟨Nat.zero_le _,Nat.zero_le _,hE1,hD1,hB1⟩) ⟨rfl,trivial⟩ (fun i st x ⟨hin,hi6,hE,hD,hB⟩=> ?_)
   refine ah<|ah<|aj<|hy (fun _=>aa rfl)<|hy (fun _=>aa rfl)<|hy (fun _=>aX rfl Tryz.underlying44)<|hy (fun _=>bw rfl rfl)<|hy (fun _=>aa rfl)<| ?_
   refine eE 76 rfl (fun h1=> ?_) (fun h1=> ?_)
   ·refine dQ (o:=_) rfl rfl rfl (fun _=>aa rfl)<|dQ (o:=_) rfl rfl rfl (fun _=>bw rfl rfl)<|hy (fun _=>bU rfl rfl)<|ai<|al (ρ' :=[(79,_),(14,_),(9,_),(29,_),(8,_),(7,_),(6,_),(0,_),(1,_),(2,_)]) ⟨rfl,rfl,rfl,rfl,rfl,rfl,rfl,rfl,rfl,rfl,trivial⟩<|ag<| ?_
    refine cD rfl (fun h2=> ?_) (fun h2=> ?_)
    ·obtain⟨k6,hk6,hk6l⟩:=ym (zb.getD i 0)
     have hil:i<zb.length:=by omega
     have hz:=hzb.at hil
     have hm:=bj (bd k6)
     have hDo:x.d.ok (24+i):=⟨st,hD⟩
     have hcz:=kU hk6
     have hbl:(bb.take 30).length≤30:=by rw[hbt];omega
     refine aD<|ag<|ah<|aK<|ah<|aj<|hy (fun _=>aa rfl)<|hy (fun _=>aa rfl)<|hy (fun _=>aO rfl rfl Tryz.underlying44 tW hA_rb rfl (by omega))<|hy (fun m=>aw rfl fE ((m.rd 4 rfl).cell (lU hil)))<| ?_
     refine hx (aq rfl Tryz.call30 (oh hz hk6 hk6l) [] rfl [6] rfl ?_)
     rintro _ _ _ ⟨rfl,rfl,rfl⟩
     refine hx (aq rfl Tryz.call29 (rW hm) [] rfl [] rfl ?_)
     rintro _ _ _ ⟨rfl,rfl,rfl⟩
     refine hy (fun _=>ab rfl)<|ai<|al (ρ' :=[(15,_),(79,_),(14,_),(9,_),(29,_),(8,_),(7,_),(6,_),(0,_),(1,_),(2,_)]) ⟨rfl,rfl,rfl,rfl,rfl,rfl,rfl,rfl,rfl,rfl,rfl,trivial⟩<|ak (X' :=[_,_]) (S' :=[_,_,_,_,_,_,_]) (fun _ m=>m)<|ag<|ah<| ?_
     have hbs:=tE (d:=eO (RD.new 2000) (zl.take 6)) (bb:=bb.take 30) hil
     rw[hcz,←hE]at hbs
     generalize hpp:aF (ba (bd k6))=pp at hbs ⊢
     have hpl:pp.length=69:=by rw[←hpp,dS hm]
     refine rK (fun(y2:RX) (g16:Nat)=>[(16,.pointer (some ⟨g16,0,none⟩))]) (fun(y2:RX) (g16:Nat)=>[aI g16 39 y2.cs]) (fun(y2:RX) (g16:Nat)=>[dE y2]) (fun(y2:RX) (g16:Nat)=>y2.d=x.d.write pp (bb.take 30)) [(15,_),(79,_),(14,_),(9,_),(29,_),(8,_),(7,_),(6,_),(0,_),(1,_),(2,_)] ⟨rfl,rfl,rfl,rfl,rfl,rfl,rfl,rfl,rfl,rfl,rfl,trivial⟩ [] rfl ?_ (fun y2 g16 hyd2=> ?_)
     ·refine wC [6,7,8,12,13] (.take 0 4<|.take 1 4<|.take 2 4<|.take 3 4<|.take 4 4<|.take 5 4<|.alt 6 (.alt 7 (.alt 8 (.take 9 4<|.take 10 4<|.take 11 5<|.alt 12 (.alt 13 (.take 14 5<|.done) (.stop)) (.stop)) (.alt 12 (.alt 8 (.take 9 4<|.take 10 4<|.take 11 5<|.alt 13 (.take 14 5<|.done) (.stop)) (.stop)) (.stop))) (.alt 12 (.alt 7 (.alt 8 (.take 9 4<|.take 10 4<|.take 11 5<|.alt 13 (.take 14 5<|.done) (.stop)) (.stop)) (.stop)) (.stop))) (.alt 12 (.alt 6 (.alt 7 (.alt 8 (.take 9 4<|.take 10 4<|.take 11 5<|.alt 13 (.take 14 5<|.done) (.stop)) (.stop)) (.stop)) (.stop)) (.stop))) (by kernel_rfl) (by kernel_rfl) rfl 4<|bX (aa rfl)<|bX (bh rfl)<|bX (aL rfl ju (by decide))<|Gy (fun m=>yV (a6 rfl cE bu rfl (vy (m.aY 0 rfl))) ((rfl:_=Value.agg x.cs.toArray)))<|bX (aa rfl)<|bX (aa rfl)<| ?_
      refine ep ?_ ?_
      ·refine fz (aq rfl Tryz.call32 (Eb hkc hkb (m:=30)) [] rfl [5] rfl ?_)
       rintro _ _ _ ⟨v,rfl,rfl,rfl⟩
       refine⟨(fun _=>wk [1,1] [0,1,2,3,4,5,6] rfl rfl), ?_⟩
       refine fx (fun m=>(m.own 0 rfl).slice) ?_
       rintro⟨A_x,c_x,rfl,hc_x⟩
       refine fx (fun m=>(m.ord 0 rfl).2.1) fun hA_x=> ?_
       refine ep ?_ ?_
       ·refine fz<|lY (fun m=>jX rfl Tryz.underlying27 Tryz.underlying5 Tryz.underlying9 (m.ord 0 rfl))<|And.intro (fun _=>wk [1,1] [0,1,2,3,4,5,6] rfl rfl)<| ?_
        refine ep ?_ ?_
        ·refine fz (aq rfl Tryz.call31 (mL hDo.uZ (by omega) (by omega) (by omega) (p:=pp) (bb:=(bb.take 30))) [] rfl [0] rfl ?_)
         rintro _ _ _ ⟨y2,rfl,rfl,rfl,hyd2⟩
         refine⟨(fun _=>wk [1,1] [1,2,3,4,5,6,7] rfl rfl), ?_⟩
         refine bX (aa rfl)<|bX (au rfl rfl)<|bX (au rfl rfl)<| ?_
         refine fz (aN iM (fun g16=>⟨(fun _=>wk [2,2] [1,2,3,4,5,6,7] rfl rfl), ?_⟩))
         refine ea (aJ 0 rfl rfl rfl bu rfl bN rfl ⟨(fun h=>absurd h (by decide)), ?_⟩)
         refine bX (ab rfl)<|eK<|al (ρ' :=[(16,_),(15,_),(79,_),(14,_),(9,_),(29,_),(8,_),(7,_),(6,_),(0,_),(1,_),(2,_)]) ⟨rfl,rfl,rfl,rfl,rfl,rfl,rfl,rfl,rfl,rfl,rfl,rfl,trivial⟩<|ak (X' :=[_,_,_,_]) (S' :=[_,_,_,_,_,_,_,_]) (fun _ m=>m)<| ?_
         exact dh (R:=fun(y2:RX) (g16:Nat)=>[(16,.pointer (some ⟨g16,0,none⟩))]) (X1:=fun(y2:RX) (g16:Nat)=>[aI g16 39 y2.cs]) (S1:=fun(y2:RX) (g16:Nat)=>[dE y2]) (I:=fun(y2:RX) (g16:Nat)=>y2.d=x.d.write pp (bb.take 30)) y2 g16 ⟨rfl,rfl,rfl,rfl,rfl,rfl,rfl,rfl,rfl,rfl,rfl,rfl,trivial⟩ [0,1,1] rfl [0,1,2,3,4,5,6,7] rfl hyd2
        ·refine fz (aN iM (fun g16=>⟨(fun _=>wk [2,2] [0,1,2,3,4,5,6] rfl rfl), ?_⟩))
         refine fz (aq rfl Tryz.call31 (mL hDo.uZ (by omega) (by omega) (by omega) (p:=pp) (bb:=(bb.take 30))) [] rfl [0] rfl ?_)
         rintro _ _ _ ⟨y2,rfl,rfl,rfl,hyd2⟩
         refine⟨(fun _=>wk [2,2] [1,2,3,4,5,6,7] rfl rfl), ?_⟩
         refine bX (aa rfl)<|bX (au rfl rfl)<|bX (au rfl rfl)<| ?_
         refine ea (aJ 0 rfl rfl rfl bu rfl bN rfl ⟨(fun h=>absurd h (by decide)), ?_⟩)
         refine bX (ab rfl)<|eK<|al (ρ' :=[(16,_),(15,_),(79,_),(14,_),(9,_),(29,_),(8,_),(7,_),(6,_),(0,_),(1,_),(2,_)]) ⟨rfl,rfl,rfl,rfl,rfl,rfl,rfl,rfl,rfl,rfl,rfl,rfl,trivial⟩<|ak (X' :=[_,_,_,_]) (S' :=[_,_,_,_,_,_,_,_]) (fun _ m=>m)<| ?_
         exact dh (R:=fun(y2:RX) (g16:Nat)=>[(16,.pointer (some ⟨g16,0,none⟩))]) (X1:=fun(y2:RX) (g16:Nat)=>[aI g16 39 y2.cs]) (S1:=fun(y2:RX) (g16:Nat)=>[dE y2]) (I:=fun(y2:RX) (g16:Nat)=>y2.d=x.d.write pp (bb.take 30)) y2 g16 ⟨rfl,rfl,rfl,rfl,rfl,rfl,rfl,rfl,rfl,rfl,rfl,rfl,trivial⟩ [0,1,1] rfl [0,1,2,3,4,5,6,7] rfl hyd2
       ·refine fz (aN iM (fun g16=>⟨(fun _=>wk [2,2] [0,1,2,3,4,5,6] rfl rfl), ?_⟩))
        refine fz<|lY (fun m=>jX rfl Tryz.underlying27 Tryz.underlying5 Tryz.underlying9 (m.ord 1 rfl))<|And.intro (fun _=>wk [2,2] [0,1,2,3,4,5,6] rfl rfl)<| ?_
        refine fz (aq rfl Tryz.call31 (mL hDo.uZ (by omega) (by omega) (by omega) (p:=pp) (bb:=(bb.take 30))) [] rfl [0] rfl ?_)
        rintro _ _ _ ⟨y2,rfl,rfl,rfl,hyd2⟩
        refine⟨(fun _=>wk [2,2] [1,2,3,4,5,6,7] rfl rfl), ?_⟩
        refine bX (aa rfl)<|bX (au rfl rfl)<|bX (au rfl rfl)<| ?_
        refine ea (aJ 0 rfl rfl rfl bu rfl bN rfl ⟨(fun h=>absurd h (by decide)), ?_⟩)
        refine bX (ab rfl)<|eK<|al (ρ' :=[(16,_),(15,_),(79,_),(14,_),(9,_),(29,_),(8,_),(7,_),(6,_),(0,_),(1,_),(2,_)]) ⟨rfl,rfl,rfl,rfl,rfl,rfl,rfl,rfl,rfl,rfl,rfl,rfl,trivial⟩<|ak (X' :=[_,_,_,_]) (S' :=[_,_,_,_,_,_,_,_]) (fun _ m=>m)<| ?_
        exact dh (R:=fun(y2:RX) (g16:Nat)=>[(16,.pointer (some ⟨g16,0,none⟩))]) (X1:=fun(y2:RX) (g16:Nat)=>[aI g16 39 y2.cs]) (S1:=fun(y2:RX) (g16:Nat)=>[dE y2]) (I:=fun(y2:RX) (g16:Nat)=>y2.d=x.d.write pp (bb.take 30)) y2 g16 ⟨rfl,rfl,rfl,rfl,rfl,rfl,rfl,rfl,rfl,rfl,rfl,rfl,trivial⟩ [0,1,1] rfl [0,1,2,3,4,5,6,7] rfl hyd2
      ·refine fz (aN iM (fun g16=>⟨(fun _=>wk [1,1] [0,1,2,3,4,5,6] rfl rfl), ?_⟩))
       refine fz (aq rfl Tryz.call32 (Eb hkc hkb (m:=30)) [] rfl [5] rfl ?_)
       rintro _ _ _ ⟨v,rfl,rfl,rfl⟩
       refine⟨(fun _=>wk [2,2] [0,1,2,3,4,5,6] rfl rfl), ?_⟩
       refine fx (fun m=>(m.own 0 rfl).slice) ?_
       rintro⟨A_x,c_x,rfl,hc_x⟩
       refine fx (fun m=>(m.ord 0 rfl).2.1) fun hA_x=> ?_
       refine fz<|lY (fun m=>jX rfl Tryz.underlying27 Tryz.underlying5 Tryz.underlying9 (m.ord 0 rfl))<|And.intro (fun _=>wk [2,2] [0,1,2,3,4,5,6] rfl rfl)<| ?_
       refine fz (aq rfl Tryz.call31 (mL hDo.uZ (by omega) (by omega) (by omega) (p:=pp) (bb:=(bb.take 30))) [] rfl [0] rfl ?_)
       rintro _ _ _ ⟨y2,rfl,rfl,rfl,hyd2⟩
       refine⟨(fun _=>wk [2,2] [1,2,3,4,5,6,7] rfl rfl), ?_⟩
       refine bX (aa rfl)<|bX (au rfl rfl)<|bX (au rfl rfl)<| ?_
       refine ea (aJ 1 rfl rfl rfl bu rfl bN rfl ⟨(fun h=>absurd h (by decide)), ?_⟩)
       refine bX (ab rfl)<|eK<|al (ρ' :=[(16,_),(15,_),(79,_),(14,_),(9,_),(29,_),(8,_),(7,_),(6,_),(0,_),(1,_),(2,_)]) ⟨rfl,rfl,rfl,rfl,rfl,rfl,rfl,rfl,rfl,rfl,rfl,rfl,trivial⟩<|ak (X' :=[_,_,_,_]) (S' :=[_,_,_,_,_,_,_,_]) (fun _ m=>m)<| ?_
       exact dh (R:=fun(y2:RX) (g16:Nat)=>[(16,.pointer (some ⟨g16,0,none⟩))]) (X1:=fun(y2:RX) (g16:Nat)=>[aI g16 39 y2.cs]) (S1:=fun(y2:RX) (g16:Nat)=>[dE y2]) (I:=fun(y2:RX) (g16:Nat)=>y2.d=x.d.write pp (bb.take 30)) y2 g16 ⟨rfl,rfl,rfl,rfl,rfl,rfl,rfl,rfl,rfl,rfl,rfl,rfl,trivial⟩ [0,1,1] rfl [0,1,2,3,4,5,6,7] rfl hyd2
     ·refine ag<|ah<|aj<|hy (fun _=>aa rfl)<|hy (fun m=>yV (a6 rfl cE bu rfl ((m.aY 0 rfl).ay)) ((rfl:_=Value.agg y2.cs.toArray)))<|hy (fun _=>bh rfl)<|hy (fun _=>aL rfl ju (by decide))<| ?_
      refine cI (ot 1 rfl rfl rfl bu rfl bN (show 6≤6 from Nat.le_refl 6) ?_)
      refine aR (fun w m=>m.bO 0 rfl (show _=aI g33 121 (.pointer (some ⟨g,0,none⟩)::y2.cs)from congrArg (aI _ _) rQ)) ?_
      refine ai<|al (ρ' :=[(16,_),(15,_),(79,_),(14,_),(9,_),(29,_),(8,_),(7,_),(6,_),(0,_),(1,_),(2,_)]) ⟨rfl,rfl,rfl,rfl,rfl,rfl,rfl,rfl,rfl,rfl,rfl,rfl,trivial⟩<|ak (X' :=[_,_,_]) (S' :=[_,_,_,_,_,_,_,_]) (fun _ m=>m)<|ag<|qg [0,0] [0,1,2,3,4,5,6,7] rfl rfl [6,7] [(0,some 1),(1,some 1),(2,some 1),(3,some 1),(4,some 1),(5,some 0),(6,none),(7,none)] (by kernel_rfl) (by kernel_rfl) rfl 99<|an (aa rfl)<|an (bh rfl)<|an (aL rfl gK (by decide))<|b6 (fun m=>aw rfl l7 (aA (m.aY 0 rfl) (i:=0) rfl))<|an (aa rfl)<|an (aa rfl)<| ?_
      refine dT (aq rfl Tryz.call32 (Eb hkc hkb (m:=30)) [] rfl [6] rfl ?_)
      rintro _ _ _ ⟨v,rfl,rfl,rfl⟩
      refine⟨(fun _=>wk [1,1] [0,1,2,3,4,5,6,7] rfl rfl), ?_⟩
      refine b9 (fun m=>(m.own 0 rfl).slice) ?_
      rintro⟨A_x,c_x,rfl,hc_x⟩
      refine b9 (fun m=>(m.ord 0 rfl).2.1) fun hA_x=> ?_
      refine dT (cC rfl Tryz.call33 (vT hD (by omega) hbt (Nat.le_trans (Nat.min_le_right _ _) (by decide)) (p:=pp) (l:=(bb.take 30))) [3] rfl (.x 0 rfl .own .nil) ?_)
      rintro _ _ _ ⟨st12,rfl,rfl,rfl,hD2⟩
      refine⟨rfl, ?_⟩
      refine⟨(fun _=>wk [2,2] [0,1,2,3,4,5,6,7] rfl rfl), ?_⟩
      refine bz<|al (ρ' :=[(16,_),(15,_),(79,_),(14,_),(9,_),(29,_),(8,_),(7,_),(6,_),(0,_),(1,_),(2,_)]) ⟨rfl,rfl,rfl,rfl,rfl,rfl,rfl,rfl,rfl,rfl,rfl,rfl,trivial⟩<|ak (X' :=[_,_,_,_]) (S' :=[_,_,_,_,_,_,_,_]) (fun _ m=>m)<|aT<|ag<|aj<|hy (fun _=>aa rfl)<|hy (fun _=>aM rfl rfl (bD (by omega) (by omega)))<|hy (fun _=>ab rfl)<|ai<|al (ρ' :=[(14,_),(16,_),(15,_),(79,_),(9,_),(29,_),(8,_),(7,_),(6,_),(0,_),(1,_),(2,_)]) ⟨rfl,rfl,rfl,rfl,rfl,rfl,rfl,rfl,rfl,rfl,rfl,rfl,trivial⟩<| ?_
      rw[←hyd2]at hD2
      have hB2:Bd y2.d (24+(i+1)) (24+(i+1)):=by rw[hyd2];exact(hB.write (by omega)).le (by omega) (by omega)
      have hE2:y2.d=iR (eO (RD.new 2000) (zl.take 6)) (zb.take (i+1)) (bb.take 30):=by rw[hyd2,hbs]
      refine eZ (i+1) _ y2 ⟨rfl,rfl,rfl,rfl,rfl,rfl,rfl,rfl,rfl,trivial⟩ [2,0] rfl [0,2,3,4,5,6,7] rfl (⟨by omega,by omega,hE2,hD2.le (by omega),hB2⟩) (by omega)
    ·refine bK<|ao<|ao<|aC<| ?_
     have htm:=gM (l:=zb) (i:=i) (n:=3) (by omega) (by omega) hi6
     rw[htm]at hE
     exact dh (R:=fun(st2:cG) (x2:RX)=>[]) (X1:=fun(st2:cG) (x2:RX)=>[aI g33 121 (.pointer (some ⟨g,0,none⟩)::x2.cs),bn g st2]) (S1:=fun(st2:cG) (x2:RX)=>[dE x2]) (I:=fun(st2:cG) (x2:RX)=>x2.d=iR (eO (RD.new 2000) (zl.take 6)) (zb.take 3) (bb.take 30)∧DS st2 x2.d 27∧Bd x2.d 27 27) st x ⟨rfl,rfl,rfl,rfl,rfl,rfl,rfl,rfl,trivial⟩ [0,0] rfl [0,1,2,3,4,5,6] rfl (⟨hE,hD.le (by omega),hB.le (by omega) (by omega)⟩)
   ·refine bx rfl rfl rfl (by decide)<|bx rfl rfl rfl (by decide)<|hy (fun _=>bP rfl rfl)<|ai<|al (ρ' :=[(79,_),(14,_),(9,_),(29,_),(8,_),(7,_),(6,_),(0,_),(1,_),(2,_)]) ⟨rfl,rfl,rfl,rfl,rfl,rfl,rfl,rfl,rfl,rfl,trivial⟩<|ag<| ?_
    refine dP rfl (rfl) ?_
    refine bK<|ao<|ao<|aC<| ?_
    have htm:=gM (l:=zb) (i:=i) (n:=3) (by omega) (by omega) hi6
    rw[htm]at hE
    exact dh (R:=fun(st2:cG) (x2:RX)=>[]) (X1:=fun(st2:cG) (x2:RX)=>[aI g33 121 (.pointer (some ⟨g,0,none⟩)::x2.cs),bn g st2]) (S1:=fun(st2:cG) (x2:RX)=>[dE x2]) (I:=fun(st2:cG) (x2:RX)=>x2.d=iR (eO (RD.new 2000) (zl.take 6)) (zb.take 3) (bb.take 30)∧DS st2 x2.d 27∧Bd x2.d 27 27) st x ⟨rfl,rfl,rfl,rfl,rfl,rfl,rfl,rfl,trivial⟩ [0,0] rfl [0,1,2,3,4,5,6] rfl (⟨hE,hD.le (by omega),hB.le (by omega) (by omega)⟩)
  ·have hEe:x2.d.sync=fU zl zb bb:=by rw[hE2];rfl
   refine ag<|ah<|aj<|hy (fun _=>aa rfl)<|hy (fun _=>bh rfl)<|hy (fun _=>aL rfl ju (by decide))<|hy (fun m=>yV (a6 rfl cE bu rfl (vy (m.aY 0 rfl))) ((rfl:_=Value.agg x2.cs.toArray)))<| ?_
   refine hx (aq rfl Tryz.call99 (uy hD2.uZ) [] rfl [0] rfl ?_)
   rintro _ _ _ ⟨y2,rfl,rfl,rfl,hyv⟩
   refine hy (fun _=>aa rfl)<|hy (fun _=>au rfl rfl)<|hy (fun _=>au rfl rfl)<| ?_
   refine hx (aN iM (fun g18=> ?_))
   refine cI (aJ 0 rfl rfl rfl bu rfl bN rfl ?_)
   refine hy (fun _=>ab rfl)<|ai<|al (ρ' :=[(18,_),(9,_),(29,_),(8,_),(7,_),(6,_),(0,_),(1,_),(2,_)]) ⟨rfl,rfl,rfl,rfl,rfl,rfl,rfl,rfl,rfl,trivial⟩<|ak (X' :=[_,_,_]) (S' :=[_,_,_,_,_,_,_,_]) (fun _ m=>m)<|ag<|ah<|aj<|hy (fun _=>aa rfl)<|hy (fun m=>yV (a6 rfl cE bu rfl ((m.aY 0 rfl).ay)) ((rfl:_=Value.agg y2.cs.toArray)))<|hy (fun _=>bh rfl)<|hy (fun _=>aL rfl ju (by decide))<| ?_
   refine cI (ot 1 rfl rfl rfl bu rfl bN (show 6≤6 from Nat.le_refl 6) ?_)
   refine aR (fun w m=>m.bO 0 rfl (show _=aI g33 121 (.pointer (some ⟨g,0,none⟩)::y2.cs)from congrArg (aI _ _) rQ)) ?_
   refine ai<|al (ρ' :=[(18,_),(9,_),(29,_),(8,_),(7,_),(6,_),(0,_),(1,_),(2,_)]) ⟨rfl,rfl,rfl,rfl,rfl,rfl,rfl,rfl,rfl,trivial⟩<|ak (X' :=[_,_,_]) (S' :=[_,_,_,_,_,_,_,_]) (fun _ m=>m)<|ag<|ah<|aj<|hy (fun _=>aa rfl)<|hy (fun _=>bh rfl)<|hy (fun _=>aL rfl gK (by decide))<|hy (fun m=>aw rfl l7 (aA (m.aY 0 rfl) (i:=0) rfl))<| ?_
   refine hx (aq rfl Tryz.call110 (uL hD2) [2] rfl [] rfl ?_)
   rintro _ _ _ ⟨st12,rfl,rfl,rfl,hD3⟩
   refine ai<|al (ρ' :=[(18,_),(9,_),(29,_),(8,_),(7,_),(6,_),(0,_),(1,_),(2,_)]) ⟨rfl,rfl,rfl,rfl,rfl,rfl,rfl,rfl,rfl,trivial⟩<|ak (X' :=[_,_,_]) (S' :=[_,_,_,_,_,_,_,_]) (fun _ m=>m)<|ag<|ah<|aj<|hy (fun _=>aa rfl)<|hy (fun _=>ab rfl)<|ai<|al (ρ' :=[(6,_),(18,_),(9,_),(29,_),(8,_),(7,_),(0,_),(1,_),(2,_)]) ⟨rfl,rfl,rfl,rfl,rfl,rfl,rfl,rfl,rfl,trivial⟩<|ag<|aU<| ?_
   exact bc trivial rfl rfl [1,0] rfl [0] rfl ⟨g33,g,_,y2,rfl,rfl,rfl,⟨by rw[hyv,hEe],by rw[hyv];exact hD3.le (by omega),by rw[hyv];exact hB2.sync⟩⟩
end Go.Proofs.YtmibdabdlgmafaaGreatDoor
end
section
namespace Go.Proofs.YtmibdabdlgmafaaGreatDoor
open Go.Eng Go.Hx
theorem lv{d:RD}{x:List UInt8}:x∈bL d↔x.length=32∧lk d.seen (aF x)≠none:=by
 unfold bL
 rw[List.mem_filterMap]
 constructor
 ·rintro⟨p,hp,h⟩
  rw[←j7]at h
  have h2:=eA h
  refine⟨h2.1, ?_⟩
  rw[←h2.2]
  exact uF.2 hp
 ·rintro⟨h1,h2⟩
  exact⟨aF x,uF.1 h2,by
   have:mJ (aF x)=some x:=by
    unfold mJ
    rw[if_pos (dS h1),ik h1]
    exact oQ h1
   exact this⟩
theorem q9{d d' :RD}{nm:List UInt8}(h:d.pw≠0)(h' :d'.pw≠0)(e:lk d'.seen (aF nm)=lk d.seen (aF nm)):d'.dY nm=d.dY nm∧d'.oU nm=d.oU nm:=by
 have e2:(d'.seen[cp d'.seen (aF nm)]?).map (·.2)=(d.seen[cp d.seen (aF nm)]?).map (·.2):=by rw[fw,fw,e]
 have hE:d'.cd (aF nm)=d.cd (aF nm):=by
  unfold RD.cd
  rw[if_neg h,if_neg h']
  cases h1:d'.seen[cp d'.seen (aF nm)]? with
  |none=>
   rw[h1]at e2
   have:d.seen[cp d.seen (aF nm)]? =none:=by
    cases h2:d.seen[cp d.seen (aF nm)]? with
    |none=>rfl
    |some y=>rw[h2]at e2;cases e2
   rw[this]
  |some x=>
   rw[h1]at e2
   cases h2:d.seen[cp d.seen (aF nm)]? with
   |none=>rw[h2]at e2;cases e2
   |some y=>rw[if_neg (by simp),if_neg (by simp)]
 have hB:d'.cm (aF nm)=d.cm (aF nm):=by
  unfold RD.cm
  rw[if_neg h,if_neg h',e2]
 have ho:d'.wI nm=d.wI nm:=by unfold RD.wI;rw[hB]
 have hg:d'.dY nm=d.dY nm:=by unfold RD.dY;rw[hE,ho]
 refine⟨hg, ?_⟩
 unfold RD.oU
 rw[hg,ho]
structure E5(d0 d:RD)(ps:List (List UInt8)):Prop where
 seen:∀q,¬q∈ps→lk d.seen q=lk d0.seen q
 ct:∀q,¬q∈ps→lk d.ct q=lk d0.seen q
 waits:∀c∈d.waits,c.1=2∧c.2.1∈ps
theorem oH{l:List FP}{p q:List UInt8}(h:q≠p):lk (cV l p) q=lk l q:=by
 unfold cV
 rw[gP,if_neg h]
theorem FJ{l:List FP}{p t b:List UInt8}{q:List UInt8}(h:q≠p):lk (dw l 2 p t b) q=lk l q:=by
 unfold dw
 rw[if_neg (by decide)]
 split
 ·rfl
 ·rw[if_pos rfl];exact oH h
theorem vj:∀(ns:List (List UInt8)) {d:RD},(cg (cU ns++[cq]) d).2=0→(∀q,lk (cg (cU ns++[cq]) d).1.seen q=if q∈ns.map aF then none else lk d.seen q)∧(cg (cU ns++[cq]) d).1.ct=(cg (cU ns++[cq]) d).1.seen∧(cg (cU ns++[cq]) d).1.waits=[]
 | [],d,h=>by
  have h0:d.pw≠0:=fun e=>by
   change (cg [cq] d).2=0 at h
   rw[cg]at h
   have:(cq d).2=6:=by show d.cT=6;rw[RD.cT,if_pos e]
   rw[if_pos (by rw[this];decide),this]at h
   exact absurd h (by decide)
  have e:(cg (cU []++[cq]) d).1=d.sync:=by
   show(cg [cq] d).1=_
   rw[cg]
   split <;> rfl
  rw[e]
  have es:d.sync={d with ct:=d.seen,waits:=[],pw:=dH d.pw}:=by rw[RD.sync,if_neg h0]
  rw[es]
  exact⟨fun q=>by rw[if_neg (by simp)],rfl,rfl⟩
 |nm::r,d,h=>by
  have hE:d.cd (aF nm)=0:=by
   refine Decidable.byContradiction fun hn=> ?_
   change (cg (nj (aF nm)::(cU r++[cq])) d).2=0 at h
   rw[cg,if_pos (by exact hn)]at h
   exact hn h
  have e:cg (cU (nm::r)++[cq]) d=cg (cU r++[cq]) (d.remove (aF nm)):=by
   show cg (nj (aF nm)::(cU r++[cq])) d=_
   rw[cg,if_neg (by show¬d.cd (aF nm)≠0;rw[hE];decide)]
   rfl
  rw[e]at h ⊢
  obtain⟨h1,h2⟩:=vj r h
  refine⟨fun q=> ?_,h2⟩
  have hs:(d.remove (aF nm)).seen=cV d.seen (aF nm):=by
   rw[RD.remove,if_pos hE]
   show dw d.seen 2 (aF nm) [] []=_
   have h3:d.seen[cp d.seen (aF nm)]? ≠none:=fun e=>by
    unfold RD.cd at hE
    split at hE
    ·exact absurd hE (by decide)
    ·exact absurd hE (by decide)
   unfold dw
   rw[if_neg (by decide)]
   split
   ·next h4=>exact absurd h4 h3
   ·rw[if_pos rfl]
  rw[h1 q,hs,List.map_cons]
  by_cases hq:q∈r.map aF
  ·rw[if_pos hq,if_pos (List.mem_cons_of_mem _ hq)]
  ·rw[if_neg hq]
   by_cases hp:q=aF nm
   ·subst hp;rw[if_pos (List.mem_cons_self ..)];unfold cV;rw[gP,if_pos rfl]
   ·rw[if_neg (fun h=>(List.mem_cons.1 h).elim hp hq),oH hp]
theorem CB:∀(ns:List (List UInt8)) {d:RD},d.pw=-1→(ns.map aF).Nodup→(∀nm∈ns,lk d.seen (aF nm)≠none)→(cg (cU ns++[cq]) d).2=0∧(cg (cU ns++[cq]) d).1.pw=-1
 | [],d,hp,_,_=>by
  show(cg [cq] d).2=0∧_
  have e0:(cq d).2=0:=by show d.cT=0;rw[RD.cT,if_neg (by rw[hp];decide)]
  have e1:cg (cU []++[cq]) d=(d.sync,0):=by
   show cg [cq] d=_
   rw[cg,if_neg (by rw[e0];decide)];rfl
  rw[e1]
  refine⟨by show(cg [cq] d).2=0;rw[show cg [cq] d=(d.sync,0)from e1], ?_⟩
  show d.sync.pw=-1
  rw[RD.sync,if_neg (by rw[hp];decide)]
  show dH d.pw=-1
  rw[hp];rfl
 |nm::r,d,hp,hnd,hl=>by
  rw[List.map_cons,List.nodup_cons]at hnd
  have h0:=hl nm (List.mem_cons_self ..)
  have hE:d.cd (aF nm)=0:=by
   unfold RD.cd
   rw[if_neg (by rw[hp];decide),if_neg]
   intro e
   rw[←fw,e]at h0
   exact h0 rfl
  have hp2:(d.remove (aF nm)).pw=-1:=by
   rw[RD.remove,if_pos hE]
   show dH d.pw=-1
   rw[hp];rfl
  have e:cg (cU (nm::r)++[cq]) d=cg (cU r++[cq]) (d.remove (aF nm)):=by
   show cg (nj (aF nm)::(cU r++[cq])) d=_
   rw[cg,if_neg (by show¬d.cd (aF nm)≠0;rw[hE];decide)]
   rfl
  rw[e]
  refine CB r hp2 hnd.2 fun x hx=> ?_
  have hne:aF x≠aF nm:=fun e=>hnd.1 (by rw[←e];exact List.mem_map_of_mem hx)
  have hk:E5 d (d.remove (aF nm)) [aF nm]∨True:=.inr trivial
  have:lk (d.remove (aF nm)).seen (aF x)=lk d.seen (aF x):=by
   rw[RD.remove,if_pos hE]
   show lk (dw d.seen 2 (aF nm) [] []) (aF x)=_
   exact FJ hne
  rw[this]
  exact hl x (List.mem_cons_of_mem _ hx)
theorem r9{ns:List (List UInt8)}(h:ns.Nodup)(h32:mN ns):(ns.map aF).Nodup:=by
 induction ns with
 |nil=>exact List.nodup_nil
 |cons a r ih=>
  rw[List.nodup_cons]at h
  rw[List.map_cons,List.nodup_cons]
  refine⟨fun hm=> ?_,ih h.2 (fun x hx=>h32 x (List.mem_cons_of_mem _ hx))⟩
  obtain⟨b,hb,e⟩:=List.mem_map.1 hm
  have:=hC (h32 b (List.mem_cons_of_mem _ hb)) (h32 a (List.mem_cons_self ..)) e
  subst this
  exact h.1 hb
theorem s4{d:RD}{kp:List (List UInt8)}(hp:d.pw=-1)(hs:lN d.seen)(hl:d.ct=d.seen)(hw:d.waits=[]):
  d.prune kp=((d.prune kp).1,(((cx (bL d) kp).length:Nat):Int),0)∧(d.prune kp).1.pw=-1∧(d.prune kp).1.ct=(d.prune kp).1.seen∧(d.prune kp).1.waits=[]∧
   ∀q,lk (d.prune kp).1.seen q=if q∈(cx (bL d) kp).map aF then none else lk d.seen q:=by
 have h0:¬d.pw=0:=by rw[hp];decide
 have hst:=iW hs
 have h32:mN (cx (bL d) kp):=ql (lA d)
 by_cases hn:cx (bL d) kp=[]
 ·have e:d.rm (cx (bL d) kp)=(d,0):=by unfold RD.rm;rw[if_pos hn]
  have e2:d.prune kp=(d,0,0):=by
   rw[pg h0 (by rw[e]),e,hn];rfl
  rw[e2,hn]
  exact⟨rfl,hp,hl,hw,fun q=>by rw[if_neg (by simp)]⟩
 ·have e:d.rm (cx (bL d) kp)=cg (cU (cx (bL d) kp)++[cq]) d:=by unfold RD.rm;rw[if_neg hn]
  obtain⟨h1,h2⟩:=CB (cx (bL d) kp) hp (r9 (jU (jN hst)) h32) (fun nm hm=>(lv.1 (List.mem_filter.1 hm).1).2)
  obtain⟨h3,h4,h5⟩:=vj _ h1
  have e2:=pg (kp:=kp) h0 (by rw[e];exact h1)
  rw[e]at e2
  rw[e2]
  exact⟨rfl,h2,h4,h5,h3⟩
theorem s6{d:RD}{p l:List UInt8}(h:d.pw=-1):(d.write p l).pw=-1:=by
 unfold RD.write
 split
 ·show dH d.pw=-1;rw[h];rfl
 ·exact h
theorem xr{d:RD}{a c:List UInt8}(h:d.pw=-1):(d.rename a c).pw=-1:=by
 unfold RD.rename
 split
 ·show dH d.pw=-1;rw[h];rfl
 ·exact h
theorem rA{d:RD}(h:d.pw=-1):d.sync.pw=-1∧d.sync.ct=d.sync.seen∧d.sync.waits=[]:=by
 have e:d.sync={d with ct:=d.seen,waits:=[],pw:=dH d.pw}:=by rw[RD.sync,if_neg (by rw[h];decide)]
 rw[e]
 exact⟨by show dH d.pw=-1;rw[h];rfl,rfl,rfl⟩
theorem DY{d:RD}(h:d.pw=-1)(bb:List UInt8):(d.put bb).1.pw=-1:=by
 have hR:(d.hZ bb).1.pw=-1:=p4 (P:=fun d=>d.pw=-1) _ _ (fun F hF d h=>by
  simp only[List.mem_cons,List.not_mem_nil,or_false]at hF
  rcases hF with rfl|rfl|rfl|rfl
  ·exact s6 h
  ·exact(rA h).1
  ·exact xr h
  ·exact(rA h).1) h
 unfold RD.put
 split
 ·exact h
 ·split
  ·exact h
  ·split
   ·exact h
   ·exact hR
theorem qT:∀(zl:List Int) {d:RD},d.pw=-1→(eO d zl).pw=-1
 | [],d,h=>h
 |z::r,d,h=>qT r (DY h _)
theorem qE:∀(zl:List Int) {d:RD} {bb:List UInt8},d.pw=-1→(iR d zl bb).pw=-1
 | [],d,_,h=>h
 |z::r,d,_,h=>qE r (s6 h)
theorem uU(zl zb:List Int)(bb:List UInt8):(fU zl zb bb).pw=-1∧(fU zl zb bb).ct=(fU zl zb bb).seen∧(fU zl zb bb).waits=[]:=rA (qE _ (qT _ rfl))
theorem tK{d d' :RD}{ns:List (List UInt8)}(h:d.pw≠0)(h' :d'.pw≠0)(hlk:∀nm∈ns,lk d'.seen (aF nm)=lk d.seen (aF nm)):d'.whole ns=d.whole ns:=by
 unfold RD.whole
 rw[Bool.eq_iff_iff,List.all_eq_true,List.all_eq_true]
 constructor
 ·intro hw x hx
  rw[←(q9 h h' (hlk x hx)).1];exact hw x hx
 ·intro hw x hx
  rw[(q9 h h' (hlk x hx)).1];exact hw x hx
theorem A6{d:RD}{kp:List (List UInt8)}(hk:mN kp){q:List UInt8→Option (List UInt8)}(h:∀p,q p=if p∈(cx (bL d) kp).map aF then none else lk d.seen p):∀nm∈kp,q (aF nm)=lk d.seen (aF nm):=by
 intro nm hm
 rw[h,if_neg]
 intro hx
 obtain⟨y,hy,e⟩:=List.mem_map.1 hx
 unfold cx at hy
 rw[List.mem_filter,lv,decide_eq_true_eq]at hy
 have:=hC hy.1.1 (hk nm hm) e
 subst this
 exact hy.2 hm
end Go.Proofs.YtmibdabdlgmafaaGreatDoor
end
section
set_option maxRecDepth 20000
set_option maxHeartbeats 4000000
namespace Go.Proofs.YtmibdabdlgmafaaGreatDoor
open Go.Eng Go.Hx
def mQ:oo:=⟨List.replicate 32 0,List.length_replicate⟩
def FY:IX:=⟨0,0,0,mQ,[],none,0⟩
def lB(kT:List It)(A:Option Addr)(c:Nat):IX:=⟨1,8,20,mQ,kT,A,c⟩
def kz(z:Int):Nat:=(1+dU z 5).toNat
def cB(zl:List Int):List It:=(zl.take 5).map fun z=>(⟨ba (bd (kz z)),bj _⟩,((3*kz z:Nat):Int))
def kd(zl:List Int)(i:Nat):List It:=(zl.take i).map fun z=>(⟨ba (bd (kz z)),bj _⟩,((3*kz z:Nat):Int))
theorem w0{zl:List Int}{i:Nat}(h:i<zl.length):kd zl (i+1)=kd zl i++[(⟨ba (bd (kz (zl.getD i 0))),bj _⟩,((3*kz (zl.getD i 0):Nat):Int))]:=by
 unfold kd
 rw[List.take_succ_eq_append_getElem h,List.map_append]
 simp[List.getD,h]
theorem mE{zl:List Int}{i:Nat}(h:i≤zl.length):(kd zl i).length=i:=by
 unfold kd
 rw[List.length_map,List.length_take]
 omega
theorem Gl{P:Program}{pl:Nat→Option (Nat×Nat)}(h0:pl 0=some (0,3)):vq P pl FY.cs [(0,.agg [Value.int .i64 1,.int .i64 8,.int .i64 20].toArray)] (lB [] none 0).cs:=
 .cons h0 (bq _) rfl (by rw[IX.dy];decide) (show vq P pl (br FY.cs 0 [Value.int .i64 1,.int .i64 8,.int .i64 20]) [] _ from .nil)
theorem Gp{P:Program}{pl:Nat→Option (Nat×Nat)}{x:IX}(h0:pl 0=some (0,3))(h1:pl 1=some (3,32))(h2:pl 2=some (35,1)):vq P pl FY.cs [(0,.agg [Value.int .i64 x.mn,.int .i64 x.av,.int .i64 x.mx].toArray),(1,.agg (aQ x.vJ.b).toArray),(2,.slice x.A x.kT.length x.c)] x.cs:=by
 have hi:(aQ x.vJ.b).length=32:=by rw[az,x.vJ.h]
 have hz:(aQ mQ.b).length=32:=by rw[az,mQ.h]
 have e1:br FY.cs 0 [Value.int .i64 x.mn,.int .i64 x.av,.int .i64 x.mx]=[Value.int .i64 x.mn,.int .i64 x.av,.int .i64 x.mx]++aQ mQ.b++[.slice none 0 0]:=rfl
 have e2:br ([Value.int .i64 x.mn,.int .i64 x.av,.int .i64 x.mx]++aQ mQ.b++[.slice none 0 0]) 3 (aQ x.vJ.b)=[Value.int .i64 x.mn,.int .i64 x.av,.int .i64 x.mx]++aQ x.vJ.b++[.slice none 0 0]:=gX rfl (by rw[hi,hz])
 have e3:br ([Value.int .i64 x.mn,.int .i64 x.av,.int .i64 x.mx]++aQ x.vJ.b++[.slice none 0 0]) 35 [.slice x.A x.kT.length x.c]=x.cs:=by
  have:=gX (a:=[Value.int .i64 x.mn,.int .i64 x.av,.int .i64 x.mx]++aQ x.vJ.b) (b:=[Value.slice none 0 0]) (c:=[]) (vs:=[.slice x.A x.kT.length x.c]) (o:=35) (by simp[hi]) rfl
  rw[List.append_nil,List.append_nil]at this
  exact this
 exact .cons h0 (bq _) rfl (by rw[IX.dy];decide) (by rw[e1];exact .cons h1 (bq _) hi (by simp[hz]) (by rw[e2];exact .cons h2 rfl rfl (by simp[hi]) (by rw[show(Value.slice x.A x.kT.length x.c).cells.toList=[Value.slice x.A x.kT.length x.c]from rfl,e3];exact .nil)))
theorem BF{w:World}{g:Nat}{ty:TypeId}{a b c:List Value}(h:fb w g ty (a++b++c)):∀(j:Nat) (u:Value),b[j]? =some u→w.cell? (((⟨g,0,none⟩:Addr).add a.length).add j)=some u:=fun j u hu=>by
 have hj:=(List.getElem?_eq_some_iff.1 hu).1
 have:=h.ay (a.length+j) u (by rw[List.getElem?_append_left (by rw[List.length_append];omega),List.getElem?_append_right (by omega),Nat.add_sub_cancel_left];exact hu)
 rw[add_add]
 exact this
theorem vB{x:IX}:cf Tryz.prog 65 [.agg x.cs.toArray] [] [] (fun v_ X_ S_=>v_=(.agg x.cs.toArray)∧X_=[]∧S_=[]):=by
 have hi:(aQ x.vJ.b).length=32:=by rw[az,x.vJ.h]
 refine aP (N:=10) Tryz.func65 rfl rfl (by simp) fun b=> ?_
 refine ah<|aj<| ?_
 refine hx (cy rfl (fun g1=> ?_))
 refine aR (fun w m=>m.bO 0 rfl (show _=aI g1 82 x.cs from congrArg (aI _ _) (bq _))) ?_
 refine hx (aN wO (fun g2=> ?_))
 refine ai<|ak (X' :=[_,_]) (S' :=[]) (fun _ m=>m)<|ag<|ah<|aj<|hy (fun _=>aL rfl EE (by decide))<|hy (fun m=>a6 rfl F4 Gd rfl (vK (a:=[Value.int .i64 x.mn,.int .i64 x.av,.int .i64 x.mx]) (b:=aQ x.vJ.b++[.slice x.A x.kT.length x.c]) (by have:=m.aY 1 rfl;rwa [IX.cs,List.append_assoc]at this)))<|hy (fun _=>aL rfl DF (by decide))<|hy (fun m=>a6 rfl cr bp hi (BF (a:=[Value.int .i64 x.mn,.int .i64 x.av,.int .i64 x.mx]) (c:=[.slice x.A x.kT.length x.c]) (m.aY 1 rfl)))<|hy (fun _=>aL rfl pD (by decide))<|hy (fun m=>aw rfl zP (aA (m.aY 1 rfl) (i:=35) x.zN))<|hy (fun _=>cn wO rfl rfl (by kernel_rfl) (Gp (x:=x) C9 DD D9))<| ?_
 refine cI (aJ 0 rfl rfl rfl wT x.dy x.bN rfl ?_)
 refine ai<|al (ρ' :=[(2,_),(1,_),(0,_)]) ⟨rfl,rfl,rfl,trivial⟩<|ak (X' :=[_,_]) (S' :=[]) (fun _ m=>m)<|ag<|aU<| ?_
 exact fe trivial rfl rfl C8 wT x.dy (fun m=>(m.aY 0 rfl).ay) [] rfl [] rfl ⟨rfl,rfl,rfl⟩
theorem EO{P:Program}{pl:Nat→Option (Nat×Nat)}{t:It}(h0:pl 0=some (0,32))(h1:pl 1=some (32,1)):vq P pl (xF (mQ,0)) [(0,.agg (aQ t.1.b).toArray),(1,.int .i64 t.2)] (xF t):=by
 have hz:(aQ mQ.b).length=32:=by rw[az,mQ.h]
 have hn:(aQ t.1.b).length=32:=by rw[az,t.1.h]
 have e1:br (xF (mQ,0)) 0 (aQ t.1.b)=aQ t.1.b++[.int .i64 0]:=by
  have:=gX (a:=[]) (b:=aQ mQ.b) (c:=[Value.int .i64 0]) (vs:=aQ t.1.b) (o:=0) rfl (by rw[hn,hz])
  exact this
 have e2:br (aQ t.1.b++[.int .i64 0]) 32 [.int .i64 t.2]=xF t:=by
  have:=gX (a:=aQ t.1.b) (b:=[Value.int .i64 0]) (c:=[]) (vs:=[.int .i64 t.2]) (o:=32) hn rfl
  rw[List.append_nil,List.append_nil]at this
  exact this
 exact .cons h0 (bq _) hn (by rw[kP];decide) (by rw[e1];exact .cons h1 rfl rfl (by simp[hn]) (by rw[show(Value.int .i64 t.2).cells.toList=[Value.int .i64 t.2]from rfl,e2];exact .nil))
theorem Ax{kT its' :List It}{A A' :Option Addr}{c c' n:Nat}(hn:n=its'.length):(lB kT A c).cs.set 35 (.slice A' n c')=(lB its' A' c').cs:=by
 subst hn
 have hz:(aQ mQ.b).length=32:=by rw[az,mQ.h]
 unfold IX.cs lB
 rw[List.set_append,if_neg (by simp[hz])]
 simp[hz]
theorem so{A:Option Addr}{n c:Nat}{zl:List Int}(hzl:pV zl):cf Tryz.prog 64 [.slice A n c] [] [c6 1 A n (ints zl),ef] (fun v_ X_ S_=>∃A1 c1,v_=(.agg (lB (cB zl) A1 c1).cs.toArray)∧X_=[]∧S_=[c6 33 A1 (cB zl).length (zI (cB zl))]):=by
 refine aP (N:=35) Tryz.func64 rfl rfl (by simp) fun b=> ?_
 refine aZ (fun m=>jq (m.rd 0 rfl)) ?_
 rintro⟨hl_rl,hA_rl⟩
 refine aZ (fun m=>(m.rd 0 rfl).1) fun hln=> ?_
 have hln:zl.length=n:=by rw[ints,List.length_map,Nat.mul_one]at hln;exact hln
 refine ah<|aj<| ?_
 refine hx (aN AM (fun g2=> ?_))
 refine ai<|ak (X' :=[_]) (S' :=[_,_]) (fun _ m=>m)<|ag<|ah<|aj<|hy (fun _=>cn Gb rfl rfl (by kernel_rfl) (.cons (o:=0) (sz:=1) (by kernel_rfl) rfl rfl (Nat.le_of_ble_eq_true rfl) (.cons (o:=1) (sz:=1) (by kernel_rfl) rfl rfl (Nat.le_of_ble_eq_true rfl) (.cons (o:=2) (sz:=1) (by kernel_rfl) rfl rfl (Nat.le_of_ble_eq_true rfl) .nil))))<|hy (fun _=>cn AM rfl rfl (by kernel_rfl) (Gl DR))<| ?_
 refine hx (aN AM (fun g3=> ?_))
 refine cI (aJ 0 rfl rfl rfl nX (IX.dy _) (IX.bN _) rfl ?_)
 refine aR (fun w m=>m.bO 0 rfl (show _=aI g3 82 (lB (kd zl 0) none 0).cs from rfl)) ?_
 refine ai<|al (ρ' :=[(3,_),(2,_),(0,_)]) ⟨rfl,rfl,rfl,trivial⟩<|ak (X' :=[_,_]) (S' :=[_,_]) (fun _ m=>m)<|ag<|ah<|ah<|aj<|hy (fun _=>ab rfl)<|ai<|ag<|aK<| ?_
 refine bB (fun w m=>m.dx (r' :=aG 100 33 (.slice none 0 0) 0 []) (.refl _ _) (Own.nil _ _ _ _) (fun k hk=>hk.elim)) ?_
 refine fv (fun i A1 c1=>n-i) (fun i A1 c1=>[(4,.int .i64 (i:Nat))]) (fun i A1 c1=>[aI g3 82 (lB (kd zl i) A1 c1).cs,aG 100 33 (.slice A1 i c1) i (zI (kd zl i))]) (fun i A1 c1=>[]) (fun i A1 c1=>i≤n∧i≤5) 0 none 0 [(3,_),(2,_),(0,_)] ⟨rfl,rfl,rfl,trivial⟩ [1,0] rfl [] rfl (⟨Nat.zero_le _,Nat.zero_le _⟩) ⟨rfl,trivial⟩ (fun i A1 c1 ⟨hin,hi5⟩=> ?_)
 refine ah<|ah<|aj<|hy (fun _=>aa rfl)<|hy (fun _=>aa rfl)<|hy (fun _=>aX rfl Tryz.underlying44)<|hy (fun _=>bw rfl rfl)<|hy (fun _=>aa rfl)<| ?_
 refine eE 12 rfl (fun h1=> ?_) (fun h1=> ?_)
 ·refine dQ (o:=_) rfl rfl rfl (fun _=>aa rfl)<|dQ (o:=_) rfl rfl rfl (fun _=>bw rfl rfl)<|hy (fun _=>bU rfl rfl)<|ai<|al (ρ' :=[(15,_),(4,_),(3,_),(2,_),(0,_)]) ⟨rfl,rfl,rfl,rfl,rfl,trivial⟩<|ag<| ?_
  refine cD rfl (fun h2=> ?_) (fun h2=> ?_)
  ·have hil:i<zl.length:=by omega
   have hz:=hzl.at hil
   have har:=qa (zl.getD i 0) 5 (by decide)
   obtain⟨k5,hk5,hk5l⟩:∃k5:Nat,dU (zl.getD i 0) 5=(k5:Int)∧k5<5:=⟨(dU (zl.getD i 0) 5).toNat,by omega,by omega⟩
   have hkz:kz (zl.getD i 0)=k5+1:=by unfold kz;rw[hk5];omega
   have h6:dU ((k5+1:Nat):Int) 6=((k5+1:Nat):Int):=by unfold dU;rw[if_neg (by omega)];omega
   have hsc:=w0 hil
   rw[hkz]at hsc
   obtain⟨tt,htt⟩:∃tt:It,tt=(⟨ba (bd (k5+1)),bj _⟩,((3*(k5+1):Nat):Int)):=⟨_,rfl⟩
   rw[←htt]at hsc
   have hl1:(kd zl (i+1)).length=i+1:=mE (by omega)
   refine aD<|ag<|ah<|aK<|ah<|aj<|hy (fun _=>aa rfl)<|hy (fun _=>aa rfl)<|hy (fun _=>aO rfl rfl Tryz.underlying44 tW hA_rl rfl (by omega))<|hy (fun m=>aw rfl fE ((m.rd 0 rfl).cell (lU hil)))<| ?_
   refine hx (aq rfl Tryz.call16 (wG hz.1 hz.2 (by decide) (n:=(zl.getD i 0)) (m:=5)) [] rfl [] rfl ?_)
   rintro _ _ _ ⟨rfl,rfl,rfl⟩
   refine hy (fun _=>yV (aM rfl rfl (bD (by omega) (by omega))) ((show Value.int .i64 (1+dU (zl.getD i 0) 5)= .int .i64 ((k5+1:Nat):Int)from by rw[hk5];congr 1;omega)))<|hy (fun _=>ab rfl)<|ai<|al (ρ' :=[(5,_),(15,_),(4,_),(3,_),(2,_),(0,_)]) ⟨rfl,rfl,rfl,rfl,rfl,rfl,trivial⟩<|ak (X' :=[_,_,_]) (S' :=[_,_]) (fun _ m=>m)<|ag<|cN [3,7,8,10] [(0,some 2),(1,some 2),(2,some 0),(4,some 1),(5,some 1),(3,none),(6,some 1),(7,none),(8,none),(9,some 3),(10,none)] (by kernel_rfl) (by kernel_rfl) rfl 2<|an (aL rfl pD (by decide))<|b6 (fun m=>aw rfl zP (aA (m.aY 0 rfl) (i:=35) (show(lB (kd zl i) A1 c1).cs[35]? =some (Value.slice A1 i c1)from by rw[IX.zN];show some (Value.slice A1 (kd zl i).length c1)=_;rw[mE (by omega)])))<|an (aa rfl)<|an (aa rfl)<|an (yV (fp rfl rfl (bD (by omega) (by omega))) ((show Value.int .i64 (3*((k5+1:Nat):Int))= .int .i64 tt.2 from by rw[htt];congr 1)))<| ?_
   refine dT (aq rfl Tryz.call30 (oh (⟨by omega,by omega⟩) h6 (by omega)) [] rfl [1] rfl ?_)
   rintro _ _ _ ⟨rfl,rfl,rfl⟩
   refine⟨(fun _=>wk [0,0,0] [0,1] rfl rfl), ?_⟩
   have hta:Value.agg (aQ (ba (bd (k5+1)))).toArray= .agg (aQ tt.1.b).toArray:=by rw[htt]
   rw[hta]
   refine an (cn wq rfl rfl (by kernel_rfl) (EO Cm BK))<| ?_
   refine dT (bV Tryz.underlying80 wq rfl rfl rfl (by intro v hv;rw[List.mem_singleton.1 hv];show(xF tt).toArray.size=33;rw[List.size_toArray,kP]) (by decide) (by decide) (fun g31=>⟨(fun _=>wk [1,1,1] [0,1] rfl rfl), ?_⟩))
   have hA_b31:0<1→(some (⟨g31,0,none⟩:Addr))≠none:=fun _ h=>by cases h
   refine fg (fun w m=>m.bO 0 rfl (show _=aG 100 33 (.slice (some ⟨g31,0,none⟩) 1 1) 1 (zI [tt])from rfl)) ?_
   refine dT (bH 2 rfl rfl rfl Tryz.underlying80 Tryz.underlying80 (by exact .inl rfl) wq rfl (fun m=>Src.bY (m.ord 0 rfl)) AT (by unfold maxLen;omega) (by omega) (fun u=>⟨(fun h=>absurd h (by decide)), ?_⟩))
   refine b9 (fun m=>(m.own 0 rfl).slice) ?_
   rintro⟨A_z,c_z,rfl,hc_z⟩
   refine b9 (fun m=>(m.ord 0 rfl).2.1) fun hA_z=> ?_
   refine fg (fun w m=>m.bO 0 rfl (show _=aG 100 33 (.slice A_z (i+1) c_z) (i+1) (zI (kd zl (i+1)))from congrArg (aG _ _ _ _) (by rw[hsc,ue]))) ?_
   refine an (aL rfl pD (by decide))<| ?_
   refine j5 (cz 2 rfl rfl rfl GH rfl (by rw[IX.dy];decide) ⟨(fun h=>absurd h (by decide)), ?_⟩)
   refine bz<|al (ρ' :=[(5,_),(15,_),(4,_),(3,_),(2,_),(0,_)]) ⟨rfl,rfl,rfl,rfl,rfl,rfl,trivial⟩<|ak (X' :=[_,_,_,_]) (S' :=[_,_]) (fun _ m=>m)<|aT<|ag<|aj<|hy (fun _=>aa rfl)<|hy (fun _=>aM rfl rfl (bD (by omega) (by omega)))<|hy (fun _=>ab rfl)<|ai<|al (ρ' :=[(4,_),(5,_),(15,_),(3,_),(2,_),(0,_)]) ⟨rfl,rfl,rfl,rfl,rfl,rfl,trivial⟩<| ?_
   refine ak (fun w m=>m.bO 0 rfl (show _=aI g3 82 (lB (kd zl (i+1)) A_z c_z).cs from congrArg (aI _ _) (Ax hl1.symm))) ?_
   refine eZ (i+1) A_z c_z ⟨rfl,rfl,rfl,rfl,trivial⟩ [0,0,1] rfl [0,1] rfl (⟨by omega,by omega⟩) (by omega)
  ·refine bK<|ao<|ao<|aC<|ag<|ah<|aj<|hy (fun m=>a6 rfl tN nX (IX.dy _) ((m.aY 0 rfl).ay))<| ?_
   have htm:=gM (l:=zl) (i:=i) (n:=5) (by omega) (by omega) hi5
   have hid:kd zl i=cB zl:=by unfold kd cB;rw[htm]
   have hle:(cB zl).length=i:=by rw[←hid];exact mE (by omega)
   rw[hid,←hle]
   refine aR (fun w m=>(m.perm (ar [1] _ [_] _ rfl)).freeze) ?_
   refine aR (fun w m=>m.j6 0 rfl .own) ?_
   refine cI (aJ 1 rfl rfl rfl nX (IX.dy _) (IX.bN _) rfl ?_)
   refine ai<|al (ρ' :=[(15,_),(4,_),(3,_),(2,_),(0,_)]) ⟨rfl,rfl,rfl,rfl,rfl,trivial⟩<|ak (X' :=[_,_]) (S' :=[_,_,_,_]) (fun _ m=>m)<|ag<|aU<| ?_
   exact fe trivial rfl rfl tN nX (IX.dy _) (fun m=>(m.aY 0 rfl).ay) [] rfl [0] rfl ⟨A1,c1,rfl,rfl,rfl⟩
 ·refine bx rfl rfl rfl (by decide)<|bx rfl rfl rfl (by decide)<|hy (fun _=>bP rfl rfl)<|ai<|al (ρ' :=[(15,_),(4,_),(3,_),(2,_),(0,_)]) ⟨rfl,rfl,rfl,rfl,rfl,trivial⟩<|ag<| ?_
  refine dP rfl (rfl) ?_
  refine bK<|ao<|ao<|aC<|ag<|ah<|aj<|hy (fun m=>a6 rfl tN nX (IX.dy _) ((m.aY 0 rfl).ay))<| ?_
  have htm:=gM (l:=zl) (i:=i) (n:=5) (by omega) (by omega) hi5
  have hid:kd zl i=cB zl:=by unfold kd cB;rw[htm]
  have hle:(cB zl).length=i:=by rw[←hid];exact mE (by omega)
  rw[hid,←hle]
  refine aR (fun w m=>(m.perm (ar [1] _ [_] _ rfl)).freeze) ?_
  refine aR (fun w m=>m.j6 0 rfl .own) ?_
  refine cI (aJ 1 rfl rfl rfl nX (IX.dy _) (IX.bN _) rfl ?_)
  refine ai<|al (ρ' :=[(15,_),(4,_),(3,_),(2,_),(0,_)]) ⟨rfl,rfl,rfl,rfl,rfl,trivial⟩<|ak (X' :=[_,_]) (S' :=[_,_,_,_]) (fun _ m=>m)<|ag<|aU<| ?_
  exact fe trivial rfl rfl tN nX (IX.dy _) (fun m=>(m.aY 0 rfl).ay) [] rfl [0] rfl ⟨A1,c1,rfl,rfl,rfl⟩
theorem SD.sync{d:RD}{F:List UInt8→Option (List UInt8)}{T:Nat}{room:Int}(h:SD d F T room):SD d.sync F T room:=by
 have e:d.sync={d with ct:=d.seen,waits:=[],pw:=dH d.pw}:=by rw[RD.sync,if_neg (by rw[h.at_.pw];decide)]
 refine⟨h.at_.sync, ?_, ?_⟩
 ·rw[e]
 ·rw[e]
theorem pY(hs:lN (fU [1,2] [] []).seen):∃d',(fU [1,2] [] []).prune [ba (bd 1)]=(d',1,0)∧d'.dY (ba (bd 1))=0∧d'.dY (ba (bd 2))=4:=by
 have l1:=iU 1
 have l2:=iU 2
 obtain⟨_,s1⟩:=kD (bd 1)
 obtain⟨_,s2⟩:=kD (bd 2)
 have m1:=bj (bd 1)
 have m2:=bj (bd 2)
 have hne:ba (bd 1)≠ba (bd 2):=fun e=>absurd (w9 (by decide) (by decide) e) (by decide)
 have hpn:aF (ba (bd 2))≠aF (ba (bd 1)):=fun e=>hne (hC m2 m1 e).symm
 obtain⟨d1,e1,h1⟩:=(SD.new 2000).put (b:=bd 1) (by omega) rfl (by omega)
 have hF2:nV (fun _=>none) (bd 1) (aF (ba (bd 2)))=none:=by
  unfold nV rD
  rw[if_neg hpn,if_neg (eb _ _),if_neg (eb _ _)]
 obtain⟨d2,e2,h2⟩:=h1.put (b:=bd 2) (by omega) hF2 (by omega)
 have hb:fU [1,2] [] []=d2.sync:=by
  have c1:iF 1=bd 1:=kU (show dU 1 6=((1:Nat):Int) by decide)
  have c2:iF 2=bd 2:=kU (show dU 2 6=((2:Nat):Int) by decide)
  show(((RD.new 2000).put (iF 1)).1.put (iF 2)).1.sync=_
  rw[c1,c2,e1,e2]
 have hd:=h2.sync
 rw[←hb]at hd
 generalize fU [1,2] [] []=d at hs hd ⊢
 have hF:∀q,lk d.seen q=nV (nV (fun _=>none) (bd 1)) (bd 2) q:=hd.at_.look
 have hF1:nV (nV (fun _=>none) (bd 1)) (bd 2) (aF (ba (bd 1)))=some (bA (bd 1)):=by
  rw[nV,rD,if_neg (fun e=>hpn e.symm),rD,if_neg (eb _ _),rD,if_neg (eb _ _)]
  exact pJ _ _
 have hlo:cx (bL d) [ba (bd 1)]=[ba (bd 2)]:=by
  refine dm.ext (jN (iW hs)) (List.pairwise_singleton _ _) fun x=> ?_
  unfold cx
  rw[List.mem_filter,lv,hF,decide_eq_true_eq,List.mem_singleton,List.mem_singleton]
  constructor
  ·rintro⟨⟨hx,hq⟩,hn⟩
   refine Decidable.byContradiction fun h2' =>hq ?_
   have p2:aF x≠aF (ba (bd 2)):=fun e=>h2' (hC hx m2 e)
   have p1:aF x≠aF (ba (bd 1)):=fun e=>hn (hC hx m1 e)
   rw[nV,rD,if_neg p2,rD,if_neg (eb _ _),rD,if_neg (eb _ _),nV,rD,if_neg p1,rD,if_neg (eb _ _),rD,if_neg (eb _ _)]
  ·rintro rfl
   exact⟨⟨m2,by rw[pJ];simp⟩,fun e=>hne e.symm⟩
 obtain⟨g1,g2,g3,g4,g5⟩:=s4 (kp:=[ba (bd 1)]) hd.at_.pw hs hd.same hd.waits
 rw[hlo]at g1 g5
 refine⟨_,g1, ?_, ?_⟩
 ·have e5:=g5 (aF (ba (bd 1)))
  rw[if_neg (by rw[List.map_singleton,List.mem_singleton];exact fun e=>hpn e.symm)]at e5
  rw[(q9 (by rw[hd.at_.pw];decide) (by rw[g2];decide) e5).1]
  exact(get_at hd.at_ (by omega) hF1).1
 ·have e5:=g5 (aF (ba (bd 2)))
  rw[if_pos (by rw[List.map_singleton];exact List.mem_singleton.2 rfl)]at e5
  exact wu (d:=(d.prune [ba (bd 1)]).1) (F:=lk (d.prune [ba (bd 1)]).1.seen) (T:=di (d.prune [ba (bd 1)]).1.seen) (room:=(d.prune [ba (bd 1)]).1.room) ⟨g2,rfl,fun _=>rfl,Nat.le_refl _⟩ e5
end Go.Proofs.YtmibdabdlgmafaaGreatDoor
end
section
set_option maxRecDepth 20000
set_option maxHeartbeats 4000000
namespace Go.Proofs.YtmibdabdlgmafaaGreatDoor
open Go.Eng Go.Hx
theorem Bd.GM{d:RD}{B W:Nat}(h:Bd d B W):∀x∈d.seen,x.1.length≤1000000:=fun f hf=>Nat.le_trans (h.nS f hf) (by decide)
theorem xQ:cf Tryz.prog 63 [] [] [ef] (fun v_ X_ S_=>v_=(.bool true)∧X_=[]∧S_=[]):=by
 refine aP (N:=43) Tryz.func63 rfl rfl (by simp) fun b=> ?_
 refine ah<|aj<|hy (fun _=>ab rfl)<|ai<|ag<|ah<|aj<| ?_
 refine hx (bV Tryz.underlying44 Dy rfl rfl rfl (by simp[Value.cells,B8]) (by decide) (by decide) (fun g4=> ?_))
 have hA_b4:0<2→(some (⟨g4,0,none⟩:Addr))≠none:=fun _ h=>by cases h
 refine aR (fun w m=>m.bO 0 rfl (show _=aG 3 1 (.slice (some ⟨g4,0,none⟩) 2 2) 2 (ints [1,2])from rfl)) ?_
 refine aR (fun w m=>(m.perm (ar [0] _ [_] _ rfl)).freeze) ?_
 refine aR (fun w m=>m.j6 0 rfl .own) ?_
 refine aB (fun m=>jq (m.rd 0 rfl)) ?_
 rintro⟨hl_b4r,hA_b4r⟩
 refine aR (fun w m=>m.pO (r' :=c6 1 none 0 []) (.refl _ _) (Rd.nil _ _ _) (fun k hk=>absurd rfl hk.1)) ?_
 have hA_z1:0<0→(none:Option Addr)≠none:=fun h=>absurd h (by decide)
 refine aR (fun w m=>m.pO (r' :=c6 1 none 0 []) (.refl _ _) (Rd.nil _ _ _) (fun k hk=>absurd rfl hk.1)) ?_
 have hA_z2:0<0→(none:Option Addr)≠none:=fun h=>absurd h (by decide)
 refine hx (aq rfl Tryz.call61 (sZ (by intro z hz;simp only[List.mem_cons,List.not_mem_nil,or_false]at hz;rcases hz with rfl|rfl <;> decide) (fun z hz=>absurd hz (List.not_mem_nil)) (Nat.le_refl 0) (by decide) (zl:=[1,2]) (zb:=[]) (bb:=[])) [] rfl [2,1,0,4] rfl ?_)
 rintro _ _ _ ⟨gw,gd,st,y,rfl,rfl,rfl,hbg⟩
 refine hy (fun _=>ab rfl)<|ai<|al (ρ' :=[(1,_),(0,_)]) ⟨rfl,rfl,trivial⟩<|ak (X' :=[_,_]) (S' :=[_,_,_,_,_,_]) (fun _ m=>m)<|ag<|ah<|ah<|aj<|hy (fun _=>aa rfl)<|hy (fun _=>uo rfl rfl (by kernel_rfl))<|ai<|al (ρ' :=[(7,_),(1,_),(0,_)]) ⟨rfl,rfl,rfl,trivial⟩<|ag<| ?_
 refine dP rfl (rfl) ?_
 refine aD<|ag<|ah<|cN [4,5,6,7,8] [(0,some 4),(1,some 4),(2,some 4),(3,some 4),(4,none),(5,none),(6,none),(7,none),(8,none),(9,some 5),(10,some 5),(11,some 5),(12,some 5),(13,some 5)] (by kernel_rfl) (by kernel_rfl) rfl 4<|an (aa rfl)<|an (bh rfl)<|an (aL rfl gK (by decide))<|b6 (fun m=>aw rfl l7 (aA (m.aY 0 rfl) (i:=0) rfl))<| ?_
 refine dT (bV Tryz.underlying44 Dy rfl rfl rfl (by simp[Value.cells,B8]) (by decide) (by decide) (fun g13=>⟨(fun _=>wk [1,1] [0,1,2,3,4,5] rfl rfl), ?_⟩))
 have hA_b13:0<1→(some (⟨g13,0,none⟩:Addr))≠none:=fun _ h=>by cases h
 refine fg (fun w m=>m.bO 0 rfl (show _=aG 3 1 (.slice (some ⟨g13,0,none⟩) 1 1) 1 (ints [0])from rfl)) ?_
 refine fg (fun w m=>(m.perm (ar [0] _ [_] _ rfl)).freeze) ?_
 refine fg (fun w m=>m.j6 0 rfl .own) ?_
 refine b9 (fun m=>jq (m.rd 0 rfl)) ?_
 rintro⟨hl_b13r,hA_b13r⟩
 refine dT (aq rfl Tryz.call64 (so (by intro z hz;rw[List.mem_singleton.1 hz];decide) (zl:=[0])) [] rfl [0,7] rfl ?_)
 rintro _ _ _ ⟨A1,c1,rfl,rfl,rfl⟩
 refine⟨(fun _=>wk [0,0] [3,4,5,6,7,8] rfl rfl), ?_⟩
 refine b9 (fun m=>jq (m.rd 0 rfl)) ?_
 rintro⟨hl_q2,hA_q2⟩
 refine dT (aq rfl Tryz.call65 (vB (x:=(lB (cB [0]) A1 c1))) [] rfl [] rfl ?_)
 rintro _ _ _ ⟨rfl,rfl,rfl⟩
 refine⟨(fun _=>wk [0,0] [3,4,5,6,7,8] rfl rfl), ?_⟩
 refine dT (bV Tryz.underlying125 wO rfl rfl rfl (by simpa[Value.cells]using IX.dy _) (by decide) (by decide) (fun g16=>⟨(fun _=>wk [1,1] [3,4,5,6,7,8] rfl rfl), ?_⟩))
 have hA_b16:0<1→(some (⟨g16,0,none⟩:Addr))≠none:=fun _ h=>by cases h
 refine fg (fun w m=>m.bO 0 rfl (show _=aG 88 36 (.slice (some ⟨g16,0,none⟩) 1 1) 1 (Cz [lB (cB [0]) A1 c1])from congrArg (aG _ _ _ _) (by simp[Cz,Value.cells]))) ?_
 refine fg (fun w m=>(m.perm (ar [0] _ [_] _ rfl)).freeze) ?_
 refine fg (fun w m=>m.j6 0 rfl .own) ?_
 refine b9 (fun m=>jq (m.rd 0 rfl)) ?_
 rintro⟨hl_b16r,hA_b16r⟩
 refine fg (S' :=lM ([lB (cB [0]) A1 c1].map IX.oB)::_) (fun w m=>m.Co [2] rfl) ?_
 obtain⟨hye,hD,hB⟩:=hbg
 have hal:dG [lB (cB [0]) A1 c1]=[ba (bd 1)]:=by
  show [ba (bd (kz 0))]=_
  rw[show kz 0=1 by decide]
 have hsr:lN y.d.seen:=hD.n7.files.ord
 obtain⟨d',hpr,hg1,hg2⟩:=pY (by rw[←hye];exact hsr)
 rw[←hye,←hal]at hpr
 refine dT (aq rfl Tryz.call62 (vE hD (by omega) hB.GM rfl (by decide) (by rw[hal];decide) (L:=[lB (cB [0]) A1 c1])) [1] rfl [1,0] rfl ?_)
 rintro _ _ _ ⟨st1,rfl,rfl,rfl,hE1⟩
 refine⟨(fun h=>absurd h (by decide)), ?_⟩
 rw[hpr]at hE1 ⊢
 replace hE1:DS st1 d' (100+100):=hE1
 refine an (aa rfl)<|an (au rfl rfl)<|an (au rfl rfl)<|an (ab rfl)<|an (ab rfl)<|bz<|al (ρ' :=[(3,_),(2,_),(7,_),(1,_),(0,_)]) ⟨rfl,rfl,rfl,rfl,rfl,trivial⟩<|ak (X' :=[_,_]) (S' :=[_,_,_,_,_,_,_,_,_,_,_,_]) (fun _ m=>m)<|ag<|ah<|qg [1] [0,1,2,3,4,5,6,7,8,9,10,11] rfl rfl [11,12,19,20] [(0,some 4),(1,some 4),(2,some 0),(3,some 4),(4,some 4),(5,some 0),(6,some 0),(7,some 4),(8,some 4),(9,some 1),(10,some 1),(11,none),(12,none),(13,some 2),(14,some 2),(15,some 3),(16,some 3),(17,some 3),(18,some 3),(19,none),(20,none),(21,some 4),(22,some 4),(23,some 4)] (by kernel_rfl) (by kernel_rfl) rfl 99<|an (aa rfl)<|an (cH rfl rfl)<|an (aa rfl)<|bG (o:=_) rfl rfl rfl (aa rfl)<|bG (o:=_) rfl rfl rfl (cH rfl rfl)<|an (bU rfl rfl)<|an (aa rfl)<|bG (o:=_) rfl rfl rfl (aa rfl)<|bG (o:=_) rfl rfl rfl (bh rfl)<|bG (o:=_) rfl rfl rfl (aL rfl gK (by decide))<|lR (o:=_) rfl rfl rfl (fun m=>aw rfl l7 (aA (m.aY 0 rfl) (i:=0) rfl))<| ?_
 refine s3 (o:=_) rfl rfl rfl (aq rfl Tryz.call30 (oh (⟨by omega,by omega⟩) (by decide) (by omega) (k:=1)) [] rfl [11] rfl ?_)
 rintro _ _ _ ⟨rfl,rfl,rfl⟩
 refine⟨(fun _=>wk [1] [0,1,2,3,4,5,6,7,8,9,10,11] rfl rfl), ?_⟩
 refine s3 (o:=_) rfl rfl rfl (aq rfl Tryz.call145 (DJ hE1 (bj _)) [0] rfl [11] rfl ?_)
 rintro _ _ _ ⟨rfl,rfl,rfl⟩
 refine⟨(fun _=>wk [1] [0,1,2,3,4,5,6,7,8,9,10,11] rfl rfl), ?_⟩
 rw[decide_eq_true hg1]
 refine an (bU rfl rfl)<|an (aa rfl)<|bG (o:=_) rfl rfl rfl (aa rfl)<|bG (o:=_) rfl rfl rfl (bh rfl)<|bG (o:=_) rfl rfl rfl (aL rfl gK (by decide))<|lR (o:=_) rfl rfl rfl (fun m=>aw rfl l7 (aA (m.aY 0 rfl) (i:=0) rfl))<| ?_
 refine s3 (o:=_) rfl rfl rfl (aq rfl Tryz.call30 (oh (⟨by omega,by omega⟩) (by decide) (by omega) (k:=2)) [] rfl [11] rfl ?_)
 rintro _ _ _ ⟨rfl,rfl,rfl⟩
 refine⟨(fun _=>wk [1] [0,1,2,3,4,5,6,7,8,9,10,11] rfl rfl), ?_⟩
 refine s3 (o:=_) rfl rfl rfl (aq rfl Tryz.call145 (DJ hE1 (bj _)) [0] rfl [11] rfl ?_)
 rintro _ _ _ ⟨rfl,rfl,rfl⟩
 refine⟨(fun _=>wk [1] [0,1,2,3,4,5,6,7,8,9,10,11] rfl rfl), ?_⟩
 rw[decide_eq_false (show¬d'.dY (ba (bd 2))=0 by rw[hg2];decide)]
 refine bG (o:=_) rfl rfl rfl ((mH rfl))<|an (bU rfl rfl)<|an (ab rfl)<|bz<|al (ρ' :=[(0,_),(3,_),(2,_),(7,_),(1,_)]) ⟨rfl,rfl,rfl,rfl,rfl,trivial⟩<|ak (X' :=[_,_]) (S' :=[_,_,_,_,_,_,_,_,_,_,_,_]) (fun _ m=>m)<|ag<|aU<| ?_
 exact bc trivial rfl rfl [] rfl [] rfl ⟨rfl,rfl,rfl⟩
end Go.Proofs.YtmibdabdlgmafaaGreatDoor
end
section
set_option maxRecDepth 20000
set_option maxHeartbeats 4000000
namespace Go.Proofs.YtmibdabdlgmafaaGreatDoor
open Go.Eng Go.Hx
theorem sr(u:IX):dG [u]=u.names:=by simp[dG]
theorem tl{d:RD}{u:IX}(hp:d.pw=-1)(hs:lN d.seen)(hl:d.ct=d.seen)(hw:d.waits=[]):∃d1 n,d.prune (dG [u])=(d1,n,0)∧d1.whole u.names=d.whole u.names:=by
 obtain⟨g1,g2,_,_,g5⟩:=s4 (kp:=dG [u]) hp hs hl hw
 refine⟨_,_,g1,tK (by rw[hp];decide) (by rw[g2];decide) fun nm hm=>A6 (km [u]) g5 nm (by rw[sr];exact hm)⟩
theorem DS.Hd{st:cG}{d:RD}{k:Nat}(h:DS st d k)(p:List UInt8):(d.cm p).length≤10000000:=by
 have:=h.uO p
 omega
theorem wX(zl:List Int):(cB zl).length≤5:=by
 unfold cB
 rw[List.length_map,List.length_take]
 omega
theorem xo{kT:List It}{A:Option Addr}{c:Nat}:(dG [lB kT A c]).length=kT.length:=by rw[sr];simp[IX.names,lB]
theorem tG{A B C H:Option Addr}{n c m mc_ k kc h hc_:Nat}{zl zb zx:List Int}{bb:List UInt8}(hzl:pV zl)(hzb:pV zb)(hzx:pV zx)(hkc:k≤kc)(hkb:k≤140737488351232):cf Tryz.prog 12 [.slice A n c,.slice B m mc_,.slice C k kc,.slice H h hc_] [] [c6 1 A n (ints zl),c6 1 B m (ints zb),c6 1 C k (aQ bb),c6 1 H h (ints zx),ef] (fun v_ X_ S_=>v_=(.bool true)∧X_=[]∧S_=[]):=by
 refine aP (N:=66) Tryz.func12 rfl rfl (by simp) fun b=> ?_
 refine aZ (fun m=>jq (m.rd 0 rfl)) ?_
 rintro⟨hl_rl,hA_rl⟩
 refine aZ (fun m=>jq (m.rd 1 rfl)) ?_
 rintro⟨hl_rb,hA_rb⟩
 refine aZ (fun m=>gz (m.rd 2 rfl)) ?_
 rintro⟨hl_rc,hA_rc⟩
 refine aZ (fun m=>jq (m.rd 3 rfl)) ?_
 rintro⟨hl_rx,hA_rx⟩
 refine ah<|aj<|hy (fun _=>ab rfl)<|ai<|ag<|ah<|aj<|hy (fun _=>aa rfl)<|hy (fun _=>aa rfl)<|hy (fun _=>aa rfl)<| ?_
 refine hx (aq rfl Tryz.call61 (sZ hzl hzb hkc hkb) [] rfl [0,1,2,4] rfl ?_)
 rintro _ _ _ ⟨gw,gd,st,y,rfl,rfl,rfl,hbg⟩
 refine hy (fun _=>ab rfl)<|ai<|al (ρ' :=[(9,_),(8,_),(0,_),(1,_),(2,_),(3,_)]) ⟨rfl,rfl,rfl,rfl,rfl,rfl,trivial⟩<|ak (X' :=[_,_]) (S' :=[_,_,_,_,_,_]) (fun _ m=>m)<|ag<|ah<|ah<|aj<|hy (fun _=>aa rfl)<|hy (fun _=>uo rfl rfl (by kernel_rfl))<|ai<|al (ρ' :=[(19,_),(9,_),(8,_),(0,_),(1,_),(2,_),(3,_)]) ⟨rfl,rfl,rfl,rfl,rfl,rfl,rfl,trivial⟩<|ag<| ?_
 obtain⟨hye,hD,hB⟩:=hbg
 obtain⟨u1,u2,u3⟩:=uU zl zb bb
 rw[←hye]at u1 u2 u3
 have hle:=wX zx
 refine dP rfl (rfl) ?_
 refine aD<|ag<|ah<|aj<|hy (fun _=>aa rfl)<| ?_
 refine hx (aq rfl Tryz.call64 (so hzx (zl:=zx)) [] rfl [4,5] rfl ?_)
 rintro _ _ _ ⟨A1,c1,rfl,rfl,rfl⟩
 refine aB (fun m=>jq (m.rd 0 rfl)) ?_
 rintro⟨hl_q2,hA_q2⟩
 obtain⟨d1,n1,e1,v1⟩:=tl (u:=lB (cB zx) A1 c1) u1 hD.n7.files.ord u2 u3
 refine aR (S' :=lM ([lB (cB zx) A1 c1].map IX.oB)::_) (fun w m=>m.Co [0] rfl) ?_
 refine hx (aN AM (fun g10=> ?_))
 refine cI (aJ 0 rfl rfl rfl nX (IX.dy _) (IX.bN _) rfl ?_)
 refine aR (fun w m=>m.bO 0 rfl (show _=aI g10 82 (lB (cB zx) A1 c1).cs from congrArg (aI _ _) (bq _))) ?_
 refine ai<|al (ρ' :=[(10,_),(19,_),(9,_),(8,_),(0,_),(1,_),(2,_),(3,_)]) ⟨rfl,rfl,rfl,rfl,rfl,rfl,rfl,rfl,trivial⟩<|ak (X' :=[_,_,_]) (S' :=[_,_,_,_,_,_,_,_]) (fun _ m=>m)<|ag<|ah<|cN [5,6] [(0,some 1),(1,some 1),(2,some 1),(3,some 1),(4,some 0),(5,none),(6,none),(7,some 2)] (by kernel_rfl) (by kernel_rfl) rfl 99<|an (aa rfl)<|an (bh rfl)<|an (aL rfl gK (by decide))<|b6 (fun m=>aw rfl l7 (aA (m.aY 1 rfl) (i:=0) rfl))<|b6 (fun m=>yV (a6 rfl tN nX (IX.dy _) ((m.aY 0 rfl).ay)) ((rfl:_=Value.agg (lB (cB zx) A1 c1).cs.toArray)))<| ?_
 refine dT (aq rfl Tryz.call65 (vB (x:=(lB (cB zx) A1 c1))) [] rfl [] rfl ?_)
 rintro _ _ _ ⟨rfl,rfl,rfl⟩
 refine⟨(fun _=>wk [0,0,0] [0,1,2,3,4,5,6,7] rfl rfl), ?_⟩
 refine dT (aq rfl Tryz.call70 (vR hD (by omega) (show(cB zx).length≤10000 by omega) (x:=(lB (cB zx) A1 c1))) [2] rfl [0,7] rfl ?_)
 rintro _ _ _ ⟨rfl,rfl,rfl⟩
 refine⟨(fun _=>wk [1,1,0] [0,1,2,3,4,5,6,7] rfl rfl), ?_⟩
 refine an (ab rfl)<|bz<|al (ρ' :=[(11,_),(10,_),(19,_),(9,_),(8,_),(0,_),(1,_),(2,_),(3,_)]) ⟨rfl,rfl,rfl,rfl,rfl,rfl,rfl,rfl,rfl,trivial⟩<|ak (X' :=[_,_,_]) (S' :=[_,_,_,_,_,_,_,_]) (fun _ m=>m)<|ag<|ah<|cN [5,6,7] [(0,some 2),(1,some 2),(2,some 2),(3,some 2),(4,some 0),(5,none),(6,none),(7,none),(8,some 3),(9,some 3),(10,some 3),(11,some 3),(12,some 3)] (by kernel_rfl) (by kernel_rfl) rfl 2<|an (aa rfl)<|an (bh rfl)<|an (aL rfl gK (by decide))<|b6 (fun m=>aw rfl l7 (aA (m.aY 2 rfl) (i:=0) rfl))<|b6 (fun m=>yV (a6 rfl tN nX (IX.dy _) ((m.aY 1 rfl).ay)) ((rfl:_=Value.agg (lB (cB zx) A1 c1).cs.toArray)))<| ?_
 refine dT (aq rfl Tryz.call65 (vB (x:=(lB (cB zx) A1 c1))) [] rfl [] rfl ?_)
 rintro _ _ _ ⟨rfl,rfl,rfl⟩
 refine⟨(fun _=>wk [0,0,0] [0,1,2,3,4,5,6,7] rfl rfl), ?_⟩
 refine dT (bV Tryz.underlying125 wO rfl rfl rfl (by simpa[Value.cells]using IX.dy _) (by decide) (by decide) (fun g36=>⟨(fun _=>wk [1,1,1] [0,1,2,3,4,5,6,7] rfl rfl), ?_⟩))
 have hA_b36:0<1→(some (⟨g36,0,none⟩:Addr))≠none:=fun _ h=>by cases h
 refine fg (fun w m=>m.bO 0 rfl (show _=aG 88 36 (.slice (some ⟨g36,0,none⟩) 1 1) 1 (Cz [lB (cB zx) A1 c1])from congrArg (aG _ _ _ _) (by simp[Cz,Value.cells]))) ?_
 refine fg (fun w m=>(m.perm (ar [0] _ [_] _ rfl)).freeze) ?_
 refine fg (fun w m=>m.j6 0 rfl .own) ?_
 refine b9 (fun m=>jq (m.rd 0 rfl)) ?_
 rintro⟨hl_b36r,hA_b36r⟩
 refine dT (aq rfl Tryz.call62 (vE hD (by omega) hB.GM rfl (by decide) (by rw[xo];omega) (L:=[lB (cB zx) A1 c1])) [0] rfl [0,2] rfl ?_)
 rintro _ _ _ ⟨st1,rfl,rfl,rfl,hE1⟩
 refine⟨(fun h=>absurd h (by decide)), ?_⟩
 rw[e1]at hE1 ⊢
 replace hE1:DS st1 d1 (100+100):=hE1
 refine an (aa rfl)<|an (au rfl rfl)<|an (au rfl rfl)<|an (ab rfl)<|an (ab rfl)<|bz<|al (ρ' :=[(13,_),(11,_),(10,_),(19,_),(9,_),(8,_),(0,_),(1,_),(2,_),(3,_)]) ⟨rfl,rfl,rfl,rfl,rfl,rfl,rfl,rfl,rfl,rfl,trivial⟩<|ak (X' :=[_,_,_]) (S' :=[_,_,_,_,_,_,_,_,_,_]) (fun _ m=>m)<|ag<|ah<|cN [6,18,19,24] [(0,some 4),(1,some 4),(2,some 4),(3,some 4),(4,some 4),(5,some 4),(6,none),(7,some 4),(8,some 1),(9,some 4),(10,some 4),(11,some 1),(12,some 1),(13,some 4),(14,some 4),(15,some 2),(16,some 2),(17,some 1),(20,some 3),(18,none),(19,none),(21,some 3),(22,some 3),(23,some 3),(24,none),(25,some 4),(26,some 4)] (by kernel_rfl) (by kernel_rfl) rfl 99<|an (aa rfl)<|an (aa rfl)<|an (bh rfl)<|an (aL rfl ju (by decide))<|b6 (fun m=>yV (a6 rfl cE bu rfl (vy (m.aY 2 rfl))) ((rfl:_=Value.agg y.cs.toArray)))<|b6 (fun m=>yV (a6 rfl tN nX (IX.dy _) ((m.aY 1 rfl).ay)) ((rfl:_=Value.agg (lB (cB zx) A1 c1).cs.toArray)))<| ?_
 refine dT (aq rfl Tryz.call71 (xD hD.uZ (by omega) hD.Hd (show(cB zx).length≤10000 by omega) (u:=(lB (cB zx) A1 c1))) [] rfl [4,2,9] rfl ?_)
 rintro _ _ _ ⟨rfl,rfl,rfl⟩
 refine⟨(fun _=>wk [0,0,0] [0,1,2,3,4,5,6,7,8,9] rfl rfl), ?_⟩
 refine an (yT (Cv Tryz.underlying4 rfl rfl) ((decide_eq_true rfl)))<|an (aa rfl)<|bG (o:=_) rfl rfl rfl (aa rfl)<|bG (o:=_) rfl rfl rfl (cH rfl rfl)<|an (bU rfl rfl)<|an (aa rfl)<|bG (o:=_) rfl rfl rfl (aa rfl)<|bG (o:=_) rfl rfl rfl (bh rfl)<|bG (o:=_) rfl rfl rfl (aL rfl gK (by decide))<|lR (o:=_) rfl rfl rfl (fun m=>aw rfl l7 (aA (m.aY 2 rfl) (i:=0) rfl))<|lR (o:=_) rfl rfl rfl (fun m=>yV (a6 rfl tN nX (IX.dy _) ((m.aY 1 rfl).ay)) ((rfl:_=Value.agg (lB (cB zx) A1 c1).cs.toArray)))<|bG (o:=_) rfl rfl rfl (aa rfl)<| ?_
 refine s3 (o:=_) rfl rfl rfl (aq rfl Tryz.call65 (vB (x:=(lB (cB zx) A1 c1))) [] rfl [] rfl ?_)
 rintro _ _ _ ⟨rfl,rfl,rfl⟩
 refine⟨(fun _=>wk [0,0,0] [0,1,2,3,4,5,6,7,8,9] rfl rfl), ?_⟩
 refine s3 (o:=_) rfl rfl rfl (aq rfl Tryz.call70 (vR hE1 (by omega) (show(cB zx).length≤10000 by omega) (x:=(lB (cB zx) A1 c1))) [0] rfl [2,9] rfl ?_)
 rintro _ _ _ ⟨rfl,rfl,rfl⟩
 refine⟨(fun _=>wk [0,0,0] [0,1,2,3,4,5,6,7,8,9] rfl rfl), ?_⟩
 rw[v1]
 refine bG (o:=_) rfl rfl rfl (yT (Cv Tryz.underlying4 rfl rfl) ((decide_eq_true rfl)))<|an (bU rfl rfl)<|an (aa rfl)<| ?_
 refine s3 (o:=_) rfl rfl rfl (aq rfl Tryz.call63 (xQ) [] rfl [9] rfl ?_)
 rintro _ _ _ ⟨rfl,rfl,rfl⟩
 refine⟨(fun _=>wk [0,0,0] [0,1,2,3,4,5,6,7,8,9] rfl rfl), ?_⟩
 refine an (bU rfl rfl)<|an (ab rfl)<|bz<|al (ρ' :=[(8,_),(13,_),(11,_),(10,_),(19,_),(9,_),(0,_),(1,_),(2,_),(3,_)]) ⟨rfl,rfl,rfl,rfl,rfl,rfl,rfl,rfl,rfl,rfl,trivial⟩<|ak (X' :=[_,_,_]) (S' :=[_,_,_,_,_,_,_,_,_,_]) (fun _ m=>m)<|ag<|aU<| ?_
 exact bc trivial rfl rfl [] rfl [] rfl ⟨rfl,rfl,rfl⟩
theorem jy(A:Option Addr)(n c:Nat)(xs:List Cell)(B:Option Addr)(m mc_:Nat)(ys:List Cell)(K:Option Addr)(k kc:Nat)(bl:List UInt8)(H:Option Addr)(h hc_:Nat)(zs:List Cell)(W:World)(h1:(qD (.s 1 A n c xs)).holds W)(hT1:Ty Tryz.prog 44 [.s 1 A n c xs])(h2:(qD (.s 1 B m mc_ ys)).holds W)(hT2:Ty Tryz.prog 44 [.s 1 B m mc_ ys])(h3:Rd W 1 K k (aQ bl))(hkc:k≤kc)(hkb:k≤140737488351232)(h4:(qD (.s 1 H h hc_ zs)).holds W)(hT4:Ty Tryz.prog 44 [.s 1 H h hc_ zs])(hro:ef.holds W):
  Calls Tryz.prog 12 #[.slice A n c,.slice B m mc_,.slice K k kc,.slice H h hc_] W fun e w' =>e= .returned (.bool true)∧Fr No W w' :=by
 obtain⟨_,_,_,_,l1,e1,hv1,hz1⟩:=rj hT1
 cases e1
 obtain⟨_,_,_,_,l2,e2,hv2,hz2⟩:=rj hT2
 cases e2
 obtain⟨_,_,_,_,l4,e4,hv4,hz4⟩:=rj hT4
 cases e4
 have r1:=(View.rowOf (n:=n) (c:=c) (A:=A) hv1).ok.1 W h1
 have r2:=(View.rowOf (n:=m) (c:=mc_) (A:=B) hv2).ok.1 W h2
 have r4:=(View.rowOf (n:=h) (c:=hc_) (A:=H) hv4).ok.1 W h4
 exact qf (tG hz1 hz2 hz4 hkc hkb) (by
  intro s hs
  simp only[List.mem_cons,List.not_mem_nil,or_false]at hs
  rcases hs with rfl|rfl|rfl|rfl|rfl
  ·exact r1
  ·exact r2
  ·exact h3
  ·exact r4
  ·exact hro)
end Go.Proofs.YtmibdabdlgmafaaGreatDoor
end
