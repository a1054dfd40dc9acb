/- Part. -/
import Derived.Test.YtmibdabdlgmafaaGreatDoorSTP4
set_option linter.all false
section
set_option maxRecDepth 20000
namespace Go.Proofs.YtmibdabdlgmafaaGreatDoor
open Go.Eng Go.Hx
theorem pk{α:Type}:∀{l:List α} {j:Nat} {x:α},l[j]? =some x→l.Perm (x::l.eraseIdx j)
 | [],j,x,h=>by simp at h
 |a::r,0,x,h=>by
  simp only[List.getElem?_cons_zero,Option.some.injEq]at h
  subst h;exact List.Perm.refl _
 |a::r,j+1,x,h=>by
  have:=pk (l:=r) (j:=j) (x:=x) (by simpa using h)
  exact(List.Perm.cons a this).trans (List.Perm.swap x a _)
def pre(p s:List UInt8):Bool:=decide (s.take p.length=p)
theorem qC{s p:List UInt8}:cj Tryz.prog 222 [.string (strOf s),.string (strOf p)] [] [] (fun v_ X_ S_=>v_=(.bool (pre p s))∧X_=[]∧S_=[]):=by
 have hs1:=cr s
 have hs2:=cr p
 refine aO (N:=18) Tryz.func222 rfl rfl (by simp) fun b=> ?_
 by_cases h:p.length≤s.length
 ·refine ah<|aj<|hy (fun _=>ab rfl)<|ai<|ag<|ah<|aj<|hy (fun _=>aa rfl)<|hy (fun _=>cp rfl Tryz.underlying9)<|hy (fun _=>aa rfl)<|hy (fun _=>cp rfl Tryz.underlying9)<|hy (fun _=>yT (iD rfl rfl) ((decide_eq_true (by omega))))<|hy (fun _=>aa rfl)<|cx (o:=_) rfl rfl rfl (fun _=>aa rfl)<|cx (o:=_) rfl rfl rfl (fun _=>aa rfl)<|cx (o:=_) rfl rfl rfl (fun _=>cp rfl Tryz.underlying9)<|cx (o:=_) rfl rfl rfl (fun _=>yV (hC rfl rfl Tryz.underlying9 (show((p.length:Nat):Int)=_ by omega) (by rw[gx];exact h)) ((rfl:Value.string _= .string (strOf (s.take p.length)))))<|cx (o:=_) rfl rfl rfl (fun _=>aa rfl)<|cx (o:=_) rfl rfl rfl (fun _=>me rfl rfl)<|hy (fun _=>bE rfl rfl)<|hy (fun _=>ab rfl)<|ai<|al (ρ' :=[(4,_),(0,_),(1,_)]) ⟨rfl,rfl,rfl,trivial⟩<|ag<|aU<| ?_
  exact bc trivial rfl rfl [] rfl [] rfl ⟨(congrArg Value.bool (decide_eq_decide.2 cD)),rfl,rfl⟩
 ·refine ah<|aj<|hy (fun _=>ab rfl)<|ai<|ag<|ah<|aj<|hy (fun _=>aa rfl)<|hy (fun _=>cp rfl Tryz.underlying9)<|hy (fun _=>aa rfl)<|hy (fun _=>cp rfl Tryz.underlying9)<|hy (fun _=>yF (iD rfl rfl) ((decide_eq_false (by omega))))<|hy (fun _=>aa rfl)<|bg rfl rfl rfl (by decide)<|bg rfl rfl rfl (by decide)<|bg rfl rfl rfl (by decide)<|bg rfl rfl rfl (by decide)<|bg rfl rfl rfl (by decide)<|bg rfl rfl rfl (by decide)<|hy (fun _=>bp rfl rfl)<|hy (fun _=>ab rfl)<|ai<|al (ρ' :=[(4,_),(0,_),(1,_)]) ⟨rfl,rfl,rfl,trivial⟩<|ag<|aU<| ?_
  exact bc trivial rfl rfl [] rfl [] rfl ⟨(congrArg Value.bool (decide_eq_false (fun e=>h (by rw[←e,List.length_take];omega))).symm),rfl,rfl⟩
theorem tS{s p:List UInt8}:cj Tryz.prog 164 [.string (strOf s),.string (strOf p)] [] [] (fun v_ X_ S_=>v_=(.bool (pre p s))∧X_=[]∧S_=[]):=by
 refine aO (N:=8) Tryz.func164 rfl rfl (by simp) fun b=> ?_
 refine ah<|aj<|hy (fun _=>ab rfl)<|ai<|ag<|ah<|aj<|hy (fun _=>aa rfl)<|hy (fun _=>aa rfl)<| ?_
 refine hx (ao rfl Tryz.call222 (qC) [] rfl [] rfl ?_)
 rintro _ _ _ ⟨rfl,rfl,rfl⟩
 refine hy (fun _=>ab rfl)<|ai<|al (ρ' :=[(4,_),(0,_),(1,_)]) ⟨rfl,rfl,rfl,trivial⟩<|ak (X' :=[]) (S' :=[]) (fun _ m=>m)<|ag<|aU<| ?_
 exact bc trivial rfl rfl [] rfl [] rfl ⟨rfl,rfl,rfl⟩
theorem Bq{g:Nat}{st:cH}{p:List UInt8}(hk:st.seen.length≤100000):cj Tryz.prog 86 [.pointer (some ⟨g,0,none⟩),.string (strOf p)] [bm g st] [] (fun v_ X_ S_=>∃v n ks,v_=v∧X_=[bm g st,aH 9 1 v n (ss (tc ks))]∧S_=[]∧(n=ks.length∧ks.Perm ((cq st.seen).filter (pre p)))):=by
 refine aO (N:=26) Tryz.func86 rfl rfl (by simp) fun b=> ?_
 refine bu (fun w m=>(m.perm (av [0] _ [_] _ rfl)).unpack) ?_
 refine ah<|aj<|hy (fun _=>ab rfl)<|ai<|ag<|ah<|aj<|hy (fun _=>ab rfl)<|ai<|ag<|ah<|ah<|aj<|hy (fun _=>aa rfl)<|hy (fun _=>aW rfl)<|hy (fun _=>aD rfl gp (by decide))<|hy (fun m=>ar rfl iU (ax (m.aT 0 rfl) rfl))<| ?_
 refine hx (rG 1 rfl rfl Tryz.underlying174 (fun r11=> ?_))
 refine ai<|al (ρ' :=[(11,_),(5,_),(4,_),(0,_),(1,_)]) ⟨rfl,rfl,rfl,rfl,rfl,trivial⟩<|ak (X' :=[_,_,_,_,_]) (S' :=[]) (fun _ m=>m)<|ag<|aN<| ?_
 refine bu (fun w m=>m.dx (r' :=aH 9 1 (.slice none 0 0) 0 []) (.refl _ _) (Own.nil _ _ _ _) (fun k hk=>hk.elim)) ?_
 refine o1 (fun left cur A1 k c1 ks=>left.length) (fun left cur A1 k c1 ks=>[(5,.slice A1 k c1)]) (fun left cur A1 k c1 ks=>[aH 9 1 (.slice A1 k c1) k (ss ks),kg SV r11 st.gs (dF st.seen) (dF left) cur]) (fun left cur A1 k c1 ks=>[]) (fun left cur A1 k c1 ks=>k=ks.length∧k+left.length≤st.seen.length∧(ks++(cq left).filter (pre p)).Perm ((cq st.seen).filter (pre p))) st.seen none none 0 0 [] [(11,_),(4,_),(0,_),(1,_)] ⟨rfl,rfl,rfl,rfl,trivial⟩ [0,0] rfl [] rfl (⟨rfl,by omega,List.Perm.refl _⟩) ⟨rfl,trivial⟩ (fun left cur A1 k c1 ks ⟨hkn,hkl,hpm⟩=> ?_)
 refine ah<|aj<| ?_
 refine hx (u5 1 rfl rfl (fun h0=> ?_) (fun j x hx1=> ?_))
 ·obtain rfl:left=[]:=List.map_eq_nil_iff.1 h0
  refine hy (fun _=>aq rfl rfl)<|ai<|al (ρ' :=[(13,_),(5,_),(11,_),(4,_),(0,_),(1,_)]) ⟨rfl,rfl,rfl,rfl,rfl,rfl,trivial⟩<|ag<|ah<| ?_
  refine di rfl (rfl) ?_
  refine bP<|au<|au<|aC<|ag<|ah<|aj<|hy (fun _=>aa rfl)<| ?_
  refine hx (ao rfl Tryz.call165 (Dg (by omega)) [0] rfl [] rfl ?_)
  rintro _ _ _ ⟨rfl,rfl,rfl⟩
  refine ai<|al (ρ' :=[(13,_),(5,_),(11,_),(4,_),(0,_),(1,_)]) ⟨rfl,rfl,rfl,rfl,rfl,rfl,trivial⟩<|ak (X' :=[_,_,_,_,_,_]) (S' :=[]) (fun _ m=>m)<|ag<|ah<|aj<|hy (fun _=>aa rfl)<|hy (fun _=>ab rfl)<|ai<|al (ρ' :=[(4,_),(13,_),(5,_),(11,_),(0,_),(1,_)]) ⟨rfl,rfl,rfl,rfl,rfl,rfl,trivial⟩<|ag<|aU<| ?_
  refine ak (fun w m=>m.wE 1 rfl) ?_
  refine ak (X' :=bm g st::_) (fun w m=>(m.perm (av [2,0,1,1,1] _ [_,_,_,_,_] _ rfl)).pack) ?_
  exact bc trivial rfl rfl [0,0] rfl [] rfl ⟨_,_,_,rfl,rfl,rfl,⟨hkn,by simpa[cq]using hpm⟩⟩
 ·obtain⟨key,v⟩:=x
  obtain⟨r,hr,e⟩:=vf hx1
  obtain rfl:v=r.val:=e
  have hlt:=(List.getElem?_eq_some_iff.1 hr).1
  simp only at hr
  have hpe:=pk hr
  have hpa:(cq left).Perm (key::cq (left.eraseIdx j)):=by simpa[cq]using hpe.map Prod.fst
  have hpf:=hpa.filter (pre p)
  refine hy (fun _=>aq rfl rfl)<|ai<|al (ρ' :=[(13,_),(5,_),(11,_),(4,_),(0,_),(1,_)]) ⟨rfl,rfl,rfl,rfl,rfl,rfl,trivial⟩<|ag<|ah<| ?_
  refine fE rfl (rfl) ?_
  refine aB<|ag<|aN<|ah<|aj<|hy (fun m=>sQ rfl (m.DP 0 rfl))<|hy (fun _=>aq rfl rfl)<|hy (fun _=>ab rfl)<|ai<|al (ρ' :=[(6,_),(13,_),(5,_),(11,_),(4,_),(0,_),(1,_)]) ⟨rfl,rfl,rfl,rfl,rfl,rfl,rfl,trivial⟩<|ag<|ah<|aj<|hy (fun _=>aa rfl)<|hy (fun _=>aa rfl)<| ?_
  refine hx (ao rfl Tryz.call164 (tS) [] rfl [] rfl ?_)
  rintro _ _ _ ⟨rfl,rfl,rfl⟩
  refine ai<|al (ρ' :=[(18,_),(6,_),(13,_),(5,_),(11,_),(4,_),(0,_),(1,_)]) ⟨rfl,rfl,rfl,rfl,rfl,rfl,rfl,rfl,trivial⟩<|ak (X' :=[_,_,_,_,_,_]) (S' :=[]) (fun _ m=>m)<|ag<| ?_
  refine sv rfl (fun hpr=> ?_) (fun hpr=> ?_)
  ·have hp2:(ks++[key]++(cq (left.eraseIdx j)).filter (pre p)).Perm ((cq st.seen).filter (pre p)):=by
    rw[List.filter_cons,if_pos hpr]at hpf
    rw[List.append_assoc]
    exact((List.Perm.append_left ks hpf).symm.trans hpm)
   refine aj<|hy (fun _=>aa rfl)<|hy (fun _=>aa rfl)<| ?_
   refine hx (b8 Tryz.underlying152 CW rfl rfl rfl (by simp[Value.cells,SV]) (by decide) (by decide) (fun g21=> ?_))
   have hA_b21:0<1→(some (⟨g21,0,none⟩:Addr))≠none:=fun _ h=>by cases h
   refine aL (fun w m=>m.bM 0 rfl (show _=aH 9 1 (.slice (some ⟨g21,0,none⟩) 1 1) 1 (ss [key])from rfl)) ?_
   refine hx (bB 2 rfl rfl rfl Tryz.underlying152 Tryz.underlying152 (by exact .inl rfl) CW rfl (fun m=>Src.bT (m.ord 0 rfl)) BY (by unfold maxLen;omega) (by omega) (fun u=> ?_))
   refine az (fun m=>(m.own 0 rfl).slice) ?_
   rintro⟨A_o,c_o,rfl,hc_o⟩
   refine az (fun m=>(m.ord 0 rfl).2.1) fun hA_o=> ?_
   refine aL (fun w m=>m.bM 0 rfl (show _=aH 9 1 (.slice A_o (k+1) c_o) (k+1) (ss (ks++[key]))from by simp[ss])) ?_
   refine hy (fun _=>ab rfl)<|ai<|al (ρ' :=[(5,_),(18,_),(6,_),(13,_),(11,_),(4,_),(0,_),(1,_)]) ⟨rfl,rfl,rfl,rfl,rfl,rfl,rfl,rfl,trivial⟩<|ak (X' :=[_,_,_,_,_,_,_]) (S' :=[]) (fun _ m=>m)<|aQ<| ?_
   refine ak (fun w m=>m.bM 2 rfl (show _=kg SV r11 st.gs (dF st.seen) (dF (left.eraseIdx j)) (some (key,r.val))from congrArg (fun q=>kg SV r11 st.gs (dF st.seen) q (some (key,r.val))) (lD left j))) ?_
   refine eW (left.eraseIdx j) (some (key,r.val)) A_o (k+1) c_o (ks++[key]) ⟨rfl,rfl,rfl,rfl,rfl,trivial⟩ [1,0,1,1,1,1] rfl [] rfl (⟨by rw[List.length_append,hkn];rfl,by rw[List.length_eraseIdx,if_pos hlt];omega,hp2⟩) (by rw[List.length_eraseIdx,if_pos hlt];omega)
  ·have hp2:(ks++(cq (left.eraseIdx j)).filter (pre p)).Perm ((cq st.seen).filter (pre p)):=by
    rw[List.filter_cons,if_neg (by rw[show pre p key=false from hpr];decide)]at hpf
    exact((List.Perm.append_left ks hpf).symm.trans hpm)
   refine aB<|aQ<| ?_
   refine ak (fun w m=>m.bM 0 rfl (show _=kg SV r11 st.gs (dF st.seen) (dF (left.eraseIdx j)) (some (key,r.val))from congrArg (fun q=>kg SV r11 st.gs (dF st.seen) q (some (key,r.val))) (lD left j))) ?_
   refine eW (left.eraseIdx j) (some (key,r.val)) A1 k c1 ks ⟨rfl,rfl,rfl,rfl,rfl,trivial⟩ [1,0,0,0,0,0] rfl [] rfl (⟨hkn,by rw[List.length_eraseIdx,if_pos hlt];omega,hp2⟩) (by rw[List.length_eraseIdx,if_pos hlt];omega)
end Go.Proofs.YtmibdabdlgmafaaGreatDoor
end
section
set_option maxRecDepth 20000
namespace Go.Proofs.YtmibdabdlgmafaaGreatDoor
open Go.Eng Go.Hx
theorem sE{g:Nat}{st:cH}{d:RD}{kk:Nat}{p:List UInt8}(hD:DS st d kk)(hkk:kk≤99000):cj Tryz.prog 79 [.pointer (some ⟨g,0,none⟩),.string (strOf p)] [bm g st] [] (fun v_ X_ S_=>∃st1,v_=(.int .i64 (d.cC p))∧X_=[bm g st1]∧S_=[]∧(DS st1 (d.remove p) (kk+1))):=by
 exact cj.mono (zX hD.ok (by omega)) (fun v X S h=>by
  obtain⟨st1,A,j,h1,h2,h3,hw⟩:=h
  exact⟨st1,by rw[hD.cC];exact h1,h2,h3,hD.remove hw⟩)
theorem zo{g:Nat}{st:cH}{d:RD}{kk:Nat}{n:Int}(hD:DS st d kk)(hn:n≤1000000000000):cj Tryz.prog 57 [.pointer (some ⟨g,0,none⟩),.int .i64 n] [bm g st] [] (fun v_ X_ S_=>∃st1,v_=(.tuple #[])∧X_=[bm g st1]∧S_=[]∧(DS st1 (d.bS n) kk)):=by
 exact cj.mono BZ (fun v X S h=>⟨_,h.1,h.2.1,h.2.2,hD.bS hn⟩)
theorem tY{g:Nat}{st:cH}{d:RD}{kk:Nat}{A:Option Addr}{n c:Nat}{bs:List Bool}(hD:DS st d kk)(hkk:kk≤99000)(hc:n≤c):cj Tryz.prog 72 [.pointer (some ⟨g,0,none⟩),.slice A n c] [bm g st] [dr 1 A n (fR bs)] (fun v_ X_ S_=>∃st1,v_=(.tuple #[])∧X_=[bm g st1]∧S_=[]∧(DS st1 (d.ic bs) kk)):=by
 have hw:st.waits.length≤1000000:=by have:=hD.ok.rest;omega
 exact cj.mono (wv hc hD.ok.sm hw) (fun v X S h=>by
  obtain⟨gs,h1,h2,h3⟩:=h
  exact⟨_,h1,h2,h3,hD.ic bs gs⟩)
def dP(d:RD)(p:List UInt8):List (List UInt8):=(d.seen.map (·.1)).filter (pre p)
theorem fa.dP{fs:dg}{l:List FP}(h:fa fs l){q:List UInt8→Bool}{ks:List (List UInt8)}(hk:ks.Perm ((cq fs).filter q)):tc ks=(l.map (·.1)).filter q:=by
 have h1:(tc ks).Perm ((l.map (·.1)).filter q):=(List.mergeSort_perm _ _).trans (hk.trans (h.keys.filter q))
 have h2:(tc ks).Pairwise (· ≤·):=by
  have:=List.pairwise_mergeSort (le:=fun x y:List UInt8=>decide (x≤y)) (fun a b c hab hbc=>by simpa using List.le_trans (by simpa using hab) (by simpa using hbc)) (fun a b=>by simpa using List.le_total a b) ks
  exact this.imp (fun hab=>by simpa using hab)
 have h3:((l.map (·.1)).filter q).Pairwise (· ≤·):=(h.ord.imp (fun hlt=>List.le_of_lt hlt)).filter q
 exact h1.eq_of_pairwise (fun a b _ _ hab hba=>List.le_antisymm hab hba) h2 h3
theorem xL{g:Nat}{st:cH}{d:RD}{kk:Nat}{p:List UInt8}(hD:DS st d kk)(hkk:kk≤99000):cj Tryz.prog 86 [.pointer (some ⟨g,0,none⟩),.string (strOf p)] [bm g st] [] (fun v_ X_ S_=>∃v,v_=v∧X_=[bm g st,aH 9 1 v (dP d p).length (ss (dP d p))]∧S_=[]∧((dP d p).length≤kk)):=by
 have h1:st.seen.length≤kk:=hD.ok.seen
 have h2:d.seen.length≤kk:=hD.so.seen
 have h3:(dP d p).length≤kk:=Nat.le_trans (List.length_filter_le _ _) (by rw[List.length_map];exact h2)
 exact cj.mono (Bq (p:=p) (by omega)) (fun v X S h=>by
  obtain⟨v1,n,ks,h1,h2,h3',h4,h5⟩:=h
  have e:=hD.lR.files.dP h5
  have hl:n=(dP d p).length:=by
   unfold dP
   rw[←e,h4]
   exact(List.mergeSort_perm _ _).length_eq.symm
  subst hl
  refine⟨v1,h1, ?_,h3',h3⟩
  rw[h2,e]
  rfl)
end Go.Proofs.YtmibdabdlgmafaaGreatDoor
end
section
set_option maxRecDepth 20000
set_option maxHeartbeats 4000000
namespace Go.Proofs.YtmibdabdlgmafaaGreatDoor
open Go.Eng Go.Hx
def jt:List UInt8:=[116,47]
def RD.clean(d:RD):RD×Int:=if dP d jt=[]then(d,0)else dK ((dP d jt).map fA++[fq]) d
theorem zi{g g1 g6:Nat}{st:cH}{d:RD}{kk:Nat}{p:List UInt8}(hD:DS st d kk)(hkk:kk≤99000):cj Tryz.prog 163 [.pointer (some ⟨g1,0,none⟩),.pointer (some ⟨g6,0,none⟩)] [bm g st] [aG g1 35 [.pointer (some ⟨g,0,none⟩)],aG g6 9 [SV p]] (fun v_ X_ S_=>∃st1,v_=(.int .i64 (d.cC p))∧X_=[bm g st1]∧S_=[]∧(DS st1 (d.remove p) (kk+1))):=by
 refine aO (N:=6) Tryz.func163 rfl rfl (by simp) fun b=> ?_
 refine ah<|aj<|hy (fun _=>ab rfl)<|ai<|ag<|ah<|aj<|hy (fun m=>ar rfl ia (ax (m.rl 0 rfl) (i:=0) rfl))<|hy (fun m=>ar rfl gU (ax (m.rl 1 rfl) (i:=0) rfl))<| ?_
 refine hx (ao rfl Tryz.call79 (sE hD (by omega) (p:=p)) [0] rfl [] rfl ?_)
 rintro _ _ _ ⟨st1,rfl,rfl,rfl,hp⟩
 refine hy (fun _=>ab rfl)<|ai<|al (ρ' :=[(2,_),(0,_),(1,_)]) ⟨rfl,rfl,rfl,trivial⟩<|ak (X' :=[_]) (S' :=[_,_]) (fun _ m=>m)<|ag<|aU<| ?_
 exact bc trivial rfl rfl [0] rfl [] rfl ⟨st1,rfl,rfl,rfl,hp⟩
def zZ(gs:List Nat)(ns:List (List UInt8)):List bh:=(gs.zip ns).map fun x=>aG x.1 9 [SV x.2]
def yZ(g1:Nat)(gs:List Nat):List Value:=gs.map fun g6=>.func (.func 163) #[] #[.pointer (some ⟨g1,0,none⟩),.pointer (some ⟨g6,0,none⟩)]
theorem zP{g1:Nat}{gs:List Nat}:∀u∈yZ g1 gs,u.oneCell' =true:=by
 intro u hu
 obtain⟨x,_,rfl⟩:=List.mem_map.1 hu
 rfl
theorem yy{gs:List Nat}{ns:List (List UInt8)}{k:Nat}(hg:gs.length=k)(hk:k<ns.length)(g6:Nat):zZ (gs++[g6]) (ns.take (k+1))=zZ gs (ns.take k)++[aG g6 9 [SV (ns.getD k [])]]:=by
 have h1:ns.take (k+1)=ns.take k++[ns.getD k []]:=by
  rw[List.take_add_one,List.getElem?_eq_getElem hk]
  simp[List.getD,List.getElem?_eq_getElem hk]
 unfold zZ
 rw[h1,List.zip_append (by rw[List.length_take,hg];omega),List.map_append]
 rfl
theorem sR{g g1 g6:Nat}{L:List bh}{p:List UInt8}(h1:aG g1 35 [.pointer (some ⟨g,0,none⟩)]∈L)(h2:aG g6 9 [SV p]∈L):
  oR g L (.func (.func 163) #[] #[.pointer (some ⟨g1,0,none⟩),.pointer (some ⟨g6,0,none⟩)]) (fA p):=
 ⟨163,[],[.pointer (some ⟨g1,0,none⟩),.pointer (some ⟨g6,0,none⟩)],rfl,Tryz.call163,fun st d kk hD hk=>cj.qM (zi hD hk) (by
  obtain⟨i,hi⟩:=List.mem_iff_getElem?.1 h1
  obtain⟨j,hj⟩:=List.mem_iff_getElem?.1 h2
  intro s hs
  simp only[List.mem_cons,List.not_mem_nil,or_false]at hs
  rcases hs with rfl|rfl
  ·exact⟨_,List.mem_singleton.2 rfl,View.nJ i hi⟩
  ·exact⟨_,List.mem_singleton.2 rfl,View.nJ j hj⟩) (fun v X S h=>by
  obtain⟨st1,h1,h2,h3,h4⟩:=h
  exact⟨[],⟨st1,h1,h2,rfl,h4⟩,pD.nil⟩)⟩
theorem sV{g g1:Nat}{gs:List Nat}{ns:List (List UInt8)}(hg:gs.length=ns.length):
  ∀(i:Nat) (F:RD→RD×Int),(ns.map fA++[fq])[i]? =some F→∃v,(yZ g1 gs++[.func (.func 110) #[.pointer (some ⟨g,0,none⟩)] #[]])[i]? =some v∧oR g (aG g1 35 [.pointer (some ⟨g,0,none⟩)]::zZ gs ns) v F:=by
 intro i F h
 have hcl:(yZ g1 gs).length=ns.length:=by simp[yZ,hg]
 have hml:(ns.map fA).length=ns.length:=List.length_map ..
 rcases Nat.lt_or_ge i ns.length with hi|hi
 ·rw[List.getElem?_append_left (by omega),List.getElem?_map,List.getElem?_eq_getElem hi]at h
  cases h
  have hgi:i<gs.length:=by omega
  refine⟨_,by rw[List.getElem?_append_left (by omega),yZ,List.getElem?_map,List.getElem?_eq_getElem hgi];rfl,sR (by simp) (List.mem_cons_of_mem _ ?_)⟩
  unfold zZ
  refine List.mem_map.2 ⟨(gs[i],ns[i]), ?_,rfl⟩
  rw[←List.getElem_zip (h:=by simp;omega)]
  exact List.getElem_mem _
 ·rcases Nat.eq_or_lt_of_le hi with e|e
  ·subst e
   rw[List.getElem?_append_right (by omega),hml,Nat.sub_self]at h
   cases h
   exact⟨_,by rw[List.getElem?_append_right (by omega),hcl,Nat.sub_self];rfl,mZ⟩
  ·rw[List.getElem?_append_right (by omega),hml]at h
   have:i-ns.length≠0:=by omega
   obtain⟨j,hj⟩:∃j,i-ns.length=j+1:=⟨i-ns.length-1,by omega⟩
   rw[hj]at h
   cases h
theorem View.Ac{L:List bh}:View (eK L) (rf L):=.of (fun w h=>h.2) (fun k h=>h)
theorem CK{g:Nat}{st:cH}{d:RD}{kk:Nat}(hD:DS st d kk)(hkk:kk≤40000):cj Tryz.prog 84 [.pointer (some ⟨g,0,none⟩)] [bm g st] [] (fun v_ X_ S_=>∃st1,v_=(.int .i64 (d.clean).2)∧X_=[bm g st1]∧S_=[]∧(DS st1 (d.clean).1 (kk+(dP d jt).length+1))):=by
 refine aO (N:=29) Tryz.func84 rfl rfl (by simp) fun b=> ?_
 refine ah<|aj<| ?_
 refine hx (cz rfl (fun g1=> ?_))
 refine aL (fun w m=>m.bM 0 rfl (show _=aG g1 35 [.pointer (some ⟨g,0,none⟩)]from rfl)) ?_
 refine hy (fun _=>ab rfl)<|ai<|ak (X' :=[_,_]) (S' :=[]) (fun _ m=>m)<|ag<|ah<|aj<|hy (fun m=>ar rfl ia (ax (m.aT 0 rfl) rfl))<| ?_
 refine hx (ao rfl Tryz.call86 (xL hD (by omega) (p:=jt)) [1] rfl [] rfl ?_)
 rintro _ _ _ ⟨v,rfl,rfl,rfl,hn⟩
 refine az (fun m=>(m.own 1 rfl).slice) ?_
 rintro⟨A_x,c_x,rfl,hc_x⟩
 refine az (fun m=>(m.ord 1 rfl).2.1) fun hA_x=> ?_
 generalize hns:dP d jt=ns at hn hc_x hA_x ⊢
 refine hy (fun _=>ab rfl)<|ai<|al (ρ' :=[(3,_),(2,_),(1,_),(0,_)]) ⟨rfl,rfl,rfl,rfl,trivial⟩<|ak (X' :=[_,_,_]) (S' :=[]) (fun _ m=>m)<|ag<|ah<|ah<|aj<|hy (fun _=>aa rfl)<|hy (fun _=>aR rfl Tryz.underlying152)<|hy (fun _=>b7 rfl rfl)<|ai<|al (ρ' :=[(11,_),(3,_),(2,_),(1,_),(0,_)]) ⟨rfl,rfl,rfl,rfl,rfl,trivial⟩<|ag<| ?_
 refine sv rfl (fun h0=> ?_) (fun h0=> ?_)
 ·have h0:=of_decide_eq_true h0
  have hz:ns=[]:=List.eq_nil_of_length_eq_zero (by omega)
  have e0:d.clean=(d,0):=by unfold RD.clean;rw[hns,if_pos hz]
  rw[e0]
  refine ah<|aj<|hy (fun _=>ab rfl)<|ai<|ag<|aU<|aw<| ?_
  exact bc trivial rfl rfl [0] rfl [] rfl ⟨st,rfl,rfl,rfl,(hD.le (by omega))⟩
 ·have h0:=of_decide_eq_false h0
  have hz:ns≠ []:=fun e=>h0 (by rw[e];rfl)
  have e0:d.clean=dK (ns.map fA++[fq]) d:=by unfold RD.clean;rw[hns,if_neg hz]
  rw[e0]
  refine aB<|ag<|ah<|aj<|hy (fun _=>ab rfl)<|ai<|ag<|ah<|ah<|aj<|hy (fun _=>aa rfl)<|hy (fun _=>aR rfl Tryz.underlying152)<|hy (fun _=>aa rfl)<|ai<|ag<|aN<| ?_
  refine bu (fun w m=>m.dx (r' :=aH 179 1 (.slice none 0 0) 0 []) (.refl _ _) (Own.nil _ _ _ _) (fun k hk=>hk.elim)) ?_
  refine bu (fun w m=>m.uH) ?_
  refine lH (fun k gs A1 c1=>ns.length-k) (fun k gs A1 c1=>[(4,.slice A1 k c1),(14,.int .i64 (k:Nat))]) (fun k gs A1 c1=>[aH 179 1 (.slice A1 k c1) k (yZ g1 gs),eK (zZ gs (ns.take k))]) (fun k gs A1 c1=>[]) (fun k gs A1 c1=>k≤ns.length∧gs.length=k) 0 [] none 0 [(13,_),(12,_),(11,_),(3,_),(2,_),(1,_),(0,_)] ⟨rfl,rfl,rfl,rfl,rfl,rfl,rfl,trivial⟩ [1,0] rfl [] rfl (⟨Nat.zero_le _,rfl⟩) ⟨rfl,rfl,trivial⟩ (fun k gs A1 c1 ⟨hkn,hgk⟩=> ?_)
  refine ah<|aj<|hy (fun _=>br rfl rfl)<|ai<|ag<|ah<| ?_
  refine cL rfl (fun hlt=> ?_) (fun hlt=> ?_)
  ·have hk2:k<ns.length:=by omega
   refine aB<|ag<|ah<|aN<|ah<|aj<|hy (fun _=>aK rfl rfl Tryz.underlying152 yB hA_x rfl (by omega))<|hy (fun m=>ar rfl gU ((m.ord 3 rfl).cell (ph hk2)))<| ?_
   refine hx (aM CW (fun g6=> ?_))
   refine cI (dG 0 rfl rfl rfl yB rfl (by first|exact Nat.le_of_ble_eq_true rfl|simp) ?_)
   refine ai<|al (ρ' :=[(6,_),(15,_),(4,_),(14,_),(13,_),(12,_),(11,_),(3,_),(2,_),(1,_),(0,_)]) ⟨rfl,rfl,rfl,rfl,rfl,rfl,rfl,rfl,rfl,rfl,rfl,trivial⟩<|ak (X' :=[_,_,_,_,_,_]) (S' :=[]) (fun _ m=>m)<|ag<|aj<|hy (fun _=>aa rfl)<|hy (fun _=>gA rfl rfl)<| ?_
   refine hx (b8 Tryz.underlying239 sb rfl rfl rfl (by simp[Value.cells,B8]) (by decide) (by decide) (fun g20=> ?_))
   have hA_b20:0<1→(some (⟨g20,0,none⟩:Addr))≠none:=fun _ h=>by cases h
   refine aL (fun w m=>m.bM 1 rfl (show _=aG g6 9 [SV (ns.getD k [])]from rfl)) ?_
   refine aL (fun w m=>m.bM 1 rfl (show _=aH 179 1 (.slice (some ⟨g20,0,none⟩) 1 1) 1 (yZ g1 [g6])from rfl)) ?_
   refine hx (bB 2 rfl rfl rfl Tryz.underlying239 Tryz.underlying239 (by exact .inl rfl) sb rfl (fun m=>Src.bT (m.ord 0 rfl)) zP (by unfold maxLen;omega) (by omega) (fun u=> ?_))
   refine az (fun m=>(m.own 0 rfl).slice) ?_
   rintro⟨A_o,c_o,rfl,hc_o⟩
   refine az (fun m=>(m.ord 0 rfl).2.1) fun hA_o=> ?_
   refine aL (fun w m=>m.bM 0 rfl (show _=aH 179 1 (.slice A_o (k+1) c_o) (k+1) (yZ g1 (gs++[g6]))from by simp[yZ])) ?_
   refine hy (fun _=>ab rfl)<|ai<|al (ρ' :=[(4,_),(6,_),(15,_),(14,_),(13,_),(12,_),(11,_),(3,_),(2,_),(1,_),(0,_)]) ⟨rfl,rfl,rfl,rfl,rfl,rfl,rfl,rfl,rfl,rfl,rfl,trivial⟩<|ak (X' :=[_,_,_,_,_,_,_]) (S' :=[]) (fun _ m=>m)<|aQ<|ag<|aj<|hy (fun _=>aJ rfl rfl (bA (by omega) (by omega)))<|hy (fun _=>aa rfl)<|ai<|al (ρ' :=[(14,_),(4,_),(6,_),(15,_),(13,_),(12,_),(11,_),(3,_),(2,_),(1,_),(0,_)]) ⟨rfl,rfl,rfl,rfl,rfl,rfl,rfl,rfl,rfl,rfl,rfl,trivial⟩<| ?_
   refine ak (X' :=eK (zZ (gs++[g6]) (ns.take (k+1)))::_) (fun w m=>(Mem.mr (m.perm (av [2,2] _ [_,_] _ rfl))).jA (by rw[yy hgk hk2];exact(List.perm_append_singleton _ _).symm)) ?_
   refine fZ (k+1) (gs++[g6]) A_o c_o ⟨rfl,rfl,rfl,rfl,rfl,rfl,rfl,rfl,rfl,trivial⟩ [1,0,1,1,1] rfl [] rfl (⟨by omega,by rw[List.length_append,hgk];rfl⟩) (by omega)
  ·obtain rfl:k=ns.length:=by omega
   rw[List.take_length]
   refine bP<|au<|au<|aC<|ag<|ah<|aj<|hy (fun _=>aa rfl)<|hy (fun m=>ar rfl ia (ax (m.aT 4 rfl) rfl))<|hy (fun _=>gA rfl rfl)<| ?_
   refine hx (b8 Tryz.underlying239 sb rfl rfl rfl (by simp[Value.cells,B8]) (by decide) (by decide) (fun g26=> ?_))
   have hA_b26:0<1→(some (⟨g26,0,none⟩:Addr))≠none:=fun _ h=>by cases h
   refine aL (fun w m=>m.bM 0 rfl (show _=aH 179 1 (.slice (some ⟨g26,0,none⟩) 1 1) 1 [.func (.func 110) #[.pointer (some ⟨g,0,none⟩)] #[]]from rfl)) ?_
   refine hx (bB 1 rfl rfl rfl Tryz.underlying239 Tryz.underlying239 (by exact .inl rfl) sb rfl (fun m=>Src.bT (m.ord 0 rfl)) (by simp;rfl) (by unfold maxLen;omega) (by omega) (fun u=> ?_))
   refine az (fun m=>(m.own 0 rfl).slice) ?_
   rintro⟨A_o,c_o,rfl,hc_o⟩
   refine az (fun m=>(m.ord 0 rfl).2.1) fun hA_o=> ?_
   refine aL (X' :=eK (aG g1 35 [.pointer (some ⟨g,0,none⟩)]::zZ gs ns)::_) (fun w m=>(Mem.mr (m.perm (av [5,2] _ [_,_] _ rfl))).jA (List.Perm.refl _)) ?_
   refine aL (fun w m=>(m.perm (av [0] _ [_] _ rfl)).freeze) ?_
   refine aL (fun w m=>m.gX 0 rfl View.Ac) ?_
   refine hx (cF rfl Tryz.call109 (DF hD (by omega) (by omega) (by simp) (sV hgk) (kk:=kk) (Fs:=(ns.map fA++[fq])) (fs:=(yZ g1 gs++[.func (.func 110) #[.pointer (some ⟨g,0,none⟩)] #[]])) (L:=(aG g1 35 [.pointer (some ⟨g,0,none⟩)]::zZ gs ns))) [2] rfl (.x 0 rfl .own (.s 0 rfl .nil)) ?_)
   rintro _ _ _ ⟨st1,rfl,rfl,rfl,hD1⟩
   refine⟨rfl, ?_⟩
   refine hy (fun _=>ab rfl)<|ai<|al (ρ' :=[(2,_),(15,_),(4,_),(14,_),(13,_),(12,_),(11,_),(3,_),(1,_),(0,_)]) ⟨rfl,rfl,rfl,rfl,rfl,rfl,rfl,rfl,rfl,rfl,trivial⟩<|ak (X' :=[_,_,_,_]) (S' :=[_,_]) (fun _ m=>m)<|ag<|aU<| ?_
   exact bc trivial rfl rfl [0] rfl [] rfl ⟨st1,rfl,rfl,rfl,(by rw[←Nat.add_assoc]at hD1;exact hD1)⟩
end Go.Proofs.YtmibdabdlgmafaaGreatDoor
end
section
namespace Go.Hx
open Go.Eng
end Go.Hx
end
section
namespace Go.Proofs.YtmibdabdlgmafaaGreatDoor
open Go.Eng Go.Hx
end Go.Proofs.YtmibdabdlgmafaaGreatDoor
end
section
namespace Go.Proofs.YtmibdabdlgmafaaGreatDoor
open Go.Eng Go.Hx
theorem nw(q:FP→Bool)(l:List FP):dE (l.filter q)≤dE l:=by
 induction l with
 |nil=>exact Nat.le_refl _
 |cons x r ih=>
  rw[List.filter_cons]
  have e:dE (x::r)=x.2.length+dE r:=by simp[dE]
  split
  ·have e2:dE (x::r.filter q)=x.2.length+dE (r.filter q):=by simp[dE]
   omega
  ·omega
theorem nN{q:FP→Bool}{l:List FP}{x:FP}(hx:x∈l)(hq:q x=false):dE (l.filter q)+x.2.length≤dE l:=by
 induction l with
 |nil=>cases hx
 |cons y r ih=>
  rw[List.filter_cons]
  have e:dE (y::r)=y.2.length+dE r:=by simp[dE]
  rcases List.mem_cons.1 hx with rfl|hm
  ·rw[hq]
   have:=nw q r
   simp only[Bool.false_eq_true,if_false]
   omega
  ·have h1:=ih hm
   split
   ·have e2:dE (y::r.filter q)=y.2.length+dE (r.filter q):=by simp[dE]
    omega
   ·omega
theorem sd(l:List FP)(f:FP):dE (gZ l f)≤dE l+f.2.length:=by
 induction l with
 |nil=>simp[gZ,dE]
 |cons x r ih=>
  have e:dE (x::r)=x.2.length+dE r:=by simp[dE]
  rw[gZ]
  split
  ·have e2:dE (x::gZ r f)=x.2.length+dE (gZ r f):=by simp[dE]
   omega
  ·have e2:dE (f::(x::r).filter fun y=>decide (y.1≠f.1))=f.2.length+dE ((x::r).filter fun y=>decide (y.1≠f.1)):=by simp[dE]
   have:=nw (fun y=>decide (y.1≠f.1)) (x::r)
   omega
structure At(d:RD)(F:List UInt8→Option (List UInt8))(T:Nat)(room:Int):Prop where
 pw:d.pw=-1
 room:d.room=room
 look:∀p,lk d.seen p=F p
 ka:dE d.seen≤T
def zh(F:List UInt8→Option (List UInt8))(p:List UInt8)(v:Option (List UInt8)):List UInt8→Option (List UInt8):=fun q=>if q=p then v else F q
theorem At.cC{d:RD}{F:List UInt8→Option (List UInt8)}{T:Nat}{room:Int}(h:At d F T room)(p:List UInt8):d.cC p=if F p=none then 4 else 0:=by
 have h1:=h.look p
 rw[←iQ]at h1
 rw[RD.cC,if_neg (by rw[h.pw];decide)]
 cases hq:d.seen[cS d.seen p]? with
 |none=>rw[hq]at h1;rw[if_pos rfl,if_pos (by rw[←h1];rfl)]
 |some x=>rw[hq]at h1;rw[if_neg (by simp),if_neg (by rw[←h1];simp)]
theorem At.cJ{d:RD}{F:List UInt8→Option (List UInt8)}{T:Nat}{room:Int}(h:At d F T room)(p:List UInt8):d.cJ p=(F p).getD []:=by
 have h1:=h.look p
 rw[←iQ]at h1
 rw[RD.cJ,if_neg (by rw[h.pw];decide),h1]
theorem At.bH{d:RD}{F:List UInt8→Option (List UInt8)}{T:Nat}{room:Int}(h:At d F T room){p l:List UInt8}(hp:fT p)(hr:(T:Int)+(l.length:Nat)≤room):d.bH p l=0:=by
 have h1:=h.ka
 have h2:=h.room
 rw[RD.bH,if_neg (fun h=>h hp),if_neg (by rw[h.pw];decide),if_neg (by omega)]
theorem At.write{d:RD}{F:List UInt8→Option (List UInt8)}{T:Nat}{room:Int}(h:At d F T room){p l:List UInt8}(hp:fT p)(hr:(T:Int)+(l.length:Nat)≤room):At (d.write p l) (zh F p (some l)) (T+l.length) room:=by
 have hs:(d.write p l).seen=gZ d.seen (p,l):=by
  rw[RD.write,if_pos (h.bH hp hr)]
  show cY d.seen 0 p [] l=_
  rw[cY,if_pos rfl,jl]
 refine⟨?_, ?_,fun q=> ?_, ?_⟩
 ·rw[RD.write,if_pos (h.bH hp hr)]
  show eL d.pw=-1
  rw[h.pw];rfl
 ·rw[RD.write,if_pos (h.bH hp hr)];exact h.room
 ·rw[hs,qB]
  unfold zh
  split
  ·rfl
  ·exact h.look q
 ·rw[hs]
  have:=sd d.seen (p,l)
  have:=h.ka
  have e:(p,l).2.length=l.length:=rfl
  omega
theorem At.dC{d:RD}{F:List UInt8→Option (List UInt8)}{T:Nat}{room:Int}(h:At d F T room):d.dC=0:=by rw[RD.dC,if_neg (by rw[h.pw];decide)]
theorem At.sync{d:RD}{F:List UInt8→Option (List UInt8)}{T:Nat}{room:Int}(h:At d F T room):At d.sync F T room:=by
 have e:d.sync={d with b4:=d.seen,waits:=[],pw:=eL d.pw}:=by rw[RD.sync,if_neg (by rw[h.pw];decide)]
 rw[e]
 exact⟨by show eL d.pw=-1;rw[h.pw];rfl,h.room,h.look,h.ka⟩
theorem At.bZ{d:RD}{F:List UInt8→Option (List UInt8)}{T:Nat}{room:Int}(h:At d F T room){a c x:List UInt8}(hc:fT c)(hx:F a=some x):d.bZ a c=0:=by
 rw[RD.bZ,if_neg (fun h=>h hc),h.cC,if_neg (by rw[hx];simp)]
theorem At.rename{d:RD}{F:List UInt8→Option (List UInt8)}{T:Nat}{room:Int}(h:At d F T room){a c x:List UInt8}(hc:fT c)(hx:F a=some x):At (d.rename a c) (zh (zh F a none) c (some x)) T room:=by
 have h1:=h.look a
 rw[←iQ,hx]at h1
 obtain⟨y,hy,hyx⟩:∃y,d.seen[cS d.seen a]? =some y∧y.2=x:=by
  cases hq:d.seen[cS d.seen a]? with
  |none=>rw[hq]at h1;cases h1
  |some y=>rw[hq]at h1;exact⟨y,rfl,by simpa using h1⟩
 have hya:y.1=a:=by
  obtain⟨hi,he⟩:=List.getElem?_eq_some_iff.1 hy
  have:=List.findIdx_getElem (p:=fun x:FP=>decide (x.1=a)) (xs:=d.seen) (w:=hi)
  rw[←he]
  exact of_decide_eq_true this
 have hs:(d.rename a c).seen=gZ (ec d.seen a) (c,x):=by
  rw[RD.rename,if_pos (h.bZ hc hx)]
  show cY d.seen 1 a c []=_
  rw[cY,if_neg (by decide),hy]
  show(if(1:Int)=2 then _ else _)=_
  rw[if_neg (by decide),jl,hyx]
 refine⟨?_, ?_,fun q=> ?_, ?_⟩
 ·rw[RD.rename,if_pos (h.bZ hc hx)]
  show eL d.pw=-1
  rw[h.pw];rfl
 ·rw[RD.rename,if_pos (h.bZ hc hx)];exact h.room
 ·rw[hs,qB]
  unfold zh ec
  split
  ·rfl
  ·rw[kR]
   split
   ·rfl
   ·exact h.look q
 ·rw[hs]
  have h2:=sd (ec d.seen a) (c,x)
  have h3:dE (ec d.seen a)+y.2.length≤dE d.seen:=nN (List.mem_of_getElem? hy) (by simp[hya])
  have:=h.ka
  have e:(c,x).2.length=x.length:=rfl
  rw[hyx]at h3
  omega
end Go.Proofs.YtmibdabdlgmafaaGreatDoor
end
section
namespace Go.Proofs.YtmibdabdlgmafaaGreatDoor
open Go.Eng Go.Hx
theorem rT:∀i:Nat,i<16→jU.getD i 0≠0:=by decide
theorem o5(l:List UInt8):¬(0:UInt8)∈b9 l:=by
 intro h
 unfold b9 at h
 obtain⟨x,hx,hc⟩:=List.mem_flatMap.1 h
 have hb:=x.toNat_lt
 simp only[pj,List.mem_cons,List.not_mem_nil,or_false]at hc
 rcases hc with hc|hc
 ·exact rT _ (by omega) hc.symm
 ·exact rT _ (by omega) hc.symm
theorem xa{nm:List UInt8}(h:nm.length=32):fT (bd nm):=by
 refine⟨by simp[bd],by rw[eh h];decide,fun hz=> ?_⟩
 unfold bd at hz
 simp only[List.mem_append,List.mem_cons,List.not_mem_nil,or_false]at hz
 rcases hz with((hz|hz)|hz)|hz
 ·rcases hz with hz|hz <;> exact absurd hz (by decide)
 ·exact o5 nm (List.mem_of_mem_take hz)
 ·exact absurd hz (by decide)
 ·exact o5 nm hz
theorem ye{nm:List UInt8}(h:nm.length=32):fT (bV nm):=by
 refine⟨by simp[bV],by rw[jb h];decide,fun hz=> ?_⟩
 unfold bV at hz
 simp only[List.mem_append,List.mem_cons,List.not_mem_nil,or_false]at hz
 rcases hz with hz|hz
 ·rcases hz with hz|hz <;> exact absurd hz (by decide)
 ·exact o5 nm hz
theorem uc{d:RD}(h:d.pw=-1):d.sync.b4=d.sync.seen∧d.sync.waits=[]:=by
 have e:d.sync={d with b4:=d.seen,waits:=[],pw:=eL d.pw}:=by rw[RD.sync,if_neg (by rw[h];decide)]
 rw[e]
 exact⟨rfl,rfl⟩
structure SD(d:RD)(F:List UInt8→Option (List UInt8))(T:Nat)(room:Int):Prop where
 at_:At d F T room
 same:d.b4=d.seen
 waits:d.waits=[]
theorem SD.new(room:Int):SD (RD.new room) (fun _=>none) 0 room:=⟨⟨rfl,rfl,fun p=>rfl,Nat.le_refl _⟩,rfl,rfl⟩
theorem zy{d:RD}{F:List UInt8→Option (List UInt8)}{T:Nat}{room:Int}(h:At d F T room){nm:List UInt8}(hF:F (bd nm)=none):d.ib nm=4:=by
 have e:d.cC (bd nm)=4:=by rw[h.cC,if_pos hF]
 rw[jD (by rw[e];decide),e]
theorem get_at{d:RD}{F:List UInt8→Option (List UInt8)}{T:Nat}{room:Int}(h:At d F T room){b:List UInt8}(hb:b.length≤4096)(hF:F (bd (bF b))=some (bI b)):d.ib (bF b)=0∧d.r7 (bF b)=b:=by
 have e:d.cC (bd (bF b))=0:=by rw[h.cC,if_neg (by rw[hF];simp)]
 have eB:d.cJ (bd (bF b))=bI b:=by rw[h.cJ,hF];rfl
 have eo:d.y1 (bF b)=(b,0):=by unfold RD.y1;rw[eB];exact vH (by omega) (by omega)
 have e0:d.ib (bF b)=0:=qI e (by rw[eo];simp)
 exact⟨e0,by rw[qQ e0,eo]⟩
def CE(F:List UInt8→Option (List UInt8))(b:List UInt8):List UInt8→Option (List UInt8):=zh (zh (zh F (bV (bF b)) (some (bI b))) (bV (bF b)) none) (bd (bF b)) (some (bI b))
theorem tl(F:List UInt8→Option (List UInt8))(b:List UInt8):CE F b (bd (bF b))=some (bI b):=if_pos rfl
theorem SD.iO{d:RD}{F:List UInt8→Option (List UInt8)}{T:Nat}{room:Int}(h:SD d F T room){b:List UInt8}(hr:(T:Int)+(bI b).length≤room):
  ∃d',d.iO b=(d',0)∧SD d' (CE F b) (T+(bI b).length) room:=by
 have hn:=ye (nm:=bF b) (bC b)
 have hp:=xa (nm:=bF b) (bC b)
 have h1:=h.at_.write (p:=bV (bF b)) (l:=bI b) hn (by omega)
 have h2:=h1.sync
 have hx:zh F (bV (bF b)) (some (bI b)) (bV (bF b))=some (bI b):=if_pos rfl
 have h3:=h2.rename hp hx
 obtain⟨c1,c2⟩:=uc h3.pw
 refine⟨_, ?_,⟨h3.sync,c1,c2⟩⟩
 unfold RD.iO
 rw[dK,if_neg (by show¬d.bH _ _≠0;rw[h.at_.bH hn (by omega)];decide)]
 rw[dK,if_neg (by show¬(d.write _ _).dC≠0;rw[h1.dC];decide)]
 rw[dK,if_neg (by show¬(d.write _ _).sync.bZ _ _≠0;rw[h2.bZ hp hx];decide)]
 rw[dK,if_neg (by show¬((d.write _ _).sync.rename _ _).dC≠0;rw[h3.dC];decide)]
 rfl
theorem SD.put{d:RD}{F:List UInt8→Option (List UInt8)}{T:Nat}{room:Int}(h:SD d F T room){b:List UInt8}(hb:b.length≤4096)(hF:F (bd (bF b))=none)(hr:(T:Int)+(bI b).length≤room):
  ∃d',d.put b=(d',bF b,0)∧SD d' (CE F b) (T+(bI b).length) room:=by
 have e4:=zy h.at_ hF
 obtain⟨d',e,hd⟩:=h.iO hr
 refine⟨d', ?_,hd⟩
 unfold RD.put
 rw[if_neg (by omega),if_neg (by rw[e4];decide),if_neg (by rw[e4];decide),e]
 rfl
end Go.Proofs.YtmibdabdlgmafaaGreatDoor
end
section
set_option maxRecDepth 20000
set_option maxHeartbeats 4000000
namespace Go.Proofs.YtmibdabdlgmafaaGreatDoor
open Go.Eng Go.Hx
def fe(c:UInt8):List UInt8→Nat
 | []=>0
 |x::r=>if 0<fe c r then fe c r+1 else if x=c then 1 else 0
theorem jx{c:UInt8}:∀{s:List UInt8} {k:Nat},k≤s.length→(0<k→s.getD (k-1) 0=c)→(∀j,k≤j→j<s.length→s.getD j 0≠c)→fe c s=k
 | [],k,hk,_,_=>by
  have:k=0:=by simpa using hk
  subst this;rfl
 |x::r,0,hk,h1,h2=>by
  have ih:=jx (c:=c) (s:=r) (k:=0) (Nat.zero_le _) (fun h=>absurd h (by decide)) (fun j _ hj=>by
   have:=h2 (j+1) (Nat.zero_le _) (by rw[List.length_cons];omega)
   simpa using this)
  have hx:x≠c:=by
   have:=h2 0 (Nat.le_refl _) (by simp)
   simpa using this
  unfold fe
  rw[ih,if_neg (by decide),if_neg hx]
 |x::r,1,hk,h1,h2=>by
  have ih:=jx (c:=c) (s:=r) (k:=0) (Nat.zero_le _) (fun h=>absurd h (by decide)) (fun j _ hj=>by
   have:=h2 (j+1) (by omega) (by rw[List.length_cons];omega)
   simpa using this)
  have hx:x=c:=by simpa using h1 (by decide)
  unfold fe
  rw[ih,if_neg (by decide),if_pos hx]
 |x::r,k+2,hk,h1,h2=>by
  have ih:=jx (c:=c) (s:=r) (k:=k+1) (by rw[List.length_cons]at hk;omega) (fun _=>by
   have:=h1 (by omega)
   simpa using this) (fun j hj hl=>by
   have:=h2 (j+1) (by omega) (by rw[List.length_cons];omega)
   simpa using this)
  unfold fe
  rw[ih,if_pos (by omega)]
theorem vS{s:List UInt8}{c:UInt8}(hs:s.length≤1000000000):cj Tryz.prog 167 [.string (strOf s),B8 c] [] [] (fun v_ X_ S_=>v_=(.int .i64 ((fe c s:Nat)-1))∧X_=[]∧S_=[]):=by
 have hsz:=cr s
 refine aO (N:=19) Tryz.func167 rfl rfl (by simp) fun b=> ?_
 refine ah<|aj<|hy (fun _=>ab rfl)<|ai<|ag<|ah<|ah<|aj<|hy (fun _=>aa rfl)<|hy (fun _=>cp rfl Tryz.underlying9)<|hy (fun _=>cm rfl rfl (bA (by omega) (by omega)))<|hy (fun _=>ab rfl)<|ai<|al (ρ' :=[(5,_),(4,_),(0,_),(1,_)]) ⟨rfl,rfl,rfl,rfl,trivial⟩<|ag<|aN<| ?_
 refine dR (fun k=>k) (fun k=>[(5,.int .i64 ((k:Nat)-1))]) (fun k=>[]) (fun k=>[]) (fun k=>k≤s.length∧∀j,k≤j→j<s.length→s.getD j 0≠c) s.length [(0,_),(1,_)] ⟨rfl,rfl,trivial⟩ [] rfl [] rfl (⟨Nat.le_refl _,fun j h1 h2=>absurd h2 (by omega)⟩) ⟨rfl,trivial⟩ (fun k ⟨hk,hno⟩=> ?_)
 refine ah<|ah<|aj<|hy (fun _=>aa rfl)<|hy (fun _=>iD rfl rfl)<|ai<|al (ρ' :=[(10,_),(5,_),(0,_),(1,_)]) ⟨rfl,rfl,rfl,rfl,trivial⟩<|ag<| ?_
 refine cL rfl (fun h=> ?_) (fun h=> ?_)
 ·have hil:k-1<s.length:=by omega
  refine aB<|ag<|ah<|aN<|ah<|aj<|hy (fun _=>aa rfl)<|hy (fun _=>aa rfl)<|hy (fun _=>eM rfl rfl Tryz.underlying9 (show((k-1:Nat):Int)=_ by omega) (iz hil))<|hy (fun _=>aa rfl)<|hy (fun _=>b7 rfl rfl)<|ai<|al (ρ' :=[(17,_),(10,_),(5,_),(0,_),(1,_)]) ⟨rfl,rfl,rfl,rfl,rfl,trivial⟩<|ag<| ?_
  refine cL rfl (fun h0=> ?_) (fun h0=> ?_)
  ·have h00:s.getD (k-1) 0=c:=UInt8.toNat_inj.1 (by omega)
   rw[jx hk (fun _=>h00) hno]
   refine ah<|aj<|hy (fun _=>aa rfl)<|hy (fun _=>ab rfl)<|ai<|al (ρ' :=[(4,_),(17,_),(10,_),(5,_),(0,_),(1,_)]) ⟨rfl,rfl,rfl,rfl,rfl,rfl,trivial⟩<|ag<|aU<|aV<|aw<|aw<|aV<|aw<| ?_
   exact bc trivial rfl rfl [] rfl [] rfl ⟨rfl,rfl,rfl⟩
  ·have h00:s.getD (k-1) 0≠c:=fun e=>h0 (by rw[e])
   have hno2:∀j,k-1≤j→j<s.length→s.getD j 0≠c:=fun j h1 h2=>by
    rcases Nat.lt_or_ge j k with hlt|hge
    ·rw[show j=k-1 by omega];exact h00
    ·exact hno j hge h2
   refine aB<|aQ<|ag<|aj<|hy (fun _=>aa rfl)<|hy (fun _=>yV (cm rfl rfl (bA (by omega) (by omega))) ((show Value.int .i64 _= .int .i64 (((k-1:Nat):Int)-1) by congr 1;omega)))<|hy (fun _=>ab rfl)<|ai<|al (ρ' :=[(5,_),(17,_),(10,_),(0,_),(1,_)]) ⟨rfl,rfl,rfl,rfl,rfl,trivial⟩<| ?_
   refine cZ (k-1) ⟨rfl,rfl,rfl,trivial⟩ [] rfl [] rfl (⟨by omega,hno2⟩) (by omega)
 ·obtain rfl:k=0:=by omega
  rw[jx (Nat.zero_le _) (fun h=>absurd h (by decide)) hno]
  refine bP<|au<|au<|aC<|ag<|ah<|aj<|hy (fun _=>ab rfl)<|ai<|ag<|aU<| ?_
  exact bc trivial rfl rfl [] rfl [] rfl ⟨rfl,rfl,rfl⟩
theorem tn{s:List UInt8}(hs:s.length≤1000000000):cj Tryz.prog 93 [.string (strOf s),.string (strOf [47])] [] [] (fun v_ X_ S_=>v_=(.int .i64 ((fe 47 s:Nat)-1))∧X_=[]∧S_=[]):=by
 refine aO (N:=36) Tryz.func93 rfl rfl (by simp) fun b=> ?_
 refine ah<|aj<|hy (fun _=>ab rfl)<|ai<|ag<|ah<|aj<|hy (fun _=>aa rfl)<|hy (fun _=>cp rfl Tryz.underlying9)<|hy (fun _=>ab rfl)<|ai<|al (ρ' :=[(5,_),(4,_),(0,_),(1,_)]) ⟨rfl,rfl,rfl,rfl,trivial⟩<|ag<|ah<|aN<|ah<|aj<|hy (fun _=>aa rfl)<|hy (fun _=>b7 rfl rfl)<|hy (fun _=>ab rfl)<|ai<|al (ρ' :=[(8,_),(5,_),(4,_),(0,_),(1,_)]) ⟨rfl,rfl,rfl,rfl,rfl,trivial⟩<|ag<| ?_
 refine di rfl ((decide_eq_false (by decide))) ?_
 refine ah<|aj<|hy (fun _=>aa rfl)<|hy (fun _=>b7 rfl rfl)<|hy (fun _=>ab rfl)<|ai<|al (ρ' :=[(13,_),(8,_),(5,_),(4,_),(0,_),(1,_)]) ⟨rfl,rfl,rfl,rfl,rfl,rfl,trivial⟩<|ag<| ?_
 refine fE rfl ((decide_eq_true (by decide))) ?_
 refine ah<|aj<|hy (fun _=>aa rfl)<|hy (fun _=>aa rfl)<|hy (fun _=>eM rfl rfl Tryz.underlying9 rfl (show(strOf [47]).data[0]? =some 47 from rfl))<| ?_
 refine hx (ao rfl Tryz.call167 (vS hs (c:=47)) [] rfl [] rfl ?_)
 rintro _ _ _ ⟨rfl,rfl,rfl⟩
 refine hy (fun _=>ab rfl)<|ai<|al (ρ' :=[(4,_),(13,_),(8,_),(5,_),(0,_),(1,_)]) ⟨rfl,rfl,rfl,rfl,rfl,rfl,trivial⟩<|ak (X' :=[]) (S' :=[]) (fun _ m=>m)<|ag<|aU<|aV<|aw<| ?_
 exact bc trivial rfl rfl [] rfl [] rfl ⟨rfl,rfl,rfl⟩
theorem vA(l:List UInt8):¬(47:UInt8)∈b9 l:=by
 have hd:∀i:Nat,i<16→jU.getD i 0≠47:=by decide
 intro h
 unfold b9 at h
 obtain⟨x,hx,hc⟩:=List.mem_flatMap.1 h
 have hb:=x.toNat_lt
 simp only[pj,List.mem_cons,List.not_mem_nil,or_false]at hc
 rcases hc with hc|hc
 ·exact hd _ (by omega) hc.symm
 ·exact hd _ (by omega) hc.symm
theorem sl{nm:List UInt8}(h:nm.length=32):fe 47 (bd nm)=5:=by
 have h64:(b9 nm).length=64:=by rw[dh,h]
 obtain⟨a,b,r,hr⟩:∃a b r,b9 nm=a::b::r:=by
  match hq:b9 nm with
  | []=>rw[hq]at h64;cases h64
  | [_]=>rw[hq]at h64;cases h64
  |a::b::r=>exact⟨a,b,r,rfl⟩
 have hp:bd nm=[99,47,a,b,47]++b9 nm:=by unfold bd;rw[hr];rfl
 refine jx (by rw[eh h];decide) (fun _=>by rw[hp];rfl) (fun j h1 h2 e=> ?_)
 rw[hp]at e h2
 rw[List.getD_eq_getElem?_getD,List.getElem?_append_right (by exact h1)]at e
 have hj:j-5<(b9 nm).length:=by simp at h2;omega
 have e2:(b9 nm)[j-5]?.getD 0=47:=e
 rw[List.getElem?_eq_getElem hj]at e2
 exact vA nm (by rw[←show(b9 nm)[j-5]=47 from e2];exact List.getElem_mem hj)
def kz(p q:List UInt8):Option (List UInt8):=if(b5 q).2=0∧bd (b5 q).1=p then some (b5 q).1 else none
theorem eJ{p q nm:List UInt8}(h:kz p q=some nm):nm.length=32∧p=bd nm:=by
 unfold kz at h
 split at h
 ·rename_i hq
  cases h
  exact⟨gN _,hq.2.symm⟩
 ·cases h
theorem s5{nm:List UInt8}(h:nm.length=32):kz (bd nm) (b9 nm)=some nm:=by
 unfold kz
 rw[pE nm h,if_pos ⟨rfl,rfl⟩]
def gY(p:List UInt8):Option (List UInt8):=kz p (p.drop (fe 47 p))
def j2(p:List UInt8):Option (List UInt8):=if p.length=69 then kz p (p.drop 5)else none
theorem ko(p:List UInt8):gY p=j2 p:=by
 have h1:∀{nm:List UInt8},nm.length=32→gY (bd nm)=some nm∧j2 (bd nm)=some nm:=fun{nm} h=>by
  unfold gY j2
  rw[sl h,s8 h,eh h,if_pos rfl]
  exact⟨s5 h,s5 h⟩
 cases h:gY p with
 |some nm=>
  obtain⟨h2,rfl⟩:=eJ h
  exact(h1 h2).2.symm
 |none=>
  cases h3:j2 p with
  |none=>rfl
  |some nm=>
   have h4:kz p (p.drop 5)=some nm:=by
    unfold j2 at h3
    split at h3
    ·exact h3
    ·cases h3
   obtain⟨h2,rfl⟩:=eJ h4
   rw[(h1 h2).1]at h
   cases h
def gr(d:RD):List (List UInt8):=(d.seen.map (·.1)).filterMap j2
end Go.Proofs.YtmibdabdlgmafaaGreatDoor
end
section
set_option maxRecDepth 20000
set_option maxHeartbeats 4000000
namespace Go.Proofs.YtmibdabdlgmafaaGreatDoor
open Go.Eng Go.Hx
def xX:List UInt8:=[99,47]
theorem rX(c:UInt8):∀s:List UInt8,fe c s≤s.length
 | []=>Nat.le_refl _
 |x::r=>by
  have:=rX c r
  unfold fe
  split
  ·rw[List.length_cons];omega
  ·split <;> (rw[List.length_cons];omega)
theorem xN{p nm:List UInt8}(h:gY p=some nm):pre xX p=true:=by
 obtain⟨h1,rfl⟩:=eJ h
 unfold pre
 exact decide_eq_true rfl
theorem qL(d:RD):(dP d xX).filterMap gY=gr d:=by
 unfold dP gr
 rw[show j2=gY from funext fun p=>(ko p).symm]
 generalize d.seen.map (·.1)=l
 induction l with
 |nil=>rfl
 |cons p r ih=>
  rw[List.filter_cons]
  cases h:gY p with
  |some nm=>rw[if_pos (xN h),List.filterMap_cons,List.filterMap_cons,h,ih]
  |none=>
   rw[List.filterMap_cons,h]
   split
   ·rw[List.filterMap_cons,h];exact ih
   ·exact ih
theorem v7{ns:List (List UInt8)}{i:Nat}(h:i<ns.length):(ns.take (i+1)).filterMap gY=(ns.take i).filterMap gY++(gY (ns.getD i [])).toList:=by
 have h1:ns.take (i+1)=ns.take i++[ns.getD i []]:=by
  rw[List.take_add_one,List.getElem?_eq_getElem h]
  simp[List.getD,List.getElem?_eq_getElem h]
 rw[h1,List.filterMap_append]
 generalize ns.getD i []=x
 cases hq:gY x <;> simp[hq]
theorem CH{g:Nat}{st:cH}{d:RD}{kk:Nat}(hD:DS st d kk)(hkk:kk≤99000)(hnl:∀x∈d.seen,x.1.length≤1000000):cj Tryz.prog 20 [.pointer (some ⟨g,0,none⟩)] [bm g st] [] (fun v_ X_ S_=>∃v k,v_=v∧X_=[bm g st,aH 53 32 v k (dc (gr d))]∧S_=[]∧(k=(gr d).length)):=by
 have hcn:=qL d
 have hnl2:∀p∈dP d xX,p.length≤1000000:=fun p hp=>by
  obtain⟨x,hx,rfl⟩:=List.mem_map.1 (List.mem_filter.1 hp).1
  exact hnl x hx
 refine aO (N:=38) Tryz.func20 rfl rfl (by simp) fun b=> ?_
 refine ah<|aj<|hy (fun _=>ab rfl)<|ai<|ag<|ah<|aj<|hy (fun _=>ab rfl)<|ai<|ag<|ah<|ah<|aj<|hy (fun _=>aa rfl)<| ?_
 refine hx (ao rfl Tryz.call86 (xL hD hkk (p:=xX)) [0] rfl [] rfl ?_)
 rintro _ _ _ ⟨v,rfl,rfl,rfl,hn⟩
 refine az (fun m=>(m.own 1 rfl).slice) ?_
 rintro⟨A_x,c_x,rfl,hc_x⟩
 refine az (fun m=>(m.ord 1 rfl).2.1) fun hA_x=> ?_
 generalize dP d xX=ns at hn hcn hnl2 hc_x hA_x ⊢
 refine hy (fun _=>aR rfl Tryz.underlying152)<|hy (fun _=>aa rfl)<|ai<|al (ρ' :=[(11,_),(10,_),(9,_),(3,_),(2,_),(0,_)]) ⟨rfl,rfl,rfl,rfl,rfl,rfl,trivial⟩<|ak (X' :=[_,_]) (S' :=[]) (fun _ m=>m)<|ag<|aN<| ?_
 refine bu (fun w m=>m.dx (r' :=aH 53 32 (.slice none 0 0) 0 []) (.refl _ _) (Own.nil _ _ _ _) (fun k hk=>hk.elim)) ?_
 refine lH (fun i k A1 c1=>ns.length-i) (fun i k A1 c1=>[(3,.slice A1 k c1),(11,.int .i64 (i:Nat))]) (fun i k A1 c1=>[aH 53 32 (.slice A1 k c1) k (dc ((ns.take i).filterMap gY))]) (fun i k A1 c1=>[]) (fun i k A1 c1=>i≤ns.length∧k=((ns.take i).filterMap gY).length∧k≤i) 0 0 none 0 [(10,_),(9,_),(2,_),(0,_)] ⟨rfl,rfl,rfl,rfl,trivial⟩ [0] rfl [] rfl (⟨Nat.zero_le _,rfl,Nat.le_refl _⟩) ⟨rfl,rfl,trivial⟩ (fun i k A1 c1 ⟨hin,hk,hki⟩=> ?_)
 refine ah<|aj<|hy (fun _=>br rfl rfl)<|ai<|ag<|ah<| ?_
 refine cL rfl (fun hlt=> ?_) (fun hlt=> ?_)
 ·have hi2:i<ns.length:=by omega
  have hsn:=v7 hi2
  have hpl:=hnl2 (ns.getD i []) (by rw[List.getD,List.getElem?_eq_getElem hi2];exact List.getElem_mem hi2)
  refine aB<|ag<|ah<|aN<|ah<|aj<|hy (fun _=>aK rfl rfl Tryz.underlying152 yB hA_x rfl (by omega))<|hy (fun m=>ar rfl gU ((m.ord 2 rfl).cell (ph hi2)))<|hy (fun _=>ab rfl)<|ai<|al (ρ' :=[(5,_),(12,_),(3,_),(11,_),(10,_),(9,_),(2,_),(0,_)]) ⟨rfl,rfl,rfl,rfl,rfl,rfl,rfl,rfl,trivial⟩<|ag<|ah<|aj<|hy (fun _=>aa rfl)<|hy (fun _=>aa rfl)<| ?_
  generalize ns.getD i []=p at hsn hpl ⊢
  have hlp:=rX 47 p
  have hdl:=gN (p.drop (fe 47 p))
  have h32:(aZ (b5 (p.drop (fe 47 p))).1).length=32:=by rw[aF,hdl]
  have hql:(p.drop (fe 47 p)).length≤1000000:=by rw[List.length_drop];omega
  have ho1:gY p=if(b5 (p.drop (fe 47 p))).2=0∧bd (b5 (p.drop (fe 47 p))).1=p then some (b5 (p.drop (fe 47 p))).1 else none:=rfl
  refine hx (ao rfl Tryz.call93 (tn (by omega) (s:=p)) [] rfl [] rfl ?_)
  rintro _ _ _ ⟨rfl,rfl,rfl⟩
  refine hy (fun _=>aJ rfl rfl (bA (by omega) (by omega)))<|hy (fun _=>qh rfl rfl Tryz.underlying9 (show((fe 47 p:Nat):Int)=_ by omega) hlp)<| ?_
  refine hx (ao rfl Tryz.call92 (wM hql (s:=(p.drop (fe 47 p)))) [] rfl [] rfl ?_)
  rintro _ _ _ ⟨rfl,rfl,rfl⟩
  refine hy (fun _=>aa rfl)<|hy (fun _=>aq rfl rfl)<|hy (fun _=>aq rfl rfl)<| ?_
  refine hx (aM cX (fun g6=> ?_))
  refine cI (aI 0 rfl rfl rfl bn h32 aY rfl ?_)
  generalize hdo:b5 (p.drop (fe 47 p))=dq at hdl h32 ho1 ⊢
  by_cases hE:dq.2=0
  ·refine hy (fun _=>ab rfl)<|ai<|al (ρ' :=[(7,_),(6,_),(5,_),(12,_),(3,_),(11,_),(10,_),(9,_),(2,_),(0,_)]) ⟨rfl,rfl,rfl,rfl,rfl,rfl,rfl,rfl,rfl,rfl,trivial⟩<|ak (X' :=[_,_,_,_]) (S' :=[]) (fun _ m=>m)<|ag<|ah<|aj<|hy (fun _=>aa rfl)<|hy (fun _=>yT (b7 rfl rfl) ((decide_eq_true hE)))<|hy (fun _=>aa rfl)<|cx (o:=_) rfl rfl rfl (fun m=>aX rfl ct bn h32 ((m.aT 0 rfl).ay))<| ?_
   refine Bf (o:=_) rfl rfl rfl (ao rfl Tryz.call94 (qR hdl) [] rfl [] rfl ?_)
   rintro _ _ _ ⟨rfl,rfl,rfl⟩
   refine cx (o:=_) rfl rfl rfl (fun _=>aa rfl)<|cx (o:=_) rfl rfl rfl (fun _=>me rfl rfl)<|hy (fun _=>bE rfl rfl)<|ai<|al (ρ' :=[(31,_),(7,_),(6,_),(5,_),(12,_),(3,_),(11,_),(10,_),(9,_),(2,_),(0,_)]) ⟨rfl,rfl,rfl,rfl,rfl,rfl,rfl,rfl,rfl,rfl,rfl,trivial⟩<|ak (X' :=[_,_,_,_]) (S' :=[]) (fun _ m=>m)<|ag<| ?_
   refine sv rfl (fun hp=> ?_) (fun hp=> ?_)
   ·have hp:=cD.1 (of_decide_eq_true hp)
    rw[ho1,if_pos ⟨hE,hp⟩]at hsn
    have hsn:(ns.take (i+1)).filterMap gY=(ns.take i).filterMap gY++[dq.1]:=hsn
    refine aj<|hy (fun _=>aa rfl)<|hy (fun m=>aX rfl ct bn h32 ((m.aT 0 rfl).ay))<| ?_
    refine hx (b8 Tryz.underlying33 cX rfl rfl rfl (by simpa[Value.cells,B8]using h32) (by decide) (by decide) (fun g34=> ?_))
    have hA_b34:0<1→(some (⟨g34,0,none⟩:Addr))≠none:=fun _ h=>by cases h
    refine aL (fun w m=>m.bM 0 rfl (show _=aH 53 32 (.slice (some ⟨g34,0,none⟩) 1 1) 1 (dc [dq.1])from rfl)) ?_
    refine hx (bB 2 rfl rfl rfl Tryz.underlying33 Tryz.underlying33 (by exact .inl rfl) cX rfl (fun m=>Src.bT (m.ord 0 rfl)) dj (by unfold maxLen;omega) (by omega) (fun u=> ?_))
    refine az (fun m=>(m.own 0 rfl).slice) ?_
    rintro⟨A_o,c_o,rfl,hc_o⟩
    refine az (fun m=>(m.ord 0 rfl).2.1) fun hA_o=> ?_
    refine aL (fun w m=>m.bM 0 rfl (show _=aH 53 32 (.slice A_o (k+1) c_o) (k+1) (dc ((ns.take (i+1)).filterMap gY))from congrArg (aH _ _ _ _) (by rw[hsn,eQ]))) ?_
    refine hy (fun _=>ab rfl)<|ai<|al (ρ' :=[(3,_),(31,_),(7,_),(6,_),(5,_),(12,_),(11,_),(10,_),(9,_),(2,_),(0,_)]) ⟨rfl,rfl,rfl,rfl,rfl,rfl,rfl,rfl,rfl,rfl,rfl,trivial⟩<|ak (X' :=[_,_,_,_,_]) (S' :=[]) (fun _ m=>m)<|aQ<|ag<|aj<|hy (fun _=>aJ rfl rfl (bA (by omega) (by omega)))<|hy (fun _=>aa rfl)<|ai<|al (ρ' :=[(11,_),(3,_),(31,_),(7,_),(6,_),(5,_),(12,_),(10,_),(9,_),(2,_),(0,_)]) ⟨rfl,rfl,rfl,rfl,rfl,rfl,rfl,rfl,rfl,rfl,rfl,trivial⟩<| ?_
    refine fZ (i+1) (k+1) A_o c_o ⟨rfl,rfl,rfl,rfl,rfl,rfl,trivial⟩ [0,2,2] rfl [] rfl (⟨by omega,by rw[hsn,hk,List.length_append];rfl,by omega⟩) (by omega)
   ·have hp:=of_decide_eq_false hp
    rw[ho1,if_neg (fun h=>hp (by rw[h.2]))]at hsn
    have hsn:(ns.take (i+1)).filterMap gY=(ns.take i).filterMap gY:=hsn.trans (List.append_nil _)
    refine bu (fun w m=>m.bM 1 rfl (show _=aH 53 32 (.slice A1 k c1) k (dc ((ns.take (i+1)).filterMap gY))from by rw[hsn])) ?_
    refine aB<|aQ<|ag<|aj<|hy (fun _=>aJ rfl rfl (bA (by omega) (by omega)))<|hy (fun _=>aa rfl)<|ai<|al (ρ' :=[(11,_),(31,_),(7,_),(6,_),(5,_),(12,_),(3,_),(10,_),(9,_),(2,_),(0,_)]) ⟨rfl,rfl,rfl,rfl,rfl,rfl,rfl,rfl,rfl,rfl,rfl,trivial⟩<| ?_
    refine fZ (i+1) k A1 c1 ⟨rfl,rfl,rfl,rfl,rfl,rfl,trivial⟩ [0,1,1] rfl [] rfl (⟨by omega,by rw[hsn,hk],by omega⟩) (by omega)
  ·refine hy (fun _=>ab rfl)<|ai<|al (ρ' :=[(7,_),(6,_),(5,_),(12,_),(3,_),(11,_),(10,_),(9,_),(2,_),(0,_)]) ⟨rfl,rfl,rfl,rfl,rfl,rfl,rfl,rfl,rfl,rfl,trivial⟩<|ag<|ah<|aj<|hy (fun _=>aa rfl)<|hy (fun _=>yF (b7 rfl rfl) ((decide_eq_false hE)))<|hy (fun _=>aa rfl)<|bg rfl rfl rfl (by decide)<|bg rfl rfl rfl (by decide)<|bg rfl rfl rfl (by decide)<|bg rfl rfl rfl (by decide)<|hy (fun _=>bp rfl rfl)<|ai<|al (ρ' :=[(31,_),(7,_),(6,_),(5,_),(12,_),(3,_),(11,_),(10,_),(9,_),(2,_),(0,_)]) ⟨rfl,rfl,rfl,rfl,rfl,rfl,rfl,rfl,rfl,rfl,rfl,trivial⟩<|ag<| ?_
   refine di rfl (rfl) ?_
   rw[ho1,if_neg (fun h=>hE h.1)]at hsn
   have hsn:(ns.take (i+1)).filterMap gY=(ns.take i).filterMap gY:=hsn.trans (List.append_nil _)
   refine bu (fun w m=>m.bM 1 rfl (show _=aH 53 32 (.slice A1 k c1) k (dc ((ns.take (i+1)).filterMap gY))from by rw[hsn])) ?_
   refine aB<|aQ<|ag<|aj<|hy (fun _=>aJ rfl rfl (bA (by omega) (by omega)))<|hy (fun _=>aa rfl)<|ai<|al (ρ' :=[(11,_),(31,_),(7,_),(6,_),(5,_),(12,_),(3,_),(10,_),(9,_),(2,_),(0,_)]) ⟨rfl,rfl,rfl,rfl,rfl,rfl,rfl,rfl,rfl,rfl,rfl,trivial⟩<| ?_
   refine fZ (i+1) k A1 c1 ⟨rfl,rfl,rfl,rfl,rfl,rfl,trivial⟩ [0,1,1] rfl [] rfl (⟨by omega,by rw[hsn,hk],by omega⟩) (by omega)
 ·obtain rfl:i=ns.length:=by omega
  rw[List.take_length,hcn]at hk ⊢
  refine bP<|au<|au<|aC<|ag<|ah<|aj<|hy (fun _=>aa rfl)<|hy (fun _=>ab rfl)<|ai<|al (ρ' :=[(2,_),(12,_),(3,_),(11,_),(10,_),(9,_),(0,_)]) ⟨rfl,rfl,rfl,rfl,rfl,rfl,rfl,trivial⟩<|ag<|aU<| ?_
  exact bc trivial rfl rfl [1,0] rfl [] rfl ⟨_,_,rfl,rfl,rfl,hk⟩
end Go.Proofs.YtmibdabdlgmafaaGreatDoor
end
section
namespace Go.Eng
open Go.RowKit
section
variable{P:Program}{fn:Func}{R:Value→List bh→List bh→Prop}{N:Nat}{ρ:Env}{b:cG}{X X' Xz S S' :List bh}{e:Exit}
theorem fh{t t2 t' sz sz2:Nat}{ty ty2:TypeId}{p p2:Addr}{cs cs2:List Value}{v' :Value}(he:Leaves e)(hr:fn.results= #[.cell t ty,.cell t2 ty2,.tmp t'])(hv:get ρ t=some (.pointer (some p)))(hv2:get ρ t2=some (.pointer (some p2)))(hv' :get ρ t' =some v')(ha:dL P ty=some true)(hs:fM P ty=some sz)(hl:cs.length=sz)
  (hc:∀{w},Mem b X S w→∀j u,cs[j]? =some u→w.cell? (p.add j)=some u) (ha2:dL P ty2=some true) (hs2:fM P ty2=some sz2) (hl2:cs2.length=sz2)
  (hc2:∀{w},Mem b X S w→∀j u,cs2[j]? =some u→w.cell? (p2.add j)=some u) (is:List Nat) (hX:bX is X=some (X',Xz)) (js:List Nat) (hS:dN js S=some S') (hR:R (.tuple #[.agg cs.toArray,.agg cs2.toArray,v']) X' S'):HQ (bodyPost P fn (RB b R)) N [] e ρ b X S:=
 fun w m=>iK he (fun a hA=>by have h1:=hA.getD hv;have h2:=hA.getD hv2;have h3:=hA.getD hv';simp at h1 h2 h3;simp[results,hr,h1,h2,h3,asAddr,kP ha hs hl (hc m),kP ha2 hs2 hl2 (hc2 m)]) ⟨_,_,_,rfl,hR,m.out is hX js hS⟩
end
end Go.Eng
end
section
set_option maxRecDepth 20000
set_option maxHeartbeats 2000000
namespace Go.Proofs.YtmibdabdlgmafaaGreatDoor
open Go.Eng Go.Hx
def mv(s:Nat×Nat):List Value:=[.int .i64 (s.1:Nat),.int .i64 (s.2:Nat)]
theorem m7{s:Nat×Nat}:∀u∈mv s,u.oneCell' =true:=by
 intro u hu
 simp only[mv,List.mem_cons,List.not_mem_nil,or_false]at hu
 rcases hu with rfl|rfl <;> rfl
theorem zb{A:Option Addr}{n c i:Nat}{l:List UInt8}(hn:n≤1000000000)(hl:l.length=n)(hi:i<n):cj Tryz.prog 218 [.slice A n c,.int .i64 (i:Nat)] [] [dr 1 A n (aZ l)] (fun v_ X_ S_=>v_=(.agg (mv (a6 l i)).toArray)∧X_=[]∧S_=[]):=by
 refine aO (N:=67) Tryz.func218 rfl rfl (by simp) fun b=> ?_
 refine ba (fun m=>gK (m.rd 0 rfl)) ?_
 rintro⟨hl_r,hA_r⟩
 refine ah<|aj<| ?_
 refine hx (aM p7 (fun g4=> ?_))
 refine ai<|ak (X' :=[_]) (S' :=[_]) (fun _ m=>m)<|ag<|ah<|aj<| ?_
 refine hx (aM p7 (fun g5=> ?_))
 refine ai<|ak (X' :=[_,_]) (S' :=[_]) (fun _ m=>m)<|ag<|ah<|ah<|aj<|hy (fun _=>aa rfl)<|hy (fun _=>br rfl rfl)<|hy (fun _=>aa rfl)<| ?_
 refine fo 10 rfl (fun h0=> ?_) (fun h0=> ?_)
 ·exact absurd h0 (by omega)
 ·refine cx (o:=_) rfl rfl rfl (fun _=>aa rfl)<|cx (o:=_) rfl rfl rfl (fun _=>aa rfl)<|cx (o:=_) rfl rfl rfl (fun _=>aR rfl Tryz.underlying27)<|cx (o:=_) rfl rfl rfl (fun _=>iD rfl rfl)<|hy (fun _=>bp rfl rfl)<|ai<|al (ρ' :=[(15,_),(5,_),(4,_),(0,_),(1,_)]) ⟨rfl,rfl,rfl,rfl,rfl,trivial⟩<|ag<| ?_
  refine di rfl ((decide_eq_false (by omega))) ?_
  refine bu (fun w m=>m.bM 0 rfl (show _=aG g5 298 (mv (cw l i 0))from rfl)) ?_
  refine bu (fun w m=>m.bM 1 rfl (show _=aG g4 298 (mv (0,0))from rfl)) ?_
  refine aB<|ag<|ah<|ah<|aj<|hy (fun _=>ab rfl)<|ai<|ag<|aN<| ?_
  refine dR (fun q=>2000-q) (fun q=>[(6,.int .i64 ((q+1:Nat):Int))]) (fun q=>[aG g5 298 (mv (cw l i q))]) (fun q=>[]) (fun q=>q≤min i 1024) 0 [(15,_),(5,_),(4,_),(0,_),(1,_)] ⟨rfl,rfl,rfl,rfl,rfl,trivial⟩ [1] rfl [] rfl (Nat.zero_le _) ⟨rfl,trivial⟩ (fun q hI=> ?_)
  refine ah<|ah<|aj<|hy (fun _=>aa rfl)<|hy (fun _=>aa rfl)<|hy (fun _=>nj rfl rfl)<|hy (fun _=>aa rfl)<| ?_
  refine fo 20 rfl (fun h1=> ?_) (fun h1=> ?_)
  ·refine cx (o:=_) rfl rfl rfl (fun _=>aa rfl)<|cx (o:=_) rfl rfl rfl (fun _=>nj rfl rfl)<|hy (fun _=>bE rfl rfl)<|ai<|al (ρ' :=[(23,_),(6,_),(15,_),(5,_),(4,_),(0,_),(1,_)]) ⟨rfl,rfl,rfl,rfl,rfl,rfl,rfl,trivial⟩<|ag<| ?_
   refine cL rfl (fun h2=> ?_) (fun h2=> ?_)
   ·refine aB<|ag<|ah<|aN<|ah<|aj<|hy (fun _=>ab rfl)<|ai<|ag<|ah<|aN<| ?_
    refine dR (fun j=>131-j) (fun j=>[(7,.int .i64 (j:Nat))]) (fun j=>[]) (fun j=>[]) (fun j=>j≤131∧i+j≤n∧lj l i (i-(q+1)) (131-j) j=lA l i (i-(q+1))) 0 [(23,_),(6,_),(15,_),(5,_),(4,_),(0,_),(1,_)] ⟨rfl,rfl,rfl,rfl,rfl,rfl,rfl,trivial⟩ [] rfl [] rfl (⟨by decide,by omega,rfl⟩) ⟨rfl,trivial⟩ (fun j ⟨hj,hij,hL⟩=> ?_)
    refine ah<|ah<|cK [] [(0,some 0),(1,some 0),(2,some 0),(3,some 0),(4,some 0),(5,some 0),(6,some 0),(7,some 0),(8,some 0),(9,some 0),(10,some 0),(11,some 0),(12,some 0),(13,some 0),(14,some 0),(15,some 0),(16,some 0),(17,some 0),(18,some 0),(19,some 0),(20,some 0),(21,some 0),(22,some 0),(23,some 0),(24,some 0),(25,some 0),(26,some 0)] (by kernel_rfl) (by kernel_rfl) rfl 99<|an (aa rfl)<|an (aa rfl)<|an (aJ rfl rfl (bA (by omega) (by omega)))<|an (aa rfl)<|an (aR rfl Tryz.underlying27)<|an (br rfl rfl)<|an (aa rfl)<| ?_
    refine hO 32 rfl (fun g1=> ?_) (fun g1=> ?_)
    ·refine bj (o:=_) rfl rfl rfl (aa rfl)<|bj (o:=_) rfl rfl rfl (br rfl rfl)<|an (bE rfl rfl)<|an (aa rfl)<| ?_
     refine hO 36 rfl (fun g2=> ?_) (fun g2=> ?_)
     ·refine bj (o:=_) rfl rfl rfl (aa rfl)<|bj (o:=_) rfl rfl rfl (aa rfl)<|bj (o:=_) rfl rfl rfl (aa rfl)<|bj (o:=_) rfl rfl rfl (aJ rfl rfl (bA (by omega) (by omega)))<|bj (o:=_) rfl rfl rfl (aK rfl rfl Tryz.underlying27 eg hA_r (show((i+j:Nat):Int)=_ by omega) (by omega))<|iJ (o:=_) rfl rfl rfl (fun m=>ar rfl iN ((m.rd 0 rfl).cell (bJ (by omega))))<|bj (o:=_) rfl rfl rfl (aa rfl)<|bj (o:=_) rfl rfl rfl (aa rfl)<|bj (o:=_) rfl rfl rfl (aa rfl)<|bj (o:=_) rfl rfl rfl (aJ rfl rfl (bA (by omega) (by omega)))<|bj (o:=_) rfl rfl rfl (aa rfl)<|bj (o:=_) rfl rfl rfl (yV (cm rfl rfl (bA (by omega) (by omega))) ((show Value.int .i64 ((i:Int)+(j:Int)-((q+1:Nat):Int))= .int .i64 ((i-(q+1)+j:Nat):Int) by congr 1;omega)))<|bj (o:=_) rfl rfl rfl (aK rfl rfl Tryz.underlying27 eg hA_r rfl (by omega))<|iJ (o:=_) rfl rfl rfl (fun m=>ar rfl iN ((m.rd 0 rfl).cell (bJ (by omega))))<|bj (o:=_) rfl rfl rfl (b7 rfl rfl)<|an (bE rfl rfl)<|bq<|al (ρ' :=[(52,_),(7,_),(23,_),(6,_),(15,_),(5,_),(4,_),(0,_),(1,_)]) ⟨rfl,rfl,rfl,rfl,rfl,rfl,rfl,rfl,rfl,trivial⟩<|ag<| ?_
      refine cL rfl (fun g3=> ?_) (fun g3=> ?_)
      ·have e3:l.getD (i+j) 0=l.getD (i-(q+1)+j) 0:=UInt8.toNat_inj.1 (by omega)
       rw[iu (by omega) ⟨by omega,e3⟩]at hL
       refine aB<|ag<|aN<|aj<|hy (fun _=>aa rfl)<|hy (fun _=>aJ rfl rfl (bA (by omega) (by omega)))<|hy (fun _=>ab rfl)<|ai<|al (ρ' :=[(7,_),(52,_),(23,_),(6,_),(15,_),(5,_),(4,_),(0,_),(1,_)]) ⟨rfl,rfl,rfl,rfl,rfl,rfl,rfl,rfl,rfl,trivial⟩<|aQ<| ?_
       refine cZ (j+1) ⟨rfl,rfl,rfl,rfl,rfl,rfl,rfl,rfl,trivial⟩ [0,0] rfl [0] rfl (⟨by omega,by omega,by rw[←hL];rfl⟩) (by omega)
      ·refine bP<|au<|au<|aC<|ag<|ah<|aj<|hy (fun _=>aa rfl)<|hy (fun _=>cW rfl rfl)<|hy (fun _=>aa rfl)<| ?_
       have hL2:j=lA l i (i-(q+1)):=(by rw[←hL,kQ (fun e=>g3 (by rw[e.2]))])
       subst hL2
       refine fo 57 rfl (fun h3=> ?_) (fun h3=> ?_)
       ·refine cx (o:=_) rfl rfl rfl (fun _=>aa rfl)<|cx (o:=_) rfl rfl rfl (fun _=>aD rfl kO (by decide))<|cx (o:=_) rfl rfl rfl (fun m=>ar rfl eY (ax (m.aT 0 rfl) rfl))<|cx (o:=_) rfl rfl rfl (fun _=>cW rfl rfl)<|hy (fun _=>bE rfl rfl)<|ai<|al (ρ' :=[(62,_),(52,_),(7,_),(23,_),(6,_),(15,_),(5,_),(4,_),(0,_),(1,_)]) ⟨rfl,rfl,rfl,rfl,rfl,rfl,rfl,rfl,rfl,rfl,trivial⟩<|ag<| ?_
        refine cL rfl (fun h4=> ?_) (fun h4=> ?_)
        ·refine aj<|hy (fun _=>aa rfl)<|hy (fun _=>aa rfl)<|hy (fun _=>cM p7 rfl rfl (by kernel_rfl) (.cons (o:=0) (sz:=1) (by kernel_rfl) rfl rfl (Nat.le_of_ble_eq_true rfl) (.cons (o:=1) (sz:=1) (by kernel_rfl) rfl rfl (Nat.le_of_ble_eq_true rfl) .nil)))<| ?_
         refine cI (aI 0 rfl rfl rfl lx rfl (m7 (s:=(lA l i (i-(q+1)),q+1))) rfl ?_)
         have hst:mv (lA l i (i-(q+1)),q+1)=mv (cw l i (q+1)):=by
          rw[dM]
          unfold gI
          rw[if_pos ⟨by omega,by omega⟩]
         refine aL (fun w m=>m.bM 0 rfl (show _=aG g5 298 (mv (cw l i (q+1)))from congrArg (aG g5 _) hst)) ?_
         refine ai<|al (ρ' :=[(62,_),(52,_),(7,_),(23,_),(6,_),(15,_),(5,_),(4,_),(0,_),(1,_)]) ⟨rfl,rfl,rfl,rfl,rfl,rfl,rfl,rfl,rfl,rfl,trivial⟩<|ak (X' :=[_,_]) (S' :=[_]) (fun _ m=>m)<|aQ<|ag<|aj<|hy (fun _=>aa rfl)<|hy (fun _=>aJ rfl rfl (bA (by omega) (by omega)))<|hy (fun _=>ab rfl)<|ai<|al (ρ' :=[(6,_),(62,_),(52,_),(7,_),(23,_),(15,_),(5,_),(4,_),(0,_),(1,_)]) ⟨rfl,rfl,rfl,rfl,rfl,rfl,rfl,rfl,rfl,rfl,trivial⟩<| ?_
         refine cZ (q+1) ⟨rfl,rfl,rfl,rfl,rfl,rfl,trivial⟩ [0,0] rfl [0] rfl ((by omega)) (by omega)
        ·have hst:mv (cw l i q)=mv (cw l i (q+1)):=by
          rw[dM]
          unfold gI
          rw[if_neg (fun h=>by omega)]
         refine aB<|aQ<|ag<|aj<|hy (fun _=>aa rfl)<|hy (fun _=>aJ rfl rfl (bA (by omega) (by omega)))<|hy (fun _=>ab rfl)<|ai<|al (ρ' :=[(6,_),(62,_),(52,_),(7,_),(23,_),(15,_),(5,_),(4,_),(0,_),(1,_)]) ⟨rfl,rfl,rfl,rfl,rfl,rfl,rfl,rfl,rfl,rfl,trivial⟩<| ?_
         refine ak (fun w m=>m.bM 0 rfl (show _=aG g5 298 (mv (cw l i (q+1)))from congrArg (aG g5 _) hst)) ?_
         refine cZ (q+1) ⟨rfl,rfl,rfl,rfl,rfl,rfl,trivial⟩ [0,0] rfl [0] rfl ((by omega)) (by omega)
       ·have hst:mv (cw l i q)=mv (cw l i (q+1)):=by
         rw[dM]
         unfold gI
         rw[if_neg (fun h=>by omega)]
        refine bg rfl rfl rfl (by decide)<|bg rfl rfl rfl (by decide)<|bg rfl rfl rfl (by decide)<|bg rfl rfl rfl (by decide)<|hy (fun _=>bp rfl rfl)<|ai<|al (ρ' :=[(62,_),(52,_),(7,_),(23,_),(6,_),(15,_),(5,_),(4,_),(0,_),(1,_)]) ⟨rfl,rfl,rfl,rfl,rfl,rfl,rfl,rfl,rfl,rfl,trivial⟩<|ag<| ?_
        refine di rfl (rfl) ?_
        refine aB<|aQ<|ag<|aj<|hy (fun _=>aa rfl)<|hy (fun _=>aJ rfl rfl (bA (by omega) (by omega)))<|hy (fun _=>ab rfl)<|ai<|al (ρ' :=[(6,_),(62,_),(52,_),(7,_),(23,_),(15,_),(5,_),(4,_),(0,_),(1,_)]) ⟨rfl,rfl,rfl,rfl,rfl,rfl,rfl,rfl,rfl,rfl,trivial⟩<| ?_
        refine ak (fun w m=>m.bM 0 rfl (show _=aG g5 298 (mv (cw l i (q+1)))from congrArg (aG g5 _) hst)) ?_
        refine cZ (q+1) ⟨rfl,rfl,rfl,rfl,rfl,rfl,trivial⟩ [0,0] rfl [0] rfl ((by omega)) (by omega)
     ·refine aP rfl rfl rfl (by decide)<|aP rfl rfl rfl (by decide)<|aP rfl rfl rfl (by decide)<|aP rfl rfl rfl (by decide)<|aP rfl rfl rfl (by decide)<|aP rfl rfl rfl (by decide)<|aP rfl rfl rfl (by decide)<|aP rfl rfl rfl (by decide)<|aP rfl rfl rfl (by decide)<|aP rfl rfl rfl (by decide)<|aP rfl rfl rfl (by decide)<|aP rfl rfl rfl (by decide)<|aP rfl rfl rfl (by decide)<|aP rfl rfl rfl (by decide)<|aP rfl rfl rfl (by decide)<|an (bp rfl rfl)<|bq<|al (ρ' :=[(52,_),(7,_),(23,_),(6,_),(15,_),(5,_),(4,_),(0,_),(1,_)]) ⟨rfl,rfl,rfl,rfl,rfl,rfl,rfl,rfl,rfl,trivial⟩<|ag<| ?_
      refine di rfl (rfl) ?_
      refine bP<|au<|au<|aC<|ag<|ah<|aj<|hy (fun _=>aa rfl)<|hy (fun _=>cW rfl rfl)<|hy (fun _=>aa rfl)<| ?_
      have hL2:j=lA l i (i-(q+1)):=(by rw[←hL,show 131-j=0 by omega];rfl)
      subst hL2
      refine fo 57 rfl (fun h3=> ?_) (fun h3=> ?_)
      ·refine cx (o:=_) rfl rfl rfl (fun _=>aa rfl)<|cx (o:=_) rfl rfl rfl (fun _=>aD rfl kO (by decide))<|cx (o:=_) rfl rfl rfl (fun m=>ar rfl eY (ax (m.aT 0 rfl) rfl))<|cx (o:=_) rfl rfl rfl (fun _=>cW rfl rfl)<|hy (fun _=>bE rfl rfl)<|ai<|al (ρ' :=[(62,_),(52,_),(7,_),(23,_),(6,_),(15,_),(5,_),(4,_),(0,_),(1,_)]) ⟨rfl,rfl,rfl,rfl,rfl,rfl,rfl,rfl,rfl,rfl,trivial⟩<|ag<| ?_
       refine cL rfl (fun h4=> ?_) (fun h4=> ?_)
       ·refine aj<|hy (fun _=>aa rfl)<|hy (fun _=>aa rfl)<|hy (fun _=>cM p7 rfl rfl (by kernel_rfl) (.cons (o:=0) (sz:=1) (by kernel_rfl) rfl rfl (Nat.le_of_ble_eq_true rfl) (.cons (o:=1) (sz:=1) (by kernel_rfl) rfl rfl (Nat.le_of_ble_eq_true rfl) .nil)))<| ?_
        refine cI (aI 0 rfl rfl rfl lx rfl (m7 (s:=(lA l i (i-(q+1)),q+1))) rfl ?_)
        have hst:mv (lA l i (i-(q+1)),q+1)=mv (cw l i (q+1)):=by
         rw[dM]
         unfold gI
         rw[if_pos ⟨by omega,by omega⟩]
        refine aL (fun w m=>m.bM 0 rfl (show _=aG g5 298 (mv (cw l i (q+1)))from congrArg (aG g5 _) hst)) ?_
        refine ai<|al (ρ' :=[(62,_),(52,_),(7,_),(23,_),(6,_),(15,_),(5,_),(4,_),(0,_),(1,_)]) ⟨rfl,rfl,rfl,rfl,rfl,rfl,rfl,rfl,rfl,rfl,trivial⟩<|ak (X' :=[_,_]) (S' :=[_]) (fun _ m=>m)<|aQ<|ag<|aj<|hy (fun _=>aa rfl)<|hy (fun _=>aJ rfl rfl (bA (by omega) (by omega)))<|hy (fun _=>ab rfl)<|ai<|al (ρ' :=[(6,_),(62,_),(52,_),(7,_),(23,_),(15,_),(5,_),(4,_),(0,_),(1,_)]) ⟨rfl,rfl,rfl,rfl,rfl,rfl,rfl,rfl,rfl,rfl,trivial⟩<| ?_
        refine cZ (q+1) ⟨rfl,rfl,rfl,rfl,rfl,rfl,trivial⟩ [0,0] rfl [0] rfl ((by omega)) (by omega)
       ·have hst:mv (cw l i q)=mv (cw l i (q+1)):=by
         rw[dM]
         unfold gI
         rw[if_neg (fun h=>by omega)]
        refine aB<|aQ<|ag<|aj<|hy (fun _=>aa rfl)<|hy (fun _=>aJ rfl rfl (bA (by omega) (by omega)))<|hy (fun _=>ab rfl)<|ai<|al (ρ' :=[(6,_),(62,_),(52,_),(7,_),(23,_),(15,_),(5,_),(4,_),(0,_),(1,_)]) ⟨rfl,rfl,rfl,rfl,rfl,rfl,rfl,rfl,rfl,rfl,trivial⟩<| ?_
        refine ak (fun w m=>m.bM 0 rfl (show _=aG g5 298 (mv (cw l i (q+1)))from congrArg (aG g5 _) hst)) ?_
        refine cZ (q+1) ⟨rfl,rfl,rfl,rfl,rfl,rfl,trivial⟩ [0,0] rfl [0] rfl ((by omega)) (by omega)
      ·have hst:mv (cw l i q)=mv (cw l i (q+1)):=by
        rw[dM]
        unfold gI
        rw[if_neg (fun h=>by omega)]
       refine bg rfl rfl rfl (by decide)<|bg rfl rfl rfl (by decide)<|bg rfl rfl rfl (by decide)<|bg rfl rfl rfl (by decide)<|hy (fun _=>bp rfl rfl)<|ai<|al (ρ' :=[(62,_),(52,_),(7,_),(23,_),(6,_),(15,_),(5,_),(4,_),(0,_),(1,_)]) ⟨rfl,rfl,rfl,rfl,rfl,rfl,rfl,rfl,rfl,rfl,trivial⟩<|ag<| ?_
       refine di rfl (rfl) ?_
       refine aB<|aQ<|ag<|aj<|hy (fun _=>aa rfl)<|hy (fun _=>aJ rfl rfl (bA (by omega) (by omega)))<|hy (fun _=>ab rfl)<|ai<|al (ρ' :=[(6,_),(62,_),(52,_),(7,_),(23,_),(15,_),(5,_),(4,_),(0,_),(1,_)]) ⟨rfl,rfl,rfl,rfl,rfl,rfl,rfl,rfl,rfl,rfl,trivial⟩<| ?_
       refine ak (fun w m=>m.bM 0 rfl (show _=aG g5 298 (mv (cw l i (q+1)))from congrArg (aG g5 _) hst)) ?_
       refine cZ (q+1) ⟨rfl,rfl,rfl,rfl,rfl,rfl,trivial⟩ [0,0] rfl [0] rfl ((by omega)) (by omega)
    ·refine aP rfl rfl rfl (by decide)<|aP rfl rfl rfl (by decide)<|an (bp rfl rfl)<|an (aa rfl)<| ?_
     refine aP rfl rfl rfl (by decide)<|aP rfl rfl rfl (by decide)<|aP rfl rfl rfl (by decide)<|aP rfl rfl rfl (by decide)<|aP rfl rfl rfl (by decide)<|aP rfl rfl rfl (by decide)<|aP rfl rfl rfl (by decide)<|aP rfl rfl rfl (by decide)<|aP rfl rfl rfl (by decide)<|aP rfl rfl rfl (by decide)<|aP rfl rfl rfl (by decide)<|aP rfl rfl rfl (by decide)<|aP rfl rfl rfl (by decide)<|aP rfl rfl rfl (by decide)<|aP rfl rfl rfl (by decide)<|an (bp rfl rfl)<|bq<|al (ρ' :=[(52,_),(7,_),(23,_),(6,_),(15,_),(5,_),(4,_),(0,_),(1,_)]) ⟨rfl,rfl,rfl,rfl,rfl,rfl,rfl,rfl,rfl,trivial⟩<|ag<| ?_
     refine di rfl (rfl) ?_
     refine bP<|au<|au<|aC<|ag<|ah<|aj<|hy (fun _=>aa rfl)<|hy (fun _=>cW rfl rfl)<|hy (fun _=>aa rfl)<| ?_
     have hL2:j=lA l i (i-(q+1)):=(by rw[←hL,kQ (fun e=>g1 (by omega))])
     subst hL2
     refine fo 57 rfl (fun h3=> ?_) (fun h3=> ?_)
     ·refine cx (o:=_) rfl rfl rfl (fun _=>aa rfl)<|cx (o:=_) rfl rfl rfl (fun _=>aD rfl kO (by decide))<|cx (o:=_) rfl rfl rfl (fun m=>ar rfl eY (ax (m.aT 0 rfl) rfl))<|cx (o:=_) rfl rfl rfl (fun _=>cW rfl rfl)<|hy (fun _=>bE rfl rfl)<|ai<|al (ρ' :=[(62,_),(52,_),(7,_),(23,_),(6,_),(15,_),(5,_),(4,_),(0,_),(1,_)]) ⟨rfl,rfl,rfl,rfl,rfl,rfl,rfl,rfl,rfl,rfl,trivial⟩<|ag<| ?_
      refine cL rfl (fun h4=> ?_) (fun h4=> ?_)
      ·refine aj<|hy (fun _=>aa rfl)<|hy (fun _=>aa rfl)<|hy (fun _=>cM p7 rfl rfl (by kernel_rfl) (.cons (o:=0) (sz:=1) (by kernel_rfl) rfl rfl (Nat.le_of_ble_eq_true rfl) (.cons (o:=1) (sz:=1) (by kernel_rfl) rfl rfl (Nat.le_of_ble_eq_true rfl) .nil)))<| ?_
       refine cI (aI 0 rfl rfl rfl lx rfl (m7 (s:=(lA l i (i-(q+1)),q+1))) rfl ?_)
       have hst:mv (lA l i (i-(q+1)),q+1)=mv (cw l i (q+1)):=by
        rw[dM]
        unfold gI
        rw[if_pos ⟨by omega,by omega⟩]
       refine aL (fun w m=>m.bM 0 rfl (show _=aG g5 298 (mv (cw l i (q+1)))from congrArg (aG g5 _) hst)) ?_
       refine ai<|al (ρ' :=[(62,_),(52,_),(7,_),(23,_),(6,_),(15,_),(5,_),(4,_),(0,_),(1,_)]) ⟨rfl,rfl,rfl,rfl,rfl,rfl,rfl,rfl,rfl,rfl,trivial⟩<|ak (X' :=[_,_]) (S' :=[_]) (fun _ m=>m)<|aQ<|ag<|aj<|hy (fun _=>aa rfl)<|hy (fun _=>aJ rfl rfl (bA (by omega) (by omega)))<|hy (fun _=>ab rfl)<|ai<|al (ρ' :=[(6,_),(62,_),(52,_),(7,_),(23,_),(15,_),(5,_),(4,_),(0,_),(1,_)]) ⟨rfl,rfl,rfl,rfl,rfl,rfl,rfl,rfl,rfl,rfl,trivial⟩<| ?_
       refine cZ (q+1) ⟨rfl,rfl,rfl,rfl,rfl,rfl,trivial⟩ [0,0] rfl [0] rfl ((by omega)) (by omega)
      ·have hst:mv (cw l i q)=mv (cw l i (q+1)):=by
        rw[dM]
        unfold gI
        rw[if_neg (fun h=>by omega)]
       refine aB<|aQ<|ag<|aj<|hy (fun _=>aa rfl)<|hy (fun _=>aJ rfl rfl (bA (by omega) (by omega)))<|hy (fun _=>ab rfl)<|ai<|al (ρ' :=[(6,_),(62,_),(52,_),(7,_),(23,_),(15,_),(5,_),(4,_),(0,_),(1,_)]) ⟨rfl,rfl,rfl,rfl,rfl,rfl,rfl,rfl,rfl,rfl,trivial⟩<| ?_
       refine ak (fun w m=>m.bM 0 rfl (show _=aG g5 298 (mv (cw l i (q+1)))from congrArg (aG g5 _) hst)) ?_
       refine cZ (q+1) ⟨rfl,rfl,rfl,rfl,rfl,rfl,trivial⟩ [0,0] rfl [0] rfl ((by omega)) (by omega)
     ·have hst:mv (cw l i q)=mv (cw l i (q+1)):=by
       rw[dM]
       unfold gI
       rw[if_neg (fun h=>by omega)]
      refine bg rfl rfl rfl (by decide)<|bg rfl rfl rfl (by decide)<|bg rfl rfl rfl (by decide)<|bg rfl rfl rfl (by decide)<|hy (fun _=>bp rfl rfl)<|ai<|al (ρ' :=[(62,_),(52,_),(7,_),(23,_),(6,_),(15,_),(5,_),(4,_),(0,_),(1,_)]) ⟨rfl,rfl,rfl,rfl,rfl,rfl,rfl,rfl,rfl,rfl,trivial⟩<|ag<| ?_
      refine di rfl (rfl) ?_
      refine aB<|aQ<|ag<|aj<|hy (fun _=>aa rfl)<|hy (fun _=>aJ rfl rfl (bA (by omega) (by omega)))<|hy (fun _=>ab rfl)<|ai<|al (ρ' :=[(6,_),(62,_),(52,_),(7,_),(23,_),(15,_),(5,_),(4,_),(0,_),(1,_)]) ⟨rfl,rfl,rfl,rfl,rfl,rfl,rfl,rfl,rfl,rfl,trivial⟩<| ?_
      refine ak (fun w m=>m.bM 0 rfl (show _=aG g5 298 (mv (cw l i (q+1)))from congrArg (aG g5 _) hst)) ?_
      refine cZ (q+1) ⟨rfl,rfl,rfl,rfl,rfl,rfl,trivial⟩ [0,0] rfl [0] rfl ((by omega)) (by omega)
   ·have hq:q=min i 1024:=by omega
    subst hq
    refine bP<|au<|au<|aC<|ag<|ah<|aj<|hy (fun m=>aX rfl uX lx rfl ((m.aT 0 rfl).ay))<| ?_
    refine cI (aI 1 rfl rfl rfl lx rfl m7 rfl ?_)
    refine ai<|al (ρ' :=[(23,_),(6,_),(15,_),(5,_),(4,_),(0,_),(1,_)]) ⟨rfl,rfl,rfl,rfl,rfl,rfl,rfl,trivial⟩<|ak (X' :=[_,_]) (S' :=[_]) (fun _ m=>m)<|ag<|aU<| ?_
    exact fC trivial rfl rfl uX lx rfl (fun m=>(m.aT 0 rfl).ay) [] rfl [] rfl ⟨rfl,rfl,rfl⟩
  ·refine bg rfl rfl rfl (by decide)<|bg rfl rfl rfl (by decide)<|hy (fun _=>bp rfl rfl)<|ai<|al (ρ' :=[(23,_),(6,_),(15,_),(5,_),(4,_),(0,_),(1,_)]) ⟨rfl,rfl,rfl,rfl,rfl,rfl,rfl,trivial⟩<|ag<| ?_
   refine di rfl (rfl) ?_
   have hq:q=min i 1024:=by omega
   subst hq
   refine bP<|au<|au<|aC<|ag<|ah<|aj<|hy (fun m=>aX rfl uX lx rfl ((m.aT 0 rfl).ay))<| ?_
   refine cI (aI 1 rfl rfl rfl lx rfl m7 rfl ?_)
   refine ai<|al (ρ' :=[(23,_),(6,_),(15,_),(5,_),(4,_),(0,_),(1,_)]) ⟨rfl,rfl,rfl,rfl,rfl,rfl,rfl,trivial⟩<|ak (X' :=[_,_]) (S' :=[_]) (fun _ m=>m)<|ag<|aU<| ?_
   exact fC trivial rfl rfl uX lx rfl (fun m=>(m.aT 0 rfl).ay) [] rfl [] rfl ⟨rfl,rfl,rfl⟩
theorem Be{A:Option Addr}{n c:Nat}{l:List UInt8}(hc:n≤c)(hn:n≤500000000)(hl:l.length=n):cj Tryz.prog 219 [.slice A n c] [] [dr 1 A n (aZ l)] (fun v_ X_ S_=>∃v,v_=v∧X_=[aH 5 1 v (eC l).length (aZ (eC l))]∧S_=[]):=by
 refine aO (N:=31) Tryz.func219 rfl rfl (by simp) fun b=> ?_
 refine ba (fun m=>gK (m.rd 0 rfl)) ?_
 rintro⟨hl_r,hA_r⟩
 refine ah<|aj<|hy (fun _=>ab rfl)<|ai<|ag<|ah<|aj<|hy (fun _=>ab rfl)<|ai<|ag<|ah<|ah<|aj<|hy (fun _=>ab rfl)<|ai<|ag<|aN<| ?_
 refine bu (fun w m=>m.dx (r' :=aH 5 1 (.slice none 0 0) 0 []) (.refl _ _) (Own.nil _ _ _ _) (fun k hk=>hk.elim)) ?_
 refine lH (fun i o A3 c3=>n-i) (fun i o A3 c3=>[(3,.slice A3 o.length c3),(4,.int .i64 (i:Nat))]) (fun i o A3 c3=>[aH 5 1 (.slice A3 o.length c3) o.length (aZ o)]) (fun i o A3 c3=>[]) (fun i o A3 c3=>i≤n+128∧o.length≤2*i∧o++eC (l.drop i)=eC l) 0 [] none 0 [(2,_),(0,_)] ⟨rfl,rfl,trivial⟩ [0] rfl [] rfl (⟨by omega,by decide,rfl⟩) ⟨rfl,rfl,trivial⟩ (fun i o A3 c3 ⟨hin,hon,hE⟩=> ?_)
 refine ah<|ah<|aj<|hy (fun _=>aa rfl)<|hy (fun _=>aa rfl)<|hy (fun _=>aR rfl Tryz.underlying27)<|hy (fun _=>br rfl rfl)<|ai<|al (ρ' :=[(9,_),(3,_),(4,_),(2,_),(0,_)]) ⟨rfl,rfl,rfl,rfl,rfl,trivial⟩<|ag<| ?_
 refine cL rfl (fun hi=> ?_) (fun hi=> ?_)
 ·obtain⟨k,hk⟩:∃k,k=min (n-i) 128:=⟨_,rfl⟩
  have hki:1≤k∧k≤128∧i+k≤n:=by omega
  have hdl:(l.drop i).length=n-i:=by rw[List.length_drop,hl]
  have hne:l.drop i≠ []:=fun e=>by rw[e]at hdl;simp at hdl;omega
  have htk:(l.drop i).take 128=(l.drop i).take k:=by
   rcases Nat.lt_or_ge (n-i) 128 with h|h
   ·rw[List.take_of_length_le (by omega),List.take_of_length_le (by omega)]
   ·rw[show k=128 by omega]
  rw[kK hne,hdl,←hk,htk,List.drop_drop]at hE
  refine bu (fun w m=>m.gX 0 rfl (View.sub (n:=n) (c:=c) (k:=i) (m:=k) (by omega) (by omega))) ?_
  refine ba (fun m=>gK (m.rd 0 rfl)) ?_
  rintro⟨hl_p,hA_p⟩
  refine aB<|ag<|ah<|aN<|ah<|aj<|hy (fun _=>aa rfl)<|hy (fun _=>aa rfl)<|hy (fun _=>aa rfl)<|hy (fun _=>aJ rfl rfl (bA (by omega) (by omega)))<|hy (fun _=>aa rfl)<|hy (fun _=>aR rfl Tryz.underlying27)<|hy (fun _=>yV (ln rfl rfl) ((show Value.int .i64 _= .int .i64 ((i+k:Nat):Int) by congr 1;omega)))<|hy (fun _=>yV (eH rfl rfl rfl Tryz.underlying27 eg rfl rfl (by omega) (by omega)) ((show Value.slice (if c=i then A else A.map (·.add (i*1))) (i+k-i) (c-i)= .slice (if c=i then A else A.map (·.add (i*1))) k (c-i) by congr 1;omega)))<|hy (fun _=>ab rfl)<|ai<|al (ρ' :=[(5,_),(9,_),(3,_),(4,_),(2,_),(0,_)]) ⟨rfl,rfl,rfl,rfl,rfl,rfl,trivial⟩<|ag<|ah<|aj<|hy (fun _=>aa rfl)<|hy (fun _=>aa rfl)<|hy (fun _=>aR rfl Tryz.underlying27)<|hy (fun _=>yV (cm rfl rfl (bA (by omega) (by omega))) ((show Value.int .i64 ((k:Int)-1)= .int .i64 ((k-1:Nat):Int) by congr 1;omega)))<|hy (fun _=>yV (bU rfl Tryz.underlying3 Tryz.underlying5 (gV _)) ((show Value.int .u8 _=B8 (UInt8.ofNat (k-1))from rfl)))<| ?_
  refine hx (b8 Tryz.underlying27 eO rfl rfl rfl (by simp[Value.cells,B8]) (by decide) (by decide) (fun g25=> ?_))
  have hA_b25:0<1→(some (⟨g25,0,none⟩:Addr))≠none:=fun _ h=>by cases h
  refine aL (fun w m=>m.bM 0 rfl (show _=aH 5 1 (.slice (some ⟨g25,0,none⟩) 1 1) 1 (aZ [UInt8.ofNat (k-1)])from rfl)) ?_
  refine hx (bB 1 rfl rfl rfl Tryz.underlying27 Tryz.underlying27 (by exact .inl rfl) eO rfl (fun m=>Src.bT (m.ord 0 rfl)) aY (by unfold maxLen;omega) (by omega) (fun u=> ?_))
  refine az (fun m=>(m.own 0 rfl).slice) ?_
  rintro⟨A_x,c_x,rfl,hc_x⟩
  refine az (fun m=>(m.ord 0 rfl).2.1) fun hA_x=> ?_
  refine hy (fun _=>ab rfl)<|ai<|al (ρ' :=[(3,_),(5,_),(9,_),(4,_),(2,_),(0,_)]) ⟨rfl,rfl,rfl,rfl,rfl,rfl,trivial⟩<|ak (X' :=[_,_]) (S' :=[_,_]) (fun _ m=>m)<|ag<|aj<|hy (fun _=>aa rfl)<|hy (fun _=>aa rfl)<| ?_
  refine hx (bB 0 rfl rfl rfl Tryz.underlying27 Tryz.underlying27 (by exact .inl rfl) eO rfl (fun m=>Src.bT (m.rd 0 rfl)) aY (by unfold maxLen;omega) (by omega) (fun u2=> ?_))
  refine az (fun m=>(m.own 0 rfl).slice) ?_
  rintro⟨A_x2,c_x2,rfl,hc_x⟩
  refine az (fun m=>(m.ord 0 rfl).2.1) fun hA_x=> ?_
  refine hy (fun _=>ab rfl)<|ai<|al (ρ' :=[(3,_),(5,_),(9,_),(4,_),(2,_),(0,_)]) ⟨rfl,rfl,rfl,rfl,rfl,rfl,trivial⟩<|ak (X' :=[_,_]) (S' :=[_,_]) (fun _ m=>m)<|aQ<|ag<|aj<|hy (fun _=>aa rfl)<|hy (fun _=>aJ rfl rfl (bA (by omega) (by omega)))<|hy (fun _=>ab rfl)<|ai<|al (ρ' :=[(4,_),(3,_),(5,_),(9,_),(2,_),(0,_)]) ⟨rfl,rfl,rfl,rfl,rfl,rfl,trivial⟩<| ?_
  have hol:o.length+1+k=(o++(UInt8.ofNat (k-1)::(l.drop i).take k)).length:=by simp;omega
  rw[hol]
  refine ak (fun w m=>m.bM 0 rfl (show _=aH 5 1 (.slice A_x2 (o++(UInt8.ofNat (k-1)::(l.drop i).take k)).length c_x2) (o++(UInt8.ofNat (k-1)::(l.drop i).take k)).length (aZ (o++(UInt8.ofNat (k-1)::(l.drop i).take k)))from congrArg (aH _ _ _ _) (show aZ o++aZ [UInt8.ofNat (k-1)]++aZ ((l.drop i).take k)=_ by rw[←bD,←bD,List.append_assoc];rfl))) ?_
  refine fZ (i+128) (o++(UInt8.ofNat (k-1)::(l.drop i).take k)) _ _ ⟨rfl,rfl,rfl,rfl,trivial⟩ [0] rfl [1] rfl (⟨by omega,by rw[←hol];omega,by rw[←hE];simp⟩) (by omega)
 ·rw[List.drop_of_length_le (by omega),lS,List.append_nil]at hE
  subst hE
  refine bP<|au<|au<|aC<|ag<|ah<|aj<|hy (fun _=>aa rfl)<|hy (fun _=>ab rfl)<|ai<|al (ρ' :=[(2,_),(9,_),(3,_),(4,_),(0,_)]) ⟨rfl,rfl,rfl,rfl,rfl,trivial⟩<|ag<|aU<| ?_
  exact bc trivial rfl rfl [0] rfl [] rfl ⟨_,rfl,rfl,rfl⟩
theorem BV{A:Option Addr}{n c:Nat}{l:List UInt8}(hc:n≤c)(hn:n≤500000000)(hl:l.length=n):cj Tryz.prog 159 [.slice A n c] [] [dr 1 A n (aZ l)] (fun v_ X_ S_=>∃v,v_=v∧X_=[aH 5 1 v (eF l).length (aZ (eF l))]∧S_=[]):=by
 refine aO (N:=54) Tryz.func159 rfl rfl (by simp) fun b=> ?_
 refine ba (fun m=>gK (m.rd 0 rfl)) ?_
 rintro⟨hl_r,hA_r⟩
 refine ah<|aj<|hy (fun _=>ab rfl)<|ai<|ag<|ah<|aj<|hy (fun _=>ab rfl)<|ai<|ag<|ah<|aj<|hy (fun _=>ab rfl)<|ai<|ag<|ah<|aj<|hy (fun _=>ab rfl)<|ai<|ag<|ah<|aN<| ?_
 refine bu (fun w m=>m.dx (r' :=aH 5 1 (.slice none 0 0) 0 []) (.refl _ _) (Own.nil _ _ _ _) (fun k hk=>hk.elim)) ?_
 refine rA (fun i f o A3 c3=>n-i) (fun i f o A3 c3=>[(3,.slice A3 o.length c3),(4,.int .i64 (f:Nat)),(5,.int .i64 (i:Nat))]) (fun i f o A3 c3=>[aH 5 1 (.slice A3 o.length c3) o.length (aZ o)]) (fun i f o A3 c3=>[]) (fun i f o A3 c3=>i≤n∧f≤i∧o.length+2*(i-f)≤2*i∧gD l i ((l.drop f).take (i-f)) o=eF l) 0 0 [] none 0 [(2,_),(0,_)] ⟨rfl,rfl,trivial⟩ [0] rfl [] rfl (⟨by omega,by decide,by decide,rfl⟩) ⟨rfl,rfl,rfl,trivial⟩ (fun i f o A3 c3 ⟨hin,hfi,hon,hE⟩=> ?_)
 have hown:((l.drop f).take (i-f)).length=i-f:=by rw[List.length_take,List.length_drop];omega
 refine ah<|ah<|aj<|hy (fun _=>aa rfl)<|hy (fun _=>aa rfl)<|hy (fun _=>aR rfl Tryz.underlying27)<|hy (fun _=>br rfl rfl)<|ai<|al (ρ' :=[(10,_),(3,_),(4,_),(5,_),(2,_),(0,_)]) ⟨rfl,rfl,rfl,rfl,rfl,rfl,trivial⟩<|ag<| ?_
 refine cL rfl (fun hi=> ?_) (fun hi=> ?_)
 ·refine aB<|ag<|aN<|ah<|aj<|hy (fun _=>aa rfl)<|hy (fun _=>aa rfl)<| ?_
  refine hx (ao rfl Tryz.call218 (zb (by omega) hl (by omega)) [] rfl [0] rfl ?_)
  rintro _ _ _ ⟨rfl,rfl,rfl⟩
  refine hx (aM p7 (fun g6=> ?_))
  refine cI (aI 0 rfl rfl rfl lx rfl m7 rfl ?_)
  refine ai<|al (ρ' :=[(6,_),(10,_),(3,_),(4,_),(5,_),(2,_),(0,_)]) ⟨rfl,rfl,rfl,rfl,rfl,rfl,rfl,trivial⟩<|ak (X' :=[_,_]) (S' :=[_]) (fun _ m=>m)<|ag<|ah<|ah<|aj<|hy (fun _=>aD rfl kO (by decide))<|hy (fun m=>ar rfl eY (ax (m.aT 0 rfl) rfl))<|hy (fun _=>b7 rfl rfl)<|ai<|al (ρ' :=[(16,_),(6,_),(10,_),(3,_),(4,_),(5,_),(2,_),(0,_)]) ⟨rfl,rfl,rfl,rfl,rfl,rfl,rfl,rfl,trivial⟩<|ag<| ?_
  refine cL rfl (fun h0=> ?_) (fun h0=> ?_)
  ·rw[kY (by omega) (by omega)]at hE
   have hsn:(l.drop f).take (i-f)++[l.getD i 0]=(l.drop f).take (i+1-f):=by
    rw[show i+1-f=(i-f)+1 by omega,dX (by rw[List.length_drop];omega)]
    congr 2
    simp only[List.getD,List.getElem?_drop]
    rw[show f+(i-f)=i by omega]
   rw[hsn]at hE
   refine ah<|aj<|hy (fun _=>aa rfl)<|hy (fun _=>aJ rfl rfl (bA (by omega) (by omega)))<|hy (fun _=>ab rfl)<|ai<|al (ρ' :=[(5,_),(16,_),(6,_),(10,_),(3,_),(4,_),(2,_),(0,_)]) ⟨rfl,rfl,rfl,rfl,rfl,rfl,rfl,rfl,trivial⟩<|ag<|bP<|au<|aC<| ?_
   refine ix (i+1) f o A3 c3 ⟨rfl,rfl,rfl,rfl,rfl,trivial⟩ [1] rfl [0] rfl (⟨by omega,by omega,by omega,hE⟩) (by omega)
  ·have hm:=k0 (b:=l) (i:=i) (by omega)
   rw[iT (by omega) (by omega)]at hE
   obtain⟨m1,m2,m3,m4,m5,m6⟩:=hm.resolve_left (fun e=>h0 (by rw[e];rfl))
   have hll:=fx ((l.drop f).take (i-f))
   refine bu (fun w m=>m.gX 0 rfl (View.sub (n:=n) (c:=c) (k:=f) (m:=i-f) (by omega) (by omega))) ?_
   refine ba (fun m=>gK (m.rd 0 rfl)) ?_
   rintro⟨hl_p,hA_p⟩
   refine aB<|ag<|ah<|aj<|hy (fun _=>aa rfl)<|hy (fun _=>aa rfl)<|hy (fun _=>aa rfl)<|hy (fun _=>aa rfl)<|hy (fun _=>eH rfl rfl rfl Tryz.underlying27 eg rfl rfl (by omega) (by omega))<| ?_
   refine hx (ao rfl Tryz.call219 (Be (by omega) (by omega) hown) [] rfl [0] rfl ?_)
   rintro _ _ _ ⟨v,rfl,rfl,rfl⟩
   refine az (fun m=>(m.own 0 rfl).slice) ?_
   rintro⟨A_x2,c_x2,rfl,hc_x2⟩
   refine az (fun m=>(m.ord 0 rfl).2.1) fun hA_x2=> ?_
   refine hx (bB 2 rfl rfl rfl Tryz.underlying27 Tryz.underlying27 (by exact .inl rfl) eO rfl (fun m=>Src.bT (m.ord 0 rfl)) aY (by unfold maxLen;omega) (by omega) (fun u=> ?_))
   refine az (fun m=>(m.own 0 rfl).slice) ?_
   rintro⟨A_x,c_x,rfl,hc_x⟩
   refine az (fun m=>(m.ord 0 rfl).2.1) fun hA_x=> ?_
   generalize hLL:eC ((l.drop f).take (i-f))=L at hE hll ⊢
   refine hy (fun _=>ab rfl)<|ai<|al (ρ' :=[(3,_),(16,_),(6,_),(10,_),(4,_),(5,_),(2,_),(0,_)]) ⟨rfl,rfl,rfl,rfl,rfl,rfl,rfl,rfl,trivial⟩<|ak (X' :=[_,_,_]) (S' :=[_,_]) (fun _ m=>m)<|ag<|ah<|aj<|hy (fun _=>aa rfl)<|hy (fun _=>aD rfl kO (by decide))<|hy (fun m=>ar rfl eY (ax (m.aT 2 rfl) rfl))<|hy (fun _=>yV (aJ rfl rfl (bA (by omega) (by omega))) ((show Value.int .i64 (124+((a6 l i).1:Int))= .int .i64 ((124+(a6 l i).1:Nat):Int) by congr 1)))<|hy (fun _=>yV (bU rfl Tryz.underlying3 Tryz.underlying5 (gV _)) ((show Value.int .u8 _=B8 (UInt8.ofNat (124+(a6 l i).1))from rfl)))<|hy (fun _=>aD rfl ui (by decide))<|hy (fun m=>ar rfl eY (ax (m.aT 2 rfl) rfl))<|hy (fun _=>yV (cm rfl rfl (bA (by omega) (by omega))) ((show Value.int .i64 (((a6 l i).2:Int)-1)= .int .i64 (((a6 l i).2-1:Nat):Int) by congr 1;omega)))<|hy (fun _=>yV (gC rfl rfl (by omega) (by omega)) ((show Value.int .i64 ((((a6 l i).2-1:Nat):Int) % 256)= .int .i64 ((((a6 l i).2-1) % 256:Nat):Int) by congr 1)))<|hy (fun _=>yV (bU rfl Tryz.underlying3 Tryz.underlying5 (gV _)) ((show Value.int .u8 _=B8 (UInt8.ofNat (((a6 l i).2-1) % 256))from rfl)))<|hy (fun _=>aD rfl ui (by decide))<|hy (fun m=>ar rfl eY (ax (m.aT 2 rfl) rfl))<|hy (fun _=>yV (cm rfl rfl (bA (by omega) (by omega))) ((show Value.int .i64 (((a6 l i).2:Int)-1)= .int .i64 (((a6 l i).2-1:Nat):Int) by congr 1;omega)))<|hy (fun _=>yV (iI rfl rfl (by omega) (by omega) (bA (by omega) (by omega))) ((show Value.int .i64 ((((a6 l i).2-1:Nat):Int)/256)= .int .i64 ((((a6 l i).2-1)/256:Nat):Int) by congr 1)))<|hy (fun _=>yV (bU rfl Tryz.underlying3 Tryz.underlying5 (gV _)) ((show Value.int .u8 _=B8 (UInt8.ofNat (((a6 l i).2-1)/256))from rfl)))<| ?_
   refine hx (b8 Tryz.underlying27 eO rfl rfl rfl (by simp[Value.cells,B8]) (by decide) (by decide) (fun g41=> ?_))
   have hA_b41:0<3→(some (⟨g41,0,none⟩:Addr))≠none:=fun _ h=>by cases h
   have htm:[UInt8.ofNat (124+(a6 l i).1),UInt8.ofNat (((a6 l i).2-1) % 256),UInt8.ofNat (((a6 l i).2-1)/256)]=fU (a6 l i):=by
    unfold fU
    congr 2
    exact UInt8.toNat_inj.1 (by rw[UInt8.toNat_ofNat',UInt8.toNat_ofNat'];omega)
   refine aL (fun w m=>m.bM 0 rfl (show _=aH 5 1 (.slice (some ⟨g41,0,none⟩) 3 3) 3 (aZ (fU (a6 l i)))from congrArg (aH _ _ _ _) (show aZ [UInt8.ofNat (124+(a6 l i).1),UInt8.ofNat (((a6 l i).2-1) % 256),UInt8.ofNat (((a6 l i).2-1)/256)]=_ by rw[htm]))) ?_
   refine hx (bB 1 rfl rfl rfl Tryz.underlying27 Tryz.underlying27 (by exact .inl rfl) eO rfl (fun m=>Src.bT (m.ord 0 rfl)) aY (by unfold maxLen;omega) (by omega) (fun u2=> ?_))
   refine az (fun m=>(m.own 0 rfl).slice) ?_
   rintro⟨A_x3,c_x3,rfl,hc_x⟩
   refine az (fun m=>(m.ord 0 rfl).2.1) fun hA_x=> ?_
   refine hy (fun _=>ab rfl)<|ai<|al (ρ' :=[(3,_),(16,_),(6,_),(10,_),(4,_),(5,_),(2,_),(0,_)]) ⟨rfl,rfl,rfl,rfl,rfl,rfl,rfl,rfl,trivial⟩<|ak (X' :=[_,_,_,_]) (S' :=[_,_]) (fun _ m=>m)<|ag<|ah<|aj<|hy (fun _=>aa rfl)<|hy (fun _=>aD rfl kO (by decide))<|hy (fun m=>ar rfl eY (ax (m.aT 3 rfl) rfl))<|hy (fun _=>yV (aJ rfl rfl (bA (by omega) (by omega))) ((show Value.int .i64 ((i:Int)+((a6 l i).1:Int))= .int .i64 ((i+(a6 l i).1:Nat):Int) by congr 1)))<|hy (fun _=>ab rfl)<|ai<|al (ρ' :=[(5,_),(3,_),(16,_),(6,_),(10,_),(4,_),(2,_),(0,_)]) ⟨rfl,rfl,rfl,rfl,rfl,rfl,rfl,rfl,trivial⟩<|ag<|aj<|hy (fun _=>aa rfl)<|hy (fun _=>ab rfl)<|ai<|al (ρ' :=[(4,_),(5,_),(3,_),(16,_),(6,_),(10,_),(2,_),(0,_)]) ⟨rfl,rfl,rfl,rfl,rfl,rfl,rfl,rfl,trivial⟩<|aQ<| ?_
   have hol:o.length+L.length+3=(o++L++fU (a6 l i)).length:=by simp[fU];omega
   rw[hol]
   refine ak (fun w m=>m.bM 0 rfl (show _=aH 5 1 (.slice A_x3 (o++L++fU (a6 l i)).length c_x3) (o++L++fU (a6 l i)).length (aZ (o++L++fU (a6 l i)))from congrArg (aH _ _ _ _) (show aZ o++aZ L++aZ (fU (a6 l i))=aZ (o++L++fU (a6 l i)) by rw[bD,bD]))) ?_
   have hE2:gD l (i+(a6 l i).1) ((l.drop (i+(a6 l i).1)).take (i+(a6 l i).1-(i+(a6 l i).1))) (o++L++fU (a6 l i))=eF l:=by rw[Nat.sub_self,List.take_zero];exact hE
   refine ix (i+(a6 l i).1) (i+(a6 l i).1) (o++L++fU (a6 l i)) _ _ ⟨rfl,rfl,rfl,rfl,rfl,trivial⟩ [0] rfl [1] rfl (⟨by omega,Nat.le_refl _,by rw[←hol];omega,hE2⟩) (by omega)
 ·obtain rfl:i=n:=by omega
  rw[kL (by omega),List.take_of_length_le (by rw[List.length_drop];omega)]at hE
  have hdl:(l.drop f).length=i-f:=by rw[List.length_drop];omega
  have hll:=fx (l.drop f)
  refine bu (fun w m=>m.gX 0 rfl (View.drop (n:=i) (c:=c) (k:=f) (by omega) (by omega))) ?_
  refine ba (fun m=>gK (m.rd 0 rfl)) ?_
  rintro⟨hl_p,hA_p⟩
  refine bP<|au<|au<|aC<|ag<|ah<|aj<|hy (fun _=>aa rfl)<|hy (fun _=>aa rfl)<|hy (fun _=>aa rfl)<|hy (fun _=>dQ rfl rfl Tryz.underlying27 eg rfl (by omega))<| ?_
  refine hx (ao rfl Tryz.call219 (Be (by omega) (by omega) hdl) [] rfl [0] rfl ?_)
  rintro _ _ _ ⟨v,rfl,rfl,rfl⟩
  refine az (fun m=>(m.own 0 rfl).slice) ?_
  rintro⟨A_x2,c_x2,rfl,hc_x2⟩
  refine az (fun m=>(m.ord 0 rfl).2.1) fun hA_x2=> ?_
  refine hx (bB 1 rfl rfl rfl Tryz.underlying27 Tryz.underlying27 (by exact .inl rfl) eO rfl (fun m=>Src.bT (m.ord 0 rfl)) aY (by unfold maxLen;omega) (by omega) (fun u=> ?_))
  refine az (fun m=>(m.own 0 rfl).slice) ?_
  rintro⟨A_x,c_x,rfl,hc_x⟩
  refine az (fun m=>(m.ord 0 rfl).2.1) fun hA_x=> ?_
  have hol:o.length+(eC (l.drop f)).length=(eF l).length:=by rw[←hE];simp
  rw[hol]
  refine aL (fun w m=>m.bM 0 rfl (show _=aH 5 1 (.slice A_x (eF l).length c_x) (eF l).length (aZ (eF l))from congrArg (aH _ _ _ _) (show aZ o++aZ (eC (l.drop f))=aZ (eF l) by rw[←hE,bD]))) ?_
  refine hy (fun _=>ab rfl)<|ai<|al (ρ' :=[(2,_),(10,_),(3,_),(4,_),(5,_),(0,_)]) ⟨rfl,rfl,rfl,rfl,rfl,rfl,trivial⟩<|ak (X' :=[_,_]) (S' :=[_,_]) (fun _ m=>m)<|ag<|aU<| ?_
  exact bc trivial rfl rfl [0] rfl [] rfl ⟨_,rfl,rfl,rfl⟩
end Go.Proofs.YtmibdabdlgmafaaGreatDoor
end
section
set_option maxRecDepth 20000
set_option maxHeartbeats 2000000
namespace Go.Proofs.YtmibdabdlgmafaaGreatDoor
open Go.Eng Go.Hx
theorem uh{A:Option Addr}{n c:Nat}{l:List UInt8}(hc:n≤c)(hn:n≤1000000000)(hl:l.length=n):cj Tryz.prog 161 [.slice A n c] [] [dr 1 A n (aZ l)] (fun v_ X_ S_=>∃v,v_=v∧X_=[aH 5 1 v 4 (aZ (gz (cV l)))]∧S_=[]):=by
 have e4:n+4-n=4:=by omega
 have ed:(aZ (xf l)).drop (n*1)=aZ (gz (cV l)):=by rw[Nat.mul_one,←oM,xf,List.drop_append_of_le_length (by omega),List.drop_of_length_le (by omega)];rfl
 refine aO (N:=8) Tryz.func161 rfl rfl (by simp) fun b=> ?_
 refine ba (fun m=>gK (m.rd 0 rfl)) ?_
 rintro⟨hl_r,hA_r⟩
 refine ah<|aj<|hy (fun _=>ab rfl)<|ai<|ag<|ah<|aj<|hy (fun _=>aa rfl)<| ?_
 refine hx (ao rfl Tryz.call189 (yv (by omega)) [] rfl [0] rfl ?_)
 rintro _ _ _ ⟨v,rfl,rfl,rfl⟩
 refine az (fun m=>(m.own 0 rfl).slice) ?_
 rintro⟨A_x,c_x,rfl,hc_x⟩
 refine az (fun m=>(m.ord 0 rfl).2.1) fun hA_x=> ?_
 refine hy (fun _=>aa rfl)<|hy (fun _=>aR rfl Tryz.underlying27)<|hy (fun _=>yV (dQ rfl rfl Tryz.underlying27 eg rfl (by omega)) ((show Value.slice (if c_x=n then A_x else A_x.map (·.add (n*1))) (n+4-n) (c_x-n)= .slice (if c_x=n then A_x else A_x.map (·.add (n*1))) 4 (c_x-n) by congr 1)))<|hy (fun _=>ab rfl)<|ai<|al (ρ' :=[(2,_),(0,_)]) ⟨rfl,rfl,trivial⟩<|ak (X' :=[_]) (S' :=[_]) (fun _ m=>m)<|ag<|aU<| ?_
 refine ak (X' :=aH 5 1 (.slice (if c_x=n then A_x else A_x.map (·.add (n*1))) (n+4-n) (c_x-n)) (n+4-n) ((aZ (xf l)).drop (n*1))::_) (fun w m=>(m.perm (av [0] _ [_] _ rfl)).yJ (View.qH (by omega) hc_x)) ?_
 rw[e4,ed]
 exact bc trivial rfl rfl [0] rfl [] rfl ⟨_,rfl,rfl,rfl⟩
theorem yr{A:Option Addr}{n c:Nat}{l:List UInt8}(hc:n≤c)(hn:n≤100000000)(hl:l.length=n):cj Tryz.prog 81 [.slice A n c] [] [dr 1 A n (aZ l)] (fun v_ X_ S_=>∃v,v_=v∧X_=[aH 5 1 v (bI l).length (aZ (bI l))]∧S_=[]):=by
 have hpl:=mD l
 have hcl:=jk l
 refine aO (N:=30) Tryz.func81 rfl rfl (by simp) fun b=> ?_
 refine ba (fun m=>gK (m.rd 0 rfl)) ?_
 rintro⟨hl_r,hA_r⟩
 refine ah<|aj<|hy (fun _=>ab rfl)<|ai<|ag<|ah<|aj<|hy (fun _=>aa rfl)<| ?_
 refine hx (ao rfl Tryz.call159 (BV (by omega) (by omega) (by omega)) [] rfl [0] rfl ?_)
 rintro _ _ _ ⟨v,rfl,rfl,rfl⟩
 refine az (fun m=>(m.own 0 rfl).slice) ?_
 rintro⟨A_x,c_x,rfl,hc_x⟩
 refine az (fun m=>(m.ord 0 rfl).2.1) fun hA_x=> ?_
 refine hy (fun _=>ab rfl)<|ai<|al (ρ' :=[(3,_),(2,_),(0,_)]) ⟨rfl,rfl,rfl,trivial⟩<|ak (X' :=[_]) (S' :=[_]) (fun _ m=>m)<|ag<|ah<|aj<| ?_
 refine hx (b8 Tryz.underlying27 eO rfl rfl rfl (by simp[Value.cells,B8]) (by decide) (by decide) (fun g7=> ?_))
 have hA_b7:0<2→(some (⟨g7,0,none⟩:Addr))≠none:=fun _ h=>by cases h
 refine hy (fun _=>ab rfl)<|ai<|al (ρ' :=[(4,_),(3,_),(2,_),(0,_)]) ⟨rfl,rfl,rfl,rfl,trivial⟩<|ak (X' :=[_,_]) (S' :=[_]) (fun _ m=>m)<|ag<|ah<|aj<|hy (fun _=>aa rfl)<|hy (fun _=>aa rfl)<|hy (fun _=>aR rfl Tryz.underlying27)<| ?_
 refine hx (ao rfl Tryz.call160 (z6 (by omega)) [] rfl [] rfl ?_)
 rintro _ _ _ ⟨v2,rfl,rfl,rfl⟩
 refine az (fun m=>(m.own 0 rfl).slice) ?_
 rintro⟨A_x2,c_x2,rfl,hc_x2⟩
 refine az (fun m=>(m.ord 0 rfl).2.1) fun hA_x2=> ?_
 refine aL (fun w m=>m.bM 1 rfl (show _=aH 5 1 (.slice (some ⟨g7,0,none⟩) 2 2) 2 (aZ [76,0])from rfl)) ?_
 refine hx (bB 0 rfl rfl rfl Tryz.underlying27 Tryz.underlying27 (by exact .inl rfl) eO rfl (fun m=>Src.bT (m.ord 1 rfl)) aY (by unfold maxLen;omega) (by omega) (fun u=> ?_))
 refine az (fun m=>(m.own 0 rfl).slice) ?_
 rintro⟨A_b7,c_b7,rfl,hc_b7⟩
 refine az (fun m=>(m.ord 0 rfl).2.1) fun hA_b7=> ?_
 refine hy (fun _=>ab rfl)<|ai<|al (ρ' :=[(4,_),(3,_),(2,_),(0,_)]) ⟨rfl,rfl,rfl,rfl,trivial⟩<|ak (X' :=[_,_,_]) (S' :=[_]) (fun _ m=>m)<|ag<|ah<|ah<|aj<|hy (fun _=>aa rfl)<|hy (fun _=>aR rfl Tryz.underlying27)<|hy (fun _=>aa rfl)<|hy (fun _=>aR rfl Tryz.underlying27)<|hy (fun _=>br rfl rfl)<|ai<|al (ρ' :=[(17,_),(4,_),(3,_),(2,_),(0,_)]) ⟨rfl,rfl,rfl,rfl,rfl,trivial⟩<|ag<| ?_
 refine cL rfl (fun hp=> ?_) (fun hp=> ?_)
 ·have hq:bI l=[76,1]++gz l.length++eF l++gz (cV l):=by
   have:tU l=true:=by unfold tU;exact decide_eq_true (by omega)
   unfold bI iL
   rw[this];rfl
  refine ah<|aj<|hy (fun _=>aa rfl)<|hy (fun _=>aK rfl rfl Tryz.underlying27 eg hA_b7 (show((1:Nat):Int)=1 from rfl) (by omega))<| ?_
  refine cI (wy 0 rfl rfl rfl eg rfl (by omega) ?_)
  refine ai<|al (ρ' :=[(17,_),(4,_),(3,_),(2,_),(0,_)]) ⟨rfl,rfl,rfl,rfl,rfl,trivial⟩<|ak (X' :=[_,_,_]) (S' :=[_]) (fun _ m=>m)<|ag<|aj<|hy (fun _=>aa rfl)<|hy (fun _=>aa rfl)<| ?_
  refine aL (fun w m=>m.bM 0 rfl (show _=aH 5 1 (.slice A_b7 (2+4) c_b7) (2+4) (aZ ([76,1]++gz n))from rfl)) ?_
  refine hx (bB 0 rfl rfl rfl Tryz.underlying27 Tryz.underlying27 (by exact .inl rfl) eO rfl (fun m=>Src.bT (m.ord 2 rfl)) aY (by unfold maxLen;omega) (by omega) (fun u2=> ?_))
  refine az (fun m=>(m.own 0 rfl).slice) ?_
  rintro⟨A_b72,c_b72,rfl,hc_b7⟩
  refine az (fun m=>(m.ord 0 rfl).2.1) fun hA_b7=> ?_
  refine hy (fun _=>ab rfl)<|ai<|al (ρ' :=[(4,_),(17,_),(3,_),(2,_),(0,_)]) ⟨rfl,rfl,rfl,rfl,rfl,trivial⟩<|ak (X' :=[_,_,_]) (S' :=[_]) (fun _ m=>m)<|ag<|ah<|aj<|hy (fun _=>aa rfl)<|hy (fun _=>aa rfl)<| ?_
  refine hx (ao rfl Tryz.call161 (uh (by omega) (by omega) (by omega)) [] rfl [0] rfl ?_)
  rintro _ _ _ ⟨v3,rfl,rfl,rfl⟩
  refine az (fun m=>(m.own 0 rfl).slice) ?_
  rintro⟨A_x3,c_x3,rfl,hc_x3⟩
  refine az (fun m=>(m.ord 0 rfl).2.1) fun hA_x3=> ?_
  refine hx (bB 1 rfl rfl rfl Tryz.underlying27 Tryz.underlying27 (by exact .inl rfl) eO rfl (fun m=>Src.bT (m.ord 0 rfl)) aY (by unfold maxLen;omega) (by omega) (fun u3=> ?_))
  refine az (fun m=>(m.own 0 rfl).slice) ?_
  rintro⟨A_b73,c_b73,rfl,hc_b7⟩
  refine az (fun m=>(m.ord 0 rfl).2.1) fun hA_b7=> ?_
  refine hy (fun _=>ab rfl)<|ai<|al (ρ' :=[(2,_),(4,_),(17,_),(3,_),(0,_)]) ⟨rfl,rfl,rfl,rfl,rfl,trivial⟩<|ak (X' :=[_,_,_,_]) (S' :=[_]) (fun _ m=>m)<|ag<|aU<| ?_
  have hol:2+4+(eF l).length+4=(bI l).length:=by rw[hq];simp[fk,hl];try omega
  rw[hol]
  have hsl:aZ ([76,1]++gz n)++aZ (eF l)++aZ (gz (cV l))=aZ (bI l):=by rw[hq,hl,bD ([76,1]++gz n++(eF l)),bD ([76,1]++gz n)]
  rw[hsl]
  exact bc trivial rfl rfl [0] rfl [] rfl ⟨_,rfl,rfl,rfl⟩
 ·have hq:bI l=[76,0]++gz l.length++l++gz (cV l):=by
   have:tU l=false:=by unfold tU;exact decide_eq_false (by omega)
   unfold bI iL
   rw[this];rfl
  refine aj<|hy (fun _=>aa rfl)<|hy (fun _=>aa rfl)<| ?_
  refine aL (fun w m=>m.bM 0 rfl (show _=aH 5 1 (.slice A_b7 (2+4) c_b7) (2+4) (aZ ([76,0]++gz n))from rfl)) ?_
  refine hx (bB 0 rfl rfl rfl Tryz.underlying27 Tryz.underlying27 (by exact .inl rfl) eO rfl (fun m=>Src.bT (m.rd 0 rfl)) aY (by unfold maxLen;omega) (by omega) (fun u2=> ?_))
  refine az (fun m=>(m.own 0 rfl).slice) ?_
  rintro⟨A_b72,c_b72,rfl,hc_b7⟩
  refine az (fun m=>(m.ord 0 rfl).2.1) fun hA_b7=> ?_
  refine hy (fun _=>ab rfl)<|ai<|al (ρ' :=[(4,_),(17,_),(3,_),(2,_),(0,_)]) ⟨rfl,rfl,rfl,rfl,rfl,trivial⟩<|ak (X' :=[_,_,_]) (S' :=[_]) (fun _ m=>m)<|ag<|ah<|aj<|hy (fun _=>aa rfl)<|hy (fun _=>aa rfl)<| ?_
  refine hx (ao rfl Tryz.call161 (uh (by omega) (by omega) (by omega)) [] rfl [0] rfl ?_)
  rintro _ _ _ ⟨v3,rfl,rfl,rfl⟩
  refine az (fun m=>(m.own 0 rfl).slice) ?_
  rintro⟨A_x3,c_x3,rfl,hc_x3⟩
  refine az (fun m=>(m.ord 0 rfl).2.1) fun hA_x3=> ?_
  refine hx (bB 1 rfl rfl rfl Tryz.underlying27 Tryz.underlying27 (by exact .inl rfl) eO rfl (fun m=>Src.bT (m.ord 0 rfl)) aY (by unfold maxLen;omega) (by omega) (fun u3=> ?_))
  refine az (fun m=>(m.own 0 rfl).slice) ?_
  rintro⟨A_b73,c_b73,rfl,hc_b7⟩
  refine az (fun m=>(m.ord 0 rfl).2.1) fun hA_b7=> ?_
  refine hy (fun _=>ab rfl)<|ai<|al (ρ' :=[(2,_),(4,_),(17,_),(3,_),(0,_)]) ⟨rfl,rfl,rfl,rfl,rfl,trivial⟩<|ak (X' :=[_,_,_,_]) (S' :=[_]) (fun _ m=>m)<|ag<|aU<| ?_
  have hol:2+4+n+4=(bI l).length:=by rw[hq];simp[fk,hl];try omega
  rw[hol]
  have hsl:aZ ([76,0]++gz n)++aZ l++aZ (gz (cV l))=aZ (bI l):=by rw[hq,hl,bD ([76,0]++gz n++l),bD ([76,0]++gz n)]
  rw[hsl]
  exact bc trivial rfl rfl [0] rfl [] rfl ⟨_,rfl,rfl,rfl⟩
end Go.Proofs.YtmibdabdlgmafaaGreatDoor
end
section
set_option maxRecDepth 20000
set_option maxHeartbeats 4000000
namespace Go.Proofs.YtmibdabdlgmafaaGreatDoor
open Go.Eng Go.Hx
@[reducible]def EI (v:Value) (nn e:Int):List Value:=[v,.int .i64 nn,.int .i64 e]
theorem jH{A:Option Addr}{n c:Nat}{nn e:Int}:∀u∈EI (.slice A n c) nn e,u.oneCell' =true:=by
 intro u hu
 simp only[List.mem_cons,List.not_mem_nil,or_false]at hu
 rcases hu with rfl|rfl|rfl <;> rfl
theorem kW(l:List UInt8)(i j:Nat):(l.drop i).getD j 0=l.getD (i+j) 0:=by simp[List.getD,List.getElem?_drop]
theorem xK{A:Option Addr}{n c:Nat}{l:List UInt8}{z:Int}(hc:n≤c)(hn:n≤10000000)(hl:l.length=n)(hz:z≤10000000):cj Tryz.prog 217 [.slice A n c,.int .i64 z] [] [dr 1 A n (aZ l)] (fun v_ X_ S_=>∃v nn,v_=(.agg (EI v nn (jE z l []).2).toArray)∧X_=[aH 5 1 v (jE z l []).1.length (aZ (jE z l []).1)]∧S_=[]):=by
 refine aO (N:=109) Tryz.func217 rfl rfl (by simp) fun b=> ?_
 refine ba (fun m=>gK (m.rd 0 rfl)) ?_
 rintro⟨hl_r,hA_r⟩
 refine ah<|aj<| ?_
 refine hx (aM nt (fun g4=> ?_))
 refine ai<|ak (X' :=[_]) (S' :=[_]) (fun _ m=>m)<|ag<|ah<|aj<|hy (fun _=>ab rfl)<|ai<|ag<|ah<|aj<|hy (fun _=>ab rfl)<|ai<|ag<|ah<|ah<|aj<|hy (fun _=>ab rfl)<|ai<|ag<|aN<| ?_
 refine bu (fun w m=>m.dx (r' :=aH 5 1 (.slice none 0 0) 0 []) (.refl _ _) (Own.nil _ _ _ _) (fun k hk=>hk.elim)) ?_
 refine rA (fun i o nn A3 c3=>n-i) (fun i o nn A3 c3=>[(5,.slice A3 (o:List UInt8).length c3),(6,.int .i64 (nn:Nat)),(7,.int .i64 (i:Nat))]) (fun i o nn A3 c3=>[aH 5 1 (.slice A3 o.length c3) o.length (aZ o)]) (fun i o nn A3 c3=>[]) (fun i o nn A3 c3=>i≤n∧nn≤i∧o.length≤10000000∧jE z (l.drop i) o=jE z l []) 0 [] 0 none 0 [(4,_),(0,_),(1,_)] ⟨rfl,rfl,rfl,trivial⟩ [0] rfl [] rfl (⟨Nat.zero_le _,Nat.zero_le _,Nat.zero_le _,rfl⟩) ⟨rfl,rfl,rfl,trivial⟩ (fun i o nn A3 c3 ⟨hin,hni,hol,hU⟩=> ?_)
 refine ah<|ah<|aj<|hy (fun _=>aa rfl)<|hy (fun _=>aa rfl)<|hy (fun _=>aR rfl Tryz.underlying27)<|hy (fun _=>br rfl rfl)<|ai<|al (ρ' :=[(14,_),(5,_),(6,_),(7,_),(4,_),(0,_),(1,_)]) ⟨rfl,rfl,rfl,rfl,rfl,rfl,rfl,trivial⟩<|ag<| ?_
 refine cL rfl (fun hlt=> ?_) (fun hlt=> ?_)
 ·have hil:i<l.length:=by omega
  have hq0:l.drop i≠ []:=fun e=>by have:=congrArg List.length e;rw[List.length_drop]at this;simp at this;omega
  have hql:(l.drop i).length=n-i:=by rw[List.length_drop,hl]
  have hg0:(l.drop i).getD 0 0=l.getD i 0:=kW l i 0
  have hc0:=(l.getD i 0).toNat_lt
  refine aB<|ag<|ah<|aN<|ah<|aj<|hy (fun _=>aa rfl)<|hy (fun _=>aa rfl)<|hy (fun _=>aK rfl rfl Tryz.underlying27 eg hA_r rfl (by omega))<|hy (fun m=>ar rfl iN ((m.rd 0 rfl).cell (bJ (by omega))))<|hy (fun _=>bU rfl Tryz.underlying5 Tryz.underlying3 (y7 _))<|hy (fun _=>ab rfl)<|ai<|al (ρ' :=[(8,_),(14,_),(5,_),(6,_),(7,_),(4,_),(0,_),(1,_)]) ⟨rfl,rfl,rfl,rfl,rfl,rfl,rfl,rfl,trivial⟩<|ag<|ah<|ah<|aj<|hy (fun _=>aa rfl)<|hy (fun _=>br rfl rfl)<|ai<|al (ρ' :=[(23,_),(8,_),(14,_),(5,_),(6,_),(7,_),(4,_),(0,_),(1,_)]) ⟨rfl,rfl,rfl,rfl,rfl,rfl,rfl,rfl,rfl,trivial⟩<|ag<| ?_
  generalize hc8:(l.getD i 0).toNat=c8 at hc0 hg0 ⊢
  have hc8' :((l.drop i).getD 0 0).toNat=c8:=by rw[kW,Nat.add_zero,hc8]
  refine cL rfl (fun h128=> ?_) (fun h128=> ?_)
  ·have ht:cO (l.drop i)=(c8+2,c8+1,0,decide (c8+2≤n-i)):=by
    unfold cO;rw[hc8',if_pos (by omega),hql]
   refine ah<|ah<|aj<|hy (fun _=>aa rfl)<|hy (fun _=>aa rfl)<|hy (fun _=>aJ rfl rfl (bA (by omega) (by omega)))<|hy (fun _=>aJ rfl rfl (bA (by omega) (by omega)))<|hy (fun _=>aa rfl)<|hy (fun _=>aR rfl Tryz.underlying27)<|hy (fun _=>cW rfl rfl)<|ai<|al (ρ' :=[(30,_),(23,_),(8,_),(14,_),(5,_),(6,_),(7,_),(4,_),(0,_),(1,_)]) ⟨rfl,rfl,rfl,rfl,rfl,rfl,rfl,rfl,rfl,rfl,trivial⟩<|ag<| ?_
   refine cL rfl (fun h30=> ?_) (fun h30=> ?_)
   ·rw[kU hq0 (fun h=>by rw[ht]at h;have:=of_decide_eq_true h.1;omega)]at hU
    rw[←hU]
    refine ah<|aj<|hy (fun _=>cM nt rfl rfl (by kernel_rfl) (.cons (o:=2) (sz:=1) (by kernel_rfl) rfl rfl (Nat.le_of_ble_eq_true rfl) .nil))<| ?_
    refine cI (aI 1 rfl rfl rfl jy rfl jH rfl ?_)
    refine ai<|al (ρ' :=[(30,_),(23,_),(8,_),(14,_),(5,_),(6,_),(7,_),(4,_),(0,_),(1,_)]) ⟨rfl,rfl,rfl,rfl,rfl,rfl,rfl,rfl,rfl,rfl,trivial⟩<|ak (X' :=[_,_]) (S' :=[_]) (fun _ m=>m)<|ag<|aU<|aw<|aw<|aV<|aw<|aw<|aV<|aw<| ?_
    refine ak (fun w m=>m.dx (r' :=aH 5 1 (.slice none 0 0) 0 []) (.refl _ _) (Own.nil _ _ _ _) (fun k hk=>hk.elim)) ?_
    exact fC trivial rfl rfl pS jy rfl (fun m=>(m.aT 1 rfl).ay) [0] rfl [] rfl ⟨_,_,rfl,rfl,rfl⟩
   ·have hok:(cO (l.drop i)).2.2.2=true:=by rw[ht];exact decide_eq_true (by omega)
    have hdo:(cO (l.drop i)).2.2.1≤o.length:=by rw[ht];exact Nat.zero_le _
    refine aB<|ag<|ah<|ah<|aj<|hy (fun _=>aa rfl)<|hy (fun _=>aR rfl Tryz.underlying27)<|hy (fun _=>aa rfl)<|hy (fun _=>aJ rfl rfl (bA (by omega) (by omega)))<|hy (fun _=>aJ rfl rfl (bA (by omega) (by omega)))<|hy (fun _=>aa rfl)<|hy (fun _=>cW rfl rfl)<|ai<|al (ρ' :=[(38,_),(30,_),(23,_),(8,_),(14,_),(5,_),(6,_),(7,_),(4,_),(0,_),(1,_)]) ⟨rfl,rfl,rfl,rfl,rfl,rfl,rfl,rfl,rfl,rfl,rfl,trivial⟩<|ag<| ?_
    refine cL rfl (fun h38=> ?_) (fun h38=> ?_)
    ·rw[nZ hq0 hok hdo (by rw[ht];show z<(o.length:Int)+((c8+1:Nat):Int);omega)]at hU
     rw[←hU]
     refine ah<|aj<|hy (fun _=>cM nt rfl rfl (by kernel_rfl) (.cons (o:=2) (sz:=1) (by kernel_rfl) rfl rfl (Nat.le_of_ble_eq_true rfl) .nil))<| ?_
     refine cI (aI 1 rfl rfl rfl jy rfl jH rfl ?_)
     refine ai<|al (ρ' :=[(38,_),(30,_),(23,_),(8,_),(14,_),(5,_),(6,_),(7,_),(4,_),(0,_),(1,_)]) ⟨rfl,rfl,rfl,rfl,rfl,rfl,rfl,rfl,rfl,rfl,rfl,trivial⟩<|ak (X' :=[_,_]) (S' :=[_]) (fun _ m=>m)<|ag<|aU<|aw<|aw<|aV<|aw<|aw<|aV<|aw<| ?_
     refine ak (fun w m=>m.dx (r' :=aH 5 1 (.slice none 0 0) 0 []) (.refl _ _) (Own.nil _ _ _ _) (fun k hk=>hk.elim)) ?_
     exact fC trivial rfl rfl pS jy rfl (fun m=>(m.aT 1 rfl).ay) [0] rfl [] rfl ⟨_,_,rfl,rfl,rfl⟩
    ·rw[mS hq0 hok hdo (by rw[ht];show¬z<(o.length:Int)+((c8+1:Nat):Int);omega)]at hU
     have hK:i+1+(c8+1)-(i+1)=c8+1:=by omega
     have hma:made (l.drop i) o=o++(l.drop (i+1)).take (i+1+(c8+1)-(i+1)):=by unfold made;rw[ht,hK,if_pos rfl,List.drop_drop];rfl
     rw[hma,ht,List.drop_drop]at hU
     have hpl:((l.drop (i+1)).take (i+1+(c8+1)-(i+1))).length=i+1+(c8+1)-(i+1):=by rw[List.length_take,List.length_drop];omega
     refine bu (fun w m=>m.gX 0 rfl (View.sub (n:=n) (c:=c) (k:=i+1) (m:=i+1+(c8+1)-(i+1)) (by omega) (by omega))) ?_
     refine ba (fun m=>gK (m.rd 0 rfl)) ?_
     rintro⟨hl_q,hA_q⟩
     refine aB<|ag<|ah<|aj<|hy (fun _=>aa rfl)<|hy (fun _=>aa rfl)<|hy (fun _=>aa rfl)<|hy (fun _=>aJ rfl rfl (bA (by omega) (by omega)))<|hy (fun _=>aa rfl)<|hy (fun _=>aa rfl)<|hy (fun _=>aJ rfl rfl (bA (by omega) (by omega)))<|hy (fun _=>aJ rfl rfl (bA (by omega) (by omega)))<|hy (fun _=>eH rfl rfl rfl Tryz.underlying27 eg (show((i+1:Nat):Int)=_ by omega) (show((i+1+(c8+1):Nat):Int)=_ by omega) (by omega) (by omega))<| ?_
     refine hx (bB 0 rfl rfl rfl Tryz.underlying27 Tryz.underlying27 (by exact .inl rfl) eO rfl (fun m=>Src.bT (m.rd 0 rfl)) aY (by unfold maxLen;omega) (by omega) (fun u=> ?_))
     refine az (fun m=>(m.own 0 rfl).slice) ?_
     rintro⟨A_x,c_x,rfl,hc_x⟩
     refine az (fun m=>(m.ord 0 rfl).2.1) fun hA_x=> ?_
     have hlm:o.length+(i+1+(c8+1)-(i+1))=(o++(l.drop (i+1)).take (i+1+(c8+1)-(i+1))).length:=by rw[List.length_append,hpl]
     rw[hlm]at hc_x hA_x ⊢
     refine aL (fun w m=>m.bM 0 rfl (show _=aH 5 1 (.slice A_x (o++(l.drop (i+1)).take (i+1+(c8+1)-(i+1))).length c_x) (o++(l.drop (i+1)).take (i+1+(c8+1)-(i+1))).length (aZ (o++(l.drop (i+1)).take (i+1+(c8+1)-(i+1))))from congrArg (aH _ _ _ _) (by rw[bD]))) ?_
     refine hy (fun _=>ab rfl)<|ai<|al (ρ' :=[(5,_),(38,_),(30,_),(23,_),(8,_),(14,_),(6,_),(7,_),(4,_),(0,_),(1,_)]) ⟨rfl,rfl,rfl,rfl,rfl,rfl,rfl,rfl,rfl,rfl,rfl,trivial⟩<|ak (X' :=[_,_]) (S' :=[_,_]) (fun _ m=>m)<|ag<|ah<|aj<|hy (fun _=>aa rfl)<|hy (fun _=>aa rfl)<|hy (fun _=>aJ rfl rfl (bA (by omega) (by omega)))<|hy (fun _=>yV (aJ rfl rfl (bA (by omega) (by omega))) ((show Value.int .i64 _= .int .i64 ((i+(c8+2):Nat):Int) by congr 1)))<|hy (fun _=>ab rfl)<|ai<|al (ρ' :=[(7,_),(5,_),(38,_),(30,_),(23,_),(8,_),(14,_),(6,_),(4,_),(0,_),(1,_)]) ⟨rfl,rfl,rfl,rfl,rfl,rfl,rfl,rfl,rfl,rfl,rfl,trivial⟩<|ag<|bP<|au<|aC<|ag<|aj<|hy (fun _=>aa rfl)<|hy (fun _=>aJ rfl rfl (bA (by omega) (by omega)))<|hy (fun _=>ab rfl)<|ai<|al (ρ' :=[(6,_),(7,_),(5,_),(38,_),(30,_),(23,_),(8,_),(14,_),(4,_),(0,_),(1,_)]) ⟨rfl,rfl,rfl,rfl,rfl,rfl,rfl,rfl,rfl,rfl,rfl,trivial⟩<| ?_
     refine ix (i+(c8+2)) (o++(l.drop (i+1)).take (i+1+(c8+1)-(i+1))) (nn+1) A_x c_x ⟨rfl,rfl,rfl,rfl,rfl,rfl,trivial⟩ [0,0] rfl [1] rfl (⟨by omega,by omega,by rw[←hlm];omega,hU⟩) (by omega)
  ·refine aB<|ag<|ah<|ah<|aj<|hy (fun _=>aa rfl)<|hy (fun _=>aJ rfl rfl (bA (by omega) (by omega)))<|hy (fun _=>aa rfl)<|hy (fun _=>aR rfl Tryz.underlying27)<|hy (fun _=>cW rfl rfl)<|ai<|al (ρ' :=[(58,_),(23,_),(8,_),(14,_),(5,_),(6,_),(7,_),(4,_),(0,_),(1,_)]) ⟨rfl,rfl,rfl,rfl,rfl,rfl,rfl,rfl,rfl,rfl,trivial⟩<|ag<| ?_
   refine cL rfl (fun h58=> ?_) (fun h58=> ?_)
   ·have ht:cO (l.drop i)=(0,0,0,false):=by unfold cO;rw[hc8',if_neg (by omega),if_pos (by omega)]
    rw[kU hq0 (fun h=>by rw[ht]at h;cases h.1)]at hU
    rw[←hU]
    refine ah<|aj<|hy (fun _=>cM nt rfl rfl (by kernel_rfl) (.cons (o:=2) (sz:=1) (by kernel_rfl) rfl rfl (Nat.le_of_ble_eq_true rfl) .nil))<| ?_
    refine cI (aI 1 rfl rfl rfl jy rfl jH rfl ?_)
    refine ai<|al (ρ' :=[(58,_),(23,_),(8,_),(14,_),(5,_),(6,_),(7,_),(4,_),(0,_),(1,_)]) ⟨rfl,rfl,rfl,rfl,rfl,rfl,rfl,rfl,rfl,rfl,trivial⟩<|ak (X' :=[_,_]) (S' :=[_]) (fun _ m=>m)<|ag<|aU<|aw<|aV<|aw<|aw<|aV<|aw<| ?_
    refine ak (fun w m=>m.dx (r' :=aH 5 1 (.slice none 0 0) 0 []) (.refl _ _) (Own.nil _ _ _ _) (fun k hk=>hk.elim)) ?_
    exact fC trivial rfl rfl pS jy rfl (fun m=>(m.aT 1 rfl).ay) [0] rfl [] rfl ⟨_,_,rfl,rfl,rfl⟩
   ·have ht:cO (l.drop i)=(3,c8-124,1+(l.getD (i+1) 0).toNat+256*(l.getD (i+2) 0).toNat,true):=by
     unfold cO;rw[hc8',if_neg (by omega),if_neg (by omega),kW,kW]
    have b1:=(l.getD (i+1) 0).toNat_lt
    have b2:=(l.getD (i+2) 0).toNat_lt
    have hok:(cO (l.drop i)).2.2.2=true:=by rw[ht]
    refine aB<|ag<|ah<|cK [] [(0,some 0),(1,some 0),(2,some 0),(3,some 0),(4,some 0),(5,some 0),(6,some 0),(7,some 0),(8,some 0),(9,some 0),(10,some 0),(11,some 0),(12,some 0),(13,some 0),(14,some 0),(15,some 0)] (by kernel_rfl) (by kernel_rfl) rfl 99<|an (aa rfl)<|an (aa rfl)<|an (aJ rfl rfl (bA (by omega) (by omega)))<|an (aK rfl rfl Tryz.underlying27 eg hA_r (show((i+1:Nat):Int)=_ by omega) (by omega))<|cd (fun m=>ar rfl iN ((m.rd 0 rfl).cell (bJ (by omega))))<|an (bU rfl Tryz.underlying5 Tryz.underlying3 (y7 _))<|an (aJ rfl rfl (bA (by omega) (by omega)))<|an (aa rfl)<|an (aa rfl)<|an (aJ rfl rfl (bA (by omega) (by omega)))<|an (aK rfl rfl Tryz.underlying27 eg hA_r (show((i+2:Nat):Int)=_ by omega) (by omega))<|cd (fun m=>ar rfl iN ((m.rd 0 rfl).cell (bJ (by omega))))<|an (bU rfl Tryz.underlying5 Tryz.underlying3 (y7 _))<|an (fD rfl rfl (bA (by omega) (by omega)))<|an (yV (aJ rfl rfl (bA (by omega) (by omega))) ((show Value.int .i64 ((1:Int)+((l.getD (i+1) 0).toNat:Int)+256*((l.getD (i+2) 0).toNat:Int))= .int .i64 ((1+(l.getD (i+1) 0).toNat+256*(l.getD (i+2) 0).toNat:Nat):Int) by congr 1)))<|an (ab rfl)<|bq<|al (ρ' :=[(9,_),(58,_),(23,_),(8,_),(14,_),(5,_),(6,_),(7,_),(4,_),(0,_),(1,_)]) ⟨rfl,rfl,rfl,rfl,rfl,rfl,rfl,rfl,rfl,rfl,rfl,trivial⟩<|ag<|ah<|ah<|aj<|hy (fun _=>aa rfl)<|hy (fun _=>aa rfl)<|hy (fun _=>aR rfl Tryz.underlying27)<|hy (fun _=>cW rfl rfl)<|ai<|al (ρ' :=[(78,_),(9,_),(58,_),(23,_),(8,_),(14,_),(5,_),(6,_),(7,_),(4,_),(0,_),(1,_)]) ⟨rfl,rfl,rfl,rfl,rfl,rfl,rfl,rfl,rfl,rfl,rfl,rfl,trivial⟩<|ag<| ?_
    generalize hdd:1+(l.getD (i+1) 0).toNat+256*(l.getD (i+2) 0).toNat=dd at ht ⊢
    refine cL rfl (fun h78=> ?_) (fun h78=> ?_)
    ·rw[kU hq0 (fun h=>by rw[ht]at h;have h2:dd≤o.length:=h.2;omega)]at hU
     rw[←hU]
     refine ah<|aj<|hy (fun _=>cM nt rfl rfl (by kernel_rfl) (.cons (o:=2) (sz:=1) (by kernel_rfl) rfl rfl (Nat.le_of_ble_eq_true rfl) .nil))<| ?_
     refine cI (aI 1 rfl rfl rfl jy rfl jH rfl ?_)
     refine ai<|al (ρ' :=[(78,_),(9,_),(58,_),(23,_),(8,_),(14,_),(5,_),(6,_),(7,_),(4,_),(0,_),(1,_)]) ⟨rfl,rfl,rfl,rfl,rfl,rfl,rfl,rfl,rfl,rfl,rfl,rfl,trivial⟩<|ak (X' :=[_,_]) (S' :=[_]) (fun _ m=>m)<|ag<|aU<|aw<|aV<|aw<|aw<|aV<|aw<| ?_
     refine ak (fun w m=>m.dx (r' :=aH 5 1 (.slice none 0 0) 0 []) (.refl _ _) (Own.nil _ _ _ _) (fun k hk=>hk.elim)) ?_
     exact fC trivial rfl rfl pS jy rfl (fun m=>(m.aT 1 rfl).ay) [0] rfl [] rfl ⟨_,_,rfl,rfl,rfl⟩
    ·have hdo:(cO (l.drop i)).2.2.1≤o.length:=by rw[ht];show dd≤_;omega
     refine aB<|ag<|ah<|ah<|aj<|hy (fun _=>aa rfl)<|hy (fun _=>aR rfl Tryz.underlying27)<|hy (fun _=>aa rfl)<|hy (fun _=>aJ rfl rfl (bA (by omega) (by omega)))<|hy (fun _=>cm rfl rfl (bA (by omega) (by omega)))<|hy (fun _=>aa rfl)<|hy (fun _=>cW rfl rfl)<|ai<|al (ρ' :=[(86,_),(78,_),(9,_),(58,_),(23,_),(8,_),(14,_),(5,_),(6,_),(7,_),(4,_),(0,_),(1,_)]) ⟨rfl,rfl,rfl,rfl,rfl,rfl,rfl,rfl,rfl,rfl,rfl,rfl,rfl,trivial⟩<|ag<| ?_
     refine cL rfl (fun h86=> ?_) (fun h86=> ?_)
     ·rw[nZ hq0 hok hdo (by rw[ht];show z<(o.length:Int)+((c8-124:Nat):Int);omega)]at hU
      rw[←hU]
      refine ah<|aj<|hy (fun _=>cM nt rfl rfl (by kernel_rfl) (.cons (o:=2) (sz:=1) (by kernel_rfl) rfl rfl (Nat.le_of_ble_eq_true rfl) .nil))<| ?_
      refine cI (aI 1 rfl rfl rfl jy rfl jH rfl ?_)
      refine ai<|al (ρ' :=[(86,_),(78,_),(9,_),(58,_),(23,_),(8,_),(14,_),(5,_),(6,_),(7,_),(4,_),(0,_),(1,_)]) ⟨rfl,rfl,rfl,rfl,rfl,rfl,rfl,rfl,rfl,rfl,rfl,rfl,rfl,trivial⟩<|ak (X' :=[_,_]) (S' :=[_]) (fun _ m=>m)<|ag<|aU<|aw<|aV<|aw<|aw<|aV<|aw<| ?_
      refine ak (fun w m=>m.dx (r' :=aH 5 1 (.slice none 0 0) 0 []) (.refl _ _) (Own.nil _ _ _ _) (fun k hk=>hk.elim)) ?_
      exact fC trivial rfl rfl pS jy rfl (fun m=>(m.aT 1 rfl).ay) [0] rfl [] rfl ⟨_,_,rfl,rfl,rfl⟩
     ·rw[mS hq0 hok hdo (by rw[ht];show¬z<(o.length:Int)+((c8-124:Nat):Int);omega)]at hU
      have hma:made (l.drop i) o=again dd (c8-124) o:=by unfold made;rw[ht];exact if_neg (show¬dd=0 by omega)
      rw[hma,ht,List.drop_drop]at hU
      refine aB<|ag<|ah<|ah<|aj<|hy (fun _=>ab rfl)<|ai<|ag<|aN<| ?_
      refine lH (fun k2 o2 A4 c4=>c8-124-k2) (fun k2 o2 A4 c4=>[(5,.slice A4 (o2:List UInt8).length c4),(10,.int .i64 (k2:Nat))]) (fun k2 o2 A4 c4=>[aH 5 1 (.slice A4 o2.length c4) o2.length (aZ o2)]) (fun k2 o2 A4 c4=>[]) (fun k2 o2 A4 c4=>k2≤c8-124∧o2.length=o.length+k2∧again dd (c8-124-k2) o2=again dd (c8-124) o) 0 o A3 c3 [(86,_),(78,_),(9,_),(58,_),(23,_),(8,_),(14,_),(6,_),(7,_),(4,_),(0,_),(1,_)] ⟨rfl,rfl,rfl,rfl,rfl,rfl,rfl,rfl,rfl,rfl,rfl,rfl,trivial⟩ [0] rfl [] rfl (⟨Nat.zero_le _,rfl,rfl⟩) ⟨rfl,rfl,trivial⟩ (fun k2 o2 A4 c4 ⟨hk2,ho2,hag⟩=> ?_)
      refine ah<|ah<|aj<|hy (fun _=>aa rfl)<|hy (fun _=>aa rfl)<|hy (fun _=>cm rfl rfl (bA (by omega) (by omega)))<|hy (fun _=>br rfl rfl)<|ai<|al (ρ' :=[(91,_),(5,_),(10,_),(86,_),(78,_),(9,_),(58,_),(23,_),(8,_),(14,_),(6,_),(7,_),(4,_),(0,_),(1,_)]) ⟨rfl,rfl,rfl,rfl,rfl,rfl,rfl,rfl,rfl,rfl,rfl,rfl,rfl,rfl,rfl,trivial⟩<|ag<| ?_
      refine cL rfl (fun hk=> ?_) (fun hk=> ?_)
      ·have hk3:k2<c8-124:=by omega
       have hi2:o2.length-dd<o2.length:=by omega
       have hs:again dd (c8-124-k2) o2=again dd (c8-124-(k2+1)) (o2++[o2.getD (o2.length-dd) 0]):=by
        rw[show c8-124-k2=(c8-124-(k2+1))+1 by omega];rfl
       rw[hs]at hag
       refine ba (fun m=>(m.ord 0 rfl).2.1) fun hA_x=> ?_
       refine aB<|ag<|ah<|aN<|aj<|hy (fun _=>aa rfl)<|hy (fun _=>aa rfl)<|hy (fun _=>aa rfl)<|hy (fun _=>aR rfl Tryz.underlying27)<|hy (fun _=>aa rfl)<|hy (fun _=>cm rfl rfl (bA (by omega) (by omega)))<|hy (fun _=>aK rfl rfl Tryz.underlying27 eg hA_x (show((o2.length-dd:Nat):Int)=_ by omega) (by omega))<|hy (fun m=>ar rfl iN ((m.ord 0 rfl).cell (bJ (by omega))))<| ?_
       refine hx (b8 Tryz.underlying27 eO rfl rfl rfl (by simp[Value.cells,B8]) (by decide) (by decide) (fun g102=> ?_))
       have hA_b102:0<1→(some (⟨g102,0,none⟩:Addr))≠none:=fun _ h=>by cases h
       refine aL (fun w m=>m.bM 0 rfl (show _=aH 5 1 (.slice (some ⟨g102,0,none⟩) 1 1) 1 (aZ [o2.getD (o2.length-dd) 0])from rfl)) ?_
       refine hx (bB 1 rfl rfl rfl Tryz.underlying27 Tryz.underlying27 (by exact .inl rfl) eO rfl (fun m=>Src.bT (m.ord 0 rfl)) aY (by unfold maxLen;omega) (by omega) (fun u=> ?_))
       refine az (fun m=>(m.own 0 rfl).slice) ?_
       rintro⟨A_x,c_x,rfl,hc_x⟩
       refine az (fun m=>(m.ord 0 rfl).2.1) fun hA_x=> ?_
       have hlm:o2.length+1=(o2++[o2.getD (o2.length-dd) 0]).length:=by rw[List.length_append];rfl
       rw[hlm]at hc_x hA_x ⊢
       refine aL (fun w m=>m.bM 0 rfl (show _=aH 5 1 (.slice A_x (o2++[o2.getD (o2.length-dd) 0]).length c_x) (o2++[o2.getD (o2.length-dd) 0]).length (aZ (o2++[o2.getD (o2.length-dd) 0]))from congrArg (aH _ _ _ _) (by rw[bD]))) ?_
       refine hy (fun _=>ab rfl)<|ai<|al (ρ' :=[(5,_),(91,_),(10,_),(86,_),(78,_),(9,_),(58,_),(23,_),(8,_),(14,_),(6,_),(7,_),(4,_),(0,_),(1,_)]) ⟨rfl,rfl,rfl,rfl,rfl,rfl,rfl,rfl,rfl,rfl,rfl,rfl,rfl,rfl,rfl,trivial⟩<|ak (X' :=[_,_,_]) (S' :=[_]) (fun _ m=>m)<|aQ<|ag<|aj<|hy (fun _=>aa rfl)<|hy (fun _=>aJ rfl rfl (bA (by omega) (by omega)))<|hy (fun _=>ab rfl)<|ai<|al (ρ' :=[(10,_),(5,_),(91,_),(86,_),(78,_),(9,_),(58,_),(23,_),(8,_),(14,_),(6,_),(7,_),(4,_),(0,_),(1,_)]) ⟨rfl,rfl,rfl,rfl,rfl,rfl,rfl,rfl,rfl,rfl,rfl,rfl,rfl,rfl,rfl,trivial⟩<| ?_
       refine fZ (k2+1) (o2++[o2.getD (o2.length-dd) 0]) A_x c_x ⟨rfl,rfl,rfl,rfl,rfl,rfl,rfl,rfl,rfl,rfl,rfl,rfl,rfl,rfl,trivial⟩ [0,1] rfl [0] rfl (⟨by omega,by rw[←hlm];omega,hag⟩) (by omega)
      ·obtain rfl:k2=c8-124:=by omega
       rw[Nat.sub_self]at hag
       have hag:o2=again dd (c8-124) o:=hag
       rw[←hag]at hU
       refine bP<|au<|au<|aC<|ag<|aj<|hy (fun _=>aa rfl)<|hy (fun _=>yV (aJ rfl rfl (bA (by omega) (by omega))) ((show Value.int .i64 _= .int .i64 ((i+3:Nat):Int) by congr 1)))<|hy (fun _=>ab rfl)<|ai<|al (ρ' :=[(7,_),(91,_),(5,_),(10,_),(86,_),(78,_),(9,_),(58,_),(23,_),(8,_),(14,_),(6,_),(4,_),(0,_),(1,_)]) ⟨rfl,rfl,rfl,rfl,rfl,rfl,rfl,rfl,rfl,rfl,rfl,rfl,rfl,rfl,rfl,trivial⟩<|aQ<|ag<|aj<|hy (fun _=>aa rfl)<|hy (fun _=>aJ rfl rfl (bA (by omega) (by omega)))<|hy (fun _=>ab rfl)<|ai<|al (ρ' :=[(6,_),(7,_),(91,_),(5,_),(10,_),(86,_),(78,_),(9,_),(58,_),(23,_),(8,_),(14,_),(4,_),(0,_),(1,_)]) ⟨rfl,rfl,rfl,rfl,rfl,rfl,rfl,rfl,rfl,rfl,rfl,rfl,rfl,rfl,rfl,trivial⟩<| ?_
       refine ix (i+3) o2 (nn+1) A4 c4 ⟨rfl,rfl,rfl,rfl,rfl,rfl,trivial⟩ [0,0] rfl [0] rfl (⟨by omega,by omega,by omega,hU⟩) (by omega)
 ·obtain rfl:i=n:=by omega
  rw[List.drop_of_length_le (by omega),n4]at hU
  rw[←hU]
  refine bP<|au<|au<|aC<|ag<|ah<|aj<|hy (fun _=>aa rfl)<|hy (fun _=>aa rfl)<|hy (fun _=>cM nt rfl rfl (by kernel_rfl) (.cons (o:=0) (sz:=1) (by kernel_rfl) rfl rfl (Nat.le_of_ble_eq_true rfl) (.cons (o:=1) (sz:=1) (by kernel_rfl) rfl rfl (Nat.le_of_ble_eq_true rfl) .nil)))<| ?_
  refine cI (aI 1 rfl rfl rfl jy rfl jH rfl ?_)
  refine ai<|al (ρ' :=[(14,_),(5,_),(6,_),(7,_),(4,_),(0,_),(1,_)]) ⟨rfl,rfl,rfl,rfl,rfl,rfl,rfl,trivial⟩<|ak (X' :=[_,_]) (S' :=[_]) (fun _ m=>m)<|ag<|aU<| ?_
  exact fC trivial rfl rfl pS jy rfl (fun m=>(m.aT 0 rfl).ay) [1] rfl [] rfl ⟨_,_,rfl,rfl,rfl⟩
end Go.Proofs.YtmibdabdlgmafaaGreatDoor
end
section
set_option maxRecDepth 20000
set_option maxHeartbeats 4000000
namespace Go.Proofs.YtmibdabdlgmafaaGreatDoor
open Go.Eng Go.Hx
def yj(f:List UInt8):Int:=match gP f with|none=>-1|some k=>(k:Nat)
theorem k8{f:List UInt8}(h:gP f=none):yj f=-1:=by unfold yj;rw[h]
theorem qu{f:List UInt8}{k:Nat}(h:gP f=some k):yj f=(k:Nat):=by unfold yj;rw[h]
theorem Ea{A:Option Addr}{n c:Nat}{f:List UInt8}(hl:f.length=n)(hn:n≤10000000):cj Tryz.prog 216 [.slice A n c] [] [dr 1 A n (aZ f)] (fun v_ X_ S_=>v_=(.int .i64 (yj f))∧X_=[]∧S_=[]):=by
 have hv:kb (f.drop 2)=(f.getD 2 0).toNat+256*(f.getD 3 0).toNat+65536*(f.getD 4 0).toNat+16777216*(f.getD 5 0).toNat:=by simp[kb,List.getD]
 have b0:=(f.getD 2 0).toNat_lt
 have b1:=(f.getD 3 0).toNat_lt
 have b2:=(f.getD 4 0).toNat_lt
 have b3:=(f.getD 5 0).toNat_lt
 have h76:(((f.getD 0 0).toNat:Int)≠76)↔f.getD 0 0≠76:=by
  constructor
  ·intro h e;rw[e]at h;exact h rfl
  ·intro h e;exact h (UInt8.toNat_inj.1 (by rw[show(76:UInt8).toNat=76 from rfl];omega))
 refine aO (N:=40) Tryz.func216 rfl rfl (by simp) fun b=> ?_
 refine ba (fun m=>gK (m.rd 0 rfl)) ?_
 rintro⟨hl_r,hA_r⟩
 by_cases h1:f.length<10
 ·rw[k8 (if_pos (.inl h1))]
  refine ah<|aj<|hy (fun _=>ab rfl)<|ai<|ag<|ah<|ah<|aj<|hy (fun _=>aa rfl)<|hy (fun _=>aR rfl Tryz.underlying27)<|hy (fun _=>yT (br rfl rfl) ((decide_eq_true (by omega))))<|hy (fun _=>aa rfl)<|bg rfl rfl rfl (by decide)<|bg rfl rfl rfl (by decide)<|bg rfl rfl rfl (by decide)<|bg rfl rfl rfl (by decide)<|hy (fun _=>bE rfl rfl)<|hy (fun _=>aa rfl)<|bg rfl rfl rfl (by decide)<|bg rfl rfl rfl (by decide)<|bg rfl rfl rfl (by decide)<|bg rfl rfl rfl (by decide)<|hy (fun _=>bE rfl rfl)<|ai<|al (ρ' :=[(17,_),(2,_),(0,_)]) ⟨rfl,rfl,rfl,trivial⟩<|ag<| ?_
  refine fE rfl (rfl) ?_
  refine ah<|aj<|hy (fun _=>ab rfl)<|ai<|ag<|aU<|aw<| ?_
  exact bc trivial rfl rfl [] rfl [] rfl ⟨rfl,rfl,rfl⟩
 ·by_cases h2:f.getD 0 0≠76
  ·rw[k8 (if_pos (.inr (.inl h2)))]
   refine ah<|aj<|hy (fun _=>ab rfl)<|ai<|ag<|ah<|ah<|aj<|hy (fun _=>aa rfl)<|hy (fun _=>aR rfl Tryz.underlying27)<|hy (fun _=>yF (br rfl rfl) ((decide_eq_false (by omega))))<|hy (fun _=>aa rfl)<|cx (o:=_) rfl rfl rfl (fun _=>aa rfl)<|cx (o:=_) rfl rfl rfl (fun _=>aK rfl rfl Tryz.underlying27 eg hA_r (show((0:Nat):Int)=0 from rfl) (by omega))<|cx (o:=_) rfl rfl rfl (fun m=>ar rfl iN ((m.rd 0 rfl).cell (bJ (by omega))))<|cx (o:=_) rfl rfl rfl (fun _=>yT (de rfl rfl) ((decide_eq_true (h76.2 h2))))<|hy (fun _=>bp rfl rfl)<|hy (fun _=>aa rfl)<|bg rfl rfl rfl (by decide)<|bg rfl rfl rfl (by decide)<|bg rfl rfl rfl (by decide)<|bg rfl rfl rfl (by decide)<|hy (fun _=>bE rfl rfl)<|ai<|al (ρ' :=[(17,_),(2,_),(0,_)]) ⟨rfl,rfl,rfl,trivial⟩<|ag<| ?_
   refine fE rfl (rfl) ?_
   refine ah<|aj<|hy (fun _=>ab rfl)<|ai<|ag<|aU<|aw<| ?_
   exact bc trivial rfl rfl [] rfl [] rfl ⟨rfl,rfl,rfl⟩
  ·by_cases h3:1<(f.getD 1 0).toNat
   ·rw[k8 (if_pos (.inr (.inr h3)))]
    refine ah<|aj<|hy (fun _=>ab rfl)<|ai<|ag<|ah<|ah<|aj<|hy (fun _=>aa rfl)<|hy (fun _=>aR rfl Tryz.underlying27)<|hy (fun _=>yF (br rfl rfl) ((decide_eq_false (by omega))))<|hy (fun _=>aa rfl)<|cx (o:=_) rfl rfl rfl (fun _=>aa rfl)<|cx (o:=_) rfl rfl rfl (fun _=>aK rfl rfl Tryz.underlying27 eg hA_r (show((0:Nat):Int)=0 from rfl) (by omega))<|cx (o:=_) rfl rfl rfl (fun m=>ar rfl iN ((m.rd 0 rfl).cell (bJ (by omega))))<|cx (o:=_) rfl rfl rfl (fun _=>yF (de rfl rfl) ((decide_eq_false (fun q=>h2 (h76.1 q)))))<|hy (fun _=>bp rfl rfl)<|hy (fun _=>aa rfl)<|cx (o:=_) rfl rfl rfl (fun _=>aa rfl)<|cx (o:=_) rfl rfl rfl (fun _=>aK rfl rfl Tryz.underlying27 eg hA_r (show((1:Nat):Int)=1 from rfl) (by omega))<|cx (o:=_) rfl rfl rfl (fun m=>ar rfl iN ((m.rd 0 rfl).cell (bJ (by omega))))<|cx (o:=_) rfl rfl rfl (fun _=>yT (cW rfl rfl) ((decide_eq_true (by omega))))<|hy (fun _=>bp rfl rfl)<|ai<|al (ρ' :=[(17,_),(2,_),(0,_)]) ⟨rfl,rfl,rfl,trivial⟩<|ag<| ?_
    refine fE rfl (rfl) ?_
    refine ah<|aj<|hy (fun _=>ab rfl)<|ai<|ag<|aU<|aw<| ?_
    exact bc trivial rfl rfl [] rfl [] rfl ⟨rfl,rfl,rfl⟩
   ·refine ah<|aj<|hy (fun _=>ab rfl)<|ai<|ag<|ah<|ah<|aj<|hy (fun _=>aa rfl)<|hy (fun _=>aR rfl Tryz.underlying27)<|hy (fun _=>yF (br rfl rfl) ((decide_eq_false (by omega))))<|hy (fun _=>aa rfl)<|cx (o:=_) rfl rfl rfl (fun _=>aa rfl)<|cx (o:=_) rfl rfl rfl (fun _=>aK rfl rfl Tryz.underlying27 eg hA_r (show((0:Nat):Int)=0 from rfl) (by omega))<|cx (o:=_) rfl rfl rfl (fun m=>ar rfl iN ((m.rd 0 rfl).cell (bJ (by omega))))<|cx (o:=_) rfl rfl rfl (fun _=>yF (de rfl rfl) ((decide_eq_false (fun q=>h2 (h76.1 q)))))<|hy (fun _=>bp rfl rfl)<|hy (fun _=>aa rfl)<|cx (o:=_) rfl rfl rfl (fun _=>aa rfl)<|cx (o:=_) rfl rfl rfl (fun _=>aK rfl rfl Tryz.underlying27 eg hA_r (show((1:Nat):Int)=1 from rfl) (by omega))<|cx (o:=_) rfl rfl rfl (fun m=>ar rfl iN ((m.rd 0 rfl).cell (bJ (by omega))))<|cx (o:=_) rfl rfl rfl (fun _=>yF (cW rfl rfl) ((decide_eq_false (by omega))))<|hy (fun _=>bp rfl rfl)<|ai<|al (ρ' :=[(17,_),(2,_),(0,_)]) ⟨rfl,rfl,rfl,trivial⟩<|ag<| ?_
    refine di rfl (rfl) ?_
    have hL:gP f=some (kb (f.drop 2)):=if_neg (fun q=>q.elim h1 (fun q=>q.elim h2 h3))
    rw[qu hL]
    refine aB<|ag<|ah<|cK [] [(0,some 0),(1,some 0),(2,some 0),(3,some 0),(4,some 0),(5,some 0),(6,some 0),(7,some 0),(8,some 0),(9,some 0),(10,some 0),(11,some 0),(12,some 0),(13,some 0),(14,some 0),(15,some 0),(16,some 0),(17,some 0),(18,some 0),(19,some 0),(20,some 0),(21,some 0),(22,some 0)] (by kernel_rfl) (by kernel_rfl) rfl 99<|an (aa rfl)<|an (aK rfl rfl Tryz.underlying27 eg hA_r (show((2:Nat):Int)=2 from rfl) (by omega))<|cd (fun m=>ar rfl iN ((m.rd 0 rfl).cell (bJ (by omega))))<|an (bU rfl Tryz.underlying5 Tryz.underlying3 (y7 _))<|an (aa rfl)<|an (aK rfl rfl Tryz.underlying27 eg hA_r (show((3:Nat):Int)=3 from rfl) (by omega))<|cd (fun m=>ar rfl iN ((m.rd 0 rfl).cell (bJ (by omega))))<|an (bU rfl Tryz.underlying5 Tryz.underlying3 (y7 _))<|an (fD rfl rfl (bA (by omega) (by omega)))<|an (aJ rfl rfl (bA (by omega) (by omega)))<|an (aa rfl)<|an (aK rfl rfl Tryz.underlying27 eg hA_r (show((4:Nat):Int)=4 from rfl) (by omega))<|cd (fun m=>ar rfl iN ((m.rd 0 rfl).cell (bJ (by omega))))<|an (bU rfl Tryz.underlying5 Tryz.underlying3 (y7 _))<|an (fD rfl rfl (bA (by omega) (by omega)))<|an (aJ rfl rfl (bA (by omega) (by omega)))<|an (aa rfl)<|an (aK rfl rfl Tryz.underlying27 eg hA_r (show((5:Nat):Int)=5 from rfl) (by omega))<|cd (fun m=>ar rfl iN ((m.rd 0 rfl).cell (bJ (by omega))))<|an (bU rfl Tryz.underlying5 Tryz.underlying3 (y7 _))<|an (fD rfl rfl (bA (by omega) (by omega)))<|an (yV (aJ rfl rfl (bA (by omega) (by omega))) ((show Value.int .i64 (((f.getD 2 0).toNat:Int)+256*((f.getD 3 0).toNat:Int)+65536*((f.getD 4 0).toNat:Int)+16777216*((f.getD 5 0).toNat:Int))= .int .i64 (kb (f.drop 2):Nat) by rw[hv];congr 1)))<|an (ab rfl)<|bq<|al (ρ' :=[(2,_),(17,_),(0,_)]) ⟨rfl,rfl,rfl,trivial⟩<|ag<|aU<| ?_
    exact bc trivial rfl rfl [] rfl [] rfl ⟨rfl,rfl,rfl⟩
theorem mC{f u:List UInt8}{k:Nat}(h:tZ f k=(u,0)):fQ f k=if u.length≠k then([],2)else if gz (cV u)≠f.drop (f.length-4)then([],7)else(u,0):=by
 unfold fQ
 rw[h]
 exact if_neg (by simp)
theorem w0{f:List UInt8}{k:Nat}(h:(tZ f k).2≠0):fQ f k=([],2):=by
 unfold fQ
 exact if_pos h
theorem B5{A:Option Addr}{n c:Nat}{f:List UInt8}{most:Int}(hc:n≤c)(hl:f.length=n)(hn:n≤10000000)(hm:most≤1000000):cj Tryz.prog 156 [.slice A n c,.int .i64 most] [] [dr 1 A n (aZ f)] (fun v_ X_ S_=>∃A1 c1,v_=(.tuple #[.slice A1 (da f most).1.length c1,.int .i64 (da f most).2])∧X_=[]∧S_=[dr 1 A1 (da f most).1.length (aZ (da f most).1)]∧((da f most).1.length≤c1)):=by
 refine aO (N:=48) Tryz.func156 rfl rfl (by simp) fun b=> ?_
 refine ba (fun m=>gK (m.rd 0 rfl)) ?_
 rintro⟨hl_r,hA_r⟩
 refine ah<|aj<|hy (fun _=>ab rfl)<|hy (fun _=>ab rfl)<|ai<|ag<|ah<|aj<|hy (fun _=>aa rfl)<| ?_
 refine hx (ao rfl Tryz.call216 (Ea hl hn) [] rfl [0] rfl ?_)
 rintro _ _ _ ⟨rfl,rfl,rfl⟩
 refine hy (fun _=>ab rfl)<|ai<|al (ρ' :=[(6,_),(5,_),(4,_),(0,_),(1,_)]) ⟨rfl,rfl,rfl,rfl,rfl,trivial⟩<|ak (X' :=[]) (S' :=[_]) (fun _ m=>m)<|ag<|ah<|ah<|aj<|hy (fun _=>aa rfl)<|hy (fun _=>br rfl rfl)<|ai<|al (ρ' :=[(12,_),(6,_),(5,_),(4,_),(0,_),(1,_)]) ⟨rfl,rfl,rfl,rfl,rfl,rfl,trivial⟩<|ag<| ?_
 rcases hL:gP f with _|k
 ·refine fE rfl ((decide_eq_true (by rw[k8 hL];decide))) ?_
  rw[(o7 hL)]
  refine ah<|aj<|hy (fun _=>ab rfl)<|hy (fun _=>ab rfl)<|ai<|ag<|aU<|aw<| ?_
  refine ak (fun w m=>m.pH (r' :=dr 1 none 0 []) (.refl _ _) (Rd.nil _ _ _) (fun k hk=>absurd rfl hk.1)) ?_
  have hA_z:0<0→(none:Option Addr)≠none:=fun h=>absurd h (by decide)
  exact dO trivial rfl rfl rfl [] rfl [0] rfl ⟨none,0,rfl,rfl,rfl,(Nat.le_refl _)⟩
 ·rw[qu hL]
  refine di rfl ((decide_eq_false (by omega))) ?_
  refine aB<|ag<|ah<|ah<|aj<|hy (fun _=>aa rfl)<|hy (fun _=>aa rfl)<|hy (fun _=>cW rfl rfl)<|ai<|al (ρ' :=[(15,_),(12,_),(6,_),(5,_),(4,_),(0,_),(1,_)]) ⟨rfl,rfl,rfl,rfl,rfl,rfl,rfl,trivial⟩<|ag<| ?_
  refine cL rfl (fun hfar=> ?_) (fun hfar=> ?_)
  ·rw[(p8 hL (by omega))]
   refine ah<|aj<|hy (fun _=>ab rfl)<|hy (fun _=>ab rfl)<|ai<|ag<|aU<|aw<| ?_
   refine ak (fun w m=>m.pH (r' :=dr 1 none 0 []) (.refl _ _) (Rd.nil _ _ _) (fun k hk=>absurd rfl hk.1)) ?_
   have hA_z:0<0→(none:Option Addr)≠none:=fun h=>absurd h (by decide)
   exact dO trivial rfl rfl rfl [] rfl [0] rfl ⟨none,0,rfl,rfl,rfl,(Nat.le_refl _)⟩
  ·obtain⟨h10,hk32⟩:=sk hL
   have hopen:=s4 hL (by omega)
   refine bu (fun w m=>m.gX 0 rfl (View.sub (n:=n) (c:=c) (k:=6) (m:=n-4-6) (by omega) (by omega))) ?_
   refine ba (fun m=>gK (m.rd 0 rfl)) ?_
   rintro⟨hl_p,hA_p⟩
   have hbl:n-4-6=(dz f).length:=by unfold dz;rw[List.length_take,List.length_drop];omega
   have hb2:(f.drop 6).take (n-4-6)=dz f:=by unfold dz;rw[show n-4-6=f.length-10 by omega]
   rw[hb2]
   refine aB<|ag<|ah<|aj<|hy (fun _=>aa rfl)<|hy (fun _=>aa rfl)<|hy (fun _=>aR rfl Tryz.underlying27)<|hy (fun _=>cm rfl rfl (bA (by omega) (by omega)))<|hy (fun _=>eH rfl rfl rfl Tryz.underlying27 eg (show((6:Nat):Int)=6 from rfl) (show((n-4:Nat):Int)=_ by omega) (by omega) (by omega))<|hy (fun _=>ab rfl)<|ai<|al (ρ' :=[(7,_),(15,_),(12,_),(6,_),(5,_),(4,_),(0,_),(1,_)]) ⟨rfl,rfl,rfl,rfl,rfl,rfl,rfl,rfl,trivial⟩<|ag<|ah<|ah<|aj<|hy (fun _=>aa rfl)<|hy (fun _=>aK rfl rfl Tryz.underlying27 eg hA_r (show((1:Nat):Int)=1 from rfl) (by omega))<|hy (fun m=>ar rfl iN ((m.rd 1 rfl).cell (bJ (by omega))))<|hy (fun _=>b7 rfl rfl)<|ai<|al (ρ' :=[(24,_),(7,_),(15,_),(12,_),(6,_),(5,_),(4,_),(0,_),(1,_)]) ⟨rfl,rfl,rfl,rfl,rfl,rfl,rfl,rfl,rfl,trivial⟩<|ag<| ?_
   refine cL rfl (fun h1=> ?_) (fun h1=> ?_)
   ·have hf1:f.getD 1 0=1:=UInt8.toNat_inj.1 (by rw[show(1:UInt8).toNat=1 from rfl];omega)
    have hun:tZ f k=jE k (dz f) []:=if_pos hf1
    refine ah<|aj<|hy (fun _=>aa rfl)<|hy (fun _=>aa rfl)<| ?_
    refine hx (ao rfl Tryz.call217 (xK (show n-4-6≤c-6 by omega) (by omega) hbl.symm (show(k:Int)≤10000000 by omega) (l:=(dz f))) [] rfl [0] rfl ?_)
    rintro _ _ _ ⟨v,nn,rfl,rfl,rfl⟩
    refine az (fun m=>(m.own 0 rfl).slice) ?_
    rintro⟨A_x,c_x,rfl,hc_x⟩
    refine az (fun m=>(m.ord 0 rfl).2.1) fun hA_x=> ?_
    refine hx (aM nt (fun g8=> ?_))
    refine cI (aI 0 rfl rfl rfl jy rfl jH rfl ?_)
    refine ai<|al (ρ' :=[(8,_),(24,_),(7,_),(15,_),(12,_),(6,_),(5,_),(4,_),(0,_),(1,_)]) ⟨rfl,rfl,rfl,rfl,rfl,rfl,rfl,rfl,rfl,rfl,trivial⟩<|ak (X' :=[_,_]) (S' :=[_,_]) (fun _ m=>m)<|ag<|ah<|ah<|aj<|hy (fun _=>aD rfl AR (by decide))<|hy (fun m=>ar rfl lh (ax (m.aT 0 rfl) (i:=2) rfl))<|hy (fun _=>de rfl rfl)<|ai<|al (ρ' :=[(30,_),(8,_),(24,_),(7,_),(15,_),(12,_),(6,_),(5,_),(4,_),(0,_),(1,_)]) ⟨rfl,rfl,rfl,rfl,rfl,rfl,rfl,rfl,rfl,rfl,rfl,trivial⟩<|ag<| ?_
    refine cL rfl (fun he=> ?_) (fun he=> ?_)
    ·have hz:da f most=([],2):=by rw[hopen,w0 (by rw[hun];exact he)]
     rw[hz]
     refine ah<|aj<|hy (fun _=>ab rfl)<|hy (fun _=>ab rfl)<|ai<|ag<|aU<|aw<|aw<| ?_
     refine ak (fun w m=>m.pH (r' :=dr 1 none 0 []) (.refl _ _) (Rd.nil _ _ _) (fun k hk=>absurd rfl hk.1)) ?_
     have hA_z:0<0→(none:Option Addr)≠none:=fun h=>absurd h (by decide)
     exact dO trivial rfl rfl rfl [] rfl [0] rfl ⟨none,0,rfl,rfl,rfl,(Nat.le_refl _)⟩
    ·have he:=Decidable.not_not.1 he
     have hun2:tZ f k=((jE k (dz f) []).1,0):=by rw[hun];exact Prod.ext rfl he
     refine bu (fun w m=>(m.perm (av [1] _ [_] _ rfl)).freeze) ?_
     refine bu (fun w m=>m.gX 0 rfl .own) ?_
     generalize(jE k (dz f) []).1=u at hc_x hA_x hun2 ⊢
     refine aB<|ag<|aj<|hy (fun _=>aD rfl AQ (by decide))<|hy (fun m=>ar rfl dY (ax (m.aT 0 rfl) (i:=0) rfl))<|hy (fun _=>ab rfl)<|ai<|al (ρ' :=[(7,_),(30,_),(8,_),(24,_),(15,_),(12,_),(6,_),(5,_),(4,_),(0,_),(1,_)]) ⟨rfl,rfl,rfl,rfl,rfl,rfl,rfl,rfl,rfl,rfl,rfl,trivial⟩<|ag<|ah<|ah<|aj<|hy (fun _=>aa rfl)<|hy (fun _=>aR rfl Tryz.underlying27)<|hy (fun _=>aa rfl)<|hy (fun _=>de rfl rfl)<|ai<|al (ρ' :=[(36,_),(7,_),(30,_),(8,_),(24,_),(15,_),(12,_),(6,_),(5,_),(4,_),(0,_),(1,_)]) ⟨rfl,rfl,rfl,rfl,rfl,rfl,rfl,rfl,rfl,rfl,rfl,rfl,trivial⟩<|ag<| ?_
     refine cL rfl (fun h36=> ?_) (fun h36=> ?_)
     ·have hz:da f most=([],2):=by rw[hopen,mC hun2];exact if_pos (by omega)
      rw[hz]
      refine ah<|aj<|hy (fun _=>ab rfl)<|hy (fun _=>ab rfl)<|ai<|ag<|aU<|aw<| ?_
      refine ak (fun w m=>m.pH (r' :=dr 1 none 0 []) (.refl _ _) (Rd.nil _ _ _) (fun k hk=>absurd rfl hk.1)) ?_
      have hA_z:0<0→(none:Option Addr)≠none:=fun h=>absurd h (by decide)
      exact dO trivial rfl rfl rfl [] rfl [0] rfl ⟨none,0,rfl,rfl,rfl,(Nat.le_refl _)⟩
     ·have hlu:(u).length=k:=by omega
      have hgo:da f most=if gz (cV u)≠f.drop (f.length-4)then([],7)else(u,0):=by rw[hopen,mC hun2];exact if_neg (fun q=>q hlu)
      refine bu (fun w m=>m.gX 3 rfl (View.drop (n:=n) (c:=c) (k:=n-4) (by omega) (by omega))) ?_
      refine ba (fun m=>gK (m.rd 0 rfl)) ?_
      rintro⟨hl_e4,hA_e4⟩
      refine aB<|ag<|ah<|ah<|cK [1,2] [(0,some 0),(3,some 2),(4,some 2),(5,some 2),(6,some 2),(7,some 2),(8,some 2),(1,none),(2,none),(9,some 2)] (by kernel_rfl) (by kernel_rfl) rfl 99<|an (aa rfl)<|an (aa rfl)<|an (aa rfl)<|an (aR rfl Tryz.underlying27)<|an (cm rfl rfl (bA (by omega) (by omega)))<|an (dQ rfl rfl Tryz.underlying27 eg (show((n-4:Nat):Int)=_ by omega) (by omega))<|cd (fun m=>jq rfl Tryz.underlying27 Tryz.underlying5 Tryz.underlying9 (m.rd 0 rfl))<| ?_
      refine ee (ao rfl Tryz.call161 (uh hc_x (by omega) rfl (l:=u)) [] rfl [1] rfl ?_)
      rintro _ _ _ ⟨v2,rfl,rfl,rfl⟩
      refine⟨(fun _=>wk [1] [0,1,2,3,4] rfl rfl), ?_⟩
      refine cf (fun m=>(m.own 0 rfl).slice) ?_
      rintro⟨A_x2,c_x2,rfl,hc_x2⟩
      refine cf (fun m=>(m.ord 0 rfl).2.1) fun hA_x2=> ?_
      refine Ct (fun _=>wk [1] [0,1,2,3,4] rfl rfl) (fun m=>jq rfl Tryz.underlying27 Tryz.underlying5 Tryz.underlying9 (m.ord 0 rfl))<|an (kn rfl rfl)<|bq<|al (ρ' :=[(46,_),(36,_),(7,_),(30,_),(8,_),(24,_),(15,_),(12,_),(6,_),(5,_),(4,_),(0,_),(1,_)]) ⟨rfl,rfl,rfl,rfl,rfl,rfl,rfl,rfl,rfl,rfl,rfl,rfl,rfl,trivial⟩<|ak (X' :=[_,_]) (S' :=[_,_,_,_,_]) (fun _ m=>m)<|ag<| ?_
      refine cL rfl (fun h46=> ?_) (fun h46=> ?_)
      ·have hz:da f most=([],7):=by rw[hgo];exact if_pos (fun e=>h46 (by rw[e,hl]))
       rw[hz]
       refine ah<|aj<|hy (fun _=>ab rfl)<|hy (fun _=>ab rfl)<|ai<|ag<|aU<|aw<| ?_
       refine ak (fun w m=>m.pH (r' :=dr 1 none 0 []) (.refl _ _) (Rd.nil _ _ _) (fun k hk=>absurd rfl hk.1)) ?_
       have hA_z:0<0→(none:Option Addr)≠none:=fun h=>absurd h (by decide)
       exact dO trivial rfl rfl rfl [] rfl [0] rfl ⟨none,0,rfl,rfl,rfl,(Nat.le_refl _)⟩
      ·have h46:=cD.1 (Decidable.not_not.1 h46)
       have hz:da f most=(u,0):=by rw[hgo];exact if_neg (fun q=>q (by rw[h46,hl]))
       rw[hz]
       refine aB<|ag<|ah<|aj<|hy (fun _=>aa rfl)<|hy (fun _=>ab rfl)<|hy (fun _=>ab rfl)<|ai<|al (ρ' :=[(5,_),(4,_),(46,_),(36,_),(7,_),(30,_),(8,_),(24,_),(15,_),(12,_),(6,_),(0,_),(1,_)]) ⟨rfl,rfl,rfl,rfl,rfl,rfl,rfl,rfl,rfl,rfl,rfl,rfl,rfl,trivial⟩<|ag<|aU<| ?_
       exact dO trivial rfl rfl rfl [] rfl [1] rfl ⟨_,_,rfl,rfl,rfl,hc_x⟩
   ·have hf1:¬f.getD 1 0=1:=fun q=>h1 (by rw[q];rfl)
    have hun:tZ f k=(dz f,0):=if_neg hf1
    rw[hbl]
    refine aB<|ag<|ah<|ah<|aj<|hy (fun _=>aa rfl)<|hy (fun _=>aR rfl Tryz.underlying27)<|hy (fun _=>aa rfl)<|hy (fun _=>de rfl rfl)<|ai<|al (ρ' :=[(36,_),(24,_),(7,_),(15,_),(12,_),(6,_),(5,_),(4,_),(0,_),(1,_)]) ⟨rfl,rfl,rfl,rfl,rfl,rfl,rfl,rfl,rfl,rfl,trivial⟩<|ag<| ?_
    refine cL rfl (fun h36=> ?_) (fun h36=> ?_)
    ·have hz:da f most=([],2):=by rw[hopen,mC hun];exact if_pos (by omega)
     rw[hz]
     refine ah<|aj<|hy (fun _=>ab rfl)<|hy (fun _=>ab rfl)<|ai<|ag<|aU<|aw<| ?_
     refine ak (fun w m=>m.pH (r' :=dr 1 none 0 []) (.refl _ _) (Rd.nil _ _ _) (fun k hk=>absurd rfl hk.1)) ?_
     have hA_z:0<0→(none:Option Addr)≠none:=fun h=>absurd h (by decide)
     exact dO trivial rfl rfl rfl [] rfl [0] rfl ⟨none,0,rfl,rfl,rfl,(Nat.le_refl _)⟩
    ·have hlu:((dz f)).length=k:=by omega
     have hgo:da f most=if gz (cV (dz f))≠f.drop (f.length-4)then([],7)else((dz f),0):=by rw[hopen,mC hun];exact if_neg (fun q=>q hlu)
     refine bu (fun w m=>m.gX 1 rfl (View.drop (n:=n) (c:=c) (k:=n-4) (by omega) (by omega))) ?_
     refine ba (fun m=>gK (m.rd 0 rfl)) ?_
     rintro⟨hl_e4,hA_e4⟩
     refine aB<|ag<|ah<|ah<|cK [1,2] [(0,some 0),(3,some 2),(4,some 2),(5,some 2),(6,some 2),(7,some 2),(8,some 2),(1,none),(2,none),(9,some 2)] (by kernel_rfl) (by kernel_rfl) rfl 99<|an (aa rfl)<|an (aa rfl)<|an (aa rfl)<|an (aR rfl Tryz.underlying27)<|an (cm rfl rfl (bA (by omega) (by omega)))<|an (dQ rfl rfl Tryz.underlying27 eg (show((n-4:Nat):Int)=_ by omega) (by omega))<|cd (fun m=>jq rfl Tryz.underlying27 Tryz.underlying5 Tryz.underlying9 (m.rd 0 rfl))<| ?_
     refine ee (ao rfl Tryz.call161 (uh (show(dz f).length≤c-6 by omega) (by omega) rfl (l:=(dz f))) [] rfl [1] rfl ?_)
     rintro _ _ _ ⟨v,rfl,rfl,rfl⟩
     refine⟨(fun _=>wk [] [0,1,2] rfl rfl), ?_⟩
     refine cf (fun m=>(m.own 0 rfl).slice) ?_
     rintro⟨A_x,c_x,rfl,hc_x⟩
     refine cf (fun m=>(m.ord 0 rfl).2.1) fun hA_x=> ?_
     refine Ct (fun _=>wk [] [0,1,2] rfl rfl) (fun m=>jq rfl Tryz.underlying27 Tryz.underlying5 Tryz.underlying9 (m.ord 0 rfl))<|an (kn rfl rfl)<|bq<|al (ρ' :=[(46,_),(36,_),(24,_),(7,_),(15,_),(12,_),(6,_),(5,_),(4,_),(0,_),(1,_)]) ⟨rfl,rfl,rfl,rfl,rfl,rfl,rfl,rfl,rfl,rfl,rfl,trivial⟩<|ak (X' :=[_]) (S' :=[_,_,_]) (fun _ m=>m)<|ag<| ?_
     refine cL rfl (fun h46=> ?_) (fun h46=> ?_)
     ·have hz:da f most=([],7):=by rw[hgo];exact if_pos (fun e=>h46 (by rw[e,hl]))
      rw[hz]
      refine ah<|aj<|hy (fun _=>ab rfl)<|hy (fun _=>ab rfl)<|ai<|ag<|aU<|aw<| ?_
      refine ak (fun w m=>m.pH (r' :=dr 1 none 0 []) (.refl _ _) (Rd.nil _ _ _) (fun k hk=>absurd rfl hk.1)) ?_
      have hA_z:0<0→(none:Option Addr)≠none:=fun h=>absurd h (by decide)
      exact dO trivial rfl rfl rfl [] rfl [0] rfl ⟨none,0,rfl,rfl,rfl,(Nat.le_refl _)⟩
     ·have h46:=cD.1 (Decidable.not_not.1 h46)
      have hz:da f most=((dz f),0):=by rw[hgo];exact if_neg (fun q=>q (by rw[h46,hl]))
      rw[hz]
      refine aB<|ag<|ah<|aj<|hy (fun _=>aa rfl)<|hy (fun _=>ab rfl)<|hy (fun _=>ab rfl)<|ai<|al (ρ' :=[(5,_),(4,_),(46,_),(36,_),(24,_),(7,_),(15,_),(12,_),(6,_),(0,_),(1,_)]) ⟨rfl,rfl,rfl,rfl,rfl,rfl,rfl,rfl,rfl,rfl,rfl,trivial⟩<|ag<|aU<| ?_
      exact dO trivial rfl rfl rfl [] rfl [1] rfl ⟨_,_,rfl,rfl,rfl,(show(dz f).length≤c-6 by omega)⟩
end Go.Proofs.YtmibdabdlgmafaaGreatDoor
end
section
set_option maxRecDepth 20000
namespace Go.Proofs.YtmibdabdlgmafaaGreatDoor
open Go.Eng Go.Hx
theorem jd{x:UInt32}{n:Nat}(hn:n≤32):cj Tryz.prog 204 [Wd x,.int .i64 (n:Int)] [] [] (fun v_ X_ S_=>v_=(Wd (kA n x))∧X_=[]∧S_=[]):=by
 refine aO (N:=18) Tryz.func204 rfl rfl (by simp) fun b=> ?_
 refine ah<|aj<|hy (fun _=>ab rfl)<|ai<|ag<|ah<|ah<|aj<|hy (fun _=>ab rfl)<|ai<|ag<|aN<| ?_
 refine wR (fun i y=>n-i) (fun i y=>[(0,Wd y),(5,.int .i64 (i:Nat))]) (fun i y=>[]) (fun i y=>[]) (fun i y=>i≤n∧y=kA i x) 0 x [(4,_),(1,_)] ⟨rfl,rfl,trivial⟩ [] rfl [] rfl (⟨Nat.zero_le _,(wj x).symm⟩) ⟨rfl,rfl,trivial⟩ (fun i y ⟨hin,hyv⟩=> ?_)
 refine ah<|ah<|aj<|hy (fun _=>aa rfl)<|hy (fun _=>aa rfl)<|hy (fun _=>br rfl rfl)<|ai<|al (ρ' :=[(8,_),(0,_),(5,_),(4,_),(1,_)]) ⟨rfl,rfl,rfl,rfl,rfl,trivial⟩<|ag<| ?_
 refine cL rfl (fun h=> ?_) (fun h=> ?_)
 ·refine aB<|ag<|ah<|aN<|aj<|hy (fun _=>aa rfl)<|hy (fun _=>q6 (b:=2) (by decide) rfl rfl)<|hy (fun _=>aa rfl)<|hy (fun _=>yQ (b:=2) (by decide) rfl rfl)<|hy (fun _=>q7 (b:=2147483648) rfl rfl)<|hy (fun _=>yV (dy rfl rfl) ((rfl:_=Wd (s6 y))))<|hy (fun _=>ab rfl)<|ai<|al (ρ' :=[(0,_),(8,_),(5,_),(4,_),(1,_)]) ⟨rfl,rfl,rfl,rfl,rfl,trivial⟩<|aQ<|ag<|aj<|hy (fun _=>aa rfl)<|hy (fun _=>aJ rfl rfl (bA (by omega) (by omega)))<|hy (fun _=>ab rfl)<|ai<|al (ρ' :=[(5,_),(0,_),(8,_),(4,_),(1,_)]) ⟨rfl,rfl,rfl,rfl,rfl,trivial⟩<| ?_
  refine tH (i+1) (s6 y) ⟨rfl,rfl,rfl,rfl,trivial⟩ [] rfl [] rfl (⟨by omega,by rw[hyv,vy (by omega)]⟩) (by omega)
 ·obtain rfl:i=n:=by omega
  subst hyv
  refine bP<|au<|au<|aC<|ag<|ah<|aj<|hy (fun _=>aa rfl)<|hy (fun _=>ab rfl)<|ai<|al (ρ' :=[(4,_),(8,_),(0,_),(5,_),(1,_)]) ⟨rfl,rfl,rfl,rfl,rfl,trivial⟩<|ag<|aU<| ?_
  exact bc trivial rfl rfl [] rfl [] rfl ⟨rfl,rfl,rfl⟩
theorem Cg{A:Option Addr}{n c:Nat}{l:List UInt8}{i:Nat}(hi:i+4≤n)(hn:n≤1000000000000):cj Tryz.prog 203 [.slice A n c,.int .i64 (i:Int)] [] [dr 1 A n (aZ l)] (fun v_ X_ S_=>v_=(Wd (mE l i))∧X_=[]∧S_=[]):=by
 refine aO (N:=34) Tryz.func203 rfl rfl (by simp) fun b=> ?_
 refine ba (fun m=>gK (m.rd 0 rfl)) ?_
 rintro⟨hl_r,hA_r⟩
 have hl:l.length=n:=hl_r
 refine ah<|aj<|hy (fun _=>ab rfl)<|ai<|ag<|ah<|cK [] [(0,some 0),(1,some 0),(2,some 0),(3,some 0),(4,some 0),(5,some 0),(6,some 0),(7,some 0),(8,some 0),(9,some 0),(10,some 0),(11,some 0),(12,some 0),(13,some 0),(14,some 0),(15,some 0),(16,some 0),(17,some 0),(18,some 0),(19,some 0),(20,some 0),(21,some 0),(22,some 0),(23,some 0),(24,some 0),(25,some 0),(26,some 0),(27,some 0),(28,some 0),(29,some 0)] (by kernel_rfl) (by kernel_rfl) rfl 99<|an (aa rfl)<|an (aa rfl)<|an (aK rfl rfl Tryz.underlying27 eg hA_r rfl (by omega))<|cd (fun m=>ar rfl iN ((m.rd 0 rfl).cell (bJ (by omega))))<|an (xh rfl Tryz.underlying5 Tryz.underlying166)<|an (q7 (b:=16777216) rfl rfl)<|an (aa rfl)<|an (aa rfl)<|an (aJ rfl rfl (bA (by omega) (by omega)))<|an (aK rfl rfl Tryz.underlying27 eg hA_r (show((i+1:Nat):Int)=_ by omega) (by omega))<|cd (fun m=>ar rfl iN ((m.rd 0 rfl).cell (bJ (by omega))))<|an (xh rfl Tryz.underlying5 Tryz.underlying166)<|an (q7 (b:=65536) rfl rfl)<|an (dy rfl rfl)<|an (aa rfl)<|an (aa rfl)<|an (aJ rfl rfl (bA (by omega) (by omega)))<|an (aK rfl rfl Tryz.underlying27 eg hA_r (show((i+2:Nat):Int)=_ by omega) (by omega))<|cd (fun m=>ar rfl iN ((m.rd 0 rfl).cell (bJ (by omega))))<|an (xh rfl Tryz.underlying5 Tryz.underlying166)<|an (q7 (b:=256) rfl rfl)<|an (dy rfl rfl)<|an (aa rfl)<|an (aa rfl)<|an (aJ rfl rfl (bA (by omega) (by omega)))<|an (aK rfl rfl Tryz.underlying27 eg hA_r (show((i+3:Nat):Int)=_ by omega) (by omega))<|cd (fun m=>ar rfl iN ((m.rd 0 rfl).cell (bJ (by omega))))<|an (xh rfl Tryz.underlying5 Tryz.underlying166)<|an (yV (dy rfl rfl) ((show Wd ((l.getD i 0).toUInt32*16777216+(l.getD (i+1) 0).toUInt32*65536+(l.getD (i+2) 0).toUInt32*256+(l.getD (i+3) 0).toUInt32)=Wd (mE l i) by rw[vV])))<|an (ab rfl)<|bq<|al (ρ' :=[(4,_),(0,_),(1,_)]) ⟨rfl,rfl,rfl,trivial⟩<|ag<|aU<| ?_
 exact bc trivial rfl rfl [] rfl [] rfl ⟨rfl,rfl,rfl⟩
theorem zc:cj Tryz.prog 202 [] [] [] (fun v_ X_ S_=>∃v,v_=v∧X_=[aH 166 1 v 64 (ei gO)]∧S_=[]):=by
 refine aO (N:=2) Tryz.func202 rfl rfl (by simp) fun b=> ?_
 refine ah<|aj<|hy (fun _=>ab rfl)<|ai<|ag<|ah<|aj<| ?_
 refine hx (b8 Tryz.underlying215 m9 rfl rfl rfl (by decide) (by decide) (by decide) (fun g1=> ?_))
 have hA_b1:0<64→(some (⟨g1,0,none⟩:Addr))≠none:=fun _ h=>by cases h
 refine hy (fun _=>ab rfl)<|ai<|al (ρ' :=[(0,_)]) ⟨rfl,trivial⟩<|ak (X' :=[_]) (S' :=[]) (fun _ m=>m)<|ag<|aU<| ?_
 refine ak (fun w m=>m.bM 0 rfl (show _=aH 166 1 (.slice (some ⟨g1,0,none⟩) 64 64) 64 (ei gO)from rfl)) ?_
 exact bc trivial rfl rfl [0] rfl [] rfl ⟨_,rfl,rfl,rfl⟩
theorem zw{H:Option Addr}{hc:Nat}{A:Option Addr}{c:Nat}{l:List UInt8}{h:List UInt32}(hcc:64≤c)(hh:h.length=8):cj Tryz.prog 142 [.slice H 8 hc,.slice A 64 c] [] [dr 1 H 8 (ei h),dr 1 A 64 (aZ l)] (fun v_ X_ S_=>∃u,v_=u∧X_=[aH 166 1 u 8 (ei (eX h l))]∧S_=[]):=by
 refine aO (N:=230) Tryz.func142 rfl rfl (by simp) fun b=> ?_
 refine ba (fun m=>ik (m.rd 0 rfl)) ?_
 rintro⟨hl_q,hA_q⟩
 refine ba (fun m=>gK (m.rd 1 rfl)) ?_
 rintro⟨hl_r,hA_r⟩
 have hl:l.length=64:=hl_r
 refine ah<|aj<|hy (fun _=>ab rfl)<|ai<|ag<|ah<|aj<| ?_
 refine hx (ao rfl Tryz.call202 (zc) [] rfl [] rfl ?_)
 rintro _ _ _ ⟨v,rfl,rfl,rfl⟩
 refine az (fun m=>(m.own 0 rfl).slice) ?_
 rintro⟨A_x,c_x,rfl,hc_x⟩
 refine az (fun m=>(m.ord 0 rfl).2.1) fun hA_x=> ?_
 refine hy (fun _=>ab rfl)<|ai<|al (ρ' :=[(5,_),(4,_),(0,_),(1,_)]) ⟨rfl,rfl,rfl,rfl,trivial⟩<|ak (X' :=[_]) (S' :=[_,_]) (fun _ m=>m)<|ag<|ah<|aj<|hy (fun _=>ab rfl)<|ai<|ag<|ah<|ah<|aj<|hy (fun _=>ab rfl)<|ai<|ag<|aN<| ?_
 refine bu (fun w m=>m.dx (r' :=aH 166 1 (.slice none 0 0) 0 []) (.refl _ _) (Own.nil _ _ _ _) (fun k hk=>hk.elim)) ?_
 refine bu (fun w m=>m.bM 0 rfl (show _=aH 166 1 (.slice none 0 0) 0 (ei (wl l 0))from rfl)) ?_
 refine iM (fun i A1 c1=>16-i) (fun i A1 c1=>[(6,.slice A1 i c1),(7,.int .i64 (i:Nat))]) (fun i A1 c1=>[aH 166 1 (.slice A1 i c1) i (ei (wl l i))]) (fun i A1 c1=>[]) (fun i A1 c1=>i≤16) 0 none 0 [(5,_),(4,_),(0,_),(1,_)] ⟨rfl,rfl,rfl,rfl,trivial⟩ [0] rfl [] rfl (Nat.zero_le _) ⟨rfl,rfl,trivial⟩ (fun i A1 c1 hI=> ?_)
 refine ah<|ah<|aj<|hy (fun _=>aa rfl)<|hy (fun _=>br rfl rfl)<|ai<|al (ρ' :=[(21,_),(6,_),(7,_),(5,_),(4,_),(0,_),(1,_)]) ⟨rfl,rfl,rfl,rfl,rfl,rfl,rfl,trivial⟩<|ag<| ?_
 refine cL rfl (fun hlt=> ?_) (fun hlt=> ?_)
 ·have hws:wl l (i+1)=wl l i++[mE l (4*i)]:=by rw[wl,if_pos (by omega)]
  refine aB<|ag<|ah<|aN<|aj<|hy (fun _=>aa rfl)<|hy (fun _=>aa rfl)<|hy (fun _=>aa rfl)<|hy (fun _=>fD rfl rfl (bA (by omega) (by omega)))<| ?_
  rw[show(4:Int)*(i:Int)=((4*i:Nat):Int) by omega]
  refine hx (ao rfl Tryz.call203 (Cg (by omega) (by omega) (i:=4*i)) [] rfl [1] rfl ?_)
  rintro _ _ _ ⟨rfl,rfl,rfl⟩
  refine hx (b8 Tryz.underlying215 m9 rfl rfl rfl (by simp[Value.cells,B8]) (by decide) (by decide) (fun g29=> ?_))
  have hA_b29:0<1→(some (⟨g29,0,none⟩:Addr))≠none:=fun _ h=>by cases h
  refine aL (fun w m=>m.bM 0 rfl (show _=aH 166 1 (.slice (some ⟨g29,0,none⟩) 1 1) 1 (ei [mE l (4*i)])from rfl)) ?_
  refine hx (bB 1 rfl rfl rfl Tryz.underlying215 Tryz.underlying215 (by exact .inl rfl) m9 rfl (fun m=>Src.bT (m.ord 0 rfl)) ij (by unfold maxLen;omega) (by omega) (fun u=> ?_))
  refine az (fun m=>(m.own 0 rfl).slice) ?_
  rintro⟨A_o,c_o,rfl,hc_o⟩
  refine az (fun m=>(m.ord 0 rfl).2.1) fun hA_o=> ?_
  refine aL (fun w m=>m.bM 0 rfl (show _=aH 166 1 (.slice A_o (i+1) c_o) (i+1) (ei (wl l (i+1)))from by rw[hws,oo])) ?_
  refine hy (fun _=>ab rfl)<|ai<|al (ρ' :=[(6,_),(21,_),(7,_),(5,_),(4,_),(0,_),(1,_)]) ⟨rfl,rfl,rfl,rfl,rfl,rfl,rfl,trivial⟩<|ak (X' :=[_,_,_]) (S' :=[_,_]) (fun _ m=>m)<|aQ<|ag<|aj<|hy (fun _=>aa rfl)<|hy (fun _=>aJ rfl rfl (bA (by omega) (by omega)))<|hy (fun _=>ab rfl)<|ai<|al (ρ' :=[(7,_),(6,_),(21,_),(5,_),(4,_),(0,_),(1,_)]) ⟨rfl,rfl,rfl,rfl,rfl,rfl,rfl,trivial⟩<| ?_
  refine fY (i+1) A_o c_o ⟨rfl,rfl,rfl,rfl,rfl,rfl,trivial⟩ [0,1] rfl [0,1] rfl (by omega) (by omega)
 ·obtain rfl:i=16:=by omega
  refine bP<|au<|au<|aC<|ag<|ah<|ah<|aj<|hy (fun _=>ab rfl)<|ai<|ag<|aN<| ?_
  refine iM (fun i A1 c1=>64-i) (fun i A1 c1=>[(6,.slice A1 i c1),(8,.int .i64 (i:Nat))]) (fun i A1 c1=>[aH 166 1 (.slice A1 i c1) i (ei (wl l i))]) (fun i A1 c1=>[]) (fun i A1 c1=>16≤i∧i≤64) 16 A1 c1 [(21,_),(7,_),(5,_),(4,_),(0,_),(1,_)] ⟨rfl,rfl,rfl,rfl,rfl,rfl,trivial⟩ [0] rfl [] rfl (⟨Nat.le_refl _,by decide⟩) ⟨rfl,rfl,trivial⟩ (fun i A1 c1 ⟨hi16,hi64⟩=> ?_)
  have hwl:=fy l i
  refine ba (fun m=>(m.ord 0 rfl).2.1) fun hA_o=> ?_
  refine ah<|ah<|aj<|hy (fun _=>aa rfl)<|hy (fun _=>br rfl rfl)<|ai<|al (ρ' :=[(32,_),(6,_),(8,_),(21,_),(7,_),(5,_),(4,_),(0,_),(1,_)]) ⟨rfl,rfl,rfl,rfl,rfl,rfl,rfl,rfl,rfl,trivial⟩<|ag<| ?_
  refine cL rfl (fun hlt=> ?_) (fun hlt=> ?_)
  ·have hws:wl l (i+1)=wl l i++[pT (wl l i) i]:=by rw[wl,if_neg (by omega)]
   refine aB<|ag<|ah<|aN<|ah<|cK [5,11] [(0,some 0),(1,some 2),(2,some 0),(3,some 0),(4,some 0),(6,some 1),(7,some 1),(8,some 1),(9,some 1),(10,some 1),(13,some 2),(14,some 2),(15,some 2),(16,some 2),(17,some 2),(18,some 2),(5,none),(11,none),(12,some 2),(19,some 2),(20,some 2)] (by kernel_rfl) (by kernel_rfl) rfl 99<|an (aa rfl)<|an (aa rfl)<|an (cm rfl rfl (bA (by omega) (by omega)))<|an (aK rfl rfl Tryz.underlying215 bN hA_o (show((i-15:Nat):Int)=_ by omega) (by omega))<|cd (fun m=>ar rfl bW ((m.ord 0 rfl).cell (j:=i-15) (bk (by omega))))<|an (aa rfl)<|an (aa rfl)<|an (cm rfl rfl (bA (by omega) (by omega)))<|an (aK rfl rfl Tryz.underlying215 bN hA_o (show((i-15:Nat):Int)=_ by omega) (by omega))<|cd (fun m=>ar rfl bW ((m.ord 0 rfl).cell (j:=i-15) (bk (by omega))))<|an (aa rfl)<|an (aa rfl)<|an (cm rfl rfl (bA (by omega) (by omega)))<|an (aK rfl rfl Tryz.underlying215 bN hA_o (show((i-15:Nat):Int)=_ by omega) (by omega))<|cd (fun m=>ar rfl bW ((m.ord 0 rfl).cell (j:=i-15) (bk (by omega))))<|an (q6 (b:=8) (by decide) rfl rfl)<| ?_
   refine ee (ao rfl Tryz.call204 (jd (by omega) (n:=7)) [] rfl [] rfl ?_)
   rintro _ _ _ ⟨rfl,rfl,rfl⟩
   refine⟨(fun _=>wk [0,0] [0,1] rfl rfl), ?_⟩
   refine ee (ao rfl Tryz.call204 (jd (by omega) (n:=18)) [] rfl [] rfl ?_)
   rintro _ _ _ ⟨rfl,rfl,rfl⟩
   refine⟨(fun _=>wk [0,0] [0,1] rfl rfl), ?_⟩
   refine an (en rfl rfl)<|an (en rfl rfl)<|an (ab rfl)<|bq<|al (ρ' :=[(9,_),(32,_),(6,_),(8,_),(21,_),(7,_),(5,_),(4,_),(0,_),(1,_)]) ⟨rfl,rfl,rfl,rfl,rfl,rfl,rfl,rfl,rfl,rfl,trivial⟩<|ak (X' :=[_,_]) (S' :=[_,_]) (fun _ m=>m)<|ag<|ah<|cK [5,11] [(0,some 0),(1,some 2),(2,some 0),(3,some 0),(4,some 0),(6,some 1),(7,some 1),(8,some 1),(9,some 1),(10,some 1),(13,some 2),(14,some 2),(15,some 2),(16,some 2),(17,some 2),(18,some 2),(5,none),(11,none),(12,some 2),(19,some 2),(20,some 2)] (by kernel_rfl) (by kernel_rfl) rfl 99<|an (aa rfl)<|an (aa rfl)<|an (cm rfl rfl (bA (by omega) (by omega)))<|an (aK rfl rfl Tryz.underlying215 bN hA_o (show((i-2:Nat):Int)=_ by omega) (by omega))<|cd (fun m=>ar rfl bW ((m.ord 0 rfl).cell (j:=i-2) (bk (by omega))))<|an (aa rfl)<|an (aa rfl)<|an (cm rfl rfl (bA (by omega) (by omega)))<|an (aK rfl rfl Tryz.underlying215 bN hA_o (show((i-2:Nat):Int)=_ by omega) (by omega))<|cd (fun m=>ar rfl bW ((m.ord 0 rfl).cell (j:=i-2) (bk (by omega))))<|an (aa rfl)<|an (aa rfl)<|an (cm rfl rfl (bA (by omega) (by omega)))<|an (aK rfl rfl Tryz.underlying215 bN hA_o (show((i-2:Nat):Int)=_ by omega) (by omega))<|cd (fun m=>ar rfl bW ((m.ord 0 rfl).cell (j:=i-2) (bk (by omega))))<|an (q6 (b:=1024) (by decide) rfl rfl)<| ?_
   refine ee (ao rfl Tryz.call204 (jd (by omega) (n:=17)) [] rfl [] rfl ?_)
   rintro _ _ _ ⟨rfl,rfl,rfl⟩
   refine⟨(fun _=>wk [0,0] [0,1] rfl rfl), ?_⟩
   refine ee (ao rfl Tryz.call204 (jd (by omega) (n:=19)) [] rfl [] rfl ?_)
   rintro _ _ _ ⟨rfl,rfl,rfl⟩
   refine⟨(fun _=>wk [0,0] [0,1] rfl rfl), ?_⟩
   refine an (en rfl rfl)<|an (en rfl rfl)<|an (ab rfl)<|bq<|al (ρ' :=[(10,_),(9,_),(32,_),(6,_),(8,_),(21,_),(7,_),(5,_),(4,_),(0,_),(1,_)]) ⟨rfl,rfl,rfl,rfl,rfl,rfl,rfl,rfl,rfl,rfl,rfl,trivial⟩<|ak (X' :=[_,_]) (S' :=[_,_]) (fun _ m=>m)<|ag<|cK [5,16,17] [(0,some 2),(1,some 3),(2,some 3),(3,some 3),(4,some 3),(6,some 3),(8,some 3),(9,some 3),(10,some 3),(11,some 3),(12,some 1),(14,some 1),(5,none),(7,some 1),(13,some 1),(15,some 1),(16,none),(17,none),(18,some 3)] (by kernel_rfl) (by kernel_rfl) rfl 2<|an (aa rfl)<|an (aa rfl)<|an (aa rfl)<|an (cm rfl rfl (bA (by omega) (by omega)))<|an (aK rfl rfl Tryz.underlying215 bN hA_o (show((i-16:Nat):Int)=_ by omega) (by omega))<|an (aa rfl)<|an (aa rfl)<|an (aa rfl)<|an (cm rfl rfl (bA (by omega) (by omega)))<|an (aK rfl rfl Tryz.underlying215 bN hA_o (show((i-7:Nat):Int)=_ by omega) (by omega))<|cd (fun m=>ar rfl bW ((m.ord 0 rfl).cell (j:=i-7) (bk (by omega))))<|an (aa rfl)<|Ct (fun _=>wk [0,0] [0,1] rfl rfl) (fun m=>ar rfl bW ((m.ord 0 rfl).cell (j:=i-16) (bk (by omega))))<|an (dy rfl rfl)<|an (dy rfl rfl)<|an (yV (dy rfl rfl) ((rfl:_=Wd (pT (wl l i) i))))<| ?_
   refine ee (b8 Tryz.underlying215 m9 rfl rfl rfl (by exact sc (l:=[_])) (by decide) (by decide) (fun g91=>⟨(fun _=>wk [1,1] [0,1] rfl rfl), ?_⟩))
   have hA_b91:0<1→(some (⟨g91,0,none⟩:Addr))≠none:=fun _ h=>by cases h
   refine jz (fun w m=>m.bM 0 rfl (show _=aH 166 1 (.slice (some ⟨g91,0,none⟩) 1 1) 1 (ei [pT (wl l i) i])from rfl)) ?_
   refine ee (bB 1 rfl rfl rfl Tryz.underlying215 Tryz.underlying215 (by exact .inl rfl) m9 rfl (fun m=>Src.bT (m.ord 0 rfl)) ij (by unfold maxLen;omega) (by omega) (fun u=>⟨(fun h=>absurd h (by decide)), ?_⟩))
   refine cf (fun m=>(m.own 0 rfl).slice) ?_
   rintro⟨A_o,c_o,rfl,hc_o⟩
   refine cf (fun m=>(m.ord 0 rfl).2.1) fun hA_o=> ?_
   refine jz (fun w m=>m.bM 0 rfl (show _=aH 166 1 (.slice A_o (i+1) c_o) (i+1) (ei (wl l (i+1)))from by rw[hws,oo])) ?_
   refine an (ab rfl)<|bq<|al (ρ' :=[(6,_),(10,_),(9,_),(32,_),(8,_),(21,_),(7,_),(5,_),(4,_),(0,_),(1,_)]) ⟨rfl,rfl,rfl,rfl,rfl,rfl,rfl,rfl,rfl,rfl,rfl,trivial⟩<|ak (X' :=[_,_,_]) (S' :=[_,_]) (fun _ m=>m)<|aQ<|ag<|aj<|hy (fun _=>aa rfl)<|hy (fun _=>aJ rfl rfl (bA (by omega) (by omega)))<|hy (fun _=>ab rfl)<|ai<|al (ρ' :=[(8,_),(6,_),(10,_),(9,_),(32,_),(21,_),(7,_),(5,_),(4,_),(0,_),(1,_)]) ⟨rfl,rfl,rfl,rfl,rfl,rfl,rfl,rfl,rfl,rfl,rfl,trivial⟩<| ?_
   refine fY (i+1) A_o c_o ⟨rfl,rfl,rfl,rfl,rfl,rfl,rfl,rfl,trivial⟩ [0,1] rfl [0,1] rfl (⟨by omega,by omega⟩) (by omega)
  ·obtain rfl:i=64:=by omega
   obtain⟨W,hW⟩:∃W,wl l 64=W:=⟨_,rfl⟩
   have hw64:W.length=64:=by rw[←hW];exact fy l 64
   rw[hW]
   refine bP<|au<|au<|aC<|ag<|ah<|aj<|hy (fun _=>ab rfl)<|ai<|ag<|ah<|aj<|hy (fun _=>aa rfl)<|hy (fun _=>aa rfl)<| ?_
   refine aL (fun w m=>m.dx (r' :=aH 166 1 (.slice none 0 0) 0 []) (.refl _ _) (Own.nil _ _ _ _) (fun k hk=>hk.elim)) ?_
   refine hx (bB 0 rfl rfl rfl Tryz.underlying215 Tryz.underlying215 (by exact .inl rfl) m9 rfl (fun m=>Src.bT (m.rd 0 rfl)) ij (by unfold maxLen;omega) (by omega) (fun u=> ?_))
   refine az (fun m=>(m.own 0 rfl).slice) ?_
   rintro⟨A_v,c_v,rfl,hc_v⟩
   refine az (fun m=>(m.ord 0 rfl).2.1) fun hA_v=> ?_
   refine aL (fun w m=>m.bM 0 rfl (show _=aH 166 1 (.slice A_v 8 c_v) 8 (ei (mP W h 0))from rfl)) ?_
   refine hy (fun _=>ab rfl)<|ai<|al (ρ' :=[(11,_),(32,_),(6,_),(8,_),(21,_),(7,_),(5,_),(4,_),(0,_),(1,_)]) ⟨rfl,rfl,rfl,rfl,rfl,rfl,rfl,rfl,rfl,rfl,trivial⟩<|ak (X' :=[_,_,_]) (S' :=[_,_]) (fun _ m=>m)<|ag<|ah<|ah<|aj<|hy (fun _=>ab rfl)<|ai<|ag<|aN<| ?_
   refine iM (fun i A2 c2=>64-i) (fun i A2 c2=>[(11,.slice A2 8 c2),(12,.int .i64 (i:Nat))]) (fun i A2 c2=>[aH 166 1 (.slice A2 8 c2) 8 (ei (mP W h i))]) (fun i A2 c2=>[]) (fun i A2 c2=>i≤64) 0 A_v c_v [(32,_),(6,_),(8,_),(21,_),(7,_),(5,_),(4,_),(0,_),(1,_)] ⟨rfl,rfl,rfl,rfl,rfl,rfl,rfl,rfl,rfl,trivial⟩ [0] rfl [] rfl (Nat.zero_le _) ⟨rfl,rfl,trivial⟩ (fun i A2 c2 hi64=> ?_)
   have hv:=kx (w:=W) hh i
   have hro:gO.length=64:=rfl
   refine ba (fun m=>(m.ord 0 rfl).2.1) fun hA_v=> ?_
   refine ba (fun m=>(m.ord 2 rfl).2.1) fun hA_x=> ?_
   refine ba (fun m=>(m.ord 1 rfl).2.1) fun hA_o=> ?_
   refine ah<|ah<|aj<|hy (fun _=>aa rfl)<|hy (fun _=>br rfl rfl)<|ai<|al (ρ' :=[(97,_),(11,_),(12,_),(32,_),(6,_),(8,_),(21,_),(7,_),(5,_),(4,_),(0,_),(1,_)]) ⟨rfl,rfl,rfl,rfl,rfl,rfl,rfl,rfl,rfl,rfl,rfl,rfl,trivial⟩<|ag<| ?_
   refine cL rfl (fun hlt=> ?_) (fun hlt=> ?_)
   ·generalize hvd:mP W h i=v at hv ⊢
    refine aB<|ag<|ah<|aN<|ah<|cK [3,7,12] [(0,some 3),(1,some 0),(2,some 0),(4,some 1),(5,some 1),(6,some 1),(9,some 2),(10,some 2),(11,some 2),(3,none),(7,none),(8,some 3),(12,none),(13,some 3),(14,some 3)] (by kernel_rfl) (by kernel_rfl) rfl 99<|an (aa rfl)<|an (aK rfl rfl Tryz.underlying215 bN hA_v (show((4:Nat):Int)=4 from rfl) (by omega))<|cd (fun m=>ar rfl bW ((m.ord 0 rfl).cell (j:=4) (bk (by omega))))<|an (aa rfl)<|an (aK rfl rfl Tryz.underlying215 bN hA_v (show((4:Nat):Int)=4 from rfl) (by omega))<|cd (fun m=>ar rfl bW ((m.ord 0 rfl).cell (j:=4) (bk (by omega))))<|an (aa rfl)<|an (aK rfl rfl Tryz.underlying215 bN hA_v (show((4:Nat):Int)=4 from rfl) (by omega))<|cd (fun m=>ar rfl bW ((m.ord 0 rfl).cell (j:=4) (bk (by omega))))<| ?_
    refine ee (ao rfl Tryz.call204 (jd (by omega) (n:=6)) [] rfl [] rfl ?_)
    rintro _ _ _ ⟨rfl,rfl,rfl⟩
    refine⟨(fun _=>wk [0,0,0] [0,1] rfl rfl), ?_⟩
    refine ee (ao rfl Tryz.call204 (jd (by omega) (n:=11)) [] rfl [] rfl ?_)
    rintro _ _ _ ⟨rfl,rfl,rfl⟩
    refine⟨(fun _=>wk [0,0,0] [0,1] rfl rfl), ?_⟩
    refine an (en rfl rfl)<| ?_
    refine ee (ao rfl Tryz.call204 (jd (by omega) (n:=25)) [] rfl [] rfl ?_)
    rintro _ _ _ ⟨rfl,rfl,rfl⟩
    refine⟨(fun _=>wk [0,0,0] [0,1] rfl rfl), ?_⟩
    refine an (yV (en rfl rfl) ((rfl:_=Wd (turns 6 11 25 (v_ v 4)))))<|an (ab rfl)<|bq<|al (ρ' :=[(13,_),(97,_),(11,_),(12,_),(32,_),(6,_),(8,_),(21,_),(7,_),(5,_),(4,_),(0,_),(1,_)]) ⟨rfl,rfl,rfl,rfl,rfl,rfl,rfl,rfl,rfl,rfl,rfl,rfl,rfl,trivial⟩<|ak (X' :=[_,_,_]) (S' :=[_,_]) (fun _ m=>m)<|ag<|ah<|cK [] [(0,some 0),(1,some 0),(2,some 0),(3,some 0),(4,some 0),(5,some 0),(6,some 0),(7,some 0),(8,some 0),(9,some 0),(10,some 0),(11,some 0),(12,some 0),(13,some 0),(14,some 0),(15,some 0),(16,some 0)] (by kernel_rfl) (by kernel_rfl) rfl 99<|an (aa rfl)<|an (aK rfl rfl Tryz.underlying215 bN hA_v (show((4:Nat):Int)=4 from rfl) (by omega))<|cd (fun m=>ar rfl bW ((m.ord 0 rfl).cell (j:=4) (bk (by omega))))<|an (aa rfl)<|an (aK rfl rfl Tryz.underlying215 bN hA_v (show((5:Nat):Int)=5 from rfl) (by omega))<|cd (fun m=>ar rfl bW ((m.ord 0 rfl).cell (j:=5) (bk (by omega))))<|an (jc rfl rfl)<|an (aa rfl)<|an (aK rfl rfl Tryz.underlying215 bN hA_v (show((4:Nat):Int)=4 from rfl) (by omega))<|cd (fun m=>ar rfl bW ((m.ord 0 rfl).cell (j:=4) (bk (by omega))))<|an (zz rfl rfl)<|an (aa rfl)<|an (aK rfl rfl Tryz.underlying215 bN hA_v (show((6:Nat):Int)=6 from rfl) (by omega))<|cd (fun m=>ar rfl bW ((m.ord 0 rfl).cell (j:=6) (bk (by omega))))<|an (jc rfl rfl)<|an (en rfl rfl)<|an (ab rfl)<|bq<|al (ρ' :=[(14,_),(13,_),(97,_),(11,_),(12,_),(32,_),(6,_),(8,_),(21,_),(7,_),(5,_),(4,_),(0,_),(1,_)]) ⟨rfl,rfl,rfl,rfl,rfl,rfl,rfl,rfl,rfl,rfl,rfl,rfl,rfl,rfl,trivial⟩<|ag<|ah<|cK [] [(0,some 0),(1,some 0),(2,some 0),(3,some 0),(4,some 0),(5,some 0),(6,some 0),(7,some 0),(8,some 0),(9,some 0),(10,some 0),(11,some 0),(12,some 0),(13,some 0),(14,some 0),(15,some 0),(16,some 0),(17,some 0)] (by kernel_rfl) (by kernel_rfl) rfl 99<|an (aa rfl)<|an (aK rfl rfl Tryz.underlying215 bN hA_v (show((7:Nat):Int)=7 from rfl) (by omega))<|cd (fun m=>ar rfl bW ((m.ord 0 rfl).cell (j:=7) (bk (by omega))))<|an (aa rfl)<|an (dy rfl rfl)<|an (aa rfl)<|an (dy rfl rfl)<|an (aa rfl)<|an (aa rfl)<|an (aK rfl rfl Tryz.underlying215 bN hA_x rfl (by omega))<|cd (fun m=>ar rfl bW ((m.ord 2 rfl).cell (j:=i) (bk (by omega))))<| ?_
    generalize hk:gO.getD i 0=k
    refine an (dy rfl rfl)<|an (aa rfl)<|an (aa rfl)<|an (aK rfl rfl Tryz.underlying215 bN hA_o rfl (by omega))<|cd (fun m=>ar rfl bW ((m.ord 1 rfl).cell (j:=i) (bk (by omega))))<|an (yV (dy rfl rfl) ((rfl:_=Wd (rt v k (W.getD i 0)))))<|an (ab rfl)<|bq<|al (ρ' :=[(15,_),(14,_),(13,_),(97,_),(11,_),(12,_),(32,_),(6,_),(8,_),(21,_),(7,_),(5,_),(4,_),(0,_),(1,_)]) ⟨rfl,rfl,rfl,rfl,rfl,rfl,rfl,rfl,rfl,rfl,rfl,rfl,rfl,rfl,rfl,trivial⟩<|ag<|ah<|cK [3,7,12] [(0,some 3),(1,some 0),(2,some 0),(4,some 1),(5,some 1),(6,some 1),(9,some 2),(10,some 2),(11,some 2),(3,none),(7,none),(8,some 3),(12,none),(13,some 3),(14,some 3)] (by kernel_rfl) (by kernel_rfl) rfl 99<|an (aa rfl)<|an (aK rfl rfl Tryz.underlying215 bN hA_v (show((0:Nat):Int)=0 from rfl) (by omega))<|cd (fun m=>ar rfl bW ((m.ord 0 rfl).cell (j:=0) (bk (by omega))))<|an (aa rfl)<|an (aK rfl rfl Tryz.underlying215 bN hA_v (show((0:Nat):Int)=0 from rfl) (by omega))<|cd (fun m=>ar rfl bW ((m.ord 0 rfl).cell (j:=0) (bk (by omega))))<|an (aa rfl)<|an (aK rfl rfl Tryz.underlying215 bN hA_v (show((0:Nat):Int)=0 from rfl) (by omega))<|cd (fun m=>ar rfl bW ((m.ord 0 rfl).cell (j:=0) (bk (by omega))))<| ?_
    refine ee (ao rfl Tryz.call204 (jd (by omega) (n:=2)) [] rfl [] rfl ?_)
    rintro _ _ _ ⟨rfl,rfl,rfl⟩
    refine⟨(fun _=>wk [0,0,0] [0,1] rfl rfl), ?_⟩
    refine ee (ao rfl Tryz.call204 (jd (by omega) (n:=13)) [] rfl [] rfl ?_)
    rintro _ _ _ ⟨rfl,rfl,rfl⟩
    refine⟨(fun _=>wk [0,0,0] [0,1] rfl rfl), ?_⟩
    refine an (en rfl rfl)<| ?_
    refine ee (ao rfl Tryz.call204 (jd (by omega) (n:=22)) [] rfl [] rfl ?_)
    rintro _ _ _ ⟨rfl,rfl,rfl⟩
    refine⟨(fun _=>wk [0,0,0] [0,1] rfl rfl), ?_⟩
    refine an (yV (en rfl rfl) ((rfl:_=Wd (turns 2 13 22 (v_ v 0)))))<|an (ab rfl)<|bq<|al (ρ' :=[(16,_),(15,_),(14,_),(13,_),(97,_),(11,_),(12,_),(32,_),(6,_),(8,_),(21,_),(7,_),(5,_),(4,_),(0,_),(1,_)]) ⟨rfl,rfl,rfl,rfl,rfl,rfl,rfl,rfl,rfl,rfl,rfl,rfl,rfl,rfl,rfl,rfl,trivial⟩<|ak (X' :=[_,_,_]) (S' :=[_,_]) (fun _ m=>m)<|ag<|ah<|cK [] [(0,some 0),(1,some 0),(2,some 0),(3,some 0),(4,some 0),(5,some 0),(6,some 0),(7,some 0),(8,some 0),(9,some 0),(10,some 0),(11,some 0),(12,some 0),(13,some 0),(14,some 0),(15,some 0),(16,some 0),(17,some 0),(18,some 0),(19,some 0),(20,some 0),(21,some 0),(22,some 0),(23,some 0)] (by kernel_rfl) (by kernel_rfl) rfl 99<|an (aa rfl)<|an (aK rfl rfl Tryz.underlying215 bN hA_v (show((0:Nat):Int)=0 from rfl) (by omega))<|cd (fun m=>ar rfl bW ((m.ord 0 rfl).cell (j:=0) (bk (by omega))))<|an (aa rfl)<|an (aK rfl rfl Tryz.underlying215 bN hA_v (show((1:Nat):Int)=1 from rfl) (by omega))<|cd (fun m=>ar rfl bW ((m.ord 0 rfl).cell (j:=1) (bk (by omega))))<|an (jc rfl rfl)<|an (aa rfl)<|an (aK rfl rfl Tryz.underlying215 bN hA_v (show((0:Nat):Int)=0 from rfl) (by omega))<|cd (fun m=>ar rfl bW ((m.ord 0 rfl).cell (j:=0) (bk (by omega))))<|an (aa rfl)<|an (aK rfl rfl Tryz.underlying215 bN hA_v (show((2:Nat):Int)=2 from rfl) (by omega))<|cd (fun m=>ar rfl bW ((m.ord 0 rfl).cell (j:=2) (bk (by omega))))<|an (jc rfl rfl)<|an (en rfl rfl)<|an (aa rfl)<|an (aK rfl rfl Tryz.underlying215 bN hA_v (show((1:Nat):Int)=1 from rfl) (by omega))<|cd (fun m=>ar rfl bW ((m.ord 0 rfl).cell (j:=1) (bk (by omega))))<|an (aa rfl)<|an (aK rfl rfl Tryz.underlying215 bN hA_v (show((2:Nat):Int)=2 from rfl) (by omega))<|cd (fun m=>ar rfl bW ((m.ord 0 rfl).cell (j:=2) (bk (by omega))))<|an (jc rfl rfl)<|an (en rfl rfl)<|an (ab rfl)<|bq<|al (ρ' :=[(17,_),(16,_),(15,_),(14,_),(13,_),(97,_),(11,_),(12,_),(32,_),(6,_),(8,_),(21,_),(7,_),(5,_),(4,_),(0,_),(1,_)]) ⟨rfl,rfl,rfl,rfl,rfl,rfl,rfl,rfl,rfl,rfl,rfl,rfl,rfl,rfl,rfl,rfl,rfl,trivial⟩<|ag<|cK [28] [(0,some 0),(1,some 0),(2,some 0),(3,some 0),(4,some 0),(5,some 0),(6,some 0),(7,some 0),(8,some 0),(9,some 0),(10,some 0),(11,some 0),(12,some 0),(13,some 0),(14,some 0),(15,some 0),(16,some 0),(17,some 0),(18,some 0),(19,some 0),(20,some 0),(21,some 0),(22,some 0),(23,some 0),(24,some 0),(25,some 0),(26,some 0),(27,some 0),(28,none),(29,some 1)] (by kernel_rfl) (by kernel_rfl) rfl 99<|an (aa rfl)<|an (aa rfl)<|an (dy rfl rfl)<|an (aa rfl)<|an (yV (dy rfl rfl) ((show Wd (rt v k (W.getD i 0)+turns 2 13 22 (v_ v 0)+((v_ v 0 &&& v_ v 1) ^^^ (v_ v 0 &&& v_ v 2) ^^^ (v_ v 1 &&& v_ v 2)))=Wd (rt v k (W.getD i 0)+ru v) by rw[UInt32.add_assoc];rfl)))<|an (aa rfl)<|an (aK rfl rfl Tryz.underlying215 bN hA_v (show((0:Nat):Int)=0 from rfl) (by omega))<|cd (fun m=>ar rfl bW ((m.ord 0 rfl).cell (j:=0) (bk (by omega))))<|an (aa rfl)<|an (aK rfl rfl Tryz.underlying215 bN hA_v (show((1:Nat):Int)=1 from rfl) (by omega))<|cd (fun m=>ar rfl bW ((m.ord 0 rfl).cell (j:=1) (bk (by omega))))<|an (aa rfl)<|an (aK rfl rfl Tryz.underlying215 bN hA_v (show((2:Nat):Int)=2 from rfl) (by omega))<|cd (fun m=>ar rfl bW ((m.ord 0 rfl).cell (j:=2) (bk (by omega))))<|an (aa rfl)<|an (aK rfl rfl Tryz.underlying215 bN hA_v (show((3:Nat):Int)=3 from rfl) (by omega))<|cd (fun m=>ar rfl bW ((m.ord 0 rfl).cell (j:=3) (bk (by omega))))<|an (aa rfl)<|an (dy rfl rfl)<|an (aa rfl)<|an (aK rfl rfl Tryz.underlying215 bN hA_v (show((4:Nat):Int)=4 from rfl) (by omega))<|cd (fun m=>ar rfl bW ((m.ord 0 rfl).cell (j:=4) (bk (by omega))))<|an (aa rfl)<|an (aK rfl rfl Tryz.underlying215 bN hA_v (show((5:Nat):Int)=5 from rfl) (by omega))<|cd (fun m=>ar rfl bW ((m.ord 0 rfl).cell (j:=5) (bk (by omega))))<|an (aa rfl)<|an (aK rfl rfl Tryz.underlying215 bN hA_v (show((6:Nat):Int)=6 from rfl) (by omega))<|cd (fun m=>ar rfl bW ((m.ord 0 rfl).cell (j:=6) (bk (by omega))))<| ?_
    refine ee (b8 Tryz.underlying215 m9 rfl rfl rfl (by exact sc (l:=[_,_,_,_,_,_,_,_])) (by decide) (by decide) (fun g212=>⟨(fun _=>wk [1,1,1] [0,1] rfl rfl), ?_⟩))
    have hA_b212:0<8→(some (⟨g212,0,none⟩:Addr))≠none:=fun _ h=>by cases h
    refine an (ab rfl)<|bq<|al (ρ' :=[(11,_),(17,_),(16,_),(15,_),(14,_),(13,_),(97,_),(12,_),(32,_),(6,_),(8,_),(21,_),(7,_),(5,_),(4,_),(0,_),(1,_)]) ⟨rfl,rfl,rfl,rfl,rfl,rfl,rfl,rfl,rfl,rfl,rfl,rfl,rfl,rfl,rfl,rfl,rfl,trivial⟩<|ak (X' :=[_,_,_,_]) (S' :=[_,_]) (fun _ m=>m)<|aQ<|ag<|aj<|hy (fun _=>aa rfl)<|hy (fun _=>aJ rfl rfl (bA (by omega) (by omega)))<|hy (fun _=>ab rfl)<|ai<|al (ρ' :=[(12,_),(11,_),(17,_),(16,_),(15,_),(14,_),(13,_),(97,_),(32,_),(6,_),(8,_),(21,_),(7,_),(5,_),(4,_),(0,_),(1,_)]) ⟨rfl,rfl,rfl,rfl,rfl,rfl,rfl,rfl,rfl,rfl,rfl,rfl,rfl,rfl,rfl,rfl,rfl,trivial⟩<| ?_
    refine ak (fun w m=>m.bM 0 rfl (show _=aH 166 1 (.slice (some ⟨g212,0,none⟩) 8 8) 8 (ei (mP W h (i+1)))from by rw[mP,hvd,hk];rfl)) ?_
    refine fY (i+1) (some ⟨g212,0,none⟩) 8 ⟨rfl,rfl,rfl,rfl,rfl,rfl,rfl,rfl,rfl,rfl,rfl,trivial⟩ [0,1,1] rfl [0,1] rfl (by omega) (by omega)
   ·obtain rfl:i=64:=by omega
    generalize hvv:mP W h 64=v at hv ⊢
    refine bu (fun w m=>m.bM 0 rfl (show _=aH 166 1 (.slice A2 8 c2) 8 (ei (fX v h 0))from by rw[qq])) ?_
    refine bP<|au<|au<|aC<|ag<|ah<|ah<|aj<|hy (fun _=>ab rfl)<|ai<|ag<|aN<| ?_
    refine dR (fun j=>8-j) (fun j=>[(18,.int .i64 (j:Nat))]) (fun j=>[aH 166 1 (.slice A2 8 c2) 8 (ei (fX v h j))]) (fun j=>[]) (fun j=>j≤8) 0 [(97,_),(11,_),(12,_),(32,_),(6,_),(8,_),(21,_),(7,_),(5,_),(4,_),(0,_),(1,_)] ⟨rfl,rfl,rfl,rfl,rfl,rfl,rfl,rfl,rfl,rfl,rfl,rfl,trivial⟩ [0] rfl [] rfl (Nat.zero_le _) ⟨rfl,trivial⟩ (fun j hj8=> ?_)
    have hsl:(fX v h j).length=v.length:=by simp[fX]
    refine ah<|ah<|aj<|hy (fun _=>aa rfl)<|hy (fun _=>br rfl rfl)<|ai<|al (ρ' :=[(214,_),(18,_),(97,_),(11,_),(12,_),(32,_),(6,_),(8,_),(21,_),(7,_),(5,_),(4,_),(0,_),(1,_)]) ⟨rfl,rfl,rfl,rfl,rfl,rfl,rfl,rfl,rfl,rfl,rfl,rfl,rfl,rfl,trivial⟩<|ag<| ?_
    refine cL rfl (fun hj=> ?_) (fun hj=> ?_)
    ·refine aB<|ag<|ah<|aN<|cK [12] [(0,some 0),(1,some 0),(2,some 0),(3,some 0),(4,some 0),(5,some 0),(6,some 0),(7,some 0),(8,some 0),(9,some 0),(10,some 0),(11,some 0),(12,none)] (by kernel_rfl) (by kernel_rfl) rfl 0<|an (aa rfl)<|an (aa rfl)<|an (aa rfl)<|an (aa rfl)<|an (aK rfl rfl Tryz.underlying215 bN hA_v rfl (by omega))<|cd (fun m=>ar rfl bW ((m.ord 0 rfl).cell (j:=j) (bk (by omega))))<|an (aa rfl)<|an (aa rfl)<|an (aK rfl rfl Tryz.underlying215 bN hA_q rfl (by omega))<|cd (fun m=>ar rfl bW ((m.rd 0 rfl).cell (j:=j) (bk (by omega))))<|an (yV (dy rfl rfl) ((rfl:_=Wd (v_ (fX v h j) j+v_ h j))))<|an (aK rfl rfl Tryz.underlying215 bN hA_v rfl (by omega))<| ?_
     refine j5 (wy 0 rfl rfl rfl bN rfl (by omega) ⟨(fun h=>absurd h (by decide)), ?_⟩)
     refine bq<|al (ρ' :=[(214,_),(18,_),(97,_),(11,_),(12,_),(32,_),(6,_),(8,_),(21,_),(7,_),(5,_),(4,_),(0,_),(1,_)]) ⟨rfl,rfl,rfl,rfl,rfl,rfl,rfl,rfl,rfl,rfl,rfl,rfl,rfl,rfl,trivial⟩<|ak (X' :=[_,_,_]) (S' :=[_,_]) (fun _ m=>m)<|aQ<|ag<|aj<|hy (fun _=>aa rfl)<|hy (fun _=>aJ rfl rfl (bA (by omega) (by omega)))<|hy (fun _=>ab rfl)<|ai<|al (ρ' :=[(18,_),(214,_),(97,_),(11,_),(12,_),(32,_),(6,_),(8,_),(21,_),(7,_),(5,_),(4,_),(0,_),(1,_)]) ⟨rfl,rfl,rfl,rfl,rfl,rfl,rfl,rfl,rfl,rfl,rfl,rfl,rfl,rfl,trivial⟩<| ?_
     refine ak (fun w m=>m.bM 0 rfl (show _=aH 166 1 (.slice A2 8 c2) 8 (ei (fX v h (j+1)))from by rw[uf,pX (by omega)])) ?_
     refine cZ (j+1) ⟨rfl,rfl,rfl,rfl,rfl,rfl,rfl,rfl,rfl,rfl,rfl,rfl,rfl,trivial⟩ [0,0,0] rfl [0,1] rfl (by omega) (by omega)
    ·obtain rfl:j=8:=by omega
     have hB:fX v h 8=eX h l:=by rw[eX,hW,hvv]
     rw[hB]
     refine bP<|au<|au<|aC<|ag<|ah<|aj<|hy (fun _=>aa rfl)<|hy (fun _=>ab rfl)<|ai<|al (ρ' :=[(4,_),(214,_),(18,_),(97,_),(11,_),(12,_),(32,_),(6,_),(8,_),(21,_),(7,_),(5,_),(0,_),(1,_)]) ⟨rfl,rfl,rfl,rfl,rfl,rfl,rfl,rfl,rfl,rfl,rfl,rfl,rfl,rfl,trivial⟩<|ag<|aU<| ?_
     exact bc trivial rfl rfl [0] rfl [] rfl ⟨_,rfl,rfl,rfl⟩
end Go.Proofs.YtmibdabdlgmafaaGreatDoor
end
section
set_option maxRecDepth 20000
namespace Go.Proofs.YtmibdabdlgmafaaGreatDoor
open Go.Eng Go.Hx
def lB(n:Nat):Nat→Nat
 |0=>n
 |i+1=>lB n i/256
theorem om(n:Nat):∀i,lB n i=n/256 ^ i
 |0=>by simp[lB]
 |i+1=>by rw[lB,om n i,Nat.div_div_eq_div_mul,Nat.pow_succ]
def n9(n i:Nat):List UInt8:=List.replicate (8-i) 0++(rC n).drop (8-i)
theorem kT(n:Nat):(rC n).length=8:=by simp[rC]
theorem xU(n i:Nat)(h:i≤8):(n9 n i).length=8:=by
 rw[n9,List.length_append,List.length_replicate,List.length_drop,kT];omega
theorem vP{n i:Nat}(hi:i<8):(n9 n i).set (7-i) (UInt8.ofNat (lB n i % 256))=n9 n (i+1):=by
 have e:UInt8.ofNat (lB n i % 256)=UInt8.ofNat (n/256 ^ i):=by
  rw[om];apply UInt8.toNat_inj.1;simp
 rw[e]
 obtain⟨k,hk⟩:∃k,8-i=k+1:=⟨7-i,by omega⟩
 have h7:7-i=k:=by omega
 have hd:(rC n).drop k=UInt8.ofNat (n/256 ^ i)::(rC n).drop (k+1):=by
  rw[List.drop_eq_getElem_cons (by rw[kT];omega)]
  congr 1
  simp only[rC,List.getElem_map,List.getElem_range]
  congr 3;omega
 rw[n9,n9,hk,h7,show 8-(i+1)=k by omega,hd,List.replicate_succ',List.append_assoc,List.set_append_right _ _ (by simp)]
 simp
theorem zN{A:Option Addr}{n c:Nat}{l:List UInt8}(hn:n≤140737488351232):cj Tryz.prog 141 [.slice A n c] [] [dr 1 A n (aZ l)] (fun v_ X_ S_=>∃v,v_=v∧X_=[aH 5 1 v (jo l).length (aZ (jo l))]∧S_=[]):=by
 have hz64:iC n<64:=Nat.mod_lt _ (by decide)
 have hzp:(n+(1+iC n)) % 64=56:=by unfold iC;omega
 have hzm:∀j,j<iC n→(n+(1+j)) % 64≠56:=fun j hj=>by unfold iC at hj;omega
 refine aO (N:=39) Tryz.func141 rfl rfl (by simp) fun b=> ?_
 refine ba (fun m=>gK (m.rd 0 rfl)) ?_
 rintro⟨hl_r,hA_r⟩
 have hl:l.length=n:=hl_r
 refine ah<|aj<|hy (fun _=>ab rfl)<|ai<|ag<|ah<|aj<|hy (fun _=>ab rfl)<|ai<|ag<|ah<|aj<|hy (fun _=>aa rfl)<|hy (fun _=>aa rfl)<| ?_
 refine aL (fun w m=>m.dx (r' :=aH 5 1 (.slice none 0 0) 0 []) (.refl _ _) (Own.nil _ _ _ _) (fun k hk=>hk.elim)) ?_
 refine hx (bB 0 rfl rfl rfl Tryz.underlying27 Tryz.underlying27 (by exact .inl rfl) eO rfl (fun m=>Src.bT (m.rd 0 rfl)) aY (by unfold maxLen;omega) (by omega) (fun u=> ?_))
 refine az (fun m=>(m.own 0 rfl).slice) ?_
 rintro⟨A_o,c_o,rfl,hc_o⟩
 refine az (fun m=>(m.ord 0 rfl).2.1) fun hA_o=> ?_
 rw[Nat.zero_add]
 refine hy (fun _=>ab rfl)<|ai<|al (ρ' :=[(3,_),(2,_),(0,_)]) ⟨rfl,rfl,rfl,trivial⟩<|ak (X' :=[_]) (S' :=[_]) (fun _ m=>m)<|ag<|ah<|aj<|hy (fun _=>aa rfl)<| ?_
 refine hx (b8 Tryz.underlying27 eO rfl rfl rfl (by simp[Value.cells,B8]) (by decide) (by decide) (fun g11=> ?_))
 have hA_b11:0<1→(some (⟨g11,0,none⟩:Addr))≠none:=fun _ h=>by cases h
 refine aL (fun w m=>m.bM 0 rfl (show _=aH 5 1 (.slice (some ⟨g11,0,none⟩) 1 1) 1 (aZ [128])from rfl)) ?_
 refine hx (bB 1 rfl rfl rfl Tryz.underlying27 Tryz.underlying27 (by exact .inl rfl) eO rfl (fun m=>Src.bT (m.ord 0 rfl)) aY (by unfold maxLen;omega) (by omega) (fun u2=> ?_))
 refine az (fun m=>(m.own 0 rfl).slice) ?_
 rintro⟨A_o2,c_o2,rfl,hc_o⟩
 refine az (fun m=>(m.ord 0 rfl).2.1) fun hA_o=> ?_
 refine aL (fun w m=>m.bM 0 rfl (show _=aH 5 1 (.slice A_o2 (n+1+0) c_o2) (n+1+0) (aZ (l++128::List.replicate 0 0))from by simp[aZ])) ?_
 refine hy (fun _=>ab rfl)<|ai<|al (ρ' :=[(3,_),(2,_),(0,_)]) ⟨rfl,rfl,rfl,trivial⟩<|ak (X' :=[_,_]) (S' :=[_]) (fun _ m=>m)<|ag<|ah<|aN<| ?_
 refine iM (fun j A1 cc=>iC n-j) (fun j A1 cc=>[(3,.slice A1 (n+1+j) cc)]) (fun j A1 cc=>[aH 5 1 (.slice A1 (n+1+j) cc) (n+1+j) (aZ (l++128::List.replicate j 0))]) (fun j A1 cc=>[]) (fun j A1 cc=>j≤iC n) 0 A_o2 c_o2 [(2,_),(0,_)] ⟨rfl,rfl,trivial⟩ [0] rfl [] rfl (Nat.zero_le _) ⟨rfl,trivial⟩ (fun j A1 cc hjz=> ?_)
 refine ah<|ah<|aj<|hy (fun _=>aa rfl)<|hy (fun _=>aR rfl Tryz.underlying27)<|hy (fun _=>gC rfl rfl (by omega) (by omega))<|hy (fun _=>de rfl rfl)<|ai<|al (ρ' :=[(16,_),(3,_),(2,_),(0,_)]) ⟨rfl,rfl,rfl,rfl,trivial⟩<|ag<| ?_
 refine cL rfl (fun hne=> ?_) (fun hne=> ?_)
 ·have hj:j<iC n:=by
   rcases Nat.lt_or_eq_of_le hjz with h|h
   ·exact h
   ·rw[←h]at hzp;omega
  refine aB<|ag<|aN<|aj<|hy (fun _=>aa rfl)<| ?_
  refine hx (b8 Tryz.underlying27 eO rfl rfl rfl (by simp[Value.cells,B8]) (by decide) (by decide) (fun g18=> ?_))
  have hA_b18:0<1→(some (⟨g18,0,none⟩:Addr))≠none:=fun _ h=>by cases h
  refine aL (fun w m=>m.bM 0 rfl (show _=aH 5 1 (.slice (some ⟨g18,0,none⟩) 1 1) 1 (aZ [0])from rfl)) ?_
  refine hx (bB 1 rfl rfl rfl Tryz.underlying27 Tryz.underlying27 (by exact .inl rfl) eO rfl (fun m=>Src.bT (m.ord 0 rfl)) aY (by unfold maxLen;omega) (by omega) (fun u3=> ?_))
  refine az (fun m=>(m.own 0 rfl).slice) ?_
  rintro⟨A_o3,c_o3,rfl,hc_o⟩
  refine az (fun m=>(m.ord 0 rfl).2.1) fun hA_o=> ?_
  refine hy (fun _=>ab rfl)<|ai<|al (ρ' :=[(3,_),(16,_),(2,_),(0,_)]) ⟨rfl,rfl,rfl,rfl,trivial⟩<|ak (X' :=[_,_,_]) (S' :=[_]) (fun _ m=>m)<|aQ<| ?_
  refine ak (fun w m=>m.bM 0 rfl (show _=aH 5 1 (.slice A_o3 (n+1+(j+1)) c_o3) (n+1+(j+1)) (aZ (l++128::List.replicate (j+1) 0))from by rw[List.replicate_succ'];simp[aZ,Nat.add_assoc])) ?_
  refine fY (j+1) A_o3 c_o3 ⟨rfl,rfl,rfl,trivial⟩ [0,1] rfl [0] rfl (by omega) (by omega)
 ·have hj:j=iC n:=by
   refine Decidable.byContradiction fun hn=> ?_
   have:=hzm j (by omega)
   omega
  subst hj
  refine bP<|au<|au<|aC<|ag<|ah<|aj<|hy (fun _=>aa rfl)<|hy (fun _=>aR rfl Tryz.underlying27)<|hy (fun _=>yV (fD rfl rfl (bA (by omega) (by omega))) ((show Value.int .i64 (8*(n:Int))= .int .i64 ((lB (8*n) 0:Nat):Int) by rw[lB];congr 1)))<|hy (fun _=>ab rfl)<|ai<|al (ρ' :=[(4,_),(16,_),(3,_),(2,_),(0,_)]) ⟨rfl,rfl,rfl,rfl,rfl,trivial⟩<|ag<|ah<|aj<| ?_
  refine hx (AP (n:=8) Tryz.underlying27 eO rfl rfl rfl (by decide) (by decide) (fun g23=> ?_))
  have hA_b23:∀{n:Nat},0<n→(some (⟨g23,0,none⟩:Addr))≠none:=fun _ h=>by cases h
  refine hy (fun _=>ab rfl)<|ai<|al (ρ' :=[(5,_),(4,_),(16,_),(3,_),(2,_),(0,_)]) ⟨rfl,rfl,rfl,rfl,rfl,rfl,trivial⟩<|ak (X' :=[_,_,_]) (S' :=[_]) (fun _ m=>m)<|ag<|ah<|ah<|aj<| ?_
  refine aL (fun w m=>m.bM 0 rfl (show _=aG g23 5 (aZ (n9 (8*n) 0))from by rw[n9,List.drop_of_length_le (by rw[kT];decide),List.append_nil];rfl)) ?_
  refine hy (fun _=>ab rfl)<|ai<|ag<|aN<| ?_
  refine dR (fun i=>8-i) (fun i=>[(4,.int .i64 ((lB (8*n) i:Nat):Int)),(6,.int .i64 (7-(i:Int)))]) (fun i=>[aG g23 5 (aZ (n9 (8*n) i))]) (fun i=>[]) (fun i=>i≤8) 0 [(5,_),(16,_),(3,_),(2,_),(0,_)] ⟨rfl,rfl,rfl,rfl,rfl,trivial⟩ [0] rfl [] rfl (Nat.zero_le _) ⟨rfl,rfl,trivial⟩ (fun i hi8=> ?_)
  have hq:lB (8*n) i≤8*n:=by rw[om];exact Nat.div_le_self ..
  have hbl:=xU (8*n) i hi8
  refine ah<|ah<|aj<|hy (fun _=>aa rfl)<|hy (fun _=>iD rfl rfl)<|ai<|al (ρ' :=[(25,_),(4,_),(6,_),(5,_),(16,_),(3,_),(2,_),(0,_)]) ⟨rfl,rfl,rfl,rfl,rfl,rfl,rfl,rfl,trivial⟩<|ag<| ?_
  refine cL rfl (fun hi=> ?_) (fun hi=> ?_)
  ·refine aB<|ag<|ah<|aN<|ah<|aj<|hy (fun _=>aa rfl)<|hy (fun _=>aa rfl)<|hy (fun _=>aa rfl)<|hy (fun _=>gC rfl rfl (by omega) (by omega))<|hy (fun _=>bU rfl Tryz.underlying3 Tryz.underlying5 (show IntKind.u8.wrap (((lB (8*n) i:Nat):Int) % 256)=((UInt8.ofNat (lB (8*n) i % 256)).toNat:Int)from gV (lB (8*n) i % 256)))<|hy (fun _=>aK rfl rfl Tryz.underlying27 eg hA_b23 (show((7-i:Nat):Int)=_ by omega) (by omega))<| ?_
   refine cI (bR 0 rfl rfl rfl eg rfl (by rw[aF,hbl];omega) ?_)
   refine ai<|al (ρ' :=[(25,_),(4,_),(6,_),(5,_),(16,_),(3,_),(2,_),(0,_)]) ⟨rfl,rfl,rfl,rfl,rfl,rfl,rfl,rfl,trivial⟩<|ak (X' :=[_,_,_]) (S' :=[_]) (fun _ m=>m)<|ag<|aj<|hy (fun _=>aa rfl)<|hy (fun _=>yV (iI rfl rfl (by omega) (by omega) (bA (by omega) (by omega))) ((show Value.int .i64 (((lB (8*n) i:Nat):Int)/256)= .int .i64 ((lB (8*n) (i+1):Nat):Int)from rfl)))<|hy (fun _=>ab rfl)<|ai<|al (ρ' :=[(4,_),(25,_),(6,_),(5,_),(16,_),(3,_),(2,_),(0,_)]) ⟨rfl,rfl,rfl,rfl,rfl,rfl,rfl,rfl,trivial⟩<|aQ<|ag<|aj<|hy (fun _=>aa rfl)<|hy (fun _=>yV (cm rfl rfl (bA (by omega) (by omega))) ((show Value.int .i64 (7-(i:Int)-1)= .int .i64 (7-((i+1:Nat):Int))from congrArg (Value.int .i64) (by omega))))<|hy (fun _=>ab rfl)<|ai<|al (ρ' :=[(6,_),(4,_),(25,_),(5,_),(16,_),(3,_),(2,_),(0,_)]) ⟨rfl,rfl,rfl,rfl,rfl,rfl,rfl,rfl,trivial⟩<| ?_
   refine ak (fun w m=>m.bM 0 rfl (show _=aG g23 5 (aZ (n9 (8*n) (i+1)))from by rw[Nat.zero_add,←vP (by omega),vb];rfl)) ?_
   refine cZ (i+1) ⟨rfl,rfl,rfl,rfl,rfl,rfl,rfl,trivial⟩ [0,0,0] rfl [0] rfl (by omega) (by omega)
  ·obtain rfl:i=8:=by omega
   have hpl:(jo l).length=n+1+iC n+8:=by
    simp only[jo,List.length_append,List.length_cons,List.length_replicate,kT,hl];omega
   refine bu (fun w m=>m.bM 0 rfl (show _=aG g23 5 (aZ (rC (8*n)))from by simp[n9])) ?_
   refine bP<|au<|au<|aC<|ag<|ah<|aj<|hy (fun _=>aa rfl)<|hy (fun _=>aa rfl)<| ?_
   refine hx (bB 1 rfl rfl rfl Tryz.underlying27 Tryz.underlying27 (by exact .inl rfl) eO rfl (fun m=>Src.bT (Rd.iH (m.aT 0 rfl) (by rw[aF,kT]))) aY (by unfold maxLen;omega) (by omega) (fun u3=> ?_))
   refine az (fun m=>(m.own 0 rfl).slice) ?_
   rintro⟨A_o3,c_o3,rfl,hc_o⟩
   refine az (fun m=>(m.ord 0 rfl).2.1) fun hA_o=> ?_
   refine aL (fun w m=>m.bM 0 rfl (show _=aH 5 1 (.slice A_o3 (jo l).length c_o3) (jo l).length (aZ (jo l))from by rw[hpl,jo,hl];simp[aZ])) ?_
   refine hy (fun _=>ab rfl)<|ai<|al (ρ' :=[(2,_),(25,_),(4,_),(6,_),(5,_),(16,_),(3,_),(0,_)]) ⟨rfl,rfl,rfl,rfl,rfl,rfl,rfl,rfl,trivial⟩<|ak (X' :=[_,_,_]) (S' :=[_]) (fun _ m=>m)<|ag<|aU<| ?_
   exact bc trivial rfl rfl [0] rfl [] rfl ⟨_,(by rw[hpl]),rfl,rfl⟩
theorem xY{p r:List UInt8}{k:Nat}{a x:UInt8}(hp:p.length=k):(aZ (p++x::r)).set k (B8 a)=aZ (p++[a]++r):=by
 subst hp
 simp[aZ,List.set_append]
def qw(x:UInt32):Nat→UInt32
 |0=>x
 |j+1=>qw x j/256
theorem r8(x:UInt32):∀j,(qw x j).toNat=x.toNat/256 ^ j
 |0=>by simp[qw]
 |j+1=>by
  rw[qw,UInt32.toNat_div,r8 x j,Nat.pow_succ,←Nat.div_div_eq_div_mul];rfl
theorem Cm(x:UInt32){r:Nat}(hr:r<4):(y0 x)[r]? =some (UInt8.ofNat (qw x (3-r) % 256).toNat):=by
 have h256:(256:UInt32).toNat=256:=rfl
 have e:∀k,UInt8.ofNat ((qw x k % 256).toNat)=UInt8.ofNat (x.toNat/256 ^ k):=fun k=>by
  rw[UInt32.toNat_mod,r8,h256]
  apply UInt8.toNat_inj.1;simp
 rw[e]
 match r,hr with
 |0,_=>simp[y0,UInt32.toNat_div]
 |1,_=>simp[y0,UInt32.toNat_div]
 |2,_=>simp[y0,UInt32.toNat_div]
 |3,_=>simp[y0]
theorem p9:∀(h:List UInt32) (q r:Nat),q<h.length→r<4→(eV h)[4*q+r]? =(y0 (h.getD q 0))[r]?
 |a::t,0,r,hq,hr=>by
  rw[eV,List.flatMap_cons,List.getElem?_append_left (by show 4*0+r<4;omega)]
  simp
 |a::t,q+1,r,hq,hr=>by
  rw[eV,List.flatMap_cons,List.getElem?_append_right (by show 4≤_;omega),show 4*(q+1)+r-(y0 a).length=4*q+r by show 4*(q+1)+r-4=_;omega]
  have:=p9 t q r (by simpa using hq) hr
  simpa[eV]using this
theorem oS{A:Option Addr}{n c:Nat}{l:List UInt8}(hn:n≤140737488351232):cj Tryz.prog 56 [.slice A n c] [] [dr 1 A n (aZ l)] (fun v_ X_ S_=>v_=(.agg (aZ (bF l)).toArray)∧X_=[]∧S_=[]):=by
 refine aO (N:=49) Tryz.func56 rfl rfl (by simp) fun b=> ?_
 refine ba (fun m=>gK (m.rd 0 rfl)) ?_
 rintro⟨hl_r,hA_r⟩
 refine ah<|aj<| ?_
 refine hx (aM cX (fun g2=> ?_))
 refine ai<|ak (X' :=[_]) (S' :=[_]) (fun _ m=>m)<|ag<|ah<|aj<| ?_
 refine hx (b8 Tryz.underlying215 m9 rfl rfl rfl (by decide) (by decide) (by decide) (fun g10=> ?_))
 have hA_b10:0<8→(some (⟨g10,0,none⟩:Addr))≠none:=fun _ h=>by cases h
 refine aL (fun w m=>m.bM 0 rfl (show _=aH 166 1 (.slice (some ⟨g10,0,none⟩) 8 8) 8 (ei (fP pC ((jo l).take (64*0))))from by rw[Nat.mul_zero,List.take_zero];rfl)) ?_
 refine hy (fun _=>ab rfl)<|ai<|al (ρ' :=[(3,_),(2,_),(0,_)]) ⟨rfl,rfl,rfl,trivial⟩<|ak (X' :=[_,_]) (S' :=[_]) (fun _ m=>m)<|ag<|ah<|aj<|hy (fun _=>aa rfl)<| ?_
 refine hx (ao rfl Tryz.call141 (zN (by omega)) [] rfl [0] rfl ?_)
 rintro _ _ _ ⟨v,rfl,rfl,rfl⟩
 refine az (fun m=>(m.own 0 rfl).slice) ?_
 rintro⟨A_x,c_x,rfl,hc_x⟩
 refine az (fun m=>(m.ord 0 rfl).2.1) fun hA_x=> ?_
 refine hy (fun _=>ab rfl)<|ai<|al (ρ' :=[(4,_),(3,_),(2,_),(0,_)]) ⟨rfl,rfl,rfl,rfl,trivial⟩<|ak (X' :=[_,_,_]) (S' :=[_]) (fun _ m=>m)<|ag<|ah<|ah<|aj<|hy (fun _=>ab rfl)<|ai<|ag<|aN<| ?_
 have hpl:=nv l
 have hpb:(jo l).length≤140737488352000:=by
  have:l.length=n:=hl_r
  have hz:iC l.length<64:=Nat.mod_lt _ (by decide)
  simp only[jo,List.length_append,List.length_cons,List.length_replicate,kT];omega
 obtain⟨K,hK⟩:∃K,(jo l).length=64*K:=⟨(jo l).length/64,by omega⟩
 generalize hP:jo l=P at hpl hpb hK hc_x hA_x ⊢
 refine bu (fun w m=>(m.perm (av [0] _ [_] _ rfl)).freeze) ?_
 refine bu (fun w m=>m.gX 0 rfl .own) ?_
 refine ba (fun m=>gK (m.rd 0 rfl)) ?_
 rintro⟨hl_xr,hA_xr⟩
 refine iM (fun k H hc=>K-k) (fun k H hc=>[(3,.slice H 8 hc),(5,.int .i64 ((64*k:Nat):Int))]) (fun k H hc=>[aH 166 1 (.slice H 8 hc) 8 (ei (fP pC (P.take (64*k))))]) (fun k H hc=>[]) (fun k H hc=>k≤K) 0 (some ⟨g10,0,none⟩) 8 [(4,_),(2,_),(0,_)] ⟨rfl,rfl,rfl,trivial⟩ [0] rfl [] rfl (Nat.zero_le _) ⟨rfl,rfl,trivial⟩ (fun k H hc hkK=> ?_)
 have hh:=lQ (h:=pC) (P.take (64*k)) rfl
 refine ah<|ah<|aj<|hy (fun _=>aa rfl)<|hy (fun _=>aa rfl)<|hy (fun _=>aR rfl Tryz.underlying27)<|hy (fun _=>br rfl rfl)<|ai<|al (ρ' :=[(16,_),(3,_),(5,_),(4,_),(2,_),(0,_)]) ⟨rfl,rfl,rfl,rfl,rfl,rfl,trivial⟩<|ag<| ?_
 refine cL rfl (fun hlt=> ?_) (fun hlt=> ?_)
 ·have hk:k<K:=by omega
  refine bu (fun w m=>m.gX 0 rfl (View.sub (k:=64*k) (m:=64) hc_x (by omega))) ?_
  refine ba (fun m=>gK (m.rd 0 rfl)) ?_
  rintro⟨hl_r64,hA_r64⟩
  refine aB<|ag<|ah<|aN<|aj<|hy (fun _=>aa rfl)<|hy (fun _=>aa rfl)<|hy (fun _=>aa rfl)<|hy (fun _=>aa rfl)<|hy (fun _=>aJ rfl rfl (bA (by omega) (by omega)))<|hy (fun _=>yV (eH rfl rfl rfl Tryz.underlying27 eg (show((64*k:Nat):Int)=_ by omega) (show((64*k+64:Nat):Int)=_ by omega) (by omega) (by omega)) ((show Value.slice (if c_x=64*k then A_x else A_x.map (·.add (64*k*1))) (64*k+64-64*k) (c_x-64*k)= .slice (if c_x=64*k then A_x else A_x.map (·.add (64*k*1))) 64 (c_x-64*k) by rw[Nat.add_sub_cancel_left])))<| ?_
  refine hx (cF rfl Tryz.call142 (zw (by omega) hh (h:=(fP pC (P.take (64*k))))) [] rfl (.x 0 rfl .own (.s 0 rfl .nil)) ?_)
  rintro _ _ _ ⟨u,rfl,rfl,rfl⟩
  refine⟨rfl, ?_⟩
  refine az (fun m=>(m.own 0 rfl).slice) ?_
  rintro⟨A_y,c_y,rfl,hc_y⟩
  refine az (fun m=>(m.ord 0 rfl).2.1) fun hA_y=> ?_
  refine hy (fun _=>ab rfl)<|ai<|al (ρ' :=[(3,_),(16,_),(5,_),(4,_),(2,_),(0,_)]) ⟨rfl,rfl,rfl,rfl,rfl,rfl,trivial⟩<|ak (X' :=[_,_,_]) (S' :=[_,_,_,_]) (fun _ m=>m)<|aQ<|ag<|aj<|hy (fun _=>aa rfl)<|hy (fun _=>yV (aJ rfl rfl (bA (by omega) (by omega))) ((show Value.int .i64 (((64*k:Nat):Int)+64)= .int .i64 ((64*(k+1):Nat):Int)from congrArg (Value.int .i64) (by omega))))<|hy (fun _=>ab rfl)<|ai<|al (ρ' :=[(5,_),(3,_),(16,_),(4,_),(2,_),(0,_)]) ⟨rfl,rfl,rfl,rfl,rfl,rfl,trivial⟩<| ?_
  have hfs:eX (fP pC (P.take (64*k))) ((P.drop (64*k)).take 64)=fP pC (P.take (64*(k+1))):=by
   rw[←o3 (by rw[List.length_take];omega) (by rw[List.length_take,List.length_drop];omega),←List.take_add]
   rfl
  rw[hfs]
  refine fY (k+1) A_y c_y ⟨rfl,rfl,rfl,rfl,rfl,trivial⟩ [0,1] rfl [1,2,3] rfl (by omega) (by omega)
 ·obtain rfl:k=K:=by omega
  have hfl:fP pC (P.take (64*k))=fP pC P:=by rw[List.take_of_length_le (by omega)]
  rw[hfl]at hh ⊢
  have hsha:bF l=eV (fP pC P):=by rw[bF,hP]
  have hdl:=l8 hh
  generalize fP pC P=F at hh hsha hdl ⊢
  refine ba (fun m=>(m.ord 0 rfl).2.1) fun hA_b10=> ?_
  refine bP<|au<|au<|aC<|ag<|ah<|aj<| ?_
  refine hx (aM cX (fun g6=> ?_))
  refine ai<|ak (X' :=[_,_,_]) (S' :=[_,_,_]) (fun _ m=>m)<|ag<|ah<|ah<|aj<|hy (fun _=>ab rfl)<|ai<|ag<|aN<| ?_
  refine bu (fun w m=>m.bM 0 rfl (show _=aG g6 53 (aZ ((eV F).take 0++List.replicate (32-0) 0))from rfl)) ?_
  refine dR (fun i=>32-i) (fun i=>[(7,.int .i64 (i:Nat))]) (fun i=>[aG g6 53 (aZ ((eV F).take i++List.replicate (32-i) 0))]) (fun i=>[]) (fun i=>i≤32) 0 [(6,_),(16,_),(3,_),(5,_),(4,_),(2,_),(0,_)] ⟨rfl,rfl,rfl,rfl,rfl,rfl,rfl,trivial⟩ [0] rfl [] rfl (Nat.zero_le _) ⟨rfl,trivial⟩ (fun i hi32=> ?_)
  refine ah<|ah<|aj<|hy (fun _=>aa rfl)<|hy (fun _=>br rfl rfl)<|ai<|al (ρ' :=[(27,_),(7,_),(6,_),(16,_),(3,_),(5,_),(4,_),(2,_),(0,_)]) ⟨rfl,rfl,rfl,rfl,rfl,rfl,rfl,rfl,rfl,trivial⟩<|ag<| ?_
  refine cL rfl (fun hi=> ?_) (fun hi=> ?_)
  ·refine aB<|ag<|ah<|aN<|ah<|aj<|hy (fun _=>aa rfl)<|hy (fun _=>aa rfl)<|hy (fun _=>iI rfl rfl (by omega) (by omega) (bA (by omega) (by omega)))<|hy (fun _=>aK rfl rfl Tryz.underlying215 bN hA_b10 (show((i/4:Nat):Int)=_ by omega) (by omega))<|hy (fun m=>yV (ar rfl bW ((m.ord 1 rfl).cell (j:=i/4) (bk (by omega)))) ((rfl:_=Wd (qw (F.getD (i/4) 0) 0))))<|hy (fun _=>ab rfl)<|ai<|al (ρ' :=[(8,_),(27,_),(7,_),(6,_),(16,_),(3,_),(5,_),(4,_),(2,_),(0,_)]) ⟨rfl,rfl,rfl,rfl,rfl,rfl,rfl,rfl,rfl,rfl,trivial⟩<|ag<|ah<|ah<|aj<|hy (fun _=>aa rfl)<|hy (fun _=>yV (gC rfl rfl (by omega) (by omega)) ((show Value.int .i64 ((i:Int) % 4)= .int .i64 (((i % 4+0:Nat)):Int)from congrArg (Value.int .i64) (by omega))))<|hy (fun _=>ab rfl)<|ai<|al (ρ' :=[(9,_),(8,_),(27,_),(7,_),(6,_),(16,_),(3,_),(5,_),(4,_),(2,_),(0,_)]) ⟨rfl,rfl,rfl,rfl,rfl,rfl,rfl,rfl,rfl,rfl,rfl,trivial⟩<|ag<|aN<| ?_
   refine dR (fun j=>3-j) (fun j=>[(8,Wd (qw (F.getD (i/4) 0) j)),(9,.int .i64 ((i % 4+j:Nat):Int))]) (fun j=>[]) (fun j=>[]) (fun j=>i % 4+j≤3) 0 [(27,_),(7,_),(6,_),(16,_),(3,_),(5,_),(4,_),(2,_),(0,_)] ⟨rfl,rfl,rfl,rfl,rfl,rfl,rfl,rfl,rfl,trivial⟩ [] rfl [] rfl ((by omega)) ⟨rfl,rfl,trivial⟩ (fun j hj3=> ?_)
   refine ah<|ah<|aj<|hy (fun _=>aa rfl)<|hy (fun _=>br rfl rfl)<|ai<|al (ρ' :=[(38,_),(8,_),(9,_),(27,_),(7,_),(6,_),(16,_),(3,_),(5,_),(4,_),(2,_),(0,_)]) ⟨rfl,rfl,rfl,rfl,rfl,rfl,rfl,rfl,rfl,rfl,rfl,rfl,trivial⟩<|ag<| ?_
   refine cL rfl (fun hj=> ?_) (fun hj=> ?_)
   ·refine aB<|ag<|ah<|aN<|aj<|hy (fun _=>aa rfl)<|hy (fun _=>yV (q6 (b:=256) (by decide) rfl rfl) ((rfl:_=Wd (qw (F.getD (i/4) 0) (j+1)))))<|hy (fun _=>ab rfl)<|ai<|al (ρ' :=[(8,_),(38,_),(9,_),(27,_),(7,_),(6,_),(16,_),(3,_),(5,_),(4,_),(2,_),(0,_)]) ⟨rfl,rfl,rfl,rfl,rfl,rfl,rfl,rfl,rfl,rfl,rfl,rfl,trivial⟩<|aQ<|ag<|aj<|hy (fun _=>aa rfl)<|hy (fun _=>yV (aJ rfl rfl (bA (by omega) (by omega))) ((show Value.int .i64 (((i % 4+j:Nat):Int)+1)= .int .i64 ((i % 4+(j+1):Nat):Int)from congrArg (Value.int .i64) (by omega))))<|hy (fun _=>ab rfl)<|ai<|al (ρ' :=[(9,_),(8,_),(38,_),(27,_),(7,_),(6,_),(16,_),(3,_),(5,_),(4,_),(2,_),(0,_)]) ⟨rfl,rfl,rfl,rfl,rfl,rfl,rfl,rfl,rfl,rfl,rfl,rfl,trivial⟩<| ?_
    refine cZ (j+1) ⟨rfl,rfl,rfl,rfl,rfl,rfl,rfl,rfl,rfl,rfl,rfl,trivial⟩ [0,0,0] rfl [0,1,2] rfl (by omega) (by omega)
   ·have hj:j=3-i % 4:=by omega
    subst hj
    have hbyte:(eV F)[i]? =some (UInt8.ofNat (qw (F.getD (i/4) 0) (3-i % 4) % 256).toNat):=by
     rw[←Cm _ (by omega),←p9 F (i/4) (i % 4) (by omega) (by omega)]
     congr 1;omega
    have hri:List.replicate (32-i) (0:UInt8)=0::List.replicate (32-(i+1)) 0:=by rw[show 32-i=(32-(i+1))+1 by omega];rfl
    have hti:(eV F).take (i+1)=(eV F).take i++[UInt8.ofNat (qw (F.getD (i/4) 0) (3-i % 4) % 256).toNat]:=by
     rw[List.take_add_one,hbyte];rfl
    refine bP<|au<|au<|aC<|ag<|aj<|hy (fun _=>aa rfl)<|hy (fun _=>aa rfl)<|hy (fun _=>yQ (b:=256) (by decide) rfl rfl)<|hy (fun _=>wQ rfl Tryz.underlying166 Tryz.underlying5)<|hy (fun _=>bY rfl rfl Tryz.underlying53 eg rfl (by omega))<| ?_
    refine cI (bR 0 rfl rfl rfl eg rfl (by rw[aF,List.length_append,List.length_take,List.length_replicate];omega) ?_)
    refine ai<|al (ρ' :=[(38,_),(8,_),(9,_),(27,_),(7,_),(6,_),(16,_),(3,_),(5,_),(4,_),(2,_),(0,_)]) ⟨rfl,rfl,rfl,rfl,rfl,rfl,rfl,rfl,rfl,rfl,rfl,rfl,trivial⟩<|ak (X' :=[_,_,_]) (S' :=[_,_,_]) (fun _ m=>m)<|aQ<|ag<|aj<|hy (fun _=>aa rfl)<|hy (fun _=>aJ rfl rfl (bA (by omega) (by omega)))<|hy (fun _=>ab rfl)<|ai<|al (ρ' :=[(7,_),(38,_),(8,_),(9,_),(27,_),(6,_),(16,_),(3,_),(5,_),(4,_),(2,_),(0,_)]) ⟨rfl,rfl,rfl,rfl,rfl,rfl,rfl,rfl,rfl,rfl,rfl,rfl,trivial⟩<| ?_
    refine ak (fun w m=>m.bM 0 rfl (show _=aG g6 53 (aZ ((eV F).take (i+1)++List.replicate (32-(i+1)) 0))from by rw[hri,Nat.zero_add,hti];exact congrArg (aG _ _) (xY (by rw[List.length_take];omega)))) ?_
    refine cZ (i+1) ⟨rfl,rfl,rfl,rfl,rfl,rfl,rfl,rfl,trivial⟩ [0,0,0] rfl [0,1,2] rfl (by omega) (by omega)
  ·obtain rfl:i=32:=by omega
   refine bu (fun w m=>m.bM 0 rfl (show _=aG g6 53 (aZ (bF l))from by rw[List.take_of_length_le (by omega),←hsha];simp)) ?_
   refine bP<|au<|au<|aC<|ag<|ah<|aj<|hy (fun m=>yV (aX rfl ct bn (by rw[aF,bC]) ((m.aT 0 rfl).ay)) ((rfl:_=Value.agg (aZ (bF l)).toArray)))<| ?_
   refine cI (aI 2 rfl rfl rfl bn (by rw[aF,bC]) aY rfl ?_)
   refine ai<|al (ρ' :=[(27,_),(7,_),(6,_),(16,_),(3,_),(5,_),(4,_),(2,_),(0,_)]) ⟨rfl,rfl,rfl,rfl,rfl,rfl,rfl,rfl,rfl,trivial⟩<|ak (X' :=[_,_,_]) (S' :=[_,_,_]) (fun _ m=>m)<|ag<|aU<| ?_
   exact fC trivial rfl rfl ct bn (by rw[aF,bC]) (fun m=>(m.aT 0 rfl).ay) [] rfl [] rfl ⟨rfl,rfl,rfl⟩
end Go.Proofs.YtmibdabdlgmafaaGreatDoor
end
section
set_option maxRecDepth 20000
set_option maxHeartbeats 4000000
namespace Go.Proofs.YtmibdabdlgmafaaGreatDoor
open Go.Eng Go.Hx
theorem uI{nm:List UInt8}(hm:nm.length=32):cj Tryz.prog 98 [.agg (aZ nm).toArray] [] [] (fun v_ X_ S_=>v_=(.string (strOf (bV nm)))∧X_=[]∧S_=[]):=by
 have hhl:(b9 nm).length=64:=by rw[dh,hm]
 refine aO (N:=6) Tryz.func98 rfl rfl (by simp) fun b=> ?_
 refine ah<|aj<| ?_
 refine hx (cz rfl (fun g1=> ?_))
 refine aL (fun w m=>m.bM 0 rfl (show _=aG g1 53 (aZ nm)from congrArg (aG _ _) (bG _))) ?_
 refine hy (fun _=>ab rfl)<|ai<|ak (X' :=[_]) (S' :=[]) (fun _ m=>m)<|ag<|ah<|aj<|hy (fun m=>aX rfl ct bn (by rw[aF];exact hm) ((m.aT 0 rfl).ay))<| ?_
 refine hx (ao rfl Tryz.call111 (rk hm) [] rfl [] rfl ?_)
 rintro _ _ _ ⟨rfl,rfl,rfl⟩
 refine hy (fun _=>yV (ep rfl rfl (dS (a:=[116,47]) (b:=b9 nm) (by simp[hhl]))) ((show Value.string (strOf [116,47]++strOf (b9 nm))= .string (strOf (bV nm))from congrArg Value.string (bQ _ _))))<|hy (fun _=>ab rfl)<|ai<|al (ρ' :=[(2,_),(1,_),(0,_)]) ⟨rfl,rfl,rfl,trivial⟩<|ak (X' :=[_]) (S' :=[]) (fun _ m=>m)<|ag<|aU<| ?_
 exact bc trivial rfl rfl [] rfl [] rfl ⟨rfl,rfl,rfl⟩
theorem AZ{x:RX}{kk:Nat}{nm:List UInt8}(ok:vi x.d kk)(hkk:kk≤100000)(hm:nm.length=32)(hrd:(x.d.cJ (bd nm)).length≤10000000):cj Tryz.prog 74 [.agg x.cs.toArray,.agg (aZ nm).toArray] [] [cT x,fm] (fun v_ X_ S_=>v_=(.tuple #[.string (strOf (x.d.r7 nm)),.int .i64 (x.d.ib nm)])∧X_=[]∧S_=[]):=by
 have h32:(aZ nm).length=32:=by rw[aF,hm]
 refine aO (N:=34) Tryz.func74 rfl rfl (by simp) fun b=> ?_
 refine ah<|aj<| ?_
 refine hx (cz rfl (fun g2=> ?_))
 refine aL (fun w m=>m.bM 0 rfl (show _=aG g2 39 x.cs from congrArg (aG _ _) (bG _))) ?_
 refine hx (cz rfl (fun g3=> ?_))
 refine aL (fun w m=>m.bM 0 rfl (show _=aG g3 53 (aZ nm)from congrArg (aG _ _) (bG _))) ?_
 refine hy (fun _=>ab rfl)<|hy (fun _=>ab rfl)<|ai<|ak (X' :=[_,_]) (S' :=[_,_]) (fun _ m=>m)<|ag<|ah<|cK [2,3] [(0,some 1),(1,some 0),(2,none),(3,none),(4,some 2),(5,some 2),(6,some 2),(7,some 2),(8,some 2)] (by kernel_rfl) (by kernel_rfl) rfl 99<|cd (fun m=>yV (aX rfl ca bf rfl ((m.aT 1 rfl).ay)) ((rfl:_=Value.agg x.cs.toArray)))<|cd (fun m=>aX rfl ct bn h32 ((m.aT 0 rfl).ay))<| ?_
 refine ee (ao rfl Tryz.call29 (iS hm) [] rfl [] rfl ?_)
 rintro _ _ _ ⟨rfl,rfl,rfl⟩
 refine⟨(fun _=>wk [0,0] [0,1] rfl rfl), ?_⟩
 refine ee (ao rfl Tryz.call91 (qS ok hkk (p:=(bd nm))) [] rfl [0] rfl ?_)
 rintro _ _ _ ⟨rfl,rfl,rfl⟩
 refine⟨(fun _=>wk [0,0] [0,1] rfl rfl), ?_⟩
 refine an (aa rfl)<|an (aq rfl rfl)<|an (aq rfl rfl)<|an (ab rfl)<|an (ab rfl)<|bq<|al (ρ' :=[(7,_),(6,_),(5,_),(4,_),(3,_),(2,_),(0,_),(1,_)]) ⟨rfl,rfl,rfl,rfl,rfl,rfl,rfl,rfl,trivial⟩<|ak (X' :=[_,_]) (S' :=[_,_]) (fun _ m=>m)<|ag<|ah<|ah<|aj<|hy (fun _=>aa rfl)<|hy (fun _=>de rfl rfl)<|ai<|al (ρ' :=[(18,_),(7,_),(6,_),(5,_),(4,_),(3,_),(2,_),(0,_),(1,_)]) ⟨rfl,rfl,rfl,rfl,rfl,rfl,rfl,rfl,rfl,trivial⟩<|ag<| ?_
 refine cL rfl (fun h=> ?_) (fun h=> ?_)
 ·rw[jD h,ld (by rw[jD h];exact h)]
  refine ah<|aj<|hy (fun _=>aa rfl)<|hy (fun _=>ab rfl)<|hy (fun _=>ab rfl)<|ai<|al (ρ' :=[(5,_),(4,_),(18,_),(7,_),(6,_),(3,_),(2,_),(0,_),(1,_)]) ⟨rfl,rfl,rfl,rfl,rfl,rfl,rfl,rfl,rfl,trivial⟩<|ag<|aU<|aw<| ?_
  exact dO trivial rfl rfl rfl [] rfl [] rfl ⟨rfl,rfl,rfl⟩
 ·have h1:=Decidable.not_not.1 h
  have hbs:(bytesOf (strOf (x.d.cJ (bd nm)))).length=(x.d.cJ (bd nm)).length:=rfl
  have hol:=qj (f:=x.d.cJ (bd nm)) (most:=4096) (by decide)
  refine aB<|ag<|ah<|aj<|hy (fun _=>aa rfl)<| ?_
  refine hx (Cl rfl Tryz.underlying9 Tryz.underlying27 Tryz.underlying5 (show(x.d.cJ (bd nm)).length≤maxLen by unfold maxLen;omega) (fun v22=> ?_))
  refine az (fun m=>(m.own 0 rfl).slice) ?_
  rintro⟨A_b22,c_b22,rfl,hc_b22⟩
  refine az (fun m=>(m.ord 0 rfl).2.1) fun hA_b22=> ?_
  refine aL (fun w m=>m.bM 0 rfl (show _=aH 5 1 (.slice A_b22 (x.d.cJ (bd nm)).length c_b22) (x.d.cJ (bd nm)).length (aZ (x.d.cJ (bd nm)))from rfl)) ?_
  refine aL (fun w m=>(m.perm (av [0] _ [_] _ rfl)).freeze) ?_
  refine aL (fun w m=>m.gX 0 rfl .own) ?_
  refine hx (ao rfl Tryz.call156 (B5 hc_b22 rfl hrd (show(4096:Int)≤1000000 by decide) (f:=(x.d.cJ (bd nm)))) [] rfl [0] rfl ?_)
  rintro _ _ _ ⟨A1,c1,rfl,rfl,rfl,hp⟩
  refine az (fun m=>gK (m.rd 0 rfl)) ?_
  rintro⟨hl_q,hA_q⟩
  refine hy (fun _=>aa rfl)<|hy (fun _=>aq rfl rfl)<|hy (fun _=>aq rfl rfl)<|hy (fun _=>ab rfl)<|hy (fun _=>ab rfl)<|ai<|al (ρ' :=[(9,_),(8,_),(18,_),(7,_),(6,_),(5,_),(4,_),(3,_),(2,_),(0,_),(1,_)]) ⟨rfl,rfl,rfl,rfl,rfl,rfl,rfl,rfl,rfl,rfl,rfl,trivial⟩<|ak (X' :=[_,_]) (S' :=[_,_,_,_,_]) (fun _ m=>m)<|ag<|ah<|ah<|aj<|hy (fun _=>aa rfl)<|hy (fun _=>de rfl rfl)<|ai<|al (ρ' :=[(27,_),(9,_),(8,_),(18,_),(7,_),(6,_),(5,_),(4,_),(3,_),(2,_),(0,_),(1,_)]) ⟨rfl,rfl,rfl,rfl,rfl,rfl,rfl,rfl,rfl,rfl,rfl,rfl,trivial⟩<|ag<| ?_
  refine cL rfl (fun h2=> ?_) (fun h2=> ?_)
  ·have hE:=ml (d:=x.d) (nm:=nm) h1 (.inl h2)
   rw[hE,ld (by rw[hE];decide)]
   refine ah<|aj<|hy (fun _=>ab rfl)<|hy (fun _=>ab rfl)<|ai<|ag<|aU<|aw<| ?_
   exact dO trivial rfl rfl rfl [] rfl [] rfl ⟨rfl,rfl,rfl⟩
  ·have h2:=Decidable.not_not.1 h2
   refine aB<|ag<|ah<|ah<|cK [1] [(0,some 0),(2,some 1),(1,none),(3,some 1)] (by kernel_rfl) (by kernel_rfl) rfl 99<|an (aa rfl)<|cd (fun m=>aX rfl ct bn h32 ((m.aT 0 rfl).ay))<| ?_
   refine ee (ao rfl Tryz.call56 (oS (by omega)) [] rfl [0] rfl ?_)
   rintro _ _ _ ⟨rfl,rfl,rfl⟩
   refine⟨(fun _=>wk [0,0] [0,1,2,3,4] rfl rfl), ?_⟩
   refine an (qU rfl rfl (bC _) hm)<|bq<|al (ρ' :=[(31,_),(27,_),(9,_),(8,_),(18,_),(7,_),(6,_),(5,_),(4,_),(3,_),(2,_),(0,_),(1,_)]) ⟨rfl,rfl,rfl,rfl,rfl,rfl,rfl,rfl,rfl,rfl,rfl,rfl,rfl,trivial⟩<|ak (X' :=[_,_]) (S' :=[_,_,_,_,_]) (fun _ m=>m)<|ag<| ?_
   refine cL rfl (fun h3=> ?_) (fun h3=> ?_)
   ·have hE:=ml (d:=x.d) (nm:=nm) h1 (.inr h3)
    rw[hE,ld (by rw[hE];decide)]
    refine ah<|aj<|hy (fun _=>ab rfl)<|hy (fun _=>ab rfl)<|ai<|ag<|aU<|aw<| ?_
    exact dO trivial rfl rfl rfl [] rfl [] rfl ⟨rfl,rfl,rfl⟩
   ·have hE:=qI (d:=x.d) (nm:=nm) h1 (fun q=>q.elim (fun q=>q h2) h3)
    rw[hE,qQ hE]
    refine aB<|ag<|ah<|aj<|hy (fun _=>aa rfl)<|hy (fun m=>jq rfl Tryz.underlying27 Tryz.underlying5 Tryz.underlying9 (m.rd 0 rfl))<|hy (fun _=>ab rfl)<|hy (fun _=>ab rfl)<|ai<|al (ρ' :=[(5,_),(4,_),(31,_),(27,_),(9,_),(8,_),(18,_),(7,_),(6,_),(3,_),(2,_),(0,_),(1,_)]) ⟨rfl,rfl,rfl,rfl,rfl,rfl,rfl,rfl,rfl,rfl,rfl,rfl,rfl,trivial⟩<|ag<|aU<| ?_
    exact dO trivial rfl rfl rfl [] rfl [] rfl ⟨rfl,rfl,rfl⟩
theorem BT{d:RD}{bb:List UInt8}(h:d.bH (bV (bF bb)) (bI bb)≠0):d.iO bb=(d.write (bV (bF bb)) (bI bb),d.bH (bV (bF bb)) (bI bb)):=by
 unfold RD.iO
 rw[dK]
 exact if_pos h
theorem Cj{d:RD}{bb:List UInt8}(h:d.bH (bV (bF bb)) (bI bb)=0)(h2:(d.write (bV (bF bb)) (bI bb)).dC≠0):d.iO bb=((d.write (bV (bF bb)) (bI bb)).sync,(d.write (bV (bF bb)) (bI bb)).dC):=by
 unfold RD.iO
 rw[dK,if_neg (by show¬d.bH _ _≠0;rw[h];decide),dK]
 exact if_pos h2
theorem Bv{d:RD}{bb:List UInt8}(h:d.bH (bV (bF bb)) (bI bb)=0)(h2:(d.write (bV (bF bb)) (bI bb)).dC=0)(h3:(d.write (bV (bF bb)) (bI bb)).sync.bZ (bV (bF bb)) (bd (bF bb))≠0):d.iO bb=((d.write (bV (bF bb)) (bI bb)).sync.rename (bV (bF bb)) (bd (bF bb)),(d.write (bV (bF bb)) (bI bb)).sync.bZ (bV (bF bb)) (bd (bF bb))):=by
 unfold RD.iO
 rw[dK,if_neg (by show¬d.bH _ _≠0;rw[h];decide),dK,if_neg (by show¬(d.write _ _).dC≠0;rw[h2];decide),dK]
 exact if_pos h3
theorem B1{d:RD}{bb:List UInt8}(h:d.bH (bV (bF bb)) (bI bb)=0)(h2:(d.write (bV (bF bb)) (bI bb)).dC=0)(h3:(d.write (bV (bF bb)) (bI bb)).sync.bZ (bV (bF bb)) (bd (bF bb))=0):d.iO bb=(((d.write (bV (bF bb)) (bI bb)).sync.rename (bV (bF bb)) (bd (bF bb))).sync,((d.write (bV (bF bb)) (bI bb)).sync.rename (bV (bF bb)) (bd (bF bb))).dC):=by
 unfold RD.iO
 rw[dK,if_neg (by show¬d.bH _ _≠0;rw[h];decide),dK,if_neg (by show¬(d.write _ _).dC≠0;rw[h2];decide),dK,if_neg (by show¬((d.write _ _).sync).bZ _ _≠0;rw[h3];decide),dK]
 by_cases h4:(fq (qP (bV (bF bb)) (bd (bF bb)) (fq (qN (bV (bF bb)) (bI bb) d).1).1).1).2=0
 ·rw[if_neg (fun q=>q h4)]
  exact Prod.ext rfl h4.symm
 ·rw[if_pos h4];rfl
theorem mj{d:RD}{bb:List UInt8}(hn:¬4096<bb.length)(h6:d.ib (bF bb)≠6)(h0:d.ib (bF bb)≠0){d' :RD}{e:Int}(h:d.iO bb=(d',e)):d.put bb=(d',if e=0 then bF bb else dJ,e):=by
 unfold RD.put;rw[if_neg hn,if_neg h6,if_neg h0,h]
theorem j7{x:RX}{kk:Nat}{A:Option Addr}{n c:Nat}{bb:List UInt8}(hD:x.d.ok kk)(hkk:kk≤90000)(hc:n≤c)(hl:bb.length=n)(hn:n≤100000):cj Tryz.prog 26 [.agg x.cs.toArray,.slice A n c] [] [cT x,dr 1 A n (aZ bb),fm] (fun v_ X_ S_=>∃y,v_=(.tuple #[.agg y.cs.toArray,.agg (aZ (x.d.put bb).2.1).toArray,.int .i64 (x.d.put bb).2.2])∧X_=[]∧S_=[cT y]∧(y.d=(x.d.put bb).1)):=by
 have hm:=bC bb
 have h32:(aZ (bF bb)).length=32:=by rw[aF,hm]
 have z32:(aZ dJ).length=32:=by rw[aF,ef]
 obtain⟨s0,s1⟩:=kj bb
 have hrd:(x.d.cJ (bd (bF bb))).length≤10000000:=by
  obtain⟨st,hst⟩:=hD
  have:=hst.tm (bd (bF bb))
  omega
 have ok1:=hD.write (p:=bV (bF bb)) (l:=bI bb) (by omega)
 have okr:=hD.so
 have okr1:=ok1.so
 have okr2:=ok1.sync.so
 have okr3:=ok1.sync.rename (a:=bV (bF bb)) (c:=bd (bF bb))|>.so
 refine aO (N:=74) Tryz.func26 rfl rfl (by simp) fun b=> ?_
 refine ba (fun m=>gK (m.rd 1 rfl)) ?_
 rintro⟨hl_rb,hA_rb⟩
 refine ah<|aj<| ?_
 refine hx (cz rfl (fun g2=> ?_))
 refine aL (fun w m=>m.bM 0 rfl (show _=aG g2 39 x.cs from congrArg (aG _ _) (bG _))) ?_
 refine hx (aM fN (fun g4=> ?_))
 refine hx (aM cX (fun g5=> ?_))
 refine hy (fun _=>ab rfl)<|ai<|ak (X' :=[_,_,_]) (S' :=[_,_,_]) (fun _ m=>m)<|ag<|ah<|ah<|aj<|hy (fun _=>aa rfl)<|hy (fun _=>aR rfl Tryz.underlying27)<|hy (fun _=>cW rfl rfl)<|ai<|al (ρ' :=[(12,_),(6,_),(5,_),(4,_),(2,_),(0,_),(1,_)]) ⟨rfl,rfl,rfl,rfl,rfl,rfl,rfl,trivial⟩<|ag<| ?_
 refine cL rfl (fun hbig=> ?_) (fun hbig=> ?_)
 ·have e0:x.d.put bb=(x.d,dJ,3):=uC (by omega)
  rw[e0]
  refine ah<|aj<|hy (fun m=>yV (aX rfl ca bf rfl ((m.aT 2 rfl).ay)) ((rfl:_=Value.agg x.cs.toArray)))<|hy (fun _=>yV (eb cX rfl (by kernel_rfl)) ((rfl:_=Value.agg (aZ dJ).toArray)))<| ?_
  refine cI (aI 1 rfl rfl rfl bf rfl bK rfl ?_)
  refine cI (aI 1 rfl rfl rfl bn z32 aY rfl ?_)
  refine hy (fun _=>ab rfl)<|ai<|al (ρ' :=[(6,_),(12,_),(5,_),(4,_),(2,_),(0,_),(1,_)]) ⟨rfl,rfl,rfl,rfl,rfl,rfl,rfl,trivial⟩<|ak (X' :=[_,_,_]) (S' :=[_,_,_]) (fun _ m=>m)<|ag<|aU<|aw<| ?_
  exact fh trivial rfl rfl rfl rfl ca bf rfl (fun m=>(m.aT 1 rfl).ay) ct bn z32 (fun m=>(m.aT 0 rfl).ay) [] rfl [0] rfl ⟨x,rfl,rfl,rfl,rfl⟩
 ·have hbg:¬4096<bb.length:=by omega
  refine aB<|ag<|ah<|aj<|hy (fun _=>aa rfl)<| ?_
  refine hx (ao rfl Tryz.call56 (oS (by omega)) [] rfl [1] rfl ?_)
  rintro _ _ _ ⟨rfl,rfl,rfl⟩
  refine hx (aM cX (fun g7=> ?_))
  refine cI (aI 0 rfl rfl rfl bn h32 aY rfl ?_)
  refine ai<|al (ρ' :=[(7,_),(12,_),(6,_),(5,_),(4,_),(2,_),(0,_),(1,_)]) ⟨rfl,rfl,rfl,rfl,rfl,rfl,rfl,rfl,trivial⟩<|ak (X' :=[_,_,_,_]) (S' :=[_,_,_]) (fun _ m=>m)<|ag<|ah<|aj<|hy (fun m=>yV (aX rfl ca bf rfl ((m.aT 3 rfl).ay)) ((rfl:_=Value.agg x.cs.toArray)))<|hy (fun m=>aX rfl ct bn h32 ((m.aT 0 rfl).ay))<| ?_
  refine hx (ao rfl Tryz.call74 (AZ okr (by omega) hm hrd) [] rfl [0,2] rfl ?_)
  rintro _ _ _ ⟨rfl,rfl,rfl⟩
  refine hy (fun _=>aa rfl)<|hy (fun _=>aq rfl rfl)<|hy (fun _=>aq rfl rfl)<|hy (fun _=>ab rfl)<|hy (fun _=>ab rfl)<|ai<|al (ρ' :=[(9,_),(7,_),(12,_),(6,_),(5,_),(4,_),(2,_),(0,_),(1,_)]) ⟨rfl,rfl,rfl,rfl,rfl,rfl,rfl,rfl,rfl,trivial⟩<|ak (X' :=[_,_,_,_]) (S' :=[_,_,_]) (fun _ m=>m)<|ag<|ah<|ah<|aj<|hy (fun _=>aa rfl)<|hy (fun _=>b7 rfl rfl)<|ai<|al (ρ' :=[(24,_),(9,_),(7,_),(12,_),(6,_),(5,_),(4,_),(2,_),(0,_),(1,_)]) ⟨rfl,rfl,rfl,rfl,rfl,rfl,rfl,rfl,rfl,rfl,trivial⟩<|ag<| ?_
  refine cL rfl (fun h0=> ?_) (fun h0=> ?_)
  ·have e0:x.d.put bb=(x.d,bF bb,0):=by unfold RD.put;rw[if_neg hbg,if_neg (by rw[h0];decide),if_pos h0]
   rw[e0]
   refine ah<|oO [0,1,2,3] (.alt 0 (.alt 1 (.alt 2 (.alt 3 (.take 4 4<|.done) (.stop)) (.stop)) (.alt 2 (.alt 1 (.alt 3 (.take 4 4<|.done) (.stop)) (.stop)) (.stop))) (.alt 1 (.alt 0 (.alt 2 (.alt 3 (.take 4 4<|.done) (.stop)) (.stop)) (.stop)) (.stop))) (by kernel_rfl) (by kernel_rfl) rfl 1<| ?_
   refine dW ?_ ?_
   ·refine eE<|mK (fun m=>yV (aX rfl ca bf rfl ((m.aT 3 rfl).ay)) ((rfl:_=Value.agg x.cs.toArray)))<|And.intro (fun _=>wk [0,0,0,0] [0,1,2] rfl rfl)<| ?_
    refine dW ?_ ?_
    ·refine eE<|mK (fun m=>aX rfl ct bn h32 ((m.aT 0 rfl).ay))<|And.intro (fun h=>absurd h (by decide))<| ?_
     refine dT (aI 2 rfl rfl rfl bf rfl bK rfl ⟨(fun h=>absurd h (by decide)), ?_⟩)
     refine dT (aI 2 rfl rfl rfl bn h32 aY rfl ⟨(fun h=>absurd h (by decide)), ?_⟩)
     refine bl (ab rfl)<|dU<|al (ρ' :=[(6,_),(24,_),(9,_),(7,_),(12,_),(5,_),(4,_),(2,_),(0,_),(1,_)]) ⟨rfl,rfl,rfl,rfl,rfl,rfl,rfl,rfl,rfl,rfl,trivial⟩<|ak (X' :=[_,_,_,_]) (S' :=[_,_,_]) (fun _ m=>m)<|ag<|aU<|aw<| ?_
     exact fh trivial rfl rfl rfl rfl ca bf rfl (fun m=>(m.aT 1 rfl).ay) ct bn h32 (fun m=>(m.aT 0 rfl).ay) [] rfl [0] rfl ⟨x,rfl,rfl,rfl,rfl⟩
    ·refine dT (aI 2 rfl rfl rfl bf rfl bK rfl ⟨(fun h=>absurd h (by decide)), ?_⟩)
     refine eE<|mK (fun m=>aX rfl ct bn h32 ((m.aT 1 rfl).ay))<|And.intro (fun h=>absurd h (by decide))<| ?_
     refine dT (aI 2 rfl rfl rfl bn h32 aY rfl ⟨(fun h=>absurd h (by decide)), ?_⟩)
     refine bl (ab rfl)<|dU<|al (ρ' :=[(6,_),(24,_),(9,_),(7,_),(12,_),(5,_),(4,_),(2,_),(0,_),(1,_)]) ⟨rfl,rfl,rfl,rfl,rfl,rfl,rfl,rfl,rfl,rfl,trivial⟩<|ak (X' :=[_,_,_,_]) (S' :=[_,_,_]) (fun _ m=>m)<|ag<|aU<|aw<| ?_
     exact fh trivial rfl rfl rfl rfl ca bf rfl (fun m=>(m.aT 1 rfl).ay) ct bn h32 (fun m=>(m.aT 0 rfl).ay) [] rfl [0] rfl ⟨x,rfl,rfl,rfl,rfl⟩
   ·refine eE<|mK (fun m=>aX rfl ct bn h32 ((m.aT 0 rfl).ay))<|And.intro (fun _=>wk [0,0,0,0] [0,1,2] rfl rfl)<|eE<|mK (fun m=>yV (aX rfl ca bf rfl ((m.aT 3 rfl).ay)) ((rfl:_=Value.agg x.cs.toArray)))<|And.intro (fun h=>absurd h (by decide))<| ?_
    refine dT (aI 2 rfl rfl rfl bf rfl bK rfl ⟨(fun h=>absurd h (by decide)), ?_⟩)
    refine dT (aI 2 rfl rfl rfl bn h32 aY rfl ⟨(fun h=>absurd h (by decide)), ?_⟩)
    refine bl (ab rfl)<|dU<|al (ρ' :=[(6,_),(24,_),(9,_),(7,_),(12,_),(5,_),(4,_),(2,_),(0,_),(1,_)]) ⟨rfl,rfl,rfl,rfl,rfl,rfl,rfl,rfl,rfl,rfl,trivial⟩<|ak (X' :=[_,_,_,_]) (S' :=[_,_,_]) (fun _ m=>m)<|ag<|aU<|aw<| ?_
    exact fh trivial rfl rfl rfl rfl ca bf rfl (fun m=>(m.aT 1 rfl).ay) ct bn h32 (fun m=>(m.aT 0 rfl).ay) [] rfl [0] rfl ⟨x,rfl,rfl,rfl,rfl⟩
  ·refine aB<|ag<|ah<|ah<|aj<|hy (fun _=>aa rfl)<|hy (fun _=>b7 rfl rfl)<|ai<|al (ρ' :=[(28,_),(24,_),(9,_),(7,_),(12,_),(6,_),(5,_),(4,_),(2,_),(0,_),(1,_)]) ⟨rfl,rfl,rfl,rfl,rfl,rfl,rfl,rfl,rfl,rfl,rfl,trivial⟩<|ag<| ?_
   refine cL rfl (fun h6=> ?_) (fun h6=> ?_)
   ·have e0:x.d.put bb=(x.d,dJ,6):=by unfold RD.put;rw[if_neg hbg,if_pos h6]
    rw[e0,h6]
    refine ah<|aj<|hy (fun m=>yV (aX rfl ca bf rfl ((m.aT 3 rfl).ay)) ((rfl:_=Value.agg x.cs.toArray)))<|hy (fun _=>yV (eb cX rfl (by kernel_rfl)) ((rfl:_=Value.agg (aZ dJ).toArray)))<|hy (fun _=>aa rfl)<| ?_
    refine cI (aI 2 rfl rfl rfl bf rfl bK rfl ?_)
    refine cI (aI 2 rfl rfl rfl bn z32 aY rfl ?_)
    refine hy (fun _=>ab rfl)<|ai<|al (ρ' :=[(6,_),(28,_),(24,_),(9,_),(7,_),(12,_),(5,_),(4,_),(2,_),(0,_),(1,_)]) ⟨rfl,rfl,rfl,rfl,rfl,rfl,rfl,rfl,rfl,rfl,rfl,trivial⟩<|ak (X' :=[_,_,_,_]) (S' :=[_,_,_]) (fun _ m=>m)<|ag<|aU<|aw<| ?_
    exact fh trivial rfl rfl rfl rfl ca bf rfl (fun m=>(m.aT 1 rfl).ay) ct bn z32 (fun m=>(m.aT 0 rfl).ay) [] rfl [0] rfl ⟨x,rfl,rfl,rfl,rfl⟩
   ·refine aB<|ag<|ah<|cK [2,4,5,6,10] [(0,some 3),(1,some 0),(3,some 1),(2,none),(4,none),(5,none),(6,none),(7,some 4),(8,some 4),(9,some 5),(10,none),(11,some 5)] (by kernel_rfl) (by kernel_rfl) rfl 4<|cd (fun m=>yV (aX rfl ca bf rfl ((m.aT 3 rfl).ay)) ((rfl:_=Value.agg x.cs.toArray)))<|cd (fun m=>aX rfl ct bn h32 ((m.aT 0 rfl).ay))<|an (aa rfl)<| ?_
    refine ee (ao rfl Tryz.call98 (uI hm) [] rfl [] rfl ?_)
    rintro _ _ _ ⟨rfl,rfl,rfl⟩
    refine⟨(fun _=>wk [0,0,0,0] [0,1,2] rfl rfl), ?_⟩
    refine ee (ao rfl Tryz.call81 (yr hc (by omega) hl) [] rfl [1] rfl ?_)
    rintro _ _ _ ⟨v,rfl,rfl,rfl⟩
    refine⟨(fun _=>wk [1,1,1,1] [0,1,2] rfl rfl), ?_⟩
    refine cf (fun m=>(m.own 0 rfl).slice) ?_
    rintro⟨A_x,c_x,rfl,hc_x⟩
    refine cf (fun m=>(m.ord 0 rfl).2.1) fun hA_x=> ?_
    refine Ct (fun _=>wk [1,1,1,1] [0,1,2] rfl rfl) (fun m=>jq rfl Tryz.underlying27 Tryz.underlying5 Tryz.underlying9 (m.ord 0 rfl))<| ?_
    refine ee (ao rfl Tryz.call31 (qY okr (by omega) (by rw[jb hm];decide) (by omega) (p:=(bV (bF bb))) (bb:=(bI bb))) [] rfl [0] rfl ?_)
    rintro _ _ _ ⟨y,rfl,rfl,rfl,hd1⟩
    refine⟨(fun _=>wk [1,1,1,1] [1,2,3] rfl rfl), ?_⟩
    refine an (aa rfl)<|an (aq rfl rfl)<|an (aq rfl rfl)<| ?_
    refine j5 (aI 4 rfl rfl rfl bf rfl bK rfl ⟨(fun h=>absurd h (by decide)), ?_⟩)
    refine an (ab rfl)<|bq<|al (ρ' :=[(9,_),(28,_),(24,_),(7,_),(12,_),(6,_),(5,_),(4,_),(2,_),(0,_),(1,_)]) ⟨rfl,rfl,rfl,rfl,rfl,rfl,rfl,rfl,rfl,rfl,rfl,trivial⟩<|ak (X' :=[_,_,_,_,_]) (S' :=[_,_,_,_]) (fun _ m=>m)<|ag<|ah<|ah<|aj<|hy (fun _=>aa rfl)<|hy (fun _=>b7 rfl rfl)<|ai<|al (ρ' :=[(43,_),(9,_),(28,_),(24,_),(7,_),(12,_),(6,_),(5,_),(4,_),(2,_),(0,_),(1,_)]) ⟨rfl,rfl,rfl,rfl,rfl,rfl,rfl,rfl,rfl,rfl,rfl,rfl,trivial⟩<|ag<| ?_
    refine cL rfl (fun h1=> ?_) (fun h1=> ?_)
    ·refine aj<|hy (fun m=>yV (aX rfl ca bf rfl ((m.aT 0 rfl).ay)) ((rfl:_=Value.agg y.cs.toArray)))<| ?_
     refine hx (ao rfl Tryz.call99 (tO (by rw[hd1];exact okr1)) [] rfl [0] rfl ?_)
     rintro _ _ _ ⟨y2,rfl,rfl,rfl,hd2⟩
     refine hy (fun _=>aa rfl)<|hy (fun _=>aq rfl rfl)<|hy (fun _=>aq rfl rfl)<| ?_
     refine cI (aI 0 rfl rfl rfl bf rfl bK rfl ?_)
     refine hy (fun _=>ab rfl)<|ai<|al (ρ' :=[(9,_),(43,_),(28,_),(24,_),(7,_),(12,_),(6,_),(5,_),(4,_),(2,_),(0,_),(1,_)]) ⟨rfl,rfl,rfl,rfl,rfl,rfl,rfl,rfl,rfl,rfl,rfl,rfl,trivial⟩<|ak (X' :=[_,_,_,_,_]) (S' :=[_,_,_,_,_]) (fun _ m=>m)<|ag<|ah<|ah<|aj<|hy (fun _=>aa rfl)<|hy (fun _=>b7 rfl rfl)<|ai<|al (ρ' :=[(50,_),(9,_),(43,_),(28,_),(24,_),(7,_),(12,_),(6,_),(5,_),(4,_),(2,_),(0,_),(1,_)]) ⟨rfl,rfl,rfl,rfl,rfl,rfl,rfl,rfl,rfl,rfl,rfl,rfl,rfl,trivial⟩<|ag<| ?_
     refine cL rfl (fun h2=> ?_) (fun h2=> ?_)
     ·refine cK [2,4,5,9] [(0,some 2),(1,some 0),(3,some 1),(2,none),(4,none),(5,none),(6,some 3),(7,some 3),(8,some 4),(9,none),(10,some 4)] (by kernel_rfl) (by kernel_rfl) rfl 3<|cd (fun m=>yV (aX rfl ca bf rfl ((m.aT 0 rfl).ay)) ((rfl:_=Value.agg y2.cs.toArray)))<|cd (fun m=>aX rfl ct bn h32 ((m.aT 2 rfl).ay))<|cd (fun m=>aX rfl ct bn h32 ((m.aT 2 rfl).ay))<| ?_
      refine ee (ao rfl Tryz.call98 (uI hm) [] rfl [] rfl ?_)
      rintro _ _ _ ⟨rfl,rfl,rfl⟩
      refine⟨(fun _=>wk [0,0,0,0,0] [0,1,2,3,4] rfl rfl), ?_⟩
      refine ee (ao rfl Tryz.call29 (iS hm) [] rfl [] rfl ?_)
      rintro _ _ _ ⟨rfl,rfl,rfl⟩
      refine⟨(fun _=>wk [0,0,0,0,0] [0,1,2,3,4] rfl rfl), ?_⟩
      refine ee (ao rfl Tryz.call100 (wz (by rw[hd2,hd1];exact okr2) (show kk+1≤100000 by omega) (by rw[eh hm];decide) (a:=(bV (bF bb))) (c:=(bd (bF bb)))) [] rfl [0] rfl ?_)
      rintro _ _ _ ⟨y3,rfl,rfl,rfl,hd3⟩
      refine⟨(fun _=>wk [0,0,0,0,0] [1,2,3,4,5] rfl rfl), ?_⟩
      refine an (aa rfl)<|an (aq rfl rfl)<|an (aq rfl rfl)<| ?_
      refine j5 (aI 0 rfl rfl rfl bf rfl bK rfl ⟨(fun h=>absurd h (by decide)), ?_⟩)
      refine an (ab rfl)<|bq<|al (ρ' :=[(9,_),(50,_),(43,_),(28,_),(24,_),(7,_),(12,_),(6,_),(5,_),(4,_),(2,_),(0,_),(1,_)]) ⟨rfl,rfl,rfl,rfl,rfl,rfl,rfl,rfl,rfl,rfl,rfl,rfl,rfl,trivial⟩<|ak (X' :=[_,_,_,_,_]) (S' :=[_,_,_,_,_,_]) (fun _ m=>m)<|ag<|ah<|ah<|aj<|hy (fun _=>aa rfl)<|hy (fun _=>b7 rfl rfl)<|ai<|al (ρ' :=[(61,_),(9,_),(50,_),(43,_),(28,_),(24,_),(7,_),(12,_),(6,_),(5,_),(4,_),(2,_),(0,_),(1,_)]) ⟨rfl,rfl,rfl,rfl,rfl,rfl,rfl,rfl,rfl,rfl,rfl,rfl,rfl,rfl,trivial⟩<|ag<| ?_
      refine cL rfl (fun h3=> ?_) (fun h3=> ?_)
      ·have hP:=B1 (d:=x.d) (bb:=bb) h1 (by rw[←hd1];exact h2) (by rw[←hd1,←hd2];exact h3)
       rw[←hd1,←hd2,←hd3]at hP
       have e0:=mj hbg h6 h0 hP
       refine aj<|hy (fun m=>yV (aX rfl ca bf rfl ((m.aT 0 rfl).ay)) ((rfl:_=Value.agg y3.cs.toArray)))<| ?_
       refine hx (ao rfl Tryz.call99 (tO (by rw[hd3,hd2,hd1];exact okr3)) [] rfl [0] rfl ?_)
       rintro _ _ _ ⟨y4,rfl,rfl,rfl,hd4⟩
       refine hy (fun _=>aa rfl)<|hy (fun _=>aq rfl rfl)<|hy (fun _=>aq rfl rfl)<| ?_
       refine cI (aI 0 rfl rfl rfl bf rfl bK rfl ?_)
       refine hy (fun _=>ab rfl)<|ai<|al (ρ' :=[(9,_),(61,_),(50,_),(43,_),(28,_),(24,_),(7,_),(12,_),(6,_),(5,_),(4,_),(2,_),(0,_),(1,_)]) ⟨rfl,rfl,rfl,rfl,rfl,rfl,rfl,rfl,rfl,rfl,rfl,rfl,rfl,rfl,trivial⟩<|ak (X' :=[_,_,_,_,_]) (S' :=[_,_,_,_,_,_,_]) (fun _ m=>m)<|ag<|ah<|ah<|aj<|hy (fun _=>aa rfl)<|hy (fun _=>de rfl rfl)<|ai<|al (ρ' :=[(68,_),(9,_),(61,_),(50,_),(43,_),(28,_),(24,_),(7,_),(12,_),(6,_),(5,_),(4,_),(2,_),(0,_),(1,_)]) ⟨rfl,rfl,rfl,rfl,rfl,rfl,rfl,rfl,rfl,rfl,rfl,rfl,rfl,rfl,rfl,trivial⟩<|ag<| ?_
       rw[←hd4]at e0
       refine cL rfl (fun h4=> ?_) (fun h4=> ?_)
       ·rw[if_neg h4]at e0
        rw[e0]
        refine ah<|aj<|hy (fun m=>yV (aX rfl ca bf rfl ((m.aT 0 rfl).ay)) ((rfl:_=Value.agg y4.cs.toArray)))<|hy (fun _=>yV (eb cX rfl (by kernel_rfl)) ((rfl:_=Value.agg (aZ dJ).toArray)))<|hy (fun _=>aa rfl)<| ?_
        refine cI (aI 4 rfl rfl rfl bf rfl bK rfl ?_)
        refine cI (aI 4 rfl rfl rfl bn z32 aY rfl ?_)
        refine hy (fun _=>ab rfl)<|ai<|al (ρ' :=[(6,_),(68,_),(9,_),(61,_),(50,_),(43,_),(28,_),(24,_),(7,_),(12,_),(5,_),(4,_),(2,_),(0,_),(1,_)]) ⟨rfl,rfl,rfl,rfl,rfl,rfl,rfl,rfl,rfl,rfl,rfl,rfl,rfl,rfl,rfl,trivial⟩<|ak (X' :=[_,_,_,_,_]) (S' :=[_,_,_,_,_,_,_]) (fun _ m=>m)<|ag<|aU<|aw<| ?_
        exact fh trivial rfl rfl rfl rfl ca bf rfl (fun m=>(m.aT 1 rfl).ay) ct bn z32 (fun m=>(m.aT 0 rfl).ay) [] rfl [0] rfl ⟨y4,rfl,rfl,rfl,rfl⟩
       ·have h4:=Decidable.not_not.1 h4
        rw[if_pos h4,h4]at e0
        rw[e0]
        refine aB<|ag<|ah<|oO [0,1,2,3] (.alt 0 (.alt 1 (.alt 2 (.alt 3 (.take 4 4<|.done) (.stop)) (.stop)) (.alt 2 (.alt 1 (.alt 3 (.take 4 4<|.done) (.stop)) (.stop)) (.stop))) (.alt 1 (.alt 0 (.alt 2 (.alt 3 (.take 4 4<|.done) (.stop)) (.stop)) (.stop)) (.stop))) (by kernel_rfl) (by kernel_rfl) rfl 1<| ?_
        refine dW ?_ ?_
        ·refine eE<|mK (fun m=>yV (aX rfl ca bf rfl ((m.aT 0 rfl).ay)) ((rfl:_=Value.agg y4.cs.toArray)))<|And.intro (fun _=>wk [0,0,0,0,0] [0,1,2,3,4,5,6] rfl rfl)<| ?_
         refine dW ?_ ?_
         ·refine eE<|mK (fun m=>aX rfl ct bn h32 ((m.aT 2 rfl).ay))<|And.intro (fun h=>absurd h (by decide))<| ?_
          refine dT (aI 4 rfl rfl rfl bf rfl bK rfl ⟨(fun h=>absurd h (by decide)), ?_⟩)
          refine dT (aI 4 rfl rfl rfl bn h32 aY rfl ⟨(fun h=>absurd h (by decide)), ?_⟩)
          refine bl (ab rfl)<|dU<|al (ρ' :=[(6,_),(68,_),(9,_),(61,_),(50,_),(43,_),(28,_),(24,_),(7,_),(12,_),(5,_),(4,_),(2,_),(0,_),(1,_)]) ⟨rfl,rfl,rfl,rfl,rfl,rfl,rfl,rfl,rfl,rfl,rfl,rfl,rfl,rfl,rfl,trivial⟩<|ak (X' :=[_,_,_,_,_]) (S' :=[_,_,_,_,_,_,_]) (fun _ m=>m)<|ag<|aU<| ?_
          exact fh trivial rfl rfl rfl rfl ca bf rfl (fun m=>(m.aT 1 rfl).ay) ct bn h32 (fun m=>(m.aT 0 rfl).ay) [] rfl [0] rfl ⟨y4,rfl,rfl,rfl,rfl⟩
         ·refine dT (aI 4 rfl rfl rfl bf rfl bK rfl ⟨(fun h=>absurd h (by decide)), ?_⟩)
          refine eE<|mK (fun m=>aX rfl ct bn h32 ((m.aT 3 rfl).ay))<|And.intro (fun h=>absurd h (by decide))<| ?_
          refine dT (aI 4 rfl rfl rfl bn h32 aY rfl ⟨(fun h=>absurd h (by decide)), ?_⟩)
          refine bl (ab rfl)<|dU<|al (ρ' :=[(6,_),(68,_),(9,_),(61,_),(50,_),(43,_),(28,_),(24,_),(7,_),(12,_),(5,_),(4,_),(2,_),(0,_),(1,_)]) ⟨rfl,rfl,rfl,rfl,rfl,rfl,rfl,rfl,rfl,rfl,rfl,rfl,rfl,rfl,rfl,trivial⟩<|ak (X' :=[_,_,_,_,_]) (S' :=[_,_,_,_,_,_,_]) (fun _ m=>m)<|ag<|aU<| ?_
          exact fh trivial rfl rfl rfl rfl ca bf rfl (fun m=>(m.aT 1 rfl).ay) ct bn h32 (fun m=>(m.aT 0 rfl).ay) [] rfl [0] rfl ⟨y4,rfl,rfl,rfl,rfl⟩
        ·refine eE<|mK (fun m=>aX rfl ct bn h32 ((m.aT 2 rfl).ay))<|And.intro (fun _=>wk [0,0,0,0,0] [0,1,2,3,4,5,6] rfl rfl)<|eE<|mK (fun m=>yV (aX rfl ca bf rfl ((m.aT 0 rfl).ay)) ((rfl:_=Value.agg y4.cs.toArray)))<|And.intro (fun h=>absurd h (by decide))<| ?_
         refine dT (aI 4 rfl rfl rfl bf rfl bK rfl ⟨(fun h=>absurd h (by decide)), ?_⟩)
         refine dT (aI 4 rfl rfl rfl bn h32 aY rfl ⟨(fun h=>absurd h (by decide)), ?_⟩)
         refine bl (ab rfl)<|dU<|al (ρ' :=[(6,_),(68,_),(9,_),(61,_),(50,_),(43,_),(28,_),(24,_),(7,_),(12,_),(5,_),(4,_),(2,_),(0,_),(1,_)]) ⟨rfl,rfl,rfl,rfl,rfl,rfl,rfl,rfl,rfl,rfl,rfl,rfl,rfl,rfl,rfl,trivial⟩<|ak (X' :=[_,_,_,_,_]) (S' :=[_,_,_,_,_,_,_]) (fun _ m=>m)<|ag<|aU<| ?_
         exact fh trivial rfl rfl rfl rfl ca bf rfl (fun m=>(m.aT 1 rfl).ay) ct bn h32 (fun m=>(m.aT 0 rfl).ay) [] rfl [0] rfl ⟨y4,rfl,rfl,rfl,rfl⟩
      ·have hP:=Bv (d:=x.d) (bb:=bb) h1 (by rw[←hd1];exact h2) (by rw[←hd1,←hd2];exact h3)
       rw[←hd1,←hd2,←hd3]at hP
       have e0:=mj hbg h6 h0 hP
       rw[if_neg h3]at e0
       rw[e0]
       refine aB<|ag<|ah<|ah<|aj<|hy (fun _=>aa rfl)<|hy (fun _=>de rfl rfl)<|ai<|al (ρ' :=[(68,_),(61,_),(9,_),(50,_),(43,_),(28,_),(24,_),(7,_),(12,_),(6,_),(5,_),(4,_),(2,_),(0,_),(1,_)]) ⟨rfl,rfl,rfl,rfl,rfl,rfl,rfl,rfl,rfl,rfl,rfl,rfl,rfl,rfl,rfl,trivial⟩<|ag<| ?_
       refine fE rfl ((decide_eq_true h3)) ?_
       refine ah<|aj<|hy (fun m=>yV (aX rfl ca bf rfl ((m.aT 0 rfl).ay)) ((rfl:_=Value.agg y3.cs.toArray)))<|hy (fun _=>yV (eb cX rfl (by kernel_rfl)) ((rfl:_=Value.agg (aZ dJ).toArray)))<|hy (fun _=>aa rfl)<| ?_
       refine cI (aI 4 rfl rfl rfl bf rfl bK rfl ?_)
       refine cI (aI 4 rfl rfl rfl bn z32 aY rfl ?_)
       refine hy (fun _=>ab rfl)<|ai<|al (ρ' :=[(6,_),(68,_),(61,_),(9,_),(50,_),(43,_),(28,_),(24,_),(7,_),(12,_),(5,_),(4,_),(2,_),(0,_),(1,_)]) ⟨rfl,rfl,rfl,rfl,rfl,rfl,rfl,rfl,rfl,rfl,rfl,rfl,rfl,rfl,rfl,trivial⟩<|ak (X' :=[_,_,_,_,_]) (S' :=[_,_,_,_,_,_]) (fun _ m=>m)<|ag<|aU<|aw<| ?_
       exact fh trivial rfl rfl rfl rfl ca bf rfl (fun m=>(m.aT 1 rfl).ay) ct bn z32 (fun m=>(m.aT 0 rfl).ay) [] rfl [0] rfl ⟨y3,rfl,rfl,rfl,rfl⟩
     ·have hP:=Cj (d:=x.d) (bb:=bb) h1 (by rw[←hd1];exact h2)
      rw[←hd1,←hd2]at hP
      have e0:=mj hbg h6 h0 hP
      rw[if_neg h2]at e0
      rw[e0]
      refine aB<|ag<|ah<|ah<|aj<|hy (fun _=>aa rfl)<|hy (fun _=>b7 rfl rfl)<|ai<|al (ρ' :=[(61,_),(50,_),(9,_),(43,_),(28,_),(24,_),(7,_),(12,_),(6,_),(5,_),(4,_),(2,_),(0,_),(1,_)]) ⟨rfl,rfl,rfl,rfl,rfl,rfl,rfl,rfl,rfl,rfl,rfl,rfl,rfl,rfl,trivial⟩<|ag<| ?_
      refine di rfl ((decide_eq_false h2)) ?_
      refine aB<|ag<|ah<|ah<|aj<|hy (fun _=>aa rfl)<|hy (fun _=>de rfl rfl)<|ai<|al (ρ' :=[(68,_),(61,_),(50,_),(9,_),(43,_),(28,_),(24,_),(7,_),(12,_),(6,_),(5,_),(4,_),(2,_),(0,_),(1,_)]) ⟨rfl,rfl,rfl,rfl,rfl,rfl,rfl,rfl,rfl,rfl,rfl,rfl,rfl,rfl,rfl,trivial⟩<|ag<| ?_
      refine fE rfl ((decide_eq_true h2)) ?_
      refine ah<|aj<|hy (fun m=>yV (aX rfl ca bf rfl ((m.aT 0 rfl).ay)) ((rfl:_=Value.agg y2.cs.toArray)))<|hy (fun _=>yV (eb cX rfl (by kernel_rfl)) ((rfl:_=Value.agg (aZ dJ).toArray)))<|hy (fun _=>aa rfl)<| ?_
      refine cI (aI 4 rfl rfl rfl bf rfl bK rfl ?_)
      refine cI (aI 4 rfl rfl rfl bn z32 aY rfl ?_)
      refine hy (fun _=>ab rfl)<|ai<|al (ρ' :=[(6,_),(68,_),(61,_),(50,_),(9,_),(43,_),(28,_),(24,_),(7,_),(12,_),(5,_),(4,_),(2,_),(0,_),(1,_)]) ⟨rfl,rfl,rfl,rfl,rfl,rfl,rfl,rfl,rfl,rfl,rfl,rfl,rfl,rfl,rfl,trivial⟩<|ak (X' :=[_,_,_,_,_]) (S' :=[_,_,_,_,_]) (fun _ m=>m)<|ag<|aU<|aw<| ?_
      exact fh trivial rfl rfl rfl rfl ca bf rfl (fun m=>(m.aT 1 rfl).ay) ct bn z32 (fun m=>(m.aT 0 rfl).ay) [] rfl [0] rfl ⟨y2,rfl,rfl,rfl,rfl⟩
    ·have hP:=BT (d:=x.d) (bb:=bb) h1
     have e0:=mj hbg h6 h0 hP
     rw[if_neg h1]at e0
     rw[e0,←hd1]
     refine aB<|ag<|ah<|ah<|aj<|hy (fun _=>aa rfl)<|hy (fun _=>b7 rfl rfl)<|ai<|al (ρ' :=[(50,_),(43,_),(9,_),(28,_),(24,_),(7,_),(12,_),(6,_),(5,_),(4,_),(2,_),(0,_),(1,_)]) ⟨rfl,rfl,rfl,rfl,rfl,rfl,rfl,rfl,rfl,rfl,rfl,rfl,rfl,trivial⟩<|ag<| ?_
     refine di rfl ((decide_eq_false h1)) ?_
     refine aB<|ag<|ah<|ah<|aj<|hy (fun _=>aa rfl)<|hy (fun _=>b7 rfl rfl)<|ai<|al (ρ' :=[(61,_),(50,_),(43,_),(9,_),(28,_),(24,_),(7,_),(12,_),(6,_),(5,_),(4,_),(2,_),(0,_),(1,_)]) ⟨rfl,rfl,rfl,rfl,rfl,rfl,rfl,rfl,rfl,rfl,rfl,rfl,rfl,rfl,trivial⟩<|ag<| ?_
     refine di rfl ((decide_eq_false h1)) ?_
     refine aB<|ag<|ah<|ah<|aj<|hy (fun _=>aa rfl)<|hy (fun _=>de rfl rfl)<|ai<|al (ρ' :=[(68,_),(61,_),(50,_),(43,_),(9,_),(28,_),(24,_),(7,_),(12,_),(6,_),(5,_),(4,_),(2,_),(0,_),(1,_)]) ⟨rfl,rfl,rfl,rfl,rfl,rfl,rfl,rfl,rfl,rfl,rfl,rfl,rfl,rfl,rfl,trivial⟩<|ag<| ?_
     refine fE rfl ((decide_eq_true h1)) ?_
     refine ah<|aj<|hy (fun m=>yV (aX rfl ca bf rfl ((m.aT 0 rfl).ay)) ((rfl:_=Value.agg y.cs.toArray)))<|hy (fun _=>yV (eb cX rfl (by kernel_rfl)) ((rfl:_=Value.agg (aZ dJ).toArray)))<|hy (fun _=>aa rfl)<| ?_
     refine cI (aI 4 rfl rfl rfl bf rfl bK rfl ?_)
     refine cI (aI 4 rfl rfl rfl bn z32 aY rfl ?_)
     refine hy (fun _=>ab rfl)<|ai<|al (ρ' :=[(6,_),(68,_),(61,_),(50,_),(43,_),(9,_),(28,_),(24,_),(7,_),(12,_),(5,_),(4,_),(2,_),(0,_),(1,_)]) ⟨rfl,rfl,rfl,rfl,rfl,rfl,rfl,rfl,rfl,rfl,rfl,rfl,rfl,rfl,rfl,trivial⟩<|ak (X' :=[_,_,_,_,_]) (S' :=[_,_,_,_]) (fun _ m=>m)<|ag<|aU<|aw<| ?_
     exact fh trivial rfl rfl rfl rfl ca bf rfl (fun m=>(m.aT 1 rfl).ay) ct bn z32 (fun m=>(m.aT 0 rfl).ay) [] rfl [0] rfl ⟨y,rfl,rfl,rfl,rfl⟩
end Go.Proofs.YtmibdabdlgmafaaGreatDoor
end
