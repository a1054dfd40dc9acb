/- Part. -/
import Derived.Test.YtmibdabdlgmafaaGreatDoorSWS4
set_option linter.all false
section
set_option maxRecDepth 20000
namespace Go.Proofs.YtmibdabdlgmafaaGreatDoor
open Go.Eng Go.Hx
theorem l9{α:Type}:∀{l:List α} {j:Nat} {x:α},l[j]? =some x→l.Perm (x::l.eraseIdx j)
 | [],j,x,h=>by simp at h
 |a::r,0,x,h=>by
  simp only[List.getElem?_cons_zero,Option.some.injEq]at h
  subst h;exact List.Perm.refl _
 |a::r,j+1,x,h=>by
  have:=l9 (l:=r) (j:=j) (x:=x) (by simpa using h)
  exact(List.Perm.cons a this).trans (List.Perm.swap x a _)
def pre(p s:List UInt8):Bool:=decide (s.take p.length=p)
theorem r8{s p:List UInt8}:cf Tryz.prog 222 [.string (strOf s),.string (strOf p)] [] [] (fun v_ X_ S_=>v_=(.bool (pre p s))∧X_=[]∧S_=[]):=by
 have hs1:=c7 s
 have hs2:=c7 p
 refine aP (N:=18) Tryz.func222 rfl rfl (by simp) fun b=> ?_
 by_cases h:p.length≤s.length
 ·refine ah<|aj<|hy (fun _=>ab rfl)<|ai<|ag<|ah<|aj<|hy (fun _=>aa rfl)<|hy (fun _=>cY rfl Tryz.underlying9)<|hy (fun _=>aa rfl)<|hy (fun _=>cY rfl Tryz.underlying9)<|hy (fun _=>yT (iX rfl rfl) ((decide_eq_true (by omega))))<|hy (fun _=>aa rfl)<|dW (o:=_) rfl rfl rfl (fun _=>aa rfl)<|dW (o:=_) rfl rfl rfl (fun _=>aa rfl)<|dW (o:=_) rfl rfl rfl (fun _=>cY rfl Tryz.underlying9)<|dW (o:=_) rfl rfl rfl (fun _=>yV (sC rfl rfl Tryz.underlying9 (show((p.length:Nat):Int)=_ by omega) (by rw[qU];exact h)) ((rfl:Value.string _= .string (strOf (s.take p.length)))))<|dW (o:=_) rfl rfl rfl (fun _=>aa rfl)<|dW (o:=_) rfl rfl rfl (fun _=>rC rfl rfl)<|hy (fun _=>bT rfl rfl)<|hy (fun _=>ab rfl)<|ai<|al (ρ' :=[(4,_),(0,_),(1,_)]) ⟨rfl,rfl,rfl,trivial⟩<|ag<|aX<| ?_
  exact bh trivial rfl rfl [] rfl [] rfl ⟨(congrArg Value.bool (decide_eq_decide.2 cN)),rfl,rfl⟩
 ·refine ah<|aj<|hy (fun _=>ab rfl)<|ai<|ag<|ah<|aj<|hy (fun _=>aa rfl)<|hy (fun _=>cY rfl Tryz.underlying9)<|hy (fun _=>aa rfl)<|hy (fun _=>cY rfl Tryz.underlying9)<|hy (fun _=>yF (iX rfl rfl) ((decide_eq_false (by omega))))<|hy (fun _=>aa rfl)<|bI rfl rfl rfl (by decide)<|bI rfl rfl rfl (by decide)<|bI rfl rfl rfl (by decide)<|bI rfl rfl rfl (by decide)<|bI rfl rfl rfl (by decide)<|bI rfl rfl rfl (by decide)<|hy (fun _=>bD rfl rfl)<|hy (fun _=>ab rfl)<|ai<|al (ρ' :=[(4,_),(0,_),(1,_)]) ⟨rfl,rfl,rfl,trivial⟩<|ag<|aX<| ?_
  exact bh trivial rfl rfl [] rfl [] rfl ⟨(congrArg Value.bool (decide_eq_false (fun e=>h (by rw[←e,List.length_take];omega))).symm),rfl,rfl⟩
theorem vC{s p:List UInt8}:cf Tryz.prog 164 [.string (strOf s),.string (strOf p)] [] [] (fun v_ X_ S_=>v_=(.bool (pre p s))∧X_=[]∧S_=[]):=by
 refine aP (N:=8) Tryz.func164 rfl rfl (by simp) fun b=> ?_
 refine ah<|aj<|hy (fun _=>ab rfl)<|ai<|ag<|ah<|aj<|hy (fun _=>aa rfl)<|hy (fun _=>aa rfl)<| ?_
 refine hx (aq rfl Tryz.call222 (r8) [] rfl [] rfl ?_)
 rintro _ _ _ ⟨rfl,rfl,rfl⟩
 refine hy (fun _=>ab rfl)<|ai<|al (ρ' :=[(4,_),(0,_),(1,_)]) ⟨rfl,rfl,rfl,trivial⟩<|ak (X' :=[]) (S' :=[]) (fun _ m=>m)<|ag<|aX<| ?_
 exact bh trivial rfl rfl [] rfl [] rfl ⟨rfl,rfl,rfl⟩
theorem DJ{g:Nat}{st:cF}{p:List UInt8}(hk:st.seen.length≤100000):cf Tryz.prog 86 [.pointer (some ⟨g,0,none⟩),.string (strOf p)] [bk g st] [] (fun v_ X_ S_=>∃v n ks,v_=v∧X_=[bk g st,aH 9 1 v n (ss (uZ ks))]∧S_=[]∧(n=ks.length∧ks.Perm ((cn st.seen).filter (pre p)))):=by
 refine aP (N:=26) Tryz.func86 rfl rfl (by simp) fun b=> ?_
 refine bC (fun w m=>(m.perm (au [0] _ [_] _ rfl)).unpack) ?_
 refine ah<|aj<|hy (fun _=>ab rfl)<|ai<|ag<|ah<|aj<|hy (fun _=>ab rfl)<|ai<|ag<|ah<|ah<|aj<|hy (fun _=>aa rfl)<|hy (fun _=>ba rfl)<|hy (fun _=>aI rfl gK (by decide))<|hy (fun m=>aw rfl jh (aE (m.aZ 0 rfl) rfl))<| ?_
 refine hx (py 1 rfl rfl Tryz.underlying174 (fun r11=> ?_))
 refine ai<|al (ρ' :=[(11,_),(5,_),(4,_),(0,_),(1,_)]) ⟨rfl,rfl,rfl,rfl,rfl,trivial⟩<|ak (X' :=[_,_,_,_,_]) (S' :=[]) (fun _ m=>m)<|ag<|aK<| ?_
 refine bC (fun w m=>m.dj (r' :=aH 9 1 (.slice none 0 0) 0 []) (.refl _ _) (Own.nil _ _ _ _) (fun k hk=>hk.elim)) ?_
 refine n0 (fun left cur A1 k c1 ks=>left.length) (fun left cur A1 k c1 ks=>[(5,.slice A1 k c1)]) (fun left cur A1 k c1 ks=>[aH 9 1 (.slice A1 k c1) k (ss ks),jO SV r11 st.gs (dK st.seen) (dK left) cur]) (fun left cur A1 k c1 ks=>[]) (fun left cur A1 k c1 ks=>k=ks.length∧k+left.length≤st.seen.length∧(ks++(cn left).filter (pre p)).Perm ((cn st.seen).filter (pre p))) st.seen none none 0 0 [] [(11,_),(4,_),(0,_),(1,_)] ⟨rfl,rfl,rfl,rfl,trivial⟩ [0,0] rfl [] rfl (⟨rfl,by omega,List.Perm.refl _⟩) ⟨rfl,trivial⟩ (fun left cur A1 k c1 ks ⟨hkn,hkl,hpm⟩=> ?_)
 refine ah<|aj<| ?_
 refine hx (sd 1 rfl rfl (fun h0=> ?_) (fun j x hx1=> ?_))
 ·obtain rfl:left=[]:=List.map_eq_nil_iff.1 h0
  refine hy (fun _=>ar rfl rfl)<|ai<|al (ρ' :=[(13,_),(5,_),(11,_),(4,_),(0,_),(1,_)]) ⟨rfl,rfl,rfl,rfl,rfl,rfl,trivial⟩<|ag<|ah<| ?_
  refine dB rfl (rfl) ?_
  refine bL<|ao<|ao<|aD<|ag<|ah<|aj<|hy (fun _=>aa rfl)<| ?_
  refine hx (aq rfl Tryz.call165 (Gk (by omega)) [0] rfl [] rfl ?_)
  rintro _ _ _ ⟨rfl,rfl,rfl⟩
  refine ai<|al (ρ' :=[(13,_),(5,_),(11,_),(4,_),(0,_),(1,_)]) ⟨rfl,rfl,rfl,rfl,rfl,rfl,trivial⟩<|ak (X' :=[_,_,_,_,_,_]) (S' :=[]) (fun _ m=>m)<|ag<|ah<|aj<|hy (fun _=>aa rfl)<|hy (fun _=>ab rfl)<|ai<|al (ρ' :=[(4,_),(13,_),(5,_),(11,_),(0,_),(1,_)]) ⟨rfl,rfl,rfl,rfl,rfl,rfl,trivial⟩<|ag<|aX<| ?_
  refine ak (fun w m=>m.vF 1 rfl) ?_
  refine ak (X' :=bk g st::_) (fun w m=>(m.perm (au [2,0,1,1,1] _ [_,_,_,_,_] _ rfl)).pack) ?_
  exact bh trivial rfl rfl [0,0] rfl [] rfl ⟨_,_,_,rfl,rfl,rfl,⟨hkn,by simpa[cn]using hpm⟩⟩
 ·obtain⟨key,v⟩:=x
  obtain⟨r,hr,e⟩:=wh hx1
  obtain rfl:v=r.val:=e
  have hlt:=(List.getElem?_eq_some_iff.1 hr).1
  simp only at hr
  have hpe:=l9 hr
  have hpa:(cn left).Perm (key::cn (left.eraseIdx j)):=by simpa[cn]using hpe.map Prod.fst
  have hpf:=hpa.filter (pre p)
  refine hy (fun _=>ar rfl rfl)<|ai<|al (ρ' :=[(13,_),(5,_),(11,_),(4,_),(0,_),(1,_)]) ⟨rfl,rfl,rfl,rfl,rfl,rfl,trivial⟩<|ag<|ah<| ?_
  refine gY rfl (rfl) ?_
  refine aB<|ag<|aK<|ah<|aj<|hy (fun m=>p4 rfl (m.EO 0 rfl))<|hy (fun _=>ar rfl rfl)<|hy (fun _=>ab rfl)<|ai<|al (ρ' :=[(6,_),(13,_),(5,_),(11,_),(4,_),(0,_),(1,_)]) ⟨rfl,rfl,rfl,rfl,rfl,rfl,rfl,trivial⟩<|ag<|ah<|aj<|hy (fun _=>aa rfl)<|hy (fun _=>aa rfl)<| ?_
  refine hx (aq rfl Tryz.call164 (vC) [] rfl [] rfl ?_)
  rintro _ _ _ ⟨rfl,rfl,rfl⟩
  refine ai<|al (ρ' :=[(18,_),(6,_),(13,_),(5,_),(11,_),(4,_),(0,_),(1,_)]) ⟨rfl,rfl,rfl,rfl,rfl,rfl,rfl,rfl,trivial⟩<|ak (X' :=[_,_,_,_,_,_]) (S' :=[]) (fun _ m=>m)<|ag<| ?_
  refine tc rfl (fun hpr=> ?_) (fun hpr=> ?_)
  ·have hp2:(ks++[key]++(cn (left.eraseIdx j)).filter (pre p)).Perm ((cn st.seen).filter (pre p)):=by
    rw[List.filter_cons,if_pos hpr]at hpf
    rw[List.append_assoc]
    exact((List.Perm.append_left ks hpf).symm.trans hpm)
   refine aj<|hy (fun _=>aa rfl)<|hy (fun _=>aa rfl)<| ?_
   refine hx (b6 Tryz.underlying152 HH rfl rfl rfl (by simp[Value.cells,SV]) (by decide) (by decide) (fun g21=> ?_))
   have hA_b21:0<1→(some (⟨g21,0,none⟩:Addr))≠none:=fun _ h=>by cases h
   refine aQ (fun w m=>m.bN 0 rfl (show _=aH 9 1 (.slice (some ⟨g21,0,none⟩) 1 1) 1 (ss [key])from rfl)) ?_
   refine hx (bx 2 rfl rfl rfl Tryz.underlying152 Tryz.underlying152 (by exact .inl rfl) HH rfl (fun m=>Src.bR (m.ord 0 rfl)) EL (by unfold maxLen;omega) (by omega) (fun u=> ?_))
   refine aA (fun m=>(m.own 0 rfl).slice) ?_
   rintro⟨A_o,c_o,rfl,hc_o⟩
   refine aA (fun m=>(m.ord 0 rfl).2.1) fun hA_o=> ?_
   refine aQ (fun w m=>m.bN 0 rfl (show _=aH 9 1 (.slice A_o (k+1) c_o) (k+1) (ss (ks++[key]))from by simp[ss])) ?_
   refine hy (fun _=>ab rfl)<|ai<|al (ρ' :=[(5,_),(18,_),(6,_),(13,_),(11,_),(4,_),(0,_),(1,_)]) ⟨rfl,rfl,rfl,rfl,rfl,rfl,rfl,rfl,trivial⟩<|ak (X' :=[_,_,_,_,_,_,_]) (S' :=[]) (fun _ m=>m)<|aO<| ?_
   refine ak (fun w m=>m.bN 2 rfl (show _=jO SV r11 st.gs (dK st.seen) (dK (left.eraseIdx j)) (some (key,r.val))from congrArg (fun q=>jO SV r11 st.gs (dK st.seen) q (some (key,r.val))) (mz left j))) ?_
   refine eX (left.eraseIdx j) (some (key,r.val)) A_o (k+1) c_o (ks++[key]) ⟨rfl,rfl,rfl,rfl,rfl,trivial⟩ [1,0,1,1,1,1] rfl [] rfl (⟨by rw[List.length_append,hkn];rfl,by rw[List.length_eraseIdx,if_pos hlt];omega,hp2⟩) (by rw[List.length_eraseIdx,if_pos hlt];omega)
  ·have hp2:(ks++(cn (left.eraseIdx j)).filter (pre p)).Perm ((cn st.seen).filter (pre p)):=by
    rw[List.filter_cons,if_neg (by rw[show pre p key=false from hpr];decide)]at hpf
    exact((List.Perm.append_left ks hpf).symm.trans hpm)
   refine aB<|aO<| ?_
   refine ak (fun w m=>m.bN 0 rfl (show _=jO SV r11 st.gs (dK st.seen) (dK (left.eraseIdx j)) (some (key,r.val))from congrArg (fun q=>jO SV r11 st.gs (dK st.seen) q (some (key,r.val))) (mz left j))) ?_
   refine eX (left.eraseIdx j) (some (key,r.val)) A1 k c1 ks ⟨rfl,rfl,rfl,rfl,rfl,trivial⟩ [1,0,0,0,0,0] rfl [] rfl (⟨hkn,by rw[List.length_eraseIdx,if_pos hlt];omega,hp2⟩) (by rw[List.length_eraseIdx,if_pos hlt];omega)
end Go.Proofs.YtmibdabdlgmafaaGreatDoor
end
section
set_option maxRecDepth 20000
namespace Go.Proofs.YtmibdabdlgmafaaGreatDoor
open Go.Eng Go.Hx
theorem Bo{g:Nat}{st:cF}{d:RD}{kk:Nat}{p:List UInt8}(hD:DS st d kk)(hkk:kk≤99000):cf Tryz.prog 79 [.pointer (some ⟨g,0,none⟩),.string (strOf p)] [bk g st] [] (fun v_ X_ S_=>∃st1,v_=(.int .i64 (d.cj p))∧X_=[bk g st1]∧S_=[]∧(DS st1 (d.remove p) (kk+1))):=by
 exact cf.mono (B9 hD.ok (by omega)) (fun v X S h=>by
  obtain⟨st1,A,j,h1,h2,h3,hw⟩:=h
  exact⟨st1,by rw[hD.cj];exact h1,h2,h3,hD.remove hw⟩)
theorem Dm{g:Nat}{st:cF}{d:RD}{kk:Nat}{n:Int}(hD:DS st d kk)(hn:n≤1000000000000):cf Tryz.prog 57 [.pointer (some ⟨g,0,none⟩),.int .i64 n] [bk g st] [] (fun v_ X_ S_=>∃st1,v_=(.tuple #[])∧X_=[bk g st1]∧S_=[]∧(DS st1 (d.bW n) kk)):=by
 exact cf.mono EZ (fun v X S h=>⟨_,h.1,h.2.1,h.2.2,hD.bW hn⟩)
theorem vh{g:Nat}{st:cF}{d:RD}{kk:Nat}{A:Option Addr}{n c:Nat}{bs:List Bool}(hD:DS st d kk)(hkk:kk≤99000)(hc:n≤c):cf Tryz.prog 72 [.pointer (some ⟨g,0,none⟩),.slice A n c] [bk g st] [di 1 A n (qX bs)] (fun v_ X_ S_=>∃st1,v_=(.tuple #[])∧X_=[bk g st1]∧S_=[]∧(DS st1 (d.ea bs) kk)):=by
 have hw:st.waits.length≤1000000:=by have:=hD.ok.rest;omega
 exact cf.mono (yb hc hD.ok.sm hw) (fun v X S h=>by
  obtain⟨gs,h1,h2,h3⟩:=h
  exact⟨_,h1,h2,h3,hD.ea bs gs⟩)
def hZ(d:RD)(p:List UInt8):List (List UInt8):=(d.seen.map (·.1)).filter (pre p)
theorem fp.hZ{fs:dm}{l:List FP}(h:fp fs l){q:List UInt8→Bool}{ks:List (List UInt8)}(hk:ks.Perm ((cn fs).filter q)):uZ ks=(l.map (·.1)).filter q:=by
 have h1:(uZ ks).Perm ((l.map (·.1)).filter q):=(List.mergeSort_perm _ _).trans (hk.trans (h.keys.filter q))
 have h2:(uZ ks).Pairwise (· ≤·):=by
  have:=List.pairwise_mergeSort (le:=fun x y:List UInt8=>decide (x≤y)) (fun a b c hab hbc=>by simpa using List.le_trans (by simpa using hab) (by simpa using hbc)) (fun a b=>by simpa using List.le_total a b) ks
  exact this.imp (fun hab=>by simpa using hab)
 have h3:((l.map (·.1)).filter q).Pairwise (· ≤·):=(h.ord.imp (fun hlt=>List.le_of_lt hlt)).filter q
 exact h1.eq_of_pairwise (fun a b _ _ hab hba=>List.le_antisymm hab hba) h2 h3
theorem Fa{g:Nat}{st:cF}{d:RD}{kk:Nat}{p:List UInt8}(hD:DS st d kk)(hkk:kk≤99000):cf Tryz.prog 86 [.pointer (some ⟨g,0,none⟩),.string (strOf p)] [bk g st] [] (fun v_ X_ S_=>∃v,v_=v∧X_=[bk g st,aH 9 1 v (hZ d p).length (ss (hZ d p))]∧S_=[]∧((hZ d p).length≤kk)):=by
 have h1:st.seen.length≤kk:=hD.ok.seen
 have h2:d.seen.length≤kk:=hD.qy.seen
 have h3:(hZ d p).length≤kk:=Nat.le_trans (List.length_filter_le _ _) (by rw[List.length_map];exact h2)
 exact cf.mono (DJ (p:=p) (by omega)) (fun v X S h=>by
  obtain⟨v1,n,ks,h1,h2,h3',h4,h5⟩:=h
  have e:=hD.mB.files.hZ h5
  have hl:n=(hZ d p).length:=by
   unfold hZ
   rw[←e,h4]
   exact(List.mergeSort_perm _ _).length_eq.symm
  subst hl
  refine⟨v1,h1, ?_,h3',h3⟩
  rw[h2,e]
  rfl)
end Go.Proofs.YtmibdabdlgmafaaGreatDoor
end
section
namespace Go.Hx
open Go.Eng
end Go.Hx
end
section
namespace Go.Proofs.YtmibdabdlgmafaaGreatDoor
open Go.Eng Go.Hx
end Go.Proofs.YtmibdabdlgmafaaGreatDoor
end
section
namespace Go.Proofs.YtmibdabdlgmafaaGreatDoor
open Go.Eng Go.Hx
theorem oA(q:FP→Bool)(l:List FP):dM (l.filter q)≤dM l:=by
 induction l with
 |nil=>exact Nat.le_refl _
 |cons x r ih=>
  rw[List.filter_cons]
  have e:dM (x::r)=x.2.length+dM r:=by simp[dM]
  split
  ·have e2:dM (x::r.filter q)=x.2.length+dM (r.filter q):=by simp[dM]
   omega
  ·omega
theorem oR{q:FP→Bool}{l:List FP}{x:FP}(hx:x∈l)(hq:q x=false):dM (l.filter q)+x.2.length≤dM l:=by
 induction l with
 |nil=>cases hx
 |cons y r ih=>
  rw[List.filter_cons]
  have e:dM (y::r)=y.2.length+dM r:=by simp[dM]
  rcases List.mem_cons.1 hx with rfl|hm
  ·rw[hq]
   have:=oA q r
   simp only[Bool.false_eq_true,if_false]
   omega
  ·have h1:=ih hm
   split
   ·have e2:dM (y::r.filter q)=y.2.length+dM (r.filter q):=by simp[dM]
    omega
   ·omega
theorem ug(l:List FP)(f:FP):dM (iq l f)≤dM l+f.2.length:=by
 induction l with
 |nil=>simp[iq,dM]
 |cons x r ih=>
  have e:dM (x::r)=x.2.length+dM r:=by simp[dM]
  rw[iq]
  split
  ·have e2:dM (x::iq r f)=x.2.length+dM (iq r f):=by simp[dM]
   omega
  ·have e2:dM (f::(x::r).filter fun y=>decide (y.1≠f.1))=f.2.length+dM ((x::r).filter fun y=>decide (y.1≠f.1)):=by simp[dM]
   have:=oA (fun y=>decide (y.1≠f.1)) (x::r)
   omega
structure At(d:RD)(F:List UInt8→Option (List UInt8))(T:Nat)(room:Int):Prop where
 pw:d.pw=-1
 room:d.room=room
 look:∀p,lk d.seen p=F p
 mi:dM d.seen≤T
def sr(F:List UInt8→Option (List UInt8))(p:List UInt8)(v:Option (List UInt8)):List UInt8→Option (List UInt8):=fun q=>if q=p then v else F q
theorem At.cj{d:RD}{F:List UInt8→Option (List UInt8)}{T:Nat}{room:Int}(h:At d F T room)(p:List UInt8):d.cj p=if F p=none then 4 else 0:=by
 have h1:=h.look p
 rw[←fT]at h1
 rw[RD.cj,if_neg (by rw[h.pw];decide)]
 cases hq:d.seen[cK d.seen p]? with
 |none=>rw[hq]at h1;rw[if_pos rfl,if_pos (by rw[←h1];rfl)]
 |some x=>rw[hq]at h1;rw[if_neg (by simp),if_neg (by rw[←h1];simp)]
theorem At.cC{d:RD}{F:List UInt8→Option (List UInt8)}{T:Nat}{room:Int}(h:At d F T room)(p:List UInt8):d.cC p=(F p).getD []:=by
 have h1:=h.look p
 rw[←fT]at h1
 rw[RD.cC,if_neg (by rw[h.pw];decide),h1]
theorem At.bP{d:RD}{F:List UInt8→Option (List UInt8)}{T:Nat}{room:Int}(h:At d F T room){p l:List UInt8}(hp:gh p)(hr:(T:Int)+(l.length:Nat)≤room):d.bP p l=0:=by
 have h1:=h.mi
 have h2:=h.room
 rw[RD.bP,if_neg (fun h=>h hp),if_neg (by rw[h.pw];decide),if_neg (by omega)]
theorem At.write{d:RD}{F:List UInt8→Option (List UInt8)}{T:Nat}{room:Int}(h:At d F T room){p l:List UInt8}(hp:gh p)(hr:(T:Int)+(l.length:Nat)≤room):At (d.write p l) (sr F p (some l)) (T+l.length) room:=by
 have hs:(d.write p l).seen=iq d.seen (p,l):=by
  rw[RD.write,if_pos (h.bP hp hr)]
  show dG d.seen 0 p [] l=_
  rw[dG,if_pos rfl,jR]
 refine⟨?_, ?_,fun q=> ?_, ?_⟩
 ·rw[RD.write,if_pos (h.bP hp hr)]
  show dU d.pw=-1
  rw[h.pw];rfl
 ·rw[RD.write,if_pos (h.bP hp hr)];exact h.room
 ·rw[hs,sO]
  unfold sr
  split
  ·rfl
  ·exact h.look q
 ·rw[hs]
  have:=ug d.seen (p,l)
  have:=h.mi
  have e:(p,l).2.length=l.length:=rfl
  omega
theorem At.dx{d:RD}{F:List UInt8→Option (List UInt8)}{T:Nat}{room:Int}(h:At d F T room):d.dx=0:=by rw[RD.dx,if_neg (by rw[h.pw];decide)]
theorem At.sync{d:RD}{F:List UInt8→Option (List UInt8)}{T:Nat}{room:Int}(h:At d F T room):At d.sync F T room:=by
 have e:d.sync={d with b4:=d.seen,waits:=[],pw:=dU d.pw}:=by rw[RD.sync,if_neg (by rw[h.pw];decide)]
 rw[e]
 exact⟨by show dU d.pw=-1;rw[h.pw];rfl,h.room,h.look,h.mi⟩
theorem At.b7{d:RD}{F:List UInt8→Option (List UInt8)}{T:Nat}{room:Int}(h:At d F T room){a c x:List UInt8}(hc:gh c)(hx:F a=some x):d.b7 a c=0:=by
 rw[RD.b7,if_neg (fun h=>h hc),h.cj,if_neg (by rw[hx];simp)]
theorem At.rename{d:RD}{F:List UInt8→Option (List UInt8)}{T:Nat}{room:Int}(h:At d F T room){a c x:List UInt8}(hc:gh c)(hx:F a=some x):At (d.rename a c) (sr (sr F a none) c (some x)) T room:=by
 have h1:=h.look a
 rw[←fT,hx]at h1
 obtain⟨y,hy,hyx⟩:∃y,d.seen[cK d.seen a]? =some y∧y.2=x:=by
  cases hq:d.seen[cK d.seen a]? with
  |none=>rw[hq]at h1;cases h1
  |some y=>rw[hq]at h1;exact⟨y,rfl,by simpa using h1⟩
 have hya:y.1=a:=by
  obtain⟨hi,he⟩:=List.getElem?_eq_some_iff.1 hy
  have:=List.findIdx_getElem (p:=fun x:FP=>decide (x.1=a)) (xs:=d.seen) (w:=hi)
  rw[←he]
  exact of_decide_eq_true this
 have hs:(d.rename a c).seen=iq (dA d.seen a) (c,x):=by
  rw[RD.rename,if_pos (h.b7 hc hx)]
  show dG d.seen 1 a c []=_
  rw[dG,if_neg (by decide),hy]
  show(if(1:Int)=2 then _ else _)=_
  rw[if_neg (by decide),jR,hyx]
 refine⟨?_, ?_,fun q=> ?_, ?_⟩
 ·rw[RD.rename,if_pos (h.b7 hc hx)]
  show dU d.pw=-1
  rw[h.pw];rfl
 ·rw[RD.rename,if_pos (h.b7 hc hx)];exact h.room
 ·rw[hs,sO]
  unfold sr dA
  split
  ·rfl
  ·rw[iI]
   split
   ·rfl
   ·exact h.look q
 ·rw[hs]
  have h2:=ug (dA d.seen a) (c,x)
  have h3:dM (dA d.seen a)+y.2.length≤dM d.seen:=oR (List.mem_of_getElem? hy) (by simp[hya])
  have:=h.mi
  have e:(c,x).2.length=x.length:=rfl
  rw[hyx]at h3
  omega
end Go.Proofs.YtmibdabdlgmafaaGreatDoor
end
section
namespace Go.Proofs.YtmibdabdlgmafaaGreatDoor
open Go.Eng Go.Hx
theorem uQ:∀i:Nat,i<16→ko.getD i 0≠0:=by decide
theorem qz(l:List UInt8):¬(0:UInt8)∈cd l:=by
 intro h
 unfold cd at h
 obtain⟨x,hx,hc⟩:=List.mem_flatMap.1 h
 have hb:=x.toNat_lt
 simp only[pH,List.mem_cons,List.not_mem_nil,or_false]at hc
 rcases hc with hc|hc
 ·exact uQ _ (by omega) hc.symm
 ·exact uQ _ (by omega) hc.symm
theorem AR{nm:List UInt8}(h:nm.length=32):gh (aG nm):=by
 refine⟨by simp[aG],by rw[eg h];decide,fun hz=> ?_⟩
 unfold aG at hz
 simp only[List.mem_append,List.mem_cons,List.not_mem_nil,or_false]at hz
 rcases hz with((hz|hz)|hz)|hz
 ·rcases hz with hz|hz <;> exact absurd hz (by decide)
 ·exact qz nm (List.mem_of_mem_take hz)
 ·exact absurd hz (by decide)
 ·exact qz nm hz
theorem Am{nm:List UInt8}(h:nm.length=32):gh (bU nm):=by
 refine⟨by simp[bU],by rw[jI h];decide,fun hz=> ?_⟩
 unfold bU at hz
 simp only[List.mem_append,List.mem_cons,List.not_mem_nil,or_false]at hz
 rcases hz with hz|hz
 ·rcases hz with hz|hz <;> exact absurd hz (by decide)
 ·exact qz nm hz
theorem eG(a b:List UInt8):aG a≠bU b:=by
 intro h
 unfold aG bU at h
 simp only[List.cons_append,List.nil_append,List.cons.injEq]at h
 exact absurd h.1 (by decide)
theorem vr{d:RD}(h:d.pw=-1):d.sync.b4=d.sync.seen∧d.sync.waits=[]:=by
 have e:d.sync={d with b4:=d.seen,waits:=[],pw:=dU d.pw}:=by rw[RD.sync,if_neg (by rw[h];decide)]
 rw[e]
 exact⟨rfl,rfl⟩
structure SD(d:RD)(F:List UInt8→Option (List UInt8))(T:Nat)(room:Int):Prop where
 at_:At d F T room
 same:d.b4=d.seen
 waits:d.waits=[]
theorem SD.new(room:Int):SD (RD.new room) (fun _=>none) 0 room:=⟨⟨rfl,rfl,fun p=>rfl,Nat.le_refl _⟩,rfl,rfl⟩
theorem wo{d:RD}{F:List UInt8→Option (List UInt8)}{T:Nat}{room:Int}(h:At d F T room){nm:List UInt8}(hF:F (aG nm)=none):d.eH nm=4:=by
 have e:d.cj (aG nm)=4:=by rw[h.cj,if_pos hF]
 rw[j1 (by rw[e];decide),e]
theorem get_at{d:RD}{F:List UInt8→Option (List UInt8)}{T:Nat}{room:Int}(h:At d F T room){b:List UInt8}(hb:b.length≤4096)(hF:F (aG (bn b))=some (bK b)):d.eH (bn b)=0∧d.qu (bn b)=b:=by
 have e:d.cj (aG (bn b))=0:=by rw[h.cj,if_neg (by rw[hF];simp)]
 have eB:d.cC (aG (bn b))=bK b:=by rw[h.cC,hF];rfl
 have eo:d.xE (bn b)=(b,0):=by unfold RD.xE;rw[eB];exact xO (by omega) (by omega)
 have e0:d.eH (bn b)=0:=sP e (by rw[eo];simp)
 exact⟨e0,by rw[sF e0,eo]⟩
def oU(F:List UInt8→Option (List UInt8))(b:List UInt8):List UInt8→Option (List UInt8):=sr (sr (sr F (bU (bn b)) (some (bK b))) (bU (bn b)) none) (aG (bn b)) (some (bK b))
theorem qI(F:List UInt8→Option (List UInt8))(b:List UInt8):oU F b (aG (bn b))=some (bK b):=if_pos rfl
theorem SD.iY{d:RD}{F:List UInt8→Option (List UInt8)}{T:Nat}{room:Int}(h:SD d F T room){b:List UInt8}(hr:(T:Int)+(bK b).length≤room):
  ∃d',d.iY b=(d',0)∧SD d' (oU F b) (T+(bK b).length) room:=by
 have hn:=Am (nm:=bn b) (br b)
 have hp:=AR (nm:=bn b) (br b)
 have h1:=h.at_.write (p:=bU (bn b)) (l:=bK b) hn (by omega)
 have h2:=h1.sync
 have hx:sr F (bU (bn b)) (some (bK b)) (bU (bn b))=some (bK b):=if_pos rfl
 have h3:=h2.rename hp hx
 obtain⟨c1,c2⟩:=vr h3.pw
 refine⟨_, ?_,⟨h3.sync,c1,c2⟩⟩
 unfold RD.iY
 rw[cr,if_neg (by show¬d.bP _ _≠0;rw[h.at_.bP hn (by omega)];decide)]
 rw[cr,if_neg (by show¬(d.write _ _).dx≠0;rw[h1.dx];decide)]
 rw[cr,if_neg (by show¬(d.write _ _).sync.b7 _ _≠0;rw[h2.b7 hp hx];decide)]
 rw[cr,if_neg (by show¬((d.write _ _).sync.rename _ _).dx≠0;rw[h3.dx];decide)]
 rfl
theorem SD.put{d:RD}{F:List UInt8→Option (List UInt8)}{T:Nat}{room:Int}(h:SD d F T room){b:List UInt8}(hb:b.length≤4096)(hF:F (aG (bn b))=none)(hr:(T:Int)+(bK b).length≤room):
  ∃d',d.put b=(d',bn b,0)∧SD d' (oU F b) (T+(bK b).length) room:=by
 have e4:=wo h.at_ hF
 obtain⟨d',e,hd⟩:=h.iY hr
 refine⟨d', ?_,hd⟩
 unfold RD.put
 rw[if_neg (by omega),if_neg (by rw[e4];decide),if_neg (by rw[e4];decide),e]
 rfl
end Go.Proofs.YtmibdabdlgmafaaGreatDoor
end
section
set_option maxRecDepth 20000
set_option maxHeartbeats 4000000
namespace Go.Proofs.YtmibdabdlgmafaaGreatDoor
open Go.Eng Go.Hx
def fv(c:UInt8):List UInt8→Nat
 | []=>0
 |x::r=>if 0<fv c r then fv c r+1 else if x=c then 1 else 0
theorem jU{c:UInt8}:∀{s:List UInt8} {k:Nat},k≤s.length→(0<k→s.getD (k-1) 0=c)→(∀j,k≤j→j<s.length→s.getD j 0≠c)→fv c s=k
 | [],k,hk,_,_=>by
  have:k=0:=by simpa using hk
  subst this;rfl
 |x::r,0,hk,h1,h2=>by
  have ih:=jU (c:=c) (s:=r) (k:=0) (Nat.zero_le _) (fun h=>absurd h (by decide)) (fun j _ hj=>by
   have:=h2 (j+1) (Nat.zero_le _) (by rw[List.length_cons];omega)
   simpa using this)
  have hx:x≠c:=by
   have:=h2 0 (Nat.le_refl _) (by simp)
   simpa using this
  unfold fv
  rw[ih,if_neg (by decide),if_neg hx]
 |x::r,1,hk,h1,h2=>by
  have ih:=jU (c:=c) (s:=r) (k:=0) (Nat.zero_le _) (fun h=>absurd h (by decide)) (fun j _ hj=>by
   have:=h2 (j+1) (by omega) (by rw[List.length_cons];omega)
   simpa using this)
  have hx:x=c:=by simpa using h1 (by decide)
  unfold fv
  rw[ih,if_neg (by decide),if_pos hx]
 |x::r,k+2,hk,h1,h2=>by
  have ih:=jU (c:=c) (s:=r) (k:=k+1) (by rw[List.length_cons]at hk;omega) (fun _=>by
   have:=h1 (by omega)
   simpa using this) (fun j hj hl=>by
   have:=h2 (j+1) (by omega) (by rw[List.length_cons];omega)
   simpa using this)
  unfold fv
  rw[ih,if_pos (by omega)]
theorem x8{s:List UInt8}{c:UInt8}(hs:s.length≤1000000000):cf Tryz.prog 167 [.string (strOf s),B8 c] [] [] (fun v_ X_ S_=>v_=(.int .i64 ((fv c s:Nat)-1))∧X_=[]∧S_=[]):=by
 have hsz:=c7 s
 refine aP (N:=19) Tryz.func167 rfl rfl (by simp) fun b=> ?_
 refine ah<|aj<|hy (fun _=>ab rfl)<|ai<|ag<|ah<|ah<|aj<|hy (fun _=>aa rfl)<|hy (fun _=>cY rfl Tryz.underlying9)<|hy (fun _=>cp rfl rfl (bF (by omega) (by omega)))<|hy (fun _=>ab rfl)<|ai<|al (ρ' :=[(5,_),(4,_),(0,_),(1,_)]) ⟨rfl,rfl,rfl,rfl,trivial⟩<|ag<|aK<| ?_
 refine dH (fun k=>k) (fun k=>[(5,.int .i64 ((k:Nat)-1))]) (fun k=>[]) (fun k=>[]) (fun k=>k≤s.length∧∀j,k≤j→j<s.length→s.getD j 0≠c) s.length [(0,_),(1,_)] ⟨rfl,rfl,trivial⟩ [] rfl [] rfl (⟨Nat.le_refl _,fun j h1 h2=>absurd h2 (by omega)⟩) ⟨rfl,trivial⟩ (fun k ⟨hk,hno⟩=> ?_)
 refine ah<|ah<|aj<|hy (fun _=>aa rfl)<|hy (fun _=>iX rfl rfl)<|ai<|al (ρ' :=[(10,_),(5,_),(0,_),(1,_)]) ⟨rfl,rfl,rfl,rfl,trivial⟩<|ag<| ?_
 refine cG rfl (fun h=> ?_) (fun h=> ?_)
 ·have hil:k-1<s.length:=by omega
  refine aB<|ag<|ah<|aK<|ah<|aj<|hy (fun _=>aa rfl)<|hy (fun _=>aa rfl)<|hy (fun _=>eW rfl rfl Tryz.underlying9 (show((k-1:Nat):Int)=_ by omega) (iM hil))<|hy (fun _=>aa rfl)<|hy (fun _=>cM rfl rfl)<|ai<|al (ρ' :=[(17,_),(10,_),(5,_),(0,_),(1,_)]) ⟨rfl,rfl,rfl,rfl,rfl,trivial⟩<|ag<| ?_
  refine cG rfl (fun h0=> ?_) (fun h0=> ?_)
  ·have h00:s.getD (k-1) 0=c:=UInt8.toNat_inj.1 (by omega)
   rw[jU hk (fun _=>h00) hno]
   refine ah<|aj<|hy (fun _=>aa rfl)<|hy (fun _=>ab rfl)<|ai<|al (ρ' :=[(4,_),(17,_),(10,_),(5,_),(0,_),(1,_)]) ⟨rfl,rfl,rfl,rfl,rfl,rfl,trivial⟩<|ag<|aX<|bf<|ay<|ay<|bf<|ay<| ?_
   exact bh trivial rfl rfl [] rfl [] rfl ⟨rfl,rfl,rfl⟩
  ·have h00:s.getD (k-1) 0≠c:=fun e=>h0 (by rw[e])
   have hno2:∀j,k-1≤j→j<s.length→s.getD j 0≠c:=fun j h1 h2=>by
    rcases Nat.lt_or_ge j k with hlt|hge
    ·rw[show j=k-1 by omega];exact h00
    ·exact hno j hge h2
   refine aB<|aO<|ag<|aj<|hy (fun _=>aa rfl)<|hy (fun _=>yV (cp rfl rfl (bF (by omega) (by omega))) ((show Value.int .i64 _= .int .i64 (((k-1:Nat):Int)-1) by congr 1;omega)))<|hy (fun _=>ab rfl)<|ai<|al (ρ' :=[(5,_),(17,_),(10,_),(0,_),(1,_)]) ⟨rfl,rfl,rfl,rfl,rfl,trivial⟩<| ?_
   refine cX (k-1) ⟨rfl,rfl,rfl,trivial⟩ [] rfl [] rfl (⟨by omega,hno2⟩) (by omega)
 ·obtain rfl:k=0:=by omega
  rw[jU (Nat.zero_le _) (fun h=>absurd h (by decide)) hno]
  refine bL<|ao<|ao<|aD<|ag<|ah<|aj<|hy (fun _=>ab rfl)<|ai<|ag<|aX<| ?_
  exact bh trivial rfl rfl [] rfl [] rfl ⟨rfl,rfl,rfl⟩
theorem vQ{s:List UInt8}(hs:s.length≤1000000000):cf Tryz.prog 93 [.string (strOf s),.string (strOf [47])] [] [] (fun v_ X_ S_=>v_=(.int .i64 ((fv 47 s:Nat)-1))∧X_=[]∧S_=[]):=by
 refine aP (N:=36) Tryz.func93 rfl rfl (by simp) fun b=> ?_
 refine ah<|aj<|hy (fun _=>ab rfl)<|ai<|ag<|ah<|aj<|hy (fun _=>aa rfl)<|hy (fun _=>cY rfl Tryz.underlying9)<|hy (fun _=>ab rfl)<|ai<|al (ρ' :=[(5,_),(4,_),(0,_),(1,_)]) ⟨rfl,rfl,rfl,rfl,trivial⟩<|ag<|ah<|aK<|ah<|aj<|hy (fun _=>aa rfl)<|hy (fun _=>cM rfl rfl)<|hy (fun _=>ab rfl)<|ai<|al (ρ' :=[(8,_),(5,_),(4,_),(0,_),(1,_)]) ⟨rfl,rfl,rfl,rfl,rfl,trivial⟩<|ag<| ?_
 refine dB rfl ((decide_eq_false (by decide))) ?_
 refine ah<|aj<|hy (fun _=>aa rfl)<|hy (fun _=>cM rfl rfl)<|hy (fun _=>ab rfl)<|ai<|al (ρ' :=[(13,_),(8,_),(5,_),(4,_),(0,_),(1,_)]) ⟨rfl,rfl,rfl,rfl,rfl,rfl,trivial⟩<|ag<| ?_
 refine gY rfl ((decide_eq_true (by decide))) ?_
 refine ah<|aj<|hy (fun _=>aa rfl)<|hy (fun _=>aa rfl)<|hy (fun _=>eW rfl rfl Tryz.underlying9 rfl (show(strOf [47]).data[0]? =some 47 from rfl))<| ?_
 refine hx (aq rfl Tryz.call167 (x8 hs (c:=47)) [] rfl [] rfl ?_)
 rintro _ _ _ ⟨rfl,rfl,rfl⟩
 refine hy (fun _=>ab rfl)<|ai<|al (ρ' :=[(4,_),(13,_),(8,_),(5,_),(0,_),(1,_)]) ⟨rfl,rfl,rfl,rfl,rfl,rfl,trivial⟩<|ak (X' :=[]) (S' :=[]) (fun _ m=>m)<|ag<|aX<|bf<|ay<| ?_
 exact bh trivial rfl rfl [] rfl [] rfl ⟨rfl,rfl,rfl⟩
theorem yw(l:List UInt8):¬(47:UInt8)∈cd l:=by
 have hd:∀i:Nat,i<16→ko.getD i 0≠47:=by decide
 intro h
 unfold cd at h
 obtain⟨x,hx,hc⟩:=List.mem_flatMap.1 h
 have hb:=x.toNat_lt
 simp only[pH,List.mem_cons,List.not_mem_nil,or_false]at hc
 rcases hc with hc|hc
 ·exact hd _ (by omega) hc.symm
 ·exact hd _ (by omega) hc.symm
theorem tk{nm:List UInt8}(h:nm.length=32):fv 47 (aG nm)=5:=by
 have h64:(cd nm).length=64:=by rw[dS,h]
 obtain⟨a,b,r,hr⟩:∃a b r,cd nm=a::b::r:=by
  match hq:cd nm with
  | []=>rw[hq]at h64;cases h64
  | [_]=>rw[hq]at h64;cases h64
  |a::b::r=>exact⟨a,b,r,rfl⟩
 have hp:aG nm=[99,47,a,b,47]++cd nm:=by unfold aG;rw[hr];rfl
 refine jU (by rw[eg h];decide) (fun _=>by rw[hp];rfl) (fun j h1 h2 e=> ?_)
 rw[hp]at e h2
 rw[List.getD_eq_getElem?_getD,List.getElem?_append_right (by exact h1)]at e
 have hj:j-5<(cd nm).length:=by simp at h2;omega
 have e2:(cd nm)[j-5]?.getD 0=47:=e
 rw[List.getElem?_eq_getElem hj]at e2
 exact yw nm (by rw[←show(cd nm)[j-5]=47 from e2];exact List.getElem_mem hj)
def lg(p q:List UInt8):Option (List UInt8):=if(b8 q).2=0∧aG (b8 q).1=p then some (b8 q).1 else none
theorem eE{p q nm:List UInt8}(h:lg p q=some nm):nm.length=32∧p=aG nm:=by
 unfold lg at h
 split at h
 ·rename_i hq
  cases h
  exact⟨gZ _,hq.2.symm⟩
 ·cases h
theorem pk{nm:List UInt8}(h:nm.length=32):lg (aG nm) (cd nm)=some nm:=by
 unfold lg
 rw[qR nm h,if_pos ⟨rfl,rfl⟩]
def ix(p:List UInt8):Option (List UInt8):=lg p (p.drop (fv 47 p))
def jZ(p:List UInt8):Option (List UInt8):=if p.length=69 then lg p (p.drop 5)else none
theorem j5(p:List UInt8):ix p=jZ p:=by
 have h1:∀{nm:List UInt8},nm.length=32→ix (aG nm)=some nm∧jZ (aG nm)=some nm:=fun{nm} h=>by
  unfold ix jZ
  rw[tk h,jr h,eg h,if_pos rfl]
  exact⟨pk h,pk h⟩
 cases h:ix p with
 |some nm=>
  obtain⟨h2,rfl⟩:=eE h
  exact(h1 h2).2.symm
 |none=>
  cases h3:jZ p with
  |none=>rfl
  |some nm=>
   have h4:lg p (p.drop 5)=some nm:=by
    unfold jZ at h3
    split at h3
    ·exact h3
    ·cases h3
   obtain⟨h2,rfl⟩:=eE h4
   rw[(h1 h2).1]at h
   cases h
def a7(d:RD):List (List UInt8):=(d.seen.map (·.1)).filterMap jZ
end Go.Proofs.YtmibdabdlgmafaaGreatDoor
end
section
set_option maxRecDepth 20000
set_option maxHeartbeats 4000000
namespace Go.Proofs.YtmibdabdlgmafaaGreatDoor
open Go.Eng Go.Hx
def AD:List UInt8:=[99,47]
theorem tu(c:UInt8):∀s:List UInt8,fv c s≤s.length
 | []=>Nat.le_refl _
 |x::r=>by
  have:=tu c r
  unfold fv
  split
  ·rw[List.length_cons];omega
  ·split <;> (rw[List.length_cons];omega)
theorem Bu{p nm:List UInt8}(h:ix p=some nm):pre AD p=true:=by
 obtain⟨h1,rfl⟩:=eE h
 unfold pre
 exact decide_eq_true rfl
theorem sg(d:RD):(hZ d AD).filterMap ix=a7 d:=by
 unfold hZ a7
 rw[show jZ=ix from funext fun p=>(j5 p).symm]
 generalize d.seen.map (·.1)=l
 induction l with
 |nil=>rfl
 |cons p r ih=>
  rw[List.filter_cons]
  cases h:ix p with
  |some nm=>rw[if_pos (Bu h),List.filterMap_cons,List.filterMap_cons,h,ih]
  |none=>
   rw[List.filterMap_cons,h]
   split
   ·rw[List.filterMap_cons,h];exact ih
   ·exact ih
theorem yj{ns:List (List UInt8)}{i:Nat}(h:i<ns.length):(ns.take (i+1)).filterMap ix=(ns.take i).filterMap ix++(ix (ns.getD i [])).toList:=by
 have h1:ns.take (i+1)=ns.take i++[ns.getD i []]:=by
  rw[List.take_add_one,List.getElem?_eq_getElem h]
  simp[List.getD,List.getElem?_eq_getElem h]
 rw[h1,List.filterMap_append]
 generalize ns.getD i []=x
 cases hq:ix x <;> simp[hq]
theorem vp{g:Nat}{st:cF}{d:RD}{kk:Nat}(hD:DS st d kk)(hkk:kk≤99000)(hnl:∀x∈d.seen,x.1.length≤1000000):cf Tryz.prog 20 [.pointer (some ⟨g,0,none⟩)] [bk g st] [] (fun v_ X_ S_=>∃v k,v_=v∧X_=[bk g st,aH 53 32 v k (dc (a7 d))]∧S_=[]∧(k=(a7 d).length)):=by
 have hcn:=sg d
 have hnl2:∀p∈hZ d AD,p.length≤1000000:=fun p hp=>by
  obtain⟨x,hx,rfl⟩:=List.mem_map.1 (List.mem_filter.1 hp).1
  exact hnl x hx
 refine aP (N:=38) Tryz.func20 rfl rfl (by simp) fun b=> ?_
 refine ah<|aj<|hy (fun _=>ab rfl)<|ai<|ag<|ah<|aj<|hy (fun _=>ab rfl)<|ai<|ag<|ah<|ah<|aj<|hy (fun _=>aa rfl)<| ?_
 refine hx (aq rfl Tryz.call86 (Fa hD hkk (p:=AD)) [0] rfl [] rfl ?_)
 rintro _ _ _ ⟨v,rfl,rfl,rfl,hn⟩
 refine aA (fun m=>(m.own 1 rfl).slice) ?_
 rintro⟨A_x,c_x,rfl,hc_x⟩
 refine aA (fun m=>(m.ord 1 rfl).2.1) fun hA_x=> ?_
 generalize hZ d AD=ns at hn hcn hnl2 hc_x hA_x ⊢
 refine hy (fun _=>aT rfl Tryz.underlying152)<|hy (fun _=>aa rfl)<|ai<|al (ρ' :=[(11,_),(10,_),(9,_),(3,_),(2,_),(0,_)]) ⟨rfl,rfl,rfl,rfl,rfl,rfl,trivial⟩<|ak (X' :=[_,_]) (S' :=[]) (fun _ m=>m)<|ag<|aK<| ?_
 refine bC (fun w m=>m.dj (r' :=aH 53 32 (.slice none 0 0) 0 []) (.refl _ _) (Own.nil _ _ _ _) (fun k hk=>hk.elim)) ?_
 refine jJ (fun i k A1 c1=>ns.length-i) (fun i k A1 c1=>[(3,.slice A1 k c1),(11,.int .i64 (i:Nat))]) (fun i k A1 c1=>[aH 53 32 (.slice A1 k c1) k (dc ((ns.take i).filterMap ix))]) (fun i k A1 c1=>[]) (fun i k A1 c1=>i≤ns.length∧k=((ns.take i).filterMap ix).length∧k≤i) 0 0 none 0 [(10,_),(9,_),(2,_),(0,_)] ⟨rfl,rfl,rfl,rfl,trivial⟩ [0] rfl [] rfl (⟨Nat.zero_le _,rfl,Nat.le_refl _⟩) ⟨rfl,rfl,trivial⟩ (fun i k A1 c1 ⟨hin,hk,hki⟩=> ?_)
 refine ah<|aj<|hy (fun _=>bw rfl rfl)<|ai<|ag<|ah<| ?_
 refine cG rfl (fun hlt=> ?_) (fun hlt=> ?_)
 ·have hi2:i<ns.length:=by omega
  have hsn:=yj hi2
  have hpl:=hnl2 (ns.getD i []) (by rw[List.getD,List.getElem?_eq_getElem hi2];exact List.getElem_mem hi2)
  refine aB<|ag<|ah<|aK<|ah<|aj<|hy (fun _=>aS rfl rfl Tryz.underlying152 HI hA_x rfl (by omega))<|hy (fun m=>aw rfl lz ((m.ord 2 rfl).cell (zZ hi2)))<|hy (fun _=>ab rfl)<|ai<|al (ρ' :=[(5,_),(12,_),(3,_),(11,_),(10,_),(9,_),(2,_),(0,_)]) ⟨rfl,rfl,rfl,rfl,rfl,rfl,rfl,rfl,trivial⟩<|ag<|ah<|aj<|hy (fun _=>aa rfl)<|hy (fun _=>aa rfl)<| ?_
  generalize ns.getD i []=p at hsn hpl ⊢
  have hlp:=tu 47 p
  have hdl:=gZ (p.drop (fv 47 p))
  have h32:(aW (b8 (p.drop (fv 47 p))).1).length=32:=by rw[az,hdl]
  have hql:(p.drop (fv 47 p)).length≤1000000:=by rw[List.length_drop];omega
  have ho1:ix p=if(b8 (p.drop (fv 47 p))).2=0∧aG (b8 (p.drop (fv 47 p))).1=p then some (b8 (p.drop (fv 47 p))).1 else none:=rfl
  refine hx (aq rfl Tryz.call93 (vQ (by omega) (s:=p)) [] rfl [] rfl ?_)
  rintro _ _ _ ⟨rfl,rfl,rfl⟩
  refine hy (fun _=>aN rfl rfl (bF (by omega) (by omega)))<|hy (fun _=>rl rfl rfl Tryz.underlying9 (show((fv 47 p:Nat):Int)=_ by omega) hlp)<| ?_
  refine hx (aq rfl Tryz.call92 (y9 hql (s:=(p.drop (fv 47 p)))) [] rfl [] rfl ?_)
  rintro _ _ _ ⟨rfl,rfl,rfl⟩
  refine hy (fun _=>aa rfl)<|hy (fun _=>ar rfl rfl)<|hy (fun _=>ar rfl rfl)<| ?_
  refine hx (aM cP (fun g6=> ?_))
  refine cH (aJ 0 rfl rfl rfl bg h32 aY rfl ?_)
  generalize hdo:b8 (p.drop (fv 47 p))=dq at hdl h32 ho1 ⊢
  by_cases hE:dq.2=0
  ·refine hy (fun _=>ab rfl)<|ai<|al (ρ' :=[(7,_),(6,_),(5,_),(12,_),(3,_),(11,_),(10,_),(9,_),(2,_),(0,_)]) ⟨rfl,rfl,rfl,rfl,rfl,rfl,rfl,rfl,rfl,rfl,trivial⟩<|ak (X' :=[_,_,_,_]) (S' :=[]) (fun _ m=>m)<|ag<|ah<|aj<|hy (fun _=>aa rfl)<|hy (fun _=>yT (cM rfl rfl) ((decide_eq_true hE)))<|hy (fun _=>aa rfl)<|dW (o:=_) rfl rfl rfl (fun m=>aU rfl b9 bg h32 ((m.aZ 0 rfl).ax))<| ?_
   refine Gw (o:=_) rfl rfl rfl (aq rfl Tryz.call94 (sD hdl) [] rfl [] rfl ?_)
   rintro _ _ _ ⟨rfl,rfl,rfl⟩
   refine dW (o:=_) rfl rfl rfl (fun _=>aa rfl)<|dW (o:=_) rfl rfl rfl (fun _=>rC rfl rfl)<|hy (fun _=>bT rfl rfl)<|ai<|al (ρ' :=[(31,_),(7,_),(6,_),(5,_),(12,_),(3,_),(11,_),(10,_),(9,_),(2,_),(0,_)]) ⟨rfl,rfl,rfl,rfl,rfl,rfl,rfl,rfl,rfl,rfl,rfl,trivial⟩<|ak (X' :=[_,_,_,_]) (S' :=[]) (fun _ m=>m)<|ag<| ?_
   refine tc rfl (fun hp=> ?_) (fun hp=> ?_)
   ·have hp:=cN.1 (of_decide_eq_true hp)
    rw[ho1,if_pos ⟨hE,hp⟩]at hsn
    have hsn:(ns.take (i+1)).filterMap ix=(ns.take i).filterMap ix++[dq.1]:=hsn
    refine aj<|hy (fun _=>aa rfl)<|hy (fun m=>aU rfl b9 bg h32 ((m.aZ 0 rfl).ax))<| ?_
    refine hx (b6 Tryz.underlying33 cP rfl rfl rfl (by simpa[Value.cells,B8]using h32) (by decide) (by decide) (fun g34=> ?_))
    have hA_b34:0<1→(some (⟨g34,0,none⟩:Addr))≠none:=fun _ h=>by cases h
    refine aQ (fun w m=>m.bN 0 rfl (show _=aH 53 32 (.slice (some ⟨g34,0,none⟩) 1 1) 1 (dc [dq.1])from rfl)) ?_
    refine hx (bx 2 rfl rfl rfl Tryz.underlying33 Tryz.underlying33 (by exact .inl rfl) cP rfl (fun m=>Src.bR (m.ord 0 rfl)) cO (by unfold maxLen;omega) (by omega) (fun u=> ?_))
    refine aA (fun m=>(m.own 0 rfl).slice) ?_
    rintro⟨A_o,c_o,rfl,hc_o⟩
    refine aA (fun m=>(m.ord 0 rfl).2.1) fun hA_o=> ?_
    refine aQ (fun w m=>m.bN 0 rfl (show _=aH 53 32 (.slice A_o (k+1) c_o) (k+1) (dc ((ns.take (i+1)).filterMap ix))from congrArg (aH _ _ _ _) (by rw[hsn,db]))) ?_
    refine hy (fun _=>ab rfl)<|ai<|al (ρ' :=[(3,_),(31,_),(7,_),(6,_),(5,_),(12,_),(11,_),(10,_),(9,_),(2,_),(0,_)]) ⟨rfl,rfl,rfl,rfl,rfl,rfl,rfl,rfl,rfl,rfl,rfl,trivial⟩<|ak (X' :=[_,_,_,_,_]) (S' :=[]) (fun _ m=>m)<|aO<|ag<|aj<|hy (fun _=>aN rfl rfl (bF (by omega) (by omega)))<|hy (fun _=>aa rfl)<|ai<|al (ρ' :=[(11,_),(3,_),(31,_),(7,_),(6,_),(5,_),(12,_),(10,_),(9,_),(2,_),(0,_)]) ⟨rfl,rfl,rfl,rfl,rfl,rfl,rfl,rfl,rfl,rfl,rfl,trivial⟩<| ?_
    refine eO (i+1) (k+1) A_o c_o ⟨rfl,rfl,rfl,rfl,rfl,rfl,trivial⟩ [0,2,2] rfl [] rfl (⟨by omega,by rw[hsn,hk,List.length_append];rfl,by omega⟩) (by omega)
   ·have hp:=of_decide_eq_false hp
    rw[ho1,if_neg (fun h=>hp (by rw[h.2]))]at hsn
    have hsn:(ns.take (i+1)).filterMap ix=(ns.take i).filterMap ix:=hsn.trans (List.append_nil _)
    refine bC (fun w m=>m.bN 1 rfl (show _=aH 53 32 (.slice A1 k c1) k (dc ((ns.take (i+1)).filterMap ix))from by rw[hsn])) ?_
    refine aB<|aO<|ag<|aj<|hy (fun _=>aN rfl rfl (bF (by omega) (by omega)))<|hy (fun _=>aa rfl)<|ai<|al (ρ' :=[(11,_),(31,_),(7,_),(6,_),(5,_),(12,_),(3,_),(10,_),(9,_),(2,_),(0,_)]) ⟨rfl,rfl,rfl,rfl,rfl,rfl,rfl,rfl,rfl,rfl,rfl,trivial⟩<| ?_
    refine eO (i+1) k A1 c1 ⟨rfl,rfl,rfl,rfl,rfl,rfl,trivial⟩ [0,1,1] rfl [] rfl (⟨by omega,by rw[hsn,hk],by omega⟩) (by omega)
  ·refine hy (fun _=>ab rfl)<|ai<|al (ρ' :=[(7,_),(6,_),(5,_),(12,_),(3,_),(11,_),(10,_),(9,_),(2,_),(0,_)]) ⟨rfl,rfl,rfl,rfl,rfl,rfl,rfl,rfl,rfl,rfl,trivial⟩<|ag<|ah<|aj<|hy (fun _=>aa rfl)<|hy (fun _=>yF (cM rfl rfl) ((decide_eq_false hE)))<|hy (fun _=>aa rfl)<|bI rfl rfl rfl (by decide)<|bI rfl rfl rfl (by decide)<|bI rfl rfl rfl (by decide)<|bI rfl rfl rfl (by decide)<|hy (fun _=>bD rfl rfl)<|ai<|al (ρ' :=[(31,_),(7,_),(6,_),(5,_),(12,_),(3,_),(11,_),(10,_),(9,_),(2,_),(0,_)]) ⟨rfl,rfl,rfl,rfl,rfl,rfl,rfl,rfl,rfl,rfl,rfl,trivial⟩<|ag<| ?_
   refine dB rfl (rfl) ?_
   rw[ho1,if_neg (fun h=>hE h.1)]at hsn
   have hsn:(ns.take (i+1)).filterMap ix=(ns.take i).filterMap ix:=hsn.trans (List.append_nil _)
   refine bC (fun w m=>m.bN 1 rfl (show _=aH 53 32 (.slice A1 k c1) k (dc ((ns.take (i+1)).filterMap ix))from by rw[hsn])) ?_
   refine aB<|aO<|ag<|aj<|hy (fun _=>aN rfl rfl (bF (by omega) (by omega)))<|hy (fun _=>aa rfl)<|ai<|al (ρ' :=[(11,_),(31,_),(7,_),(6,_),(5,_),(12,_),(3,_),(10,_),(9,_),(2,_),(0,_)]) ⟨rfl,rfl,rfl,rfl,rfl,rfl,rfl,rfl,rfl,rfl,rfl,trivial⟩<| ?_
   refine eO (i+1) k A1 c1 ⟨rfl,rfl,rfl,rfl,rfl,rfl,trivial⟩ [0,1,1] rfl [] rfl (⟨by omega,by rw[hsn,hk],by omega⟩) (by omega)
 ·obtain rfl:i=ns.length:=by omega
  rw[List.take_length,hcn]at hk ⊢
  refine bL<|ao<|ao<|aD<|ag<|ah<|aj<|hy (fun _=>aa rfl)<|hy (fun _=>ab rfl)<|ai<|al (ρ' :=[(2,_),(12,_),(3,_),(11,_),(10,_),(9,_),(0,_)]) ⟨rfl,rfl,rfl,rfl,rfl,rfl,rfl,trivial⟩<|ag<|aX<| ?_
  exact bh trivial rfl rfl [1,0] rfl [] rfl ⟨_,_,rfl,rfl,rfl,hk⟩
end Go.Proofs.YtmibdabdlgmafaaGreatDoor
end
section
namespace Go.Eng
open Go.RowKit
section
variable{P:Program}{fn:Func}{R:Value→List bq→List bq→Prop}{N:Nat}{ρ:Env}{b:cL}{X X' Xz S S' :List bq}{e:Exit}
theorem fz{t t2 t' sz sz2:Nat}{ty ty2:TypeId}{p p2:Addr}{cs cs2:List Value}{v' :Value}(he:Leaves e)(hr:fn.results= #[.cell t ty,.cell t2 ty2,.tmp t'])(hv:get ρ t=some (.pointer (some p)))(hv2:get ρ t2=some (.pointer (some p2)))(hv' :get ρ t' =some v')(ha:dz P ty=some true)(hs:fy P ty=some sz)(hl:cs.length=sz)
  (hc:∀{w},Mem b X S w→∀j u,cs[j]? =some u→w.cell? (p.add j)=some u) (ha2:dz P ty2=some true) (hs2:fy P ty2=some sz2) (hl2:cs2.length=sz2)
  (hc2:∀{w},Mem b X S w→∀j u,cs2[j]? =some u→w.cell? (p2.add j)=some u) (is:List Nat) (hX:b5 is X=some (X',Xz)) (js:List Nat) (hS:dV js S=some S') (hR:R (.tuple #[.agg cs.toArray,.agg cs2.toArray,v']) X' S'):HQ (bodyPost P fn (RB b R)) N [] e ρ b X S:=
 fun w m=>gM he (fun a hA=>by have h1:=hA.getD hv;have h2:=hA.getD hv2;have h3:=hA.getD hv';simp at h1 h2 h3;simp[results,hr,h1,h2,h3,asAddr,jN ha hs hl (hc m),jN ha2 hs2 hl2 (hc2 m)]) ⟨_,_,_,rfl,hR,m.out is hX js hS⟩
end
end Go.Eng
end
section
set_option maxRecDepth 20000
set_option maxHeartbeats 2000000
namespace Go.Proofs.YtmibdabdlgmafaaGreatDoor
open Go.Eng Go.Hx
def mv(s:Nat×Nat):List Value:=[.int .i64 (s.1:Nat),.int .i64 (s.2:Nat)]
theorem nK{s:Nat×Nat}:∀u∈mv s,u.oneCell' =true:=by
 intro u hu
 simp only[mv,List.mem_cons,List.not_mem_nil,or_false]at hu
 rcases hu with rfl|rfl <;> rfl
theorem Cb{A:Option Addr}{n c i:Nat}{l:List UInt8}(hn:n≤1000000000)(hl:l.length=n)(hi:i<n):cf Tryz.prog 218 [.slice A n c,.int .i64 (i:Nat)] [] [di 1 A n (aW l)] (fun v_ X_ S_=>v_=(.agg (mv (a8 l i)).toArray)∧X_=[]∧S_=[]):=by
 refine aP (N:=67) Tryz.func218 rfl rfl (by simp) fun b=> ?_
 refine a6 (fun m=>ig (m.rd 0 rfl)) ?_
 rintro⟨hl_r,hA_r⟩
 refine ah<|aj<| ?_
 refine hx (aM rS (fun g4=> ?_))
 refine ai<|ak (X' :=[_]) (S' :=[_]) (fun _ m=>m)<|ag<|ah<|aj<| ?_
 refine hx (aM rS (fun g5=> ?_))
 refine ai<|ak (X' :=[_,_]) (S' :=[_]) (fun _ m=>m)<|ag<|ah<|ah<|aj<|hy (fun _=>aa rfl)<|hy (fun _=>bw rfl rfl)<|hy (fun _=>aa rfl)<| ?_
 refine eY 10 rfl (fun h0=> ?_) (fun h0=> ?_)
 ·exact absurd h0 (by omega)
 ·refine dW (o:=_) rfl rfl rfl (fun _=>aa rfl)<|dW (o:=_) rfl rfl rfl (fun _=>aa rfl)<|dW (o:=_) rfl rfl rfl (fun _=>aT rfl Tryz.underlying27)<|dW (o:=_) rfl rfl rfl (fun _=>iX rfl rfl)<|hy (fun _=>bD rfl rfl)<|ai<|al (ρ' :=[(15,_),(5,_),(4,_),(0,_),(1,_)]) ⟨rfl,rfl,rfl,rfl,rfl,trivial⟩<|ag<| ?_
  refine dB rfl ((decide_eq_false (by omega))) ?_
  refine bC (fun w m=>m.bN 0 rfl (show _=aL g5 298 (mv (cx l i 0))from rfl)) ?_
  refine bC (fun w m=>m.bN 1 rfl (show _=aL g4 298 (mv (0,0))from rfl)) ?_
  refine aB<|ag<|ah<|ah<|aj<|hy (fun _=>ab rfl)<|ai<|ag<|aK<| ?_
  refine dH (fun q=>2000-q) (fun q=>[(6,.int .i64 ((q+1:Nat):Int))]) (fun q=>[aL g5 298 (mv (cx l i q))]) (fun q=>[]) (fun q=>q≤min i 1024) 0 [(15,_),(5,_),(4,_),(0,_),(1,_)] ⟨rfl,rfl,rfl,rfl,rfl,trivial⟩ [1] rfl [] rfl (Nat.zero_le _) ⟨rfl,trivial⟩ (fun q hI=> ?_)
  refine ah<|ah<|aj<|hy (fun _=>aa rfl)<|hy (fun _=>aa rfl)<|hy (fun _=>ot rfl rfl)<|hy (fun _=>aa rfl)<| ?_
  refine eY 20 rfl (fun h1=> ?_) (fun h1=> ?_)
  ·refine dW (o:=_) rfl rfl rfl (fun _=>aa rfl)<|dW (o:=_) rfl rfl rfl (fun _=>ot rfl rfl)<|hy (fun _=>bT rfl rfl)<|ai<|al (ρ' :=[(23,_),(6,_),(15,_),(5,_),(4,_),(0,_),(1,_)]) ⟨rfl,rfl,rfl,rfl,rfl,rfl,rfl,trivial⟩<|ag<| ?_
   refine cG rfl (fun h2=> ?_) (fun h2=> ?_)
   ·refine aB<|ag<|ah<|aK<|ah<|aj<|hy (fun _=>ab rfl)<|ai<|ag<|ah<|aK<| ?_
    refine dH (fun j=>131-j) (fun j=>[(7,.int .i64 (j:Nat))]) (fun j=>[]) (fun j=>[]) (fun j=>j≤131∧i+j≤n∧lU l i (i-(q+1)) (131-j) j=mA l i (i-(q+1))) 0 [(23,_),(6,_),(15,_),(5,_),(4,_),(0,_),(1,_)] ⟨rfl,rfl,rfl,rfl,rfl,rfl,rfl,trivial⟩ [] rfl [] rfl (⟨by decide,by omega,rfl⟩) ⟨rfl,trivial⟩ (fun j ⟨hj,hij,hL⟩=> ?_)
    refine ah<|ah<|cT [] [(0,some 0),(1,some 0),(2,some 0),(3,some 0),(4,some 0),(5,some 0),(6,some 0),(7,some 0),(8,some 0),(9,some 0),(10,some 0),(11,some 0),(12,some 0),(13,some 0),(14,some 0),(15,some 0),(16,some 0),(17,some 0),(18,some 0),(19,some 0),(20,some 0),(21,some 0),(22,some 0),(23,some 0),(24,some 0),(25,some 0),(26,some 0)] (by kernel_rfl) (by kernel_rfl) rfl 99<|an (aa rfl)<|an (aa rfl)<|an (aN rfl rfl (bF (by omega) (by omega)))<|an (aa rfl)<|an (aT rfl Tryz.underlying27)<|an (bw rfl rfl)<|an (aa rfl)<| ?_
    refine iy 32 rfl (fun g1=> ?_) (fun g1=> ?_)
    ·refine bm (o:=_) rfl rfl rfl (aa rfl)<|bm (o:=_) rfl rfl rfl (bw rfl rfl)<|an (bT rfl rfl)<|an (aa rfl)<| ?_
     refine iy 36 rfl (fun g2=> ?_) (fun g2=> ?_)
     ·refine bm (o:=_) rfl rfl rfl (aa rfl)<|bm (o:=_) rfl rfl rfl (aa rfl)<|bm (o:=_) rfl rfl rfl (aa rfl)<|bm (o:=_) rfl rfl rfl (aN rfl rfl (bF (by omega) (by omega)))<|bm (o:=_) rfl rfl rfl (aS rfl rfl Tryz.underlying27 dZ hA_r (show((i+j:Nat):Int)=_ by omega) (by omega))<|iV (o:=_) rfl rfl rfl (fun m=>aw rfl jc ((m.rd 0 rfl).cell (bM (by omega))))<|bm (o:=_) rfl rfl rfl (aa rfl)<|bm (o:=_) rfl rfl rfl (aa rfl)<|bm (o:=_) rfl rfl rfl (aa rfl)<|bm (o:=_) rfl rfl rfl (aN rfl rfl (bF (by omega) (by omega)))<|bm (o:=_) rfl rfl rfl (aa rfl)<|bm (o:=_) rfl rfl rfl (yV (cp rfl rfl (bF (by omega) (by omega))) ((show Value.int .i64 ((i:Int)+(j:Int)-((q+1:Nat):Int))= .int .i64 ((i-(q+1)+j:Nat):Int) by congr 1;omega)))<|bm (o:=_) rfl rfl rfl (aS rfl rfl Tryz.underlying27 dZ hA_r rfl (by omega))<|iV (o:=_) rfl rfl rfl (fun m=>aw rfl jc ((m.rd 0 rfl).cell (bM (by omega))))<|bm (o:=_) rfl rfl rfl (cM rfl rfl)<|an (bT rfl rfl)<|bz<|al (ρ' :=[(52,_),(7,_),(23,_),(6,_),(15,_),(5,_),(4,_),(0,_),(1,_)]) ⟨rfl,rfl,rfl,rfl,rfl,rfl,rfl,rfl,rfl,trivial⟩<|ag<| ?_
      refine cG rfl (fun g3=> ?_) (fun g3=> ?_)
      ·have e3:l.getD (i+j) 0=l.getD (i-(q+1)+j) 0:=UInt8.toNat_inj.1 (by omega)
       rw[iC (by omega) ⟨by omega,e3⟩]at hL
       refine aB<|ag<|aK<|aj<|hy (fun _=>aa rfl)<|hy (fun _=>aN rfl rfl (bF (by omega) (by omega)))<|hy (fun _=>ab rfl)<|ai<|al (ρ' :=[(7,_),(52,_),(23,_),(6,_),(15,_),(5,_),(4,_),(0,_),(1,_)]) ⟨rfl,rfl,rfl,rfl,rfl,rfl,rfl,rfl,rfl,trivial⟩<|aO<| ?_
       refine cX (j+1) ⟨rfl,rfl,rfl,rfl,rfl,rfl,rfl,rfl,trivial⟩ [0,0] rfl [0] rfl (⟨by omega,by omega,by rw[←hL];rfl⟩) (by omega)
      ·refine bL<|ao<|ao<|aD<|ag<|ah<|aj<|hy (fun _=>aa rfl)<|hy (fun _=>dh rfl rfl)<|hy (fun _=>aa rfl)<| ?_
       have hL2:j=mA l i (i-(q+1)):=(by rw[←hL,ly (fun e=>g3 (by rw[e.2]))])
       subst hL2
       refine eY 57 rfl (fun h3=> ?_) (fun h3=> ?_)
       ·refine dW (o:=_) rfl rfl rfl (fun _=>aa rfl)<|dW (o:=_) rfl rfl rfl (fun _=>aI rfl lH (by decide))<|dW (o:=_) rfl rfl rfl (fun m=>aw rfl fZ (aE (m.aZ 0 rfl) rfl))<|dW (o:=_) rfl rfl rfl (fun _=>dh rfl rfl)<|hy (fun _=>bT rfl rfl)<|ai<|al (ρ' :=[(62,_),(52,_),(7,_),(23,_),(6,_),(15,_),(5,_),(4,_),(0,_),(1,_)]) ⟨rfl,rfl,rfl,rfl,rfl,rfl,rfl,rfl,rfl,rfl,trivial⟩<|ag<| ?_
        refine cG rfl (fun h4=> ?_) (fun h4=> ?_)
        ·refine aj<|hy (fun _=>aa rfl)<|hy (fun _=>aa rfl)<|hy (fun _=>cA rS rfl rfl (by kernel_rfl) (.cons (o:=0) (sz:=1) (by kernel_rfl) rfl rfl (Nat.le_of_ble_eq_true rfl) (.cons (o:=1) (sz:=1) (by kernel_rfl) rfl rfl (Nat.le_of_ble_eq_true rfl) .nil)))<| ?_
         refine cH (aJ 0 rfl rfl rfl l7 rfl (nK (s:=(mA l i (i-(q+1)),q+1))) rfl ?_)
         have hst:mv (mA l i (i-(q+1)),q+1)=mv (cx l i (q+1)):=by
          rw[dR]
          unfold gQ
          rw[if_pos ⟨by omega,by omega⟩]
         refine aQ (fun w m=>m.bN 0 rfl (show _=aL g5 298 (mv (cx l i (q+1)))from congrArg (aL g5 _) hst)) ?_
         refine ai<|al (ρ' :=[(62,_),(52,_),(7,_),(23,_),(6,_),(15,_),(5,_),(4,_),(0,_),(1,_)]) ⟨rfl,rfl,rfl,rfl,rfl,rfl,rfl,rfl,rfl,rfl,trivial⟩<|ak (X' :=[_,_]) (S' :=[_]) (fun _ m=>m)<|aO<|ag<|aj<|hy (fun _=>aa rfl)<|hy (fun _=>aN rfl rfl (bF (by omega) (by omega)))<|hy (fun _=>ab rfl)<|ai<|al (ρ' :=[(6,_),(62,_),(52,_),(7,_),(23,_),(15,_),(5,_),(4,_),(0,_),(1,_)]) ⟨rfl,rfl,rfl,rfl,rfl,rfl,rfl,rfl,rfl,rfl,trivial⟩<| ?_
         refine cX (q+1) ⟨rfl,rfl,rfl,rfl,rfl,rfl,trivial⟩ [0,0] rfl [0] rfl ((by omega)) (by omega)
        ·have hst:mv (cx l i q)=mv (cx l i (q+1)):=by
          rw[dR]
          unfold gQ
          rw[if_neg (fun h=>by omega)]
         refine aB<|aO<|ag<|aj<|hy (fun _=>aa rfl)<|hy (fun _=>aN rfl rfl (bF (by omega) (by omega)))<|hy (fun _=>ab rfl)<|ai<|al (ρ' :=[(6,_),(62,_),(52,_),(7,_),(23,_),(15,_),(5,_),(4,_),(0,_),(1,_)]) ⟨rfl,rfl,rfl,rfl,rfl,rfl,rfl,rfl,rfl,rfl,trivial⟩<| ?_
         refine ak (fun w m=>m.bN 0 rfl (show _=aL g5 298 (mv (cx l i (q+1)))from congrArg (aL g5 _) hst)) ?_
         refine cX (q+1) ⟨rfl,rfl,rfl,rfl,rfl,rfl,trivial⟩ [0,0] rfl [0] rfl ((by omega)) (by omega)
       ·have hst:mv (cx l i q)=mv (cx l i (q+1)):=by
         rw[dR]
         unfold gQ
         rw[if_neg (fun h=>by omega)]
        refine bI rfl rfl rfl (by decide)<|bI rfl rfl rfl (by decide)<|bI rfl rfl rfl (by decide)<|bI rfl rfl rfl (by decide)<|hy (fun _=>bD rfl rfl)<|ai<|al (ρ' :=[(62,_),(52,_),(7,_),(23,_),(6,_),(15,_),(5,_),(4,_),(0,_),(1,_)]) ⟨rfl,rfl,rfl,rfl,rfl,rfl,rfl,rfl,rfl,rfl,trivial⟩<|ag<| ?_
        refine dB rfl (rfl) ?_
        refine aB<|aO<|ag<|aj<|hy (fun _=>aa rfl)<|hy (fun _=>aN rfl rfl (bF (by omega) (by omega)))<|hy (fun _=>ab rfl)<|ai<|al (ρ' :=[(6,_),(62,_),(52,_),(7,_),(23,_),(15,_),(5,_),(4,_),(0,_),(1,_)]) ⟨rfl,rfl,rfl,rfl,rfl,rfl,rfl,rfl,rfl,rfl,trivial⟩<| ?_
        refine ak (fun w m=>m.bN 0 rfl (show _=aL g5 298 (mv (cx l i (q+1)))from congrArg (aL g5 _) hst)) ?_
        refine cX (q+1) ⟨rfl,rfl,rfl,rfl,rfl,rfl,trivial⟩ [0,0] rfl [0] rfl ((by omega)) (by omega)
     ·refine aR rfl rfl rfl (by decide)<|aR rfl rfl rfl (by decide)<|aR rfl rfl rfl (by decide)<|aR rfl rfl rfl (by decide)<|aR rfl rfl rfl (by decide)<|aR rfl rfl rfl (by decide)<|aR rfl rfl rfl (by decide)<|aR rfl rfl rfl (by decide)<|aR rfl rfl rfl (by decide)<|aR rfl rfl rfl (by decide)<|aR rfl rfl rfl (by decide)<|aR rfl rfl rfl (by decide)<|aR rfl rfl rfl (by decide)<|aR rfl rfl rfl (by decide)<|aR rfl rfl rfl (by decide)<|an (bD rfl rfl)<|bz<|al (ρ' :=[(52,_),(7,_),(23,_),(6,_),(15,_),(5,_),(4,_),(0,_),(1,_)]) ⟨rfl,rfl,rfl,rfl,rfl,rfl,rfl,rfl,rfl,trivial⟩<|ag<| ?_
      refine dB rfl (rfl) ?_
      refine bL<|ao<|ao<|aD<|ag<|ah<|aj<|hy (fun _=>aa rfl)<|hy (fun _=>dh rfl rfl)<|hy (fun _=>aa rfl)<| ?_
      have hL2:j=mA l i (i-(q+1)):=(by rw[←hL,show 131-j=0 by omega];rfl)
      subst hL2
      refine eY 57 rfl (fun h3=> ?_) (fun h3=> ?_)
      ·refine dW (o:=_) rfl rfl rfl (fun _=>aa rfl)<|dW (o:=_) rfl rfl rfl (fun _=>aI rfl lH (by decide))<|dW (o:=_) rfl rfl rfl (fun m=>aw rfl fZ (aE (m.aZ 0 rfl) rfl))<|dW (o:=_) rfl rfl rfl (fun _=>dh rfl rfl)<|hy (fun _=>bT rfl rfl)<|ai<|al (ρ' :=[(62,_),(52,_),(7,_),(23,_),(6,_),(15,_),(5,_),(4,_),(0,_),(1,_)]) ⟨rfl,rfl,rfl,rfl,rfl,rfl,rfl,rfl,rfl,rfl,trivial⟩<|ag<| ?_
       refine cG rfl (fun h4=> ?_) (fun h4=> ?_)
       ·refine aj<|hy (fun _=>aa rfl)<|hy (fun _=>aa rfl)<|hy (fun _=>cA rS rfl rfl (by kernel_rfl) (.cons (o:=0) (sz:=1) (by kernel_rfl) rfl rfl (Nat.le_of_ble_eq_true rfl) (.cons (o:=1) (sz:=1) (by kernel_rfl) rfl rfl (Nat.le_of_ble_eq_true rfl) .nil)))<| ?_
        refine cH (aJ 0 rfl rfl rfl l7 rfl (nK (s:=(mA l i (i-(q+1)),q+1))) rfl ?_)
        have hst:mv (mA l i (i-(q+1)),q+1)=mv (cx l i (q+1)):=by
         rw[dR]
         unfold gQ
         rw[if_pos ⟨by omega,by omega⟩]
        refine aQ (fun w m=>m.bN 0 rfl (show _=aL g5 298 (mv (cx l i (q+1)))from congrArg (aL g5 _) hst)) ?_
        refine ai<|al (ρ' :=[(62,_),(52,_),(7,_),(23,_),(6,_),(15,_),(5,_),(4,_),(0,_),(1,_)]) ⟨rfl,rfl,rfl,rfl,rfl,rfl,rfl,rfl,rfl,rfl,trivial⟩<|ak (X' :=[_,_]) (S' :=[_]) (fun _ m=>m)<|aO<|ag<|aj<|hy (fun _=>aa rfl)<|hy (fun _=>aN rfl rfl (bF (by omega) (by omega)))<|hy (fun _=>ab rfl)<|ai<|al (ρ' :=[(6,_),(62,_),(52,_),(7,_),(23,_),(15,_),(5,_),(4,_),(0,_),(1,_)]) ⟨rfl,rfl,rfl,rfl,rfl,rfl,rfl,rfl,rfl,rfl,trivial⟩<| ?_
        refine cX (q+1) ⟨rfl,rfl,rfl,rfl,rfl,rfl,trivial⟩ [0,0] rfl [0] rfl ((by omega)) (by omega)
       ·have hst:mv (cx l i q)=mv (cx l i (q+1)):=by
         rw[dR]
         unfold gQ
         rw[if_neg (fun h=>by omega)]
        refine aB<|aO<|ag<|aj<|hy (fun _=>aa rfl)<|hy (fun _=>aN rfl rfl (bF (by omega) (by omega)))<|hy (fun _=>ab rfl)<|ai<|al (ρ' :=[(6,_),(62,_),(52,_),(7,_),(23,_),(15,_),(5,_),(4,_),(0,_),(1,_)]) ⟨rfl,rfl,rfl,rfl,rfl,rfl,rfl,rfl,rfl,rfl,trivial⟩<| ?_
        refine ak (fun w m=>m.bN 0 rfl (show _=aL g5 298 (mv (cx l i (q+1)))from congrArg (aL g5 _) hst)) ?_
        refine cX (q+1) ⟨rfl,rfl,rfl,rfl,rfl,rfl,trivial⟩ [0,0] rfl [0] rfl ((by omega)) (by omega)
      ·have hst:mv (cx l i q)=mv (cx l i (q+1)):=by
        rw[dR]
        unfold gQ
        rw[if_neg (fun h=>by omega)]
       refine bI rfl rfl rfl (by decide)<|bI rfl rfl rfl (by decide)<|bI rfl rfl rfl (by decide)<|bI rfl rfl rfl (by decide)<|hy (fun _=>bD rfl rfl)<|ai<|al (ρ' :=[(62,_),(52,_),(7,_),(23,_),(6,_),(15,_),(5,_),(4,_),(0,_),(1,_)]) ⟨rfl,rfl,rfl,rfl,rfl,rfl,rfl,rfl,rfl,rfl,trivial⟩<|ag<| ?_
       refine dB rfl (rfl) ?_
       refine aB<|aO<|ag<|aj<|hy (fun _=>aa rfl)<|hy (fun _=>aN rfl rfl (bF (by omega) (by omega)))<|hy (fun _=>ab rfl)<|ai<|al (ρ' :=[(6,_),(62,_),(52,_),(7,_),(23,_),(15,_),(5,_),(4,_),(0,_),(1,_)]) ⟨rfl,rfl,rfl,rfl,rfl,rfl,rfl,rfl,rfl,rfl,trivial⟩<| ?_
       refine ak (fun w m=>m.bN 0 rfl (show _=aL g5 298 (mv (cx l i (q+1)))from congrArg (aL g5 _) hst)) ?_
       refine cX (q+1) ⟨rfl,rfl,rfl,rfl,rfl,rfl,trivial⟩ [0,0] rfl [0] rfl ((by omega)) (by omega)
    ·refine aR rfl rfl rfl (by decide)<|aR rfl rfl rfl (by decide)<|an (bD rfl rfl)<|an (aa rfl)<| ?_
     refine aR rfl rfl rfl (by decide)<|aR rfl rfl rfl (by decide)<|aR rfl rfl rfl (by decide)<|aR rfl rfl rfl (by decide)<|aR rfl rfl rfl (by decide)<|aR rfl rfl rfl (by decide)<|aR rfl rfl rfl (by decide)<|aR rfl rfl rfl (by decide)<|aR rfl rfl rfl (by decide)<|aR rfl rfl rfl (by decide)<|aR rfl rfl rfl (by decide)<|aR rfl rfl rfl (by decide)<|aR rfl rfl rfl (by decide)<|aR rfl rfl rfl (by decide)<|aR rfl rfl rfl (by decide)<|an (bD rfl rfl)<|bz<|al (ρ' :=[(52,_),(7,_),(23,_),(6,_),(15,_),(5,_),(4,_),(0,_),(1,_)]) ⟨rfl,rfl,rfl,rfl,rfl,rfl,rfl,rfl,rfl,trivial⟩<|ag<| ?_
     refine dB rfl (rfl) ?_
     refine bL<|ao<|ao<|aD<|ag<|ah<|aj<|hy (fun _=>aa rfl)<|hy (fun _=>dh rfl rfl)<|hy (fun _=>aa rfl)<| ?_
     have hL2:j=mA l i (i-(q+1)):=(by rw[←hL,ly (fun e=>g1 (by omega))])
     subst hL2
     refine eY 57 rfl (fun h3=> ?_) (fun h3=> ?_)
     ·refine dW (o:=_) rfl rfl rfl (fun _=>aa rfl)<|dW (o:=_) rfl rfl rfl (fun _=>aI rfl lH (by decide))<|dW (o:=_) rfl rfl rfl (fun m=>aw rfl fZ (aE (m.aZ 0 rfl) rfl))<|dW (o:=_) rfl rfl rfl (fun _=>dh rfl rfl)<|hy (fun _=>bT rfl rfl)<|ai<|al (ρ' :=[(62,_),(52,_),(7,_),(23,_),(6,_),(15,_),(5,_),(4,_),(0,_),(1,_)]) ⟨rfl,rfl,rfl,rfl,rfl,rfl,rfl,rfl,rfl,rfl,trivial⟩<|ag<| ?_
      refine cG rfl (fun h4=> ?_) (fun h4=> ?_)
      ·refine aj<|hy (fun _=>aa rfl)<|hy (fun _=>aa rfl)<|hy (fun _=>cA rS rfl rfl (by kernel_rfl) (.cons (o:=0) (sz:=1) (by kernel_rfl) rfl rfl (Nat.le_of_ble_eq_true rfl) (.cons (o:=1) (sz:=1) (by kernel_rfl) rfl rfl (Nat.le_of_ble_eq_true rfl) .nil)))<| ?_
       refine cH (aJ 0 rfl rfl rfl l7 rfl (nK (s:=(mA l i (i-(q+1)),q+1))) rfl ?_)
       have hst:mv (mA l i (i-(q+1)),q+1)=mv (cx l i (q+1)):=by
        rw[dR]
        unfold gQ
        rw[if_pos ⟨by omega,by omega⟩]
       refine aQ (fun w m=>m.bN 0 rfl (show _=aL g5 298 (mv (cx l i (q+1)))from congrArg (aL g5 _) hst)) ?_
       refine ai<|al (ρ' :=[(62,_),(52,_),(7,_),(23,_),(6,_),(15,_),(5,_),(4,_),(0,_),(1,_)]) ⟨rfl,rfl,rfl,rfl,rfl,rfl,rfl,rfl,rfl,rfl,trivial⟩<|ak (X' :=[_,_]) (S' :=[_]) (fun _ m=>m)<|aO<|ag<|aj<|hy (fun _=>aa rfl)<|hy (fun _=>aN rfl rfl (bF (by omega) (by omega)))<|hy (fun _=>ab rfl)<|ai<|al (ρ' :=[(6,_),(62,_),(52,_),(7,_),(23,_),(15,_),(5,_),(4,_),(0,_),(1,_)]) ⟨rfl,rfl,rfl,rfl,rfl,rfl,rfl,rfl,rfl,rfl,trivial⟩<| ?_
       refine cX (q+1) ⟨rfl,rfl,rfl,rfl,rfl,rfl,trivial⟩ [0,0] rfl [0] rfl ((by omega)) (by omega)
      ·have hst:mv (cx l i q)=mv (cx l i (q+1)):=by
        rw[dR]
        unfold gQ
        rw[if_neg (fun h=>by omega)]
       refine aB<|aO<|ag<|aj<|hy (fun _=>aa rfl)<|hy (fun _=>aN rfl rfl (bF (by omega) (by omega)))<|hy (fun _=>ab rfl)<|ai<|al (ρ' :=[(6,_),(62,_),(52,_),(7,_),(23,_),(15,_),(5,_),(4,_),(0,_),(1,_)]) ⟨rfl,rfl,rfl,rfl,rfl,rfl,rfl,rfl,rfl,rfl,trivial⟩<| ?_
       refine ak (fun w m=>m.bN 0 rfl (show _=aL g5 298 (mv (cx l i (q+1)))from congrArg (aL g5 _) hst)) ?_
       refine cX (q+1) ⟨rfl,rfl,rfl,rfl,rfl,rfl,trivial⟩ [0,0] rfl [0] rfl ((by omega)) (by omega)
     ·have hst:mv (cx l i q)=mv (cx l i (q+1)):=by
       rw[dR]
       unfold gQ
       rw[if_neg (fun h=>by omega)]
      refine bI rfl rfl rfl (by decide)<|bI rfl rfl rfl (by decide)<|bI rfl rfl rfl (by decide)<|bI rfl rfl rfl (by decide)<|hy (fun _=>bD rfl rfl)<|ai<|al (ρ' :=[(62,_),(52,_),(7,_),(23,_),(6,_),(15,_),(5,_),(4,_),(0,_),(1,_)]) ⟨rfl,rfl,rfl,rfl,rfl,rfl,rfl,rfl,rfl,rfl,trivial⟩<|ag<| ?_
      refine dB rfl (rfl) ?_
      refine aB<|aO<|ag<|aj<|hy (fun _=>aa rfl)<|hy (fun _=>aN rfl rfl (bF (by omega) (by omega)))<|hy (fun _=>ab rfl)<|ai<|al (ρ' :=[(6,_),(62,_),(52,_),(7,_),(23,_),(15,_),(5,_),(4,_),(0,_),(1,_)]) ⟨rfl,rfl,rfl,rfl,rfl,rfl,rfl,rfl,rfl,rfl,trivial⟩<| ?_
      refine ak (fun w m=>m.bN 0 rfl (show _=aL g5 298 (mv (cx l i (q+1)))from congrArg (aL g5 _) hst)) ?_
      refine cX (q+1) ⟨rfl,rfl,rfl,rfl,rfl,rfl,trivial⟩ [0,0] rfl [0] rfl ((by omega)) (by omega)
   ·have hq:q=min i 1024:=by omega
    subst hq
    refine bL<|ao<|ao<|aD<|ag<|ah<|aj<|hy (fun m=>aU rfl wS l7 rfl ((m.aZ 0 rfl).ax))<| ?_
    refine cH (aJ 1 rfl rfl rfl l7 rfl nK rfl ?_)
    refine ai<|al (ρ' :=[(23,_),(6,_),(15,_),(5,_),(4,_),(0,_),(1,_)]) ⟨rfl,rfl,rfl,rfl,rfl,rfl,rfl,trivial⟩<|ak (X' :=[_,_]) (S' :=[_]) (fun _ m=>m)<|ag<|aX<| ?_
    exact fw trivial rfl rfl wS l7 rfl (fun m=>(m.aZ 0 rfl).ax) [] rfl [] rfl ⟨rfl,rfl,rfl⟩
  ·refine bI rfl rfl rfl (by decide)<|bI rfl rfl rfl (by decide)<|hy (fun _=>bD rfl rfl)<|ai<|al (ρ' :=[(23,_),(6,_),(15,_),(5,_),(4,_),(0,_),(1,_)]) ⟨rfl,rfl,rfl,rfl,rfl,rfl,rfl,trivial⟩<|ag<| ?_
   refine dB rfl (rfl) ?_
   have hq:q=min i 1024:=by omega
   subst hq
   refine bL<|ao<|ao<|aD<|ag<|ah<|aj<|hy (fun m=>aU rfl wS l7 rfl ((m.aZ 0 rfl).ax))<| ?_
   refine cH (aJ 1 rfl rfl rfl l7 rfl nK rfl ?_)
   refine ai<|al (ρ' :=[(23,_),(6,_),(15,_),(5,_),(4,_),(0,_),(1,_)]) ⟨rfl,rfl,rfl,rfl,rfl,rfl,rfl,trivial⟩<|ak (X' :=[_,_]) (S' :=[_]) (fun _ m=>m)<|ag<|aX<| ?_
   exact fw trivial rfl rfl wS l7 rfl (fun m=>(m.aZ 0 rfl).ax) [] rfl [] rfl ⟨rfl,rfl,rfl⟩
theorem DN{A:Option Addr}{n c:Nat}{l:List UInt8}(hc:n≤c)(hn:n≤500000000)(hl:l.length=n):cf Tryz.prog 219 [.slice A n c] [] [di 1 A n (aW l)] (fun v_ X_ S_=>∃v,v_=v∧X_=[aH 5 1 v (eK l).length (aW (eK l))]∧S_=[]):=by
 refine aP (N:=31) Tryz.func219 rfl rfl (by simp) fun b=> ?_
 refine a6 (fun m=>ig (m.rd 0 rfl)) ?_
 rintro⟨hl_r,hA_r⟩
 refine ah<|aj<|hy (fun _=>ab rfl)<|ai<|ag<|ah<|aj<|hy (fun _=>ab rfl)<|ai<|ag<|ah<|ah<|aj<|hy (fun _=>ab rfl)<|ai<|ag<|aK<| ?_
 refine bC (fun w m=>m.dj (r' :=aH 5 1 (.slice none 0 0) 0 []) (.refl _ _) (Own.nil _ _ _ _) (fun k hk=>hk.elim)) ?_
 refine jJ (fun i o A3 c3=>n-i) (fun i o A3 c3=>[(3,.slice A3 o.length c3),(4,.int .i64 (i:Nat))]) (fun i o A3 c3=>[aH 5 1 (.slice A3 o.length c3) o.length (aW o)]) (fun i o A3 c3=>[]) (fun i o A3 c3=>i≤n+128∧o.length≤2*i∧o++eK (l.drop i)=eK l) 0 [] none 0 [(2,_),(0,_)] ⟨rfl,rfl,trivial⟩ [0] rfl [] rfl (⟨by omega,by decide,rfl⟩) ⟨rfl,rfl,trivial⟩ (fun i o A3 c3 ⟨hin,hon,hE⟩=> ?_)
 refine ah<|ah<|aj<|hy (fun _=>aa rfl)<|hy (fun _=>aa rfl)<|hy (fun _=>aT rfl Tryz.underlying27)<|hy (fun _=>bw rfl rfl)<|ai<|al (ρ' :=[(9,_),(3,_),(4,_),(2,_),(0,_)]) ⟨rfl,rfl,rfl,rfl,rfl,trivial⟩<|ag<| ?_
 refine cG rfl (fun hi=> ?_) (fun hi=> ?_)
 ·obtain⟨k,hk⟩:∃k,k=min (n-i) 128:=⟨_,rfl⟩
  have hki:1≤k∧k≤128∧i+k≤n:=by omega
  have hdl:(l.drop i).length=n-i:=by rw[List.length_drop,hl]
  have hne:l.drop i≠ []:=fun e=>by rw[e]at hdl;simp at hdl;omega
  have htk:(l.drop i).take 128=(l.drop i).take k:=by
   rcases Nat.lt_or_ge (n-i) 128 with h|h
   ·rw[List.take_of_length_le (by omega),List.take_of_length_le (by omega)]
   ·rw[show k=128 by omega]
  rw[lA hne,hdl,←hk,htk,List.drop_drop]at hE
  refine bC (fun w m=>m.jL 0 rfl (View.sub (n:=n) (c:=c) (k:=i) (m:=k) (by omega) (by omega))) ?_
  refine a6 (fun m=>ig (m.rd 0 rfl)) ?_
  rintro⟨hl_p,hA_p⟩
  refine aB<|ag<|ah<|aK<|ah<|aj<|hy (fun _=>aa rfl)<|hy (fun _=>aa rfl)<|hy (fun _=>aa rfl)<|hy (fun _=>aN rfl rfl (bF (by omega) (by omega)))<|hy (fun _=>aa rfl)<|hy (fun _=>aT rfl Tryz.underlying27)<|hy (fun _=>yV (tw rfl rfl) ((show Value.int .i64 _= .int .i64 ((i+k:Nat):Int) by congr 1;omega)))<|hy (fun _=>yV (eZ rfl rfl rfl Tryz.underlying27 dZ rfl rfl (by omega) (by omega)) ((show Value.slice (if c=i then A else A.map (·.add (i*1))) (i+k-i) (c-i)= .slice (if c=i then A else A.map (·.add (i*1))) k (c-i) by congr 1;omega)))<|hy (fun _=>ab rfl)<|ai<|al (ρ' :=[(5,_),(9,_),(3,_),(4,_),(2,_),(0,_)]) ⟨rfl,rfl,rfl,rfl,rfl,rfl,trivial⟩<|ag<|ah<|aj<|hy (fun _=>aa rfl)<|hy (fun _=>aa rfl)<|hy (fun _=>aT rfl Tryz.underlying27)<|hy (fun _=>yV (cp rfl rfl (bF (by omega) (by omega))) ((show Value.int .i64 ((k:Int)-1)= .int .i64 ((k-1:Nat):Int) by congr 1;omega)))<|hy (fun _=>yV (bX rfl Tryz.underlying3 Tryz.underlying5 (ij _)) ((show Value.int .u8 _=B8 (UInt8.ofNat (k-1))from rfl)))<| ?_
  refine hx (b6 Tryz.underlying27 fk rfl rfl rfl (by simp[Value.cells,B8]) (by decide) (by decide) (fun g25=> ?_))
  have hA_b25:0<1→(some (⟨g25,0,none⟩:Addr))≠none:=fun _ h=>by cases h
  refine aQ (fun w m=>m.bN 0 rfl (show _=aH 5 1 (.slice (some ⟨g25,0,none⟩) 1 1) 1 (aW [UInt8.ofNat (k-1)])from rfl)) ?_
  refine hx (bx 1 rfl rfl rfl Tryz.underlying27 Tryz.underlying27 (by exact .inl rfl) fk rfl (fun m=>Src.bR (m.ord 0 rfl)) aY (by unfold maxLen;omega) (by omega) (fun u=> ?_))
  refine aA (fun m=>(m.own 0 rfl).slice) ?_
  rintro⟨A_x,c_x,rfl,hc_x⟩
  refine aA (fun m=>(m.ord 0 rfl).2.1) fun hA_x=> ?_
  refine hy (fun _=>ab rfl)<|ai<|al (ρ' :=[(3,_),(5,_),(9,_),(4,_),(2,_),(0,_)]) ⟨rfl,rfl,rfl,rfl,rfl,rfl,trivial⟩<|ak (X' :=[_,_]) (S' :=[_,_]) (fun _ m=>m)<|ag<|aj<|hy (fun _=>aa rfl)<|hy (fun _=>aa rfl)<| ?_
  refine hx (bx 0 rfl rfl rfl Tryz.underlying27 Tryz.underlying27 (by exact .inl rfl) fk rfl (fun m=>Src.bR (m.rd 0 rfl)) aY (by unfold maxLen;omega) (by omega) (fun u2=> ?_))
  refine aA (fun m=>(m.own 0 rfl).slice) ?_
  rintro⟨A_x2,c_x2,rfl,hc_x⟩
  refine aA (fun m=>(m.ord 0 rfl).2.1) fun hA_x=> ?_
  refine hy (fun _=>ab rfl)<|ai<|al (ρ' :=[(3,_),(5,_),(9,_),(4,_),(2,_),(0,_)]) ⟨rfl,rfl,rfl,rfl,rfl,rfl,trivial⟩<|ak (X' :=[_,_]) (S' :=[_,_]) (fun _ m=>m)<|aO<|ag<|aj<|hy (fun _=>aa rfl)<|hy (fun _=>aN rfl rfl (bF (by omega) (by omega)))<|hy (fun _=>ab rfl)<|ai<|al (ρ' :=[(4,_),(3,_),(5,_),(9,_),(2,_),(0,_)]) ⟨rfl,rfl,rfl,rfl,rfl,rfl,trivial⟩<| ?_
  have hol:o.length+1+k=(o++(UInt8.ofNat (k-1)::(l.drop i).take k)).length:=by simp;omega
  rw[hol]
  refine ak (fun w m=>m.bN 0 rfl (show _=aH 5 1 (.slice A_x2 (o++(UInt8.ofNat (k-1)::(l.drop i).take k)).length c_x2) (o++(UInt8.ofNat (k-1)::(l.drop i).take k)).length (aW (o++(UInt8.ofNat (k-1)::(l.drop i).take k)))from congrArg (aH _ _ _ _) (show aW o++aW [UInt8.ofNat (k-1)]++aW ((l.drop i).take k)=_ by rw[←bH,←bH,List.append_assoc];rfl))) ?_
  refine eO (i+128) (o++(UInt8.ofNat (k-1)::(l.drop i).take k)) _ _ ⟨rfl,rfl,rfl,rfl,trivial⟩ [0] rfl [1] rfl (⟨by omega,by rw[←hol];omega,by rw[←hE];simp⟩) (by omega)
 ·rw[List.drop_of_length_le (by omega),mN,List.append_nil]at hE
  subst hE
  refine bL<|ao<|ao<|aD<|ag<|ah<|aj<|hy (fun _=>aa rfl)<|hy (fun _=>ab rfl)<|ai<|al (ρ' :=[(2,_),(9,_),(3,_),(4,_),(0,_)]) ⟨rfl,rfl,rfl,rfl,rfl,trivial⟩<|ag<|aX<| ?_
  exact bh trivial rfl rfl [0] rfl [] rfl ⟨_,rfl,rfl,rfl⟩
theorem EX{A:Option Addr}{n c:Nat}{l:List UInt8}(hc:n≤c)(hn:n≤500000000)(hl:l.length=n):cf Tryz.prog 159 [.slice A n c] [] [di 1 A n (aW l)] (fun v_ X_ S_=>∃v,v_=v∧X_=[aH 5 1 v (eS l).length (aW (eS l))]∧S_=[]):=by
 refine aP (N:=54) Tryz.func159 rfl rfl (by simp) fun b=> ?_
 refine a6 (fun m=>ig (m.rd 0 rfl)) ?_
 rintro⟨hl_r,hA_r⟩
 refine ah<|aj<|hy (fun _=>ab rfl)<|ai<|ag<|ah<|aj<|hy (fun _=>ab rfl)<|ai<|ag<|ah<|aj<|hy (fun _=>ab rfl)<|ai<|ag<|ah<|aj<|hy (fun _=>ab rfl)<|ai<|ag<|ah<|aK<| ?_
 refine bC (fun w m=>m.dj (r' :=aH 5 1 (.slice none 0 0) 0 []) (.refl _ _) (Own.nil _ _ _ _) (fun k hk=>hk.elim)) ?_
 refine vn (fun i f o A3 c3=>n-i) (fun i f o A3 c3=>[(3,.slice A3 o.length c3),(4,.int .i64 (f:Nat)),(5,.int .i64 (i:Nat))]) (fun i f o A3 c3=>[aH 5 1 (.slice A3 o.length c3) o.length (aW o)]) (fun i f o A3 c3=>[]) (fun i f o A3 c3=>i≤n∧f≤i∧o.length+2*(i-f)≤2*i∧gW l i ((l.drop f).take (i-f)) o=eS l) 0 0 [] none 0 [(2,_),(0,_)] ⟨rfl,rfl,trivial⟩ [0] rfl [] rfl (⟨by omega,by decide,by decide,rfl⟩) ⟨rfl,rfl,rfl,trivial⟩ (fun i f o A3 c3 ⟨hin,hfi,hon,hE⟩=> ?_)
 have hown:((l.drop f).take (i-f)).length=i-f:=by rw[List.length_take,List.length_drop];omega
 refine ah<|ah<|aj<|hy (fun _=>aa rfl)<|hy (fun _=>aa rfl)<|hy (fun _=>aT rfl Tryz.underlying27)<|hy (fun _=>bw rfl rfl)<|ai<|al (ρ' :=[(10,_),(3,_),(4,_),(5,_),(2,_),(0,_)]) ⟨rfl,rfl,rfl,rfl,rfl,rfl,trivial⟩<|ag<| ?_
 refine cG rfl (fun hi=> ?_) (fun hi=> ?_)
 ·refine aB<|ag<|aK<|ah<|aj<|hy (fun _=>aa rfl)<|hy (fun _=>aa rfl)<| ?_
  refine hx (aq rfl Tryz.call218 (Cb (by omega) hl (by omega)) [] rfl [0] rfl ?_)
  rintro _ _ _ ⟨rfl,rfl,rfl⟩
  refine hx (aM rS (fun g6=> ?_))
  refine cH (aJ 0 rfl rfl rfl l7 rfl nK rfl ?_)
  refine ai<|al (ρ' :=[(6,_),(10,_),(3,_),(4,_),(5,_),(2,_),(0,_)]) ⟨rfl,rfl,rfl,rfl,rfl,rfl,rfl,trivial⟩<|ak (X' :=[_,_]) (S' :=[_]) (fun _ m=>m)<|ag<|ah<|ah<|aj<|hy (fun _=>aI rfl lH (by decide))<|hy (fun m=>aw rfl fZ (aE (m.aZ 0 rfl) rfl))<|hy (fun _=>cM rfl rfl)<|ai<|al (ρ' :=[(16,_),(6,_),(10,_),(3,_),(4,_),(5,_),(2,_),(0,_)]) ⟨rfl,rfl,rfl,rfl,rfl,rfl,rfl,rfl,trivial⟩<|ag<| ?_
  refine cG rfl (fun h0=> ?_) (fun h0=> ?_)
  ·rw[lQ (by omega) (by omega)]at hE
   have hsn:(l.drop f).take (i-f)++[l.getD i 0]=(l.drop f).take (i+1-f):=by
    rw[show i+1-f=(i-f)+1 by omega,dY (by rw[List.length_drop];omega)]
    congr 2
    simp only[List.getD,List.getElem?_drop]
    rw[show f+(i-f)=i by omega]
   rw[hsn]at hE
   refine ah<|aj<|hy (fun _=>aa rfl)<|hy (fun _=>aN rfl rfl (bF (by omega) (by omega)))<|hy (fun _=>ab rfl)<|ai<|al (ρ' :=[(5,_),(16,_),(6,_),(10,_),(3,_),(4,_),(2,_),(0,_)]) ⟨rfl,rfl,rfl,rfl,rfl,rfl,rfl,rfl,trivial⟩<|ag<|bL<|ao<|aD<| ?_
   refine pz (i+1) f o A3 c3 ⟨rfl,rfl,rfl,rfl,rfl,trivial⟩ [1] rfl [0] rfl (⟨by omega,by omega,by omega,hE⟩) (by omega)
  ·have hm:=lM (b:=l) (i:=i) (by omega)
   rw[je (by omega) (by omega)]at hE
   obtain⟨m1,m2,m3,m4,m5,m6⟩:=hm.resolve_left (fun e=>h0 (by rw[e];rfl))
   have hll:=fH ((l.drop f).take (i-f))
   refine bC (fun w m=>m.jL 0 rfl (View.sub (n:=n) (c:=c) (k:=f) (m:=i-f) (by omega) (by omega))) ?_
   refine a6 (fun m=>ig (m.rd 0 rfl)) ?_
   rintro⟨hl_p,hA_p⟩
   refine aB<|ag<|ah<|aj<|hy (fun _=>aa rfl)<|hy (fun _=>aa rfl)<|hy (fun _=>aa rfl)<|hy (fun _=>aa rfl)<|hy (fun _=>eZ rfl rfl rfl Tryz.underlying27 dZ rfl rfl (by omega) (by omega))<| ?_
   refine hx (aq rfl Tryz.call219 (DN (by omega) (by omega) hown) [] rfl [0] rfl ?_)
   rintro _ _ _ ⟨v,rfl,rfl,rfl⟩
   refine aA (fun m=>(m.own 0 rfl).slice) ?_
   rintro⟨A_x2,c_x2,rfl,hc_x2⟩
   refine aA (fun m=>(m.ord 0 rfl).2.1) fun hA_x2=> ?_
   refine hx (bx 2 rfl rfl rfl Tryz.underlying27 Tryz.underlying27 (by exact .inl rfl) fk rfl (fun m=>Src.bR (m.ord 0 rfl)) aY (by unfold maxLen;omega) (by omega) (fun u=> ?_))
   refine aA (fun m=>(m.own 0 rfl).slice) ?_
   rintro⟨A_x,c_x,rfl,hc_x⟩
   refine aA (fun m=>(m.ord 0 rfl).2.1) fun hA_x=> ?_
   generalize hLL:eK ((l.drop f).take (i-f))=L at hE hll ⊢
   refine hy (fun _=>ab rfl)<|ai<|al (ρ' :=[(3,_),(16,_),(6,_),(10,_),(4,_),(5,_),(2,_),(0,_)]) ⟨rfl,rfl,rfl,rfl,rfl,rfl,rfl,rfl,trivial⟩<|ak (X' :=[_,_,_]) (S' :=[_,_]) (fun _ m=>m)<|ag<|ah<|aj<|hy (fun _=>aa rfl)<|hy (fun _=>aI rfl lH (by decide))<|hy (fun m=>aw rfl fZ (aE (m.aZ 2 rfl) rfl))<|hy (fun _=>yV (aN rfl rfl (bF (by omega) (by omega))) ((show Value.int .i64 (124+((a8 l i).1:Int))= .int .i64 ((124+(a8 l i).1:Nat):Int) by congr 1)))<|hy (fun _=>yV (bX rfl Tryz.underlying3 Tryz.underlying5 (ij _)) ((show Value.int .u8 _=B8 (UInt8.ofNat (124+(a8 l i).1))from rfl)))<|hy (fun _=>aI rfl xf (by decide))<|hy (fun m=>aw rfl fZ (aE (m.aZ 2 rfl) rfl))<|hy (fun _=>yV (cp rfl rfl (bF (by omega) (by omega))) ((show Value.int .i64 (((a8 l i).2:Int)-1)= .int .i64 (((a8 l i).2-1:Nat):Int) by congr 1;omega)))<|hy (fun _=>yV (gN rfl rfl (by omega) (by omega)) ((show Value.int .i64 ((((a8 l i).2-1:Nat):Int) % 256)= .int .i64 ((((a8 l i).2-1) % 256:Nat):Int) by congr 1)))<|hy (fun _=>yV (bX rfl Tryz.underlying3 Tryz.underlying5 (ij _)) ((show Value.int .u8 _=B8 (UInt8.ofNat (((a8 l i).2-1) % 256))from rfl)))<|hy (fun _=>aI rfl xf (by decide))<|hy (fun m=>aw rfl fZ (aE (m.aZ 2 rfl) rfl))<|hy (fun _=>yV (cp rfl rfl (bF (by omega) (by omega))) ((show Value.int .i64 (((a8 l i).2:Int)-1)= .int .i64 (((a8 l i).2-1:Nat):Int) by congr 1;omega)))<|hy (fun _=>yV (jV rfl rfl (by omega) (by omega) (bF (by omega) (by omega))) ((show Value.int .i64 ((((a8 l i).2-1:Nat):Int)/256)= .int .i64 ((((a8 l i).2-1)/256:Nat):Int) by congr 1)))<|hy (fun _=>yV (bX rfl Tryz.underlying3 Tryz.underlying5 (ij _)) ((show Value.int .u8 _=B8 (UInt8.ofNat (((a8 l i).2-1)/256))from rfl)))<| ?_
   refine hx (b6 Tryz.underlying27 fk rfl rfl rfl (by simp[Value.cells,B8]) (by decide) (by decide) (fun g41=> ?_))
   have hA_b41:0<3→(some (⟨g41,0,none⟩:Addr))≠none:=fun _ h=>by cases h
   have htm:[UInt8.ofNat (124+(a8 l i).1),UInt8.ofNat (((a8 l i).2-1) % 256),UInt8.ofNat (((a8 l i).2-1)/256)]=gr (a8 l i):=by
    unfold gr
    congr 2
    exact UInt8.toNat_inj.1 (by rw[UInt8.toNat_ofNat',UInt8.toNat_ofNat'];omega)
   refine aQ (fun w m=>m.bN 0 rfl (show _=aH 5 1 (.slice (some ⟨g41,0,none⟩) 3 3) 3 (aW (gr (a8 l i)))from congrArg (aH _ _ _ _) (show aW [UInt8.ofNat (124+(a8 l i).1),UInt8.ofNat (((a8 l i).2-1) % 256),UInt8.ofNat (((a8 l i).2-1)/256)]=_ by rw[htm]))) ?_
   refine hx (bx 1 rfl rfl rfl Tryz.underlying27 Tryz.underlying27 (by exact .inl rfl) fk rfl (fun m=>Src.bR (m.ord 0 rfl)) aY (by unfold maxLen;omega) (by omega) (fun u2=> ?_))
   refine aA (fun m=>(m.own 0 rfl).slice) ?_
   rintro⟨A_x3,c_x3,rfl,hc_x⟩
   refine aA (fun m=>(m.ord 0 rfl).2.1) fun hA_x=> ?_
   refine hy (fun _=>ab rfl)<|ai<|al (ρ' :=[(3,_),(16,_),(6,_),(10,_),(4,_),(5,_),(2,_),(0,_)]) ⟨rfl,rfl,rfl,rfl,rfl,rfl,rfl,rfl,trivial⟩<|ak (X' :=[_,_,_,_]) (S' :=[_,_]) (fun _ m=>m)<|ag<|ah<|aj<|hy (fun _=>aa rfl)<|hy (fun _=>aI rfl lH (by decide))<|hy (fun m=>aw rfl fZ (aE (m.aZ 3 rfl) rfl))<|hy (fun _=>yV (aN rfl rfl (bF (by omega) (by omega))) ((show Value.int .i64 ((i:Int)+((a8 l i).1:Int))= .int .i64 ((i+(a8 l i).1:Nat):Int) by congr 1)))<|hy (fun _=>ab rfl)<|ai<|al (ρ' :=[(5,_),(3,_),(16,_),(6,_),(10,_),(4,_),(2,_),(0,_)]) ⟨rfl,rfl,rfl,rfl,rfl,rfl,rfl,rfl,trivial⟩<|ag<|aj<|hy (fun _=>aa rfl)<|hy (fun _=>ab rfl)<|ai<|al (ρ' :=[(4,_),(5,_),(3,_),(16,_),(6,_),(10,_),(2,_),(0,_)]) ⟨rfl,rfl,rfl,rfl,rfl,rfl,rfl,rfl,trivial⟩<|aO<| ?_
   have hol:o.length+L.length+3=(o++L++gr (a8 l i)).length:=by simp[gr];omega
   rw[hol]
   refine ak (fun w m=>m.bN 0 rfl (show _=aH 5 1 (.slice A_x3 (o++L++gr (a8 l i)).length c_x3) (o++L++gr (a8 l i)).length (aW (o++L++gr (a8 l i)))from congrArg (aH _ _ _ _) (show aW o++aW L++aW (gr (a8 l i))=aW (o++L++gr (a8 l i)) by rw[bH,bH]))) ?_
   have hE2:gW l (i+(a8 l i).1) ((l.drop (i+(a8 l i).1)).take (i+(a8 l i).1-(i+(a8 l i).1))) (o++L++gr (a8 l i))=eS l:=by rw[Nat.sub_self,List.take_zero];exact hE
   refine pz (i+(a8 l i).1) (i+(a8 l i).1) (o++L++gr (a8 l i)) _ _ ⟨rfl,rfl,rfl,rfl,rfl,trivial⟩ [0] rfl [1] rfl (⟨by omega,Nat.le_refl _,by rw[←hol];omega,hE2⟩) (by omega)
 ·obtain rfl:i=n:=by omega
  rw[lJ (by omega),List.take_of_length_le (by rw[List.length_drop];omega)]at hE
  have hdl:(l.drop f).length=i-f:=by rw[List.length_drop];omega
  have hll:=fH (l.drop f)
  refine bC (fun w m=>m.jL 0 rfl (View.drop (n:=i) (c:=c) (k:=f) (by omega) (by omega))) ?_
  refine a6 (fun m=>ig (m.rd 0 rfl)) ?_
  rintro⟨hl_p,hA_p⟩
  refine bL<|ao<|ao<|aD<|ag<|ah<|aj<|hy (fun _=>aa rfl)<|hy (fun _=>aa rfl)<|hy (fun _=>aa rfl)<|hy (fun _=>dE rfl rfl Tryz.underlying27 dZ rfl (by omega))<| ?_
  refine hx (aq rfl Tryz.call219 (DN (by omega) (by omega) hdl) [] rfl [0] rfl ?_)
  rintro _ _ _ ⟨v,rfl,rfl,rfl⟩
  refine aA (fun m=>(m.own 0 rfl).slice) ?_
  rintro⟨A_x2,c_x2,rfl,hc_x2⟩
  refine aA (fun m=>(m.ord 0 rfl).2.1) fun hA_x2=> ?_
  refine hx (bx 1 rfl rfl rfl Tryz.underlying27 Tryz.underlying27 (by exact .inl rfl) fk rfl (fun m=>Src.bR (m.ord 0 rfl)) aY (by unfold maxLen;omega) (by omega) (fun u=> ?_))
  refine aA (fun m=>(m.own 0 rfl).slice) ?_
  rintro⟨A_x,c_x,rfl,hc_x⟩
  refine aA (fun m=>(m.ord 0 rfl).2.1) fun hA_x=> ?_
  have hol:o.length+(eK (l.drop f)).length=(eS l).length:=by rw[←hE];simp
  rw[hol]
  refine aQ (fun w m=>m.bN 0 rfl (show _=aH 5 1 (.slice A_x (eS l).length c_x) (eS l).length (aW (eS l))from congrArg (aH _ _ _ _) (show aW o++aW (eK (l.drop f))=aW (eS l) by rw[←hE,bH]))) ?_
  refine hy (fun _=>ab rfl)<|ai<|al (ρ' :=[(2,_),(10,_),(3,_),(4,_),(5,_),(0,_)]) ⟨rfl,rfl,rfl,rfl,rfl,rfl,trivial⟩<|ak (X' :=[_,_]) (S' :=[_,_]) (fun _ m=>m)<|ag<|aX<| ?_
  exact bh trivial rfl rfl [0] rfl [] rfl ⟨_,rfl,rfl,rfl⟩
end Go.Proofs.YtmibdabdlgmafaaGreatDoor
end
section
set_option maxRecDepth 20000
set_option maxHeartbeats 2000000
namespace Go.Proofs.YtmibdabdlgmafaaGreatDoor
open Go.Eng Go.Hx
theorem v7{A:Option Addr}{n c:Nat}{l:List UInt8}(hc:n≤c)(hn:n≤1000000000)(hl:l.length=n):cf Tryz.prog 161 [.slice A n c] [] [di 1 A n (aW l)] (fun v_ X_ S_=>∃v,v_=v∧X_=[aH 5 1 v 4 (aW (gP (da l)))]∧S_=[]):=by
 have e4:n+4-n=4:=by omega
 have ed:(aW (Bv l)).drop (n*1)=aW (gP (da l)):=by rw[Nat.mul_one,←qA,Bv,List.drop_append_of_le_length (by omega),List.drop_of_length_le (by omega)];rfl
 refine aP (N:=8) Tryz.func161 rfl rfl (by simp) fun b=> ?_
 refine a6 (fun m=>ig (m.rd 0 rfl)) ?_
 rintro⟨hl_r,hA_r⟩
 refine ah<|aj<|hy (fun _=>ab rfl)<|ai<|ag<|ah<|aj<|hy (fun _=>aa rfl)<| ?_
 refine hx (aq rfl Tryz.call189 (zn (by omega)) [] rfl [0] rfl ?_)
 rintro _ _ _ ⟨v,rfl,rfl,rfl⟩
 refine aA (fun m=>(m.own 0 rfl).slice) ?_
 rintro⟨A_x,c_x,rfl,hc_x⟩
 refine aA (fun m=>(m.ord 0 rfl).2.1) fun hA_x=> ?_
 refine hy (fun _=>aa rfl)<|hy (fun _=>aT rfl Tryz.underlying27)<|hy (fun _=>yV (dE rfl rfl Tryz.underlying27 dZ rfl (by omega)) ((show Value.slice (if c_x=n then A_x else A_x.map (·.add (n*1))) (n+4-n) (c_x-n)= .slice (if c_x=n then A_x else A_x.map (·.add (n*1))) 4 (c_x-n) by congr 1)))<|hy (fun _=>ab rfl)<|ai<|al (ρ' :=[(2,_),(0,_)]) ⟨rfl,rfl,trivial⟩<|ak (X' :=[_]) (S' :=[_]) (fun _ m=>m)<|ag<|aX<| ?_
 refine ak (X' :=aH 5 1 (.slice (if c_x=n then A_x else A_x.map (·.add (n*1))) (n+4-n) (c_x-n)) (n+4-n) ((aW (Bv l)).drop (n*1))::_) (fun w m=>(m.perm (au [0] _ [_] _ rfl)).wJ (View.s8 (by omega) hc_x)) ?_
 rw[e4,ed]
 exact bh trivial rfl rfl [0] rfl [] rfl ⟨_,rfl,rfl,rfl⟩
theorem DU{A:Option Addr}{n c:Nat}{l:List UInt8}(hc:n≤c)(hn:n≤100000000)(hl:l.length=n):cf Tryz.prog 81 [.slice A n c] [] [di 1 A n (aW l)] (fun v_ X_ S_=>∃v,v_=v∧X_=[aH 5 1 v (bK l).length (aW (bK l))]∧S_=[]):=by
 have hpl:=nA l
 have hcl:=jP l
 refine aP (N:=30) Tryz.func81 rfl rfl (by simp) fun b=> ?_
 refine a6 (fun m=>ig (m.rd 0 rfl)) ?_
 rintro⟨hl_r,hA_r⟩
 refine ah<|aj<|hy (fun _=>ab rfl)<|ai<|ag<|ah<|aj<|hy (fun _=>aa rfl)<| ?_
 refine hx (aq rfl Tryz.call159 (EX (by omega) (by omega) (by omega)) [] rfl [0] rfl ?_)
 rintro _ _ _ ⟨v,rfl,rfl,rfl⟩
 refine aA (fun m=>(m.own 0 rfl).slice) ?_
 rintro⟨A_x,c_x,rfl,hc_x⟩
 refine aA (fun m=>(m.ord 0 rfl).2.1) fun hA_x=> ?_
 refine hy (fun _=>ab rfl)<|ai<|al (ρ' :=[(3,_),(2,_),(0,_)]) ⟨rfl,rfl,rfl,trivial⟩<|ak (X' :=[_]) (S' :=[_]) (fun _ m=>m)<|ag<|ah<|aj<| ?_
 refine hx (b6 Tryz.underlying27 fk rfl rfl rfl (by simp[Value.cells,B8]) (by decide) (by decide) (fun g7=> ?_))
 have hA_b7:0<2→(some (⟨g7,0,none⟩:Addr))≠none:=fun _ h=>by cases h
 refine hy (fun _=>ab rfl)<|ai<|al (ρ' :=[(4,_),(3,_),(2,_),(0,_)]) ⟨rfl,rfl,rfl,rfl,trivial⟩<|ak (X' :=[_,_]) (S' :=[_]) (fun _ m=>m)<|ag<|ah<|aj<|hy (fun _=>aa rfl)<|hy (fun _=>aa rfl)<|hy (fun _=>aT rfl Tryz.underlying27)<| ?_
 refine hx (aq rfl Tryz.call160 (BX (by omega)) [] rfl [] rfl ?_)
 rintro _ _ _ ⟨v2,rfl,rfl,rfl⟩
 refine aA (fun m=>(m.own 0 rfl).slice) ?_
 rintro⟨A_x2,c_x2,rfl,hc_x2⟩
 refine aA (fun m=>(m.ord 0 rfl).2.1) fun hA_x2=> ?_
 refine aQ (fun w m=>m.bN 1 rfl (show _=aH 5 1 (.slice (some ⟨g7,0,none⟩) 2 2) 2 (aW [76,0])from rfl)) ?_
 refine hx (bx 0 rfl rfl rfl Tryz.underlying27 Tryz.underlying27 (by exact .inl rfl) fk rfl (fun m=>Src.bR (m.ord 1 rfl)) aY (by unfold maxLen;omega) (by omega) (fun u=> ?_))
 refine aA (fun m=>(m.own 0 rfl).slice) ?_
 rintro⟨A_b7,c_b7,rfl,hc_b7⟩
 refine aA (fun m=>(m.ord 0 rfl).2.1) fun hA_b7=> ?_
 refine hy (fun _=>ab rfl)<|ai<|al (ρ' :=[(4,_),(3,_),(2,_),(0,_)]) ⟨rfl,rfl,rfl,rfl,trivial⟩<|ak (X' :=[_,_,_]) (S' :=[_]) (fun _ m=>m)<|ag<|ah<|ah<|aj<|hy (fun _=>aa rfl)<|hy (fun _=>aT rfl Tryz.underlying27)<|hy (fun _=>aa rfl)<|hy (fun _=>aT rfl Tryz.underlying27)<|hy (fun _=>bw rfl rfl)<|ai<|al (ρ' :=[(17,_),(4,_),(3,_),(2,_),(0,_)]) ⟨rfl,rfl,rfl,rfl,rfl,trivial⟩<|ag<| ?_
 refine cG rfl (fun hp=> ?_) (fun hp=> ?_)
 ·have hq:bK l=[76,1]++gP l.length++eS l++gP (da l):=by
   have:ve l=true:=by unfold ve;exact decide_eq_true (by omega)
   unfold bK iW
   rw[this];rfl
  refine ah<|aj<|hy (fun _=>aa rfl)<|hy (fun _=>aS rfl rfl Tryz.underlying27 dZ hA_b7 (show((1:Nat):Int)=1 from rfl) (by omega))<| ?_
  refine cH (zM 0 rfl rfl rfl dZ rfl (by omega) ?_)
  refine ai<|al (ρ' :=[(17,_),(4,_),(3,_),(2,_),(0,_)]) ⟨rfl,rfl,rfl,rfl,rfl,trivial⟩<|ak (X' :=[_,_,_]) (S' :=[_]) (fun _ m=>m)<|ag<|aj<|hy (fun _=>aa rfl)<|hy (fun _=>aa rfl)<| ?_
  refine aQ (fun w m=>m.bN 0 rfl (show _=aH 5 1 (.slice A_b7 (2+4) c_b7) (2+4) (aW ([76,1]++gP n))from rfl)) ?_
  refine hx (bx 0 rfl rfl rfl Tryz.underlying27 Tryz.underlying27 (by exact .inl rfl) fk rfl (fun m=>Src.bR (m.ord 2 rfl)) aY (by unfold maxLen;omega) (by omega) (fun u2=> ?_))
  refine aA (fun m=>(m.own 0 rfl).slice) ?_
  rintro⟨A_b72,c_b72,rfl,hc_b7⟩
  refine aA (fun m=>(m.ord 0 rfl).2.1) fun hA_b7=> ?_
  refine hy (fun _=>ab rfl)<|ai<|al (ρ' :=[(4,_),(17,_),(3,_),(2,_),(0,_)]) ⟨rfl,rfl,rfl,rfl,rfl,trivial⟩<|ak (X' :=[_,_,_]) (S' :=[_]) (fun _ m=>m)<|ag<|ah<|aj<|hy (fun _=>aa rfl)<|hy (fun _=>aa rfl)<| ?_
  refine hx (aq rfl Tryz.call161 (v7 (by omega) (by omega) (by omega)) [] rfl [0] rfl ?_)
  rintro _ _ _ ⟨v3,rfl,rfl,rfl⟩
  refine aA (fun m=>(m.own 0 rfl).slice) ?_
  rintro⟨A_x3,c_x3,rfl,hc_x3⟩
  refine aA (fun m=>(m.ord 0 rfl).2.1) fun hA_x3=> ?_
  refine hx (bx 1 rfl rfl rfl Tryz.underlying27 Tryz.underlying27 (by exact .inl rfl) fk rfl (fun m=>Src.bR (m.ord 0 rfl)) aY (by unfold maxLen;omega) (by omega) (fun u3=> ?_))
  refine aA (fun m=>(m.own 0 rfl).slice) ?_
  rintro⟨A_b73,c_b73,rfl,hc_b7⟩
  refine aA (fun m=>(m.ord 0 rfl).2.1) fun hA_b7=> ?_
  refine hy (fun _=>ab rfl)<|ai<|al (ρ' :=[(2,_),(4,_),(17,_),(3,_),(0,_)]) ⟨rfl,rfl,rfl,rfl,rfl,trivial⟩<|ak (X' :=[_,_,_,_]) (S' :=[_]) (fun _ m=>m)<|ag<|aX<| ?_
  have hol:2+4+(eS l).length+4=(bK l).length:=by rw[hq];simp[fB,hl];try omega
  rw[hol]
  have hsl:aW ([76,1]++gP n)++aW (eS l)++aW (gP (da l))=aW (bK l):=by rw[hq,hl,bH ([76,1]++gP n++(eS l)),bH ([76,1]++gP n)]
  rw[hsl]
  exact bh trivial rfl rfl [0] rfl [] rfl ⟨_,rfl,rfl,rfl⟩
 ·have hq:bK l=[76,0]++gP l.length++l++gP (da l):=by
   have:ve l=false:=by unfold ve;exact decide_eq_false (by omega)
   unfold bK iW
   rw[this];rfl
  refine aj<|hy (fun _=>aa rfl)<|hy (fun _=>aa rfl)<| ?_
  refine aQ (fun w m=>m.bN 0 rfl (show _=aH 5 1 (.slice A_b7 (2+4) c_b7) (2+4) (aW ([76,0]++gP n))from rfl)) ?_
  refine hx (bx 0 rfl rfl rfl Tryz.underlying27 Tryz.underlying27 (by exact .inl rfl) fk rfl (fun m=>Src.bR (m.rd 0 rfl)) aY (by unfold maxLen;omega) (by omega) (fun u2=> ?_))
  refine aA (fun m=>(m.own 0 rfl).slice) ?_
  rintro⟨A_b72,c_b72,rfl,hc_b7⟩
  refine aA (fun m=>(m.ord 0 rfl).2.1) fun hA_b7=> ?_
  refine hy (fun _=>ab rfl)<|ai<|al (ρ' :=[(4,_),(17,_),(3,_),(2,_),(0,_)]) ⟨rfl,rfl,rfl,rfl,rfl,trivial⟩<|ak (X' :=[_,_,_]) (S' :=[_]) (fun _ m=>m)<|ag<|ah<|aj<|hy (fun _=>aa rfl)<|hy (fun _=>aa rfl)<| ?_
  refine hx (aq rfl Tryz.call161 (v7 (by omega) (by omega) (by omega)) [] rfl [0] rfl ?_)
  rintro _ _ _ ⟨v3,rfl,rfl,rfl⟩
  refine aA (fun m=>(m.own 0 rfl).slice) ?_
  rintro⟨A_x3,c_x3,rfl,hc_x3⟩
  refine aA (fun m=>(m.ord 0 rfl).2.1) fun hA_x3=> ?_
  refine hx (bx 1 rfl rfl rfl Tryz.underlying27 Tryz.underlying27 (by exact .inl rfl) fk rfl (fun m=>Src.bR (m.ord 0 rfl)) aY (by unfold maxLen;omega) (by omega) (fun u3=> ?_))
  refine aA (fun m=>(m.own 0 rfl).slice) ?_
  rintro⟨A_b73,c_b73,rfl,hc_b7⟩
  refine aA (fun m=>(m.ord 0 rfl).2.1) fun hA_b7=> ?_
  refine hy (fun _=>ab rfl)<|ai<|al (ρ' :=[(2,_),(4,_),(17,_),(3,_),(0,_)]) ⟨rfl,rfl,rfl,rfl,rfl,trivial⟩<|ak (X' :=[_,_,_,_]) (S' :=[_]) (fun _ m=>m)<|ag<|aX<| ?_
  have hol:2+4+n+4=(bK l).length:=by rw[hq];simp[fB,hl];try omega
  rw[hol]
  have hsl:aW ([76,0]++gP n)++aW l++aW (gP (da l))=aW (bK l):=by rw[hq,hl,bH ([76,0]++gP n++l),bH ([76,0]++gP n)]
  rw[hsl]
  exact bh trivial rfl rfl [0] rfl [] rfl ⟨_,rfl,rfl,rfl⟩
end Go.Proofs.YtmibdabdlgmafaaGreatDoor
end
section
set_option maxRecDepth 20000
set_option maxHeartbeats 4000000
namespace Go.Proofs.YtmibdabdlgmafaaGreatDoor
open Go.Eng Go.Hx
@[reducible]def HW (v:Value) (nn e:Int):List Value:=[v,.int .i64 nn,.int .i64 e]
theorem kh{A:Option Addr}{n c:Nat}{nn e:Int}:∀u∈HW (.slice A n c) nn e,u.oneCell' =true:=by
 intro u hu
 simp only[List.mem_cons,List.not_mem_nil,or_false]at hu
 rcases hu with rfl|rfl|rfl <;> rfl
theorem lI(l:List UInt8)(i j:Nat):(l.drop i).getD j 0=l.getD (i+j) 0:=by simp[List.getD,List.getElem?_drop]
theorem yQ{A:Option Addr}{n c:Nat}{l:List UInt8}{z:Int}(hc:n≤c)(hn:n≤10000000)(hl:l.length=n)(hz:z≤10000000):cf Tryz.prog 217 [.slice A n c,.int .i64 z] [] [di 1 A n (aW l)] (fun v_ X_ S_=>∃v nn,v_=(.agg (HW v nn (j8 z l []).2).toArray)∧X_=[aH 5 1 v (j8 z l []).1.length (aW (j8 z l []).1)]∧S_=[]):=by
 refine aP (N:=109) Tryz.func217 rfl rfl (by simp) fun b=> ?_
 refine a6 (fun m=>ig (m.rd 0 rfl)) ?_
 rintro⟨hl_r,hA_r⟩
 refine ah<|aj<| ?_
 refine hx (aM oy (fun g4=> ?_))
 refine ai<|ak (X' :=[_]) (S' :=[_]) (fun _ m=>m)<|ag<|ah<|aj<|hy (fun _=>ab rfl)<|ai<|ag<|ah<|aj<|hy (fun _=>ab rfl)<|ai<|ag<|ah<|ah<|aj<|hy (fun _=>ab rfl)<|ai<|ag<|aK<| ?_
 refine bC (fun w m=>m.dj (r' :=aH 5 1 (.slice none 0 0) 0 []) (.refl _ _) (Own.nil _ _ _ _) (fun k hk=>hk.elim)) ?_
 refine vn (fun i o nn A3 c3=>n-i) (fun i o nn A3 c3=>[(5,.slice A3 (o:List UInt8).length c3),(6,.int .i64 (nn:Nat)),(7,.int .i64 (i:Nat))]) (fun i o nn A3 c3=>[aH 5 1 (.slice A3 o.length c3) o.length (aW o)]) (fun i o nn A3 c3=>[]) (fun i o nn A3 c3=>i≤n∧nn≤i∧o.length≤10000000∧j8 z (l.drop i) o=j8 z l []) 0 [] 0 none 0 [(4,_),(0,_),(1,_)] ⟨rfl,rfl,rfl,trivial⟩ [0] rfl [] rfl (⟨Nat.zero_le _,Nat.zero_le _,Nat.zero_le _,rfl⟩) ⟨rfl,rfl,rfl,trivial⟩ (fun i o nn A3 c3 ⟨hin,hni,hol,hU⟩=> ?_)
 refine ah<|ah<|aj<|hy (fun _=>aa rfl)<|hy (fun _=>aa rfl)<|hy (fun _=>aT rfl Tryz.underlying27)<|hy (fun _=>bw rfl rfl)<|ai<|al (ρ' :=[(14,_),(5,_),(6,_),(7,_),(4,_),(0,_),(1,_)]) ⟨rfl,rfl,rfl,rfl,rfl,rfl,rfl,trivial⟩<|ag<| ?_
 refine cG rfl (fun hlt=> ?_) (fun hlt=> ?_)
 ·have hil:i<l.length:=by omega
  have hq0:l.drop i≠ []:=fun e=>by have:=congrArg List.length e;rw[List.length_drop]at this;simp at this;omega
  have hql:(l.drop i).length=n-i:=by rw[List.length_drop,hl]
  have hg0:(l.drop i).getD 0 0=l.getD i 0:=lI l i 0
  have hc0:=(l.getD i 0).toNat_lt
  refine aB<|ag<|ah<|aK<|ah<|aj<|hy (fun _=>aa rfl)<|hy (fun _=>aa rfl)<|hy (fun _=>aS rfl rfl Tryz.underlying27 dZ hA_r rfl (by omega))<|hy (fun m=>aw rfl jc ((m.rd 0 rfl).cell (bM (by omega))))<|hy (fun _=>bX rfl Tryz.underlying5 Tryz.underlying3 (Bw _))<|hy (fun _=>ab rfl)<|ai<|al (ρ' :=[(8,_),(14,_),(5,_),(6,_),(7,_),(4,_),(0,_),(1,_)]) ⟨rfl,rfl,rfl,rfl,rfl,rfl,rfl,rfl,trivial⟩<|ag<|ah<|ah<|aj<|hy (fun _=>aa rfl)<|hy (fun _=>bw rfl rfl)<|ai<|al (ρ' :=[(23,_),(8,_),(14,_),(5,_),(6,_),(7,_),(4,_),(0,_),(1,_)]) ⟨rfl,rfl,rfl,rfl,rfl,rfl,rfl,rfl,rfl,trivial⟩<|ag<| ?_
  generalize hc8:(l.getD i 0).toNat=c8 at hc0 hg0 ⊢
  have hc8' :((l.drop i).getD 0 0).toNat=c8:=by rw[lI,Nat.add_zero,hc8]
  refine cG rfl (fun h128=> ?_) (fun h128=> ?_)
  ·have ht:cS (l.drop i)=(c8+2,c8+1,0,decide (c8+2≤n-i)):=by
    unfold cS;rw[hc8',if_pos (by omega),hql]
   refine ah<|ah<|aj<|hy (fun _=>aa rfl)<|hy (fun _=>aa rfl)<|hy (fun _=>aN rfl rfl (bF (by omega) (by omega)))<|hy (fun _=>aN rfl rfl (bF (by omega) (by omega)))<|hy (fun _=>aa rfl)<|hy (fun _=>aT rfl Tryz.underlying27)<|hy (fun _=>dh rfl rfl)<|ai<|al (ρ' :=[(30,_),(23,_),(8,_),(14,_),(5,_),(6,_),(7,_),(4,_),(0,_),(1,_)]) ⟨rfl,rfl,rfl,rfl,rfl,rfl,rfl,rfl,rfl,rfl,trivial⟩<|ag<| ?_
   refine cG rfl (fun h30=> ?_) (fun h30=> ?_)
   ·rw[lE hq0 (fun h=>by rw[ht]at h;have:=of_decide_eq_true h.1;omega)]at hU
    rw[←hU]
    refine ah<|aj<|hy (fun _=>cA oy rfl rfl (by kernel_rfl) (.cons (o:=2) (sz:=1) (by kernel_rfl) rfl rfl (Nat.le_of_ble_eq_true rfl) .nil))<| ?_
    refine cH (aJ 1 rfl rfl rfl jQ rfl kh rfl ?_)
    refine ai<|al (ρ' :=[(30,_),(23,_),(8,_),(14,_),(5,_),(6,_),(7,_),(4,_),(0,_),(1,_)]) ⟨rfl,rfl,rfl,rfl,rfl,rfl,rfl,rfl,rfl,rfl,trivial⟩<|ak (X' :=[_,_]) (S' :=[_]) (fun _ m=>m)<|ag<|aX<|ay<|ay<|bf<|ay<|ay<|bf<|ay<| ?_
    refine ak (fun w m=>m.dj (r' :=aH 5 1 (.slice none 0 0) 0 []) (.refl _ _) (Own.nil _ _ _ _) (fun k hk=>hk.elim)) ?_
    exact fw trivial rfl rfl re jQ rfl (fun m=>(m.aZ 1 rfl).ax) [0] rfl [] rfl ⟨_,_,rfl,rfl,rfl⟩
   ·have hok:(cS (l.drop i)).2.2.2=true:=by rw[ht];exact decide_eq_true (by omega)
    have hdo:(cS (l.drop i)).2.2.1≤o.length:=by rw[ht];exact Nat.zero_le _
    refine aB<|ag<|ah<|ah<|aj<|hy (fun _=>aa rfl)<|hy (fun _=>aT rfl Tryz.underlying27)<|hy (fun _=>aa rfl)<|hy (fun _=>aN rfl rfl (bF (by omega) (by omega)))<|hy (fun _=>aN rfl rfl (bF (by omega) (by omega)))<|hy (fun _=>aa rfl)<|hy (fun _=>dh rfl rfl)<|ai<|al (ρ' :=[(38,_),(30,_),(23,_),(8,_),(14,_),(5,_),(6,_),(7,_),(4,_),(0,_),(1,_)]) ⟨rfl,rfl,rfl,rfl,rfl,rfl,rfl,rfl,rfl,rfl,rfl,trivial⟩<|ag<| ?_
    refine cG rfl (fun h38=> ?_) (fun h38=> ?_)
    ·rw[pe hq0 hok hdo (by rw[ht];show z<(o.length:Int)+((c8+1:Nat):Int);omega)]at hU
     rw[←hU]
     refine ah<|aj<|hy (fun _=>cA oy rfl rfl (by kernel_rfl) (.cons (o:=2) (sz:=1) (by kernel_rfl) rfl rfl (Nat.le_of_ble_eq_true rfl) .nil))<| ?_
     refine cH (aJ 1 rfl rfl rfl jQ rfl kh rfl ?_)
     refine ai<|al (ρ' :=[(38,_),(30,_),(23,_),(8,_),(14,_),(5,_),(6,_),(7,_),(4,_),(0,_),(1,_)]) ⟨rfl,rfl,rfl,rfl,rfl,rfl,rfl,rfl,rfl,rfl,rfl,trivial⟩<|ak (X' :=[_,_]) (S' :=[_]) (fun _ m=>m)<|ag<|aX<|ay<|ay<|bf<|ay<|ay<|bf<|ay<| ?_
     refine ak (fun w m=>m.dj (r' :=aH 5 1 (.slice none 0 0) 0 []) (.refl _ _) (Own.nil _ _ _ _) (fun k hk=>hk.elim)) ?_
     exact fw trivial rfl rfl re jQ rfl (fun m=>(m.aZ 1 rfl).ax) [0] rfl [] rfl ⟨_,_,rfl,rfl,rfl⟩
    ·rw[n4 hq0 hok hdo (by rw[ht];show¬z<(o.length:Int)+((c8+1:Nat):Int);omega)]at hU
     have hK:i+1+(c8+1)-(i+1)=c8+1:=by omega
     have hma:made (l.drop i) o=o++(l.drop (i+1)).take (i+1+(c8+1)-(i+1)):=by unfold made;rw[ht,hK,if_pos rfl,List.drop_drop];rfl
     rw[hma,ht,List.drop_drop]at hU
     have hpl:((l.drop (i+1)).take (i+1+(c8+1)-(i+1))).length=i+1+(c8+1)-(i+1):=by rw[List.length_take,List.length_drop];omega
     refine bC (fun w m=>m.jL 0 rfl (View.sub (n:=n) (c:=c) (k:=i+1) (m:=i+1+(c8+1)-(i+1)) (by omega) (by omega))) ?_
     refine a6 (fun m=>ig (m.rd 0 rfl)) ?_
     rintro⟨hl_q,hA_q⟩
     refine aB<|ag<|ah<|aj<|hy (fun _=>aa rfl)<|hy (fun _=>aa rfl)<|hy (fun _=>aa rfl)<|hy (fun _=>aN rfl rfl (bF (by omega) (by omega)))<|hy (fun _=>aa rfl)<|hy (fun _=>aa rfl)<|hy (fun _=>aN rfl rfl (bF (by omega) (by omega)))<|hy (fun _=>aN rfl rfl (bF (by omega) (by omega)))<|hy (fun _=>eZ rfl rfl rfl Tryz.underlying27 dZ (show((i+1:Nat):Int)=_ by omega) (show((i+1+(c8+1):Nat):Int)=_ by omega) (by omega) (by omega))<| ?_
     refine hx (bx 0 rfl rfl rfl Tryz.underlying27 Tryz.underlying27 (by exact .inl rfl) fk rfl (fun m=>Src.bR (m.rd 0 rfl)) aY (by unfold maxLen;omega) (by omega) (fun u=> ?_))
     refine aA (fun m=>(m.own 0 rfl).slice) ?_
     rintro⟨A_x,c_x,rfl,hc_x⟩
     refine aA (fun m=>(m.ord 0 rfl).2.1) fun hA_x=> ?_
     have hlm:o.length+(i+1+(c8+1)-(i+1))=(o++(l.drop (i+1)).take (i+1+(c8+1)-(i+1))).length:=by rw[List.length_append,hpl]
     rw[hlm]at hc_x hA_x ⊢
     refine aQ (fun w m=>m.bN 0 rfl (show _=aH 5 1 (.slice A_x (o++(l.drop (i+1)).take (i+1+(c8+1)-(i+1))).length c_x) (o++(l.drop (i+1)).take (i+1+(c8+1)-(i+1))).length (aW (o++(l.drop (i+1)).take (i+1+(c8+1)-(i+1))))from congrArg (aH _ _ _ _) (by rw[bH]))) ?_
     refine hy (fun _=>ab rfl)<|ai<|al (ρ' :=[(5,_),(38,_),(30,_),(23,_),(8,_),(14,_),(6,_),(7,_),(4,_),(0,_),(1,_)]) ⟨rfl,rfl,rfl,rfl,rfl,rfl,rfl,rfl,rfl,rfl,rfl,trivial⟩<|ak (X' :=[_,_]) (S' :=[_,_]) (fun _ m=>m)<|ag<|ah<|aj<|hy (fun _=>aa rfl)<|hy (fun _=>aa rfl)<|hy (fun _=>aN rfl rfl (bF (by omega) (by omega)))<|hy (fun _=>yV (aN rfl rfl (bF (by omega) (by omega))) ((show Value.int .i64 _= .int .i64 ((i+(c8+2):Nat):Int) by congr 1)))<|hy (fun _=>ab rfl)<|ai<|al (ρ' :=[(7,_),(5,_),(38,_),(30,_),(23,_),(8,_),(14,_),(6,_),(4,_),(0,_),(1,_)]) ⟨rfl,rfl,rfl,rfl,rfl,rfl,rfl,rfl,rfl,rfl,rfl,trivial⟩<|ag<|bL<|ao<|aD<|ag<|aj<|hy (fun _=>aa rfl)<|hy (fun _=>aN rfl rfl (bF (by omega) (by omega)))<|hy (fun _=>ab rfl)<|ai<|al (ρ' :=[(6,_),(7,_),(5,_),(38,_),(30,_),(23,_),(8,_),(14,_),(4,_),(0,_),(1,_)]) ⟨rfl,rfl,rfl,rfl,rfl,rfl,rfl,rfl,rfl,rfl,rfl,trivial⟩<| ?_
     refine pz (i+(c8+2)) (o++(l.drop (i+1)).take (i+1+(c8+1)-(i+1))) (nn+1) A_x c_x ⟨rfl,rfl,rfl,rfl,rfl,rfl,trivial⟩ [0,0] rfl [1] rfl (⟨by omega,by omega,by rw[←hlm];omega,hU⟩) (by omega)
  ·refine aB<|ag<|ah<|ah<|aj<|hy (fun _=>aa rfl)<|hy (fun _=>aN rfl rfl (bF (by omega) (by omega)))<|hy (fun _=>aa rfl)<|hy (fun _=>aT rfl Tryz.underlying27)<|hy (fun _=>dh rfl rfl)<|ai<|al (ρ' :=[(58,_),(23,_),(8,_),(14,_),(5,_),(6,_),(7,_),(4,_),(0,_),(1,_)]) ⟨rfl,rfl,rfl,rfl,rfl,rfl,rfl,rfl,rfl,rfl,trivial⟩<|ag<| ?_
   refine cG rfl (fun h58=> ?_) (fun h58=> ?_)
   ·have ht:cS (l.drop i)=(0,0,0,false):=by unfold cS;rw[hc8',if_neg (by omega),if_pos (by omega)]
    rw[lE hq0 (fun h=>by rw[ht]at h;cases h.1)]at hU
    rw[←hU]
    refine ah<|aj<|hy (fun _=>cA oy rfl rfl (by kernel_rfl) (.cons (o:=2) (sz:=1) (by kernel_rfl) rfl rfl (Nat.le_of_ble_eq_true rfl) .nil))<| ?_
    refine cH (aJ 1 rfl rfl rfl jQ rfl kh rfl ?_)
    refine ai<|al (ρ' :=[(58,_),(23,_),(8,_),(14,_),(5,_),(6,_),(7,_),(4,_),(0,_),(1,_)]) ⟨rfl,rfl,rfl,rfl,rfl,rfl,rfl,rfl,rfl,rfl,trivial⟩<|ak (X' :=[_,_]) (S' :=[_]) (fun _ m=>m)<|ag<|aX<|ay<|bf<|ay<|ay<|bf<|ay<| ?_
    refine ak (fun w m=>m.dj (r' :=aH 5 1 (.slice none 0 0) 0 []) (.refl _ _) (Own.nil _ _ _ _) (fun k hk=>hk.elim)) ?_
    exact fw trivial rfl rfl re jQ rfl (fun m=>(m.aZ 1 rfl).ax) [0] rfl [] rfl ⟨_,_,rfl,rfl,rfl⟩
   ·have ht:cS (l.drop i)=(3,c8-124,1+(l.getD (i+1) 0).toNat+256*(l.getD (i+2) 0).toNat,true):=by
     unfold cS;rw[hc8',if_neg (by omega),if_neg (by omega),lI,lI]
    have b1:=(l.getD (i+1) 0).toNat_lt
    have b2:=(l.getD (i+2) 0).toNat_lt
    have hok:(cS (l.drop i)).2.2.2=true:=by rw[ht]
    refine aB<|ag<|ah<|cT [] [(0,some 0),(1,some 0),(2,some 0),(3,some 0),(4,some 0),(5,some 0),(6,some 0),(7,some 0),(8,some 0),(9,some 0),(10,some 0),(11,some 0),(12,some 0),(13,some 0),(14,some 0),(15,some 0)] (by kernel_rfl) (by kernel_rfl) rfl 99<|an (aa rfl)<|an (aa rfl)<|an (aN rfl rfl (bF (by omega) (by omega)))<|an (aS rfl rfl Tryz.underlying27 dZ hA_r (show((i+1:Nat):Int)=_ by omega) (by omega))<|cq (fun m=>aw rfl jc ((m.rd 0 rfl).cell (bM (by omega))))<|an (bX rfl Tryz.underlying5 Tryz.underlying3 (Bw _))<|an (aN rfl rfl (bF (by omega) (by omega)))<|an (aa rfl)<|an (aa rfl)<|an (aN rfl rfl (bF (by omega) (by omega)))<|an (aS rfl rfl Tryz.underlying27 dZ hA_r (show((i+2:Nat):Int)=_ by omega) (by omega))<|cq (fun m=>aw rfl jc ((m.rd 0 rfl).cell (bM (by omega))))<|an (bX rfl Tryz.underlying5 Tryz.underlying3 (Bw _))<|an (fN rfl rfl (bF (by omega) (by omega)))<|an (yV (aN rfl rfl (bF (by omega) (by omega))) ((show Value.int .i64 ((1:Int)+((l.getD (i+1) 0).toNat:Int)+256*((l.getD (i+2) 0).toNat:Int))= .int .i64 ((1+(l.getD (i+1) 0).toNat+256*(l.getD (i+2) 0).toNat:Nat):Int) by congr 1)))<|an (ab rfl)<|bz<|al (ρ' :=[(9,_),(58,_),(23,_),(8,_),(14,_),(5,_),(6,_),(7,_),(4,_),(0,_),(1,_)]) ⟨rfl,rfl,rfl,rfl,rfl,rfl,rfl,rfl,rfl,rfl,rfl,trivial⟩<|ag<|ah<|ah<|aj<|hy (fun _=>aa rfl)<|hy (fun _=>aa rfl)<|hy (fun _=>aT rfl Tryz.underlying27)<|hy (fun _=>dh rfl rfl)<|ai<|al (ρ' :=[(78,_),(9,_),(58,_),(23,_),(8,_),(14,_),(5,_),(6,_),(7,_),(4,_),(0,_),(1,_)]) ⟨rfl,rfl,rfl,rfl,rfl,rfl,rfl,rfl,rfl,rfl,rfl,rfl,trivial⟩<|ag<| ?_
    generalize hdd:1+(l.getD (i+1) 0).toNat+256*(l.getD (i+2) 0).toNat=dd at ht ⊢
    refine cG rfl (fun h78=> ?_) (fun h78=> ?_)
    ·rw[lE hq0 (fun h=>by rw[ht]at h;have h2:dd≤o.length:=h.2;omega)]at hU
     rw[←hU]
     refine ah<|aj<|hy (fun _=>cA oy rfl rfl (by kernel_rfl) (.cons (o:=2) (sz:=1) (by kernel_rfl) rfl rfl (Nat.le_of_ble_eq_true rfl) .nil))<| ?_
     refine cH (aJ 1 rfl rfl rfl jQ rfl kh rfl ?_)
     refine ai<|al (ρ' :=[(78,_),(9,_),(58,_),(23,_),(8,_),(14,_),(5,_),(6,_),(7,_),(4,_),(0,_),(1,_)]) ⟨rfl,rfl,rfl,rfl,rfl,rfl,rfl,rfl,rfl,rfl,rfl,rfl,trivial⟩<|ak (X' :=[_,_]) (S' :=[_]) (fun _ m=>m)<|ag<|aX<|ay<|bf<|ay<|ay<|bf<|ay<| ?_
     refine ak (fun w m=>m.dj (r' :=aH 5 1 (.slice none 0 0) 0 []) (.refl _ _) (Own.nil _ _ _ _) (fun k hk=>hk.elim)) ?_
     exact fw trivial rfl rfl re jQ rfl (fun m=>(m.aZ 1 rfl).ax) [0] rfl [] rfl ⟨_,_,rfl,rfl,rfl⟩
    ·have hdo:(cS (l.drop i)).2.2.1≤o.length:=by rw[ht];show dd≤_;omega
     refine aB<|ag<|ah<|ah<|aj<|hy (fun _=>aa rfl)<|hy (fun _=>aT rfl Tryz.underlying27)<|hy (fun _=>aa rfl)<|hy (fun _=>aN rfl rfl (bF (by omega) (by omega)))<|hy (fun _=>cp rfl rfl (bF (by omega) (by omega)))<|hy (fun _=>aa rfl)<|hy (fun _=>dh rfl rfl)<|ai<|al (ρ' :=[(86,_),(78,_),(9,_),(58,_),(23,_),(8,_),(14,_),(5,_),(6,_),(7,_),(4,_),(0,_),(1,_)]) ⟨rfl,rfl,rfl,rfl,rfl,rfl,rfl,rfl,rfl,rfl,rfl,rfl,rfl,trivial⟩<|ag<| ?_
     refine cG rfl (fun h86=> ?_) (fun h86=> ?_)
     ·rw[pe hq0 hok hdo (by rw[ht];show z<(o.length:Int)+((c8-124:Nat):Int);omega)]at hU
      rw[←hU]
      refine ah<|aj<|hy (fun _=>cA oy rfl rfl (by kernel_rfl) (.cons (o:=2) (sz:=1) (by kernel_rfl) rfl rfl (Nat.le_of_ble_eq_true rfl) .nil))<| ?_
      refine cH (aJ 1 rfl rfl rfl jQ rfl kh rfl ?_)
      refine ai<|al (ρ' :=[(86,_),(78,_),(9,_),(58,_),(23,_),(8,_),(14,_),(5,_),(6,_),(7,_),(4,_),(0,_),(1,_)]) ⟨rfl,rfl,rfl,rfl,rfl,rfl,rfl,rfl,rfl,rfl,rfl,rfl,rfl,trivial⟩<|ak (X' :=[_,_]) (S' :=[_]) (fun _ m=>m)<|ag<|aX<|ay<|bf<|ay<|ay<|bf<|ay<| ?_
      refine ak (fun w m=>m.dj (r' :=aH 5 1 (.slice none 0 0) 0 []) (.refl _ _) (Own.nil _ _ _ _) (fun k hk=>hk.elim)) ?_
      exact fw trivial rfl rfl re jQ rfl (fun m=>(m.aZ 1 rfl).ax) [0] rfl [] rfl ⟨_,_,rfl,rfl,rfl⟩
     ·rw[n4 hq0 hok hdo (by rw[ht];show¬z<(o.length:Int)+((c8-124:Nat):Int);omega)]at hU
      have hma:made (l.drop i) o=again dd (c8-124) o:=by unfold made;rw[ht];exact if_neg (show¬dd=0 by omega)
      rw[hma,ht,List.drop_drop]at hU
      refine aB<|ag<|ah<|ah<|aj<|hy (fun _=>ab rfl)<|ai<|ag<|aK<| ?_
      refine jJ (fun k2 o2 A4 c4=>c8-124-k2) (fun k2 o2 A4 c4=>[(5,.slice A4 (o2:List UInt8).length c4),(10,.int .i64 (k2:Nat))]) (fun k2 o2 A4 c4=>[aH 5 1 (.slice A4 o2.length c4) o2.length (aW o2)]) (fun k2 o2 A4 c4=>[]) (fun k2 o2 A4 c4=>k2≤c8-124∧o2.length=o.length+k2∧again dd (c8-124-k2) o2=again dd (c8-124) o) 0 o A3 c3 [(86,_),(78,_),(9,_),(58,_),(23,_),(8,_),(14,_),(6,_),(7,_),(4,_),(0,_),(1,_)] ⟨rfl,rfl,rfl,rfl,rfl,rfl,rfl,rfl,rfl,rfl,rfl,rfl,trivial⟩ [0] rfl [] rfl (⟨Nat.zero_le _,rfl,rfl⟩) ⟨rfl,rfl,trivial⟩ (fun k2 o2 A4 c4 ⟨hk2,ho2,hag⟩=> ?_)
      refine ah<|ah<|aj<|hy (fun _=>aa rfl)<|hy (fun _=>aa rfl)<|hy (fun _=>cp rfl rfl (bF (by omega) (by omega)))<|hy (fun _=>bw rfl rfl)<|ai<|al (ρ' :=[(91,_),(5,_),(10,_),(86,_),(78,_),(9,_),(58,_),(23,_),(8,_),(14,_),(6,_),(7,_),(4,_),(0,_),(1,_)]) ⟨rfl,rfl,rfl,rfl,rfl,rfl,rfl,rfl,rfl,rfl,rfl,rfl,rfl,rfl,rfl,trivial⟩<|ag<| ?_
      refine cG rfl (fun hk=> ?_) (fun hk=> ?_)
      ·have hk3:k2<c8-124:=by omega
       have hi2:o2.length-dd<o2.length:=by omega
       have hs:again dd (c8-124-k2) o2=again dd (c8-124-(k2+1)) (o2++[o2.getD (o2.length-dd) 0]):=by
        rw[show c8-124-k2=(c8-124-(k2+1))+1 by omega];rfl
       rw[hs]at hag
       refine a6 (fun m=>(m.ord 0 rfl).2.1) fun hA_x=> ?_
       refine aB<|ag<|ah<|aK<|aj<|hy (fun _=>aa rfl)<|hy (fun _=>aa rfl)<|hy (fun _=>aa rfl)<|hy (fun _=>aT rfl Tryz.underlying27)<|hy (fun _=>aa rfl)<|hy (fun _=>cp rfl rfl (bF (by omega) (by omega)))<|hy (fun _=>aS rfl rfl Tryz.underlying27 dZ hA_x (show((o2.length-dd:Nat):Int)=_ by omega) (by omega))<|hy (fun m=>aw rfl jc ((m.ord 0 rfl).cell (bM (by omega))))<| ?_
       refine hx (b6 Tryz.underlying27 fk rfl rfl rfl (by simp[Value.cells,B8]) (by decide) (by decide) (fun g102=> ?_))
       have hA_b102:0<1→(some (⟨g102,0,none⟩:Addr))≠none:=fun _ h=>by cases h
       refine aQ (fun w m=>m.bN 0 rfl (show _=aH 5 1 (.slice (some ⟨g102,0,none⟩) 1 1) 1 (aW [o2.getD (o2.length-dd) 0])from rfl)) ?_
       refine hx (bx 1 rfl rfl rfl Tryz.underlying27 Tryz.underlying27 (by exact .inl rfl) fk rfl (fun m=>Src.bR (m.ord 0 rfl)) aY (by unfold maxLen;omega) (by omega) (fun u=> ?_))
       refine aA (fun m=>(m.own 0 rfl).slice) ?_
       rintro⟨A_x,c_x,rfl,hc_x⟩
       refine aA (fun m=>(m.ord 0 rfl).2.1) fun hA_x=> ?_
       have hlm:o2.length+1=(o2++[o2.getD (o2.length-dd) 0]).length:=by rw[List.length_append];rfl
       rw[hlm]at hc_x hA_x ⊢
       refine aQ (fun w m=>m.bN 0 rfl (show _=aH 5 1 (.slice A_x (o2++[o2.getD (o2.length-dd) 0]).length c_x) (o2++[o2.getD (o2.length-dd) 0]).length (aW (o2++[o2.getD (o2.length-dd) 0]))from congrArg (aH _ _ _ _) (by rw[bH]))) ?_
       refine hy (fun _=>ab rfl)<|ai<|al (ρ' :=[(5,_),(91,_),(10,_),(86,_),(78,_),(9,_),(58,_),(23,_),(8,_),(14,_),(6,_),(7,_),(4,_),(0,_),(1,_)]) ⟨rfl,rfl,rfl,rfl,rfl,rfl,rfl,rfl,rfl,rfl,rfl,rfl,rfl,rfl,rfl,trivial⟩<|ak (X' :=[_,_,_]) (S' :=[_]) (fun _ m=>m)<|aO<|ag<|aj<|hy (fun _=>aa rfl)<|hy (fun _=>aN rfl rfl (bF (by omega) (by omega)))<|hy (fun _=>ab rfl)<|ai<|al (ρ' :=[(10,_),(5,_),(91,_),(86,_),(78,_),(9,_),(58,_),(23,_),(8,_),(14,_),(6,_),(7,_),(4,_),(0,_),(1,_)]) ⟨rfl,rfl,rfl,rfl,rfl,rfl,rfl,rfl,rfl,rfl,rfl,rfl,rfl,rfl,rfl,trivial⟩<| ?_
       refine eO (k2+1) (o2++[o2.getD (o2.length-dd) 0]) A_x c_x ⟨rfl,rfl,rfl,rfl,rfl,rfl,rfl,rfl,rfl,rfl,rfl,rfl,rfl,rfl,trivial⟩ [0,1] rfl [0] rfl (⟨by omega,by rw[←hlm];omega,hag⟩) (by omega)
      ·obtain rfl:k2=c8-124:=by omega
       rw[Nat.sub_self]at hag
       have hag:o2=again dd (c8-124) o:=hag
       rw[←hag]at hU
       refine bL<|ao<|ao<|aD<|ag<|aj<|hy (fun _=>aa rfl)<|hy (fun _=>yV (aN rfl rfl (bF (by omega) (by omega))) ((show Value.int .i64 _= .int .i64 ((i+3:Nat):Int) by congr 1)))<|hy (fun _=>ab rfl)<|ai<|al (ρ' :=[(7,_),(91,_),(5,_),(10,_),(86,_),(78,_),(9,_),(58,_),(23,_),(8,_),(14,_),(6,_),(4,_),(0,_),(1,_)]) ⟨rfl,rfl,rfl,rfl,rfl,rfl,rfl,rfl,rfl,rfl,rfl,rfl,rfl,rfl,rfl,trivial⟩<|aO<|ag<|aj<|hy (fun _=>aa rfl)<|hy (fun _=>aN rfl rfl (bF (by omega) (by omega)))<|hy (fun _=>ab rfl)<|ai<|al (ρ' :=[(6,_),(7,_),(91,_),(5,_),(10,_),(86,_),(78,_),(9,_),(58,_),(23,_),(8,_),(14,_),(4,_),(0,_),(1,_)]) ⟨rfl,rfl,rfl,rfl,rfl,rfl,rfl,rfl,rfl,rfl,rfl,rfl,rfl,rfl,rfl,trivial⟩<| ?_
       refine pz (i+3) o2 (nn+1) A4 c4 ⟨rfl,rfl,rfl,rfl,rfl,rfl,trivial⟩ [0,0] rfl [0] rfl (⟨by omega,by omega,by omega,hU⟩) (by omega)
 ·obtain rfl:i=n:=by omega
  rw[List.drop_of_length_le (by omega),pg]at hU
  rw[←hU]
  refine bL<|ao<|ao<|aD<|ag<|ah<|aj<|hy (fun _=>aa rfl)<|hy (fun _=>aa rfl)<|hy (fun _=>cA oy rfl rfl (by kernel_rfl) (.cons (o:=0) (sz:=1) (by kernel_rfl) rfl rfl (Nat.le_of_ble_eq_true rfl) (.cons (o:=1) (sz:=1) (by kernel_rfl) rfl rfl (Nat.le_of_ble_eq_true rfl) .nil)))<| ?_
  refine cH (aJ 1 rfl rfl rfl jQ rfl kh rfl ?_)
  refine ai<|al (ρ' :=[(14,_),(5,_),(6,_),(7,_),(4,_),(0,_),(1,_)]) ⟨rfl,rfl,rfl,rfl,rfl,rfl,rfl,trivial⟩<|ak (X' :=[_,_]) (S' :=[_]) (fun _ m=>m)<|ag<|aX<| ?_
  exact fw trivial rfl rfl re jQ rfl (fun m=>(m.aZ 0 rfl).ax) [1] rfl [] rfl ⟨_,_,rfl,rfl,rfl⟩
end Go.Proofs.YtmibdabdlgmafaaGreatDoor
end
section
set_option maxRecDepth 20000
set_option maxHeartbeats 4000000
namespace Go.Proofs.YtmibdabdlgmafaaGreatDoor
open Go.Eng Go.Hx
def A9(f:List UInt8):Int:=match hC f with|none=>-1|some k=>(k:Nat)
theorem lP{f:List UInt8}(h:hC f=none):A9 f=-1:=by unfold A9;rw[h]
theorem rh{f:List UInt8}{k:Nat}(h:hC f=some k):A9 f=(k:Nat):=by unfold A9;rw[h]
theorem GG{A:Option Addr}{n c:Nat}{f:List UInt8}(hl:f.length=n)(hn:n≤10000000):cf Tryz.prog 216 [.slice A n c] [] [di 1 A n (aW f)] (fun v_ X_ S_=>v_=(.int .i64 (A9 f))∧X_=[]∧S_=[]):=by
 have hv:lf (f.drop 2)=(f.getD 2 0).toNat+256*(f.getD 3 0).toNat+65536*(f.getD 4 0).toNat+16777216*(f.getD 5 0).toNat:=by simp[lf,List.getD]
 have b0:=(f.getD 2 0).toNat_lt
 have b1:=(f.getD 3 0).toNat_lt
 have b2:=(f.getD 4 0).toNat_lt
 have b3:=(f.getD 5 0).toNat_lt
 have h76:(((f.getD 0 0).toNat:Int)≠76)↔f.getD 0 0≠76:=by
  constructor
  ·intro h e;rw[e]at h;exact h rfl
  ·intro h e;exact h (UInt8.toNat_inj.1 (by rw[show(76:UInt8).toNat=76 from rfl];omega))
 refine aP (N:=40) Tryz.func216 rfl rfl (by simp) fun b=> ?_
 refine a6 (fun m=>ig (m.rd 0 rfl)) ?_
 rintro⟨hl_r,hA_r⟩
 by_cases h1:f.length<10
 ·rw[lP (if_pos (.inl h1))]
  refine ah<|aj<|hy (fun _=>ab rfl)<|ai<|ag<|ah<|ah<|aj<|hy (fun _=>aa rfl)<|hy (fun _=>aT rfl Tryz.underlying27)<|hy (fun _=>yT (bw rfl rfl) ((decide_eq_true (by omega))))<|hy (fun _=>aa rfl)<|bI rfl rfl rfl (by decide)<|bI rfl rfl rfl (by decide)<|bI rfl rfl rfl (by decide)<|bI rfl rfl rfl (by decide)<|hy (fun _=>bT rfl rfl)<|hy (fun _=>aa rfl)<|bI rfl rfl rfl (by decide)<|bI rfl rfl rfl (by decide)<|bI rfl rfl rfl (by decide)<|bI rfl rfl rfl (by decide)<|hy (fun _=>bT rfl rfl)<|ai<|al (ρ' :=[(17,_),(2,_),(0,_)]) ⟨rfl,rfl,rfl,trivial⟩<|ag<| ?_
  refine gY rfl (rfl) ?_
  refine ah<|aj<|hy (fun _=>ab rfl)<|ai<|ag<|aX<|ay<| ?_
  exact bh trivial rfl rfl [] rfl [] rfl ⟨rfl,rfl,rfl⟩
 ·by_cases h2:f.getD 0 0≠76
  ·rw[lP (if_pos (.inr (.inl h2)))]
   refine ah<|aj<|hy (fun _=>ab rfl)<|ai<|ag<|ah<|ah<|aj<|hy (fun _=>aa rfl)<|hy (fun _=>aT rfl Tryz.underlying27)<|hy (fun _=>yF (bw rfl rfl) ((decide_eq_false (by omega))))<|hy (fun _=>aa rfl)<|dW (o:=_) rfl rfl rfl (fun _=>aa rfl)<|dW (o:=_) rfl rfl rfl (fun _=>aS rfl rfl Tryz.underlying27 dZ hA_r (show((0:Nat):Int)=0 from rfl) (by omega))<|dW (o:=_) rfl rfl rfl (fun m=>aw rfl jc ((m.rd 0 rfl).cell (bM (by omega))))<|dW (o:=_) rfl rfl rfl (fun _=>yT (cW rfl rfl) ((decide_eq_true (h76.2 h2))))<|hy (fun _=>bD rfl rfl)<|hy (fun _=>aa rfl)<|bI rfl rfl rfl (by decide)<|bI rfl rfl rfl (by decide)<|bI rfl rfl rfl (by decide)<|bI rfl rfl rfl (by decide)<|hy (fun _=>bT rfl rfl)<|ai<|al (ρ' :=[(17,_),(2,_),(0,_)]) ⟨rfl,rfl,rfl,trivial⟩<|ag<| ?_
   refine gY rfl (rfl) ?_
   refine ah<|aj<|hy (fun _=>ab rfl)<|ai<|ag<|aX<|ay<| ?_
   exact bh trivial rfl rfl [] rfl [] rfl ⟨rfl,rfl,rfl⟩
  ·by_cases h3:1<(f.getD 1 0).toNat
   ·rw[lP (if_pos (.inr (.inr h3)))]
    refine ah<|aj<|hy (fun _=>ab rfl)<|ai<|ag<|ah<|ah<|aj<|hy (fun _=>aa rfl)<|hy (fun _=>aT rfl Tryz.underlying27)<|hy (fun _=>yF (bw rfl rfl) ((decide_eq_false (by omega))))<|hy (fun _=>aa rfl)<|dW (o:=_) rfl rfl rfl (fun _=>aa rfl)<|dW (o:=_) rfl rfl rfl (fun _=>aS rfl rfl Tryz.underlying27 dZ hA_r (show((0:Nat):Int)=0 from rfl) (by omega))<|dW (o:=_) rfl rfl rfl (fun m=>aw rfl jc ((m.rd 0 rfl).cell (bM (by omega))))<|dW (o:=_) rfl rfl rfl (fun _=>yF (cW rfl rfl) ((decide_eq_false (fun q=>h2 (h76.1 q)))))<|hy (fun _=>bD rfl rfl)<|hy (fun _=>aa rfl)<|dW (o:=_) rfl rfl rfl (fun _=>aa rfl)<|dW (o:=_) rfl rfl rfl (fun _=>aS rfl rfl Tryz.underlying27 dZ hA_r (show((1:Nat):Int)=1 from rfl) (by omega))<|dW (o:=_) rfl rfl rfl (fun m=>aw rfl jc ((m.rd 0 rfl).cell (bM (by omega))))<|dW (o:=_) rfl rfl rfl (fun _=>yT (dh rfl rfl) ((decide_eq_true (by omega))))<|hy (fun _=>bD rfl rfl)<|ai<|al (ρ' :=[(17,_),(2,_),(0,_)]) ⟨rfl,rfl,rfl,trivial⟩<|ag<| ?_
    refine gY rfl (rfl) ?_
    refine ah<|aj<|hy (fun _=>ab rfl)<|ai<|ag<|aX<|ay<| ?_
    exact bh trivial rfl rfl [] rfl [] rfl ⟨rfl,rfl,rfl⟩
   ·refine ah<|aj<|hy (fun _=>ab rfl)<|ai<|ag<|ah<|ah<|aj<|hy (fun _=>aa rfl)<|hy (fun _=>aT rfl Tryz.underlying27)<|hy (fun _=>yF (bw rfl rfl) ((decide_eq_false (by omega))))<|hy (fun _=>aa rfl)<|dW (o:=_) rfl rfl rfl (fun _=>aa rfl)<|dW (o:=_) rfl rfl rfl (fun _=>aS rfl rfl Tryz.underlying27 dZ hA_r (show((0:Nat):Int)=0 from rfl) (by omega))<|dW (o:=_) rfl rfl rfl (fun m=>aw rfl jc ((m.rd 0 rfl).cell (bM (by omega))))<|dW (o:=_) rfl rfl rfl (fun _=>yF (cW rfl rfl) ((decide_eq_false (fun q=>h2 (h76.1 q)))))<|hy (fun _=>bD rfl rfl)<|hy (fun _=>aa rfl)<|dW (o:=_) rfl rfl rfl (fun _=>aa rfl)<|dW (o:=_) rfl rfl rfl (fun _=>aS rfl rfl Tryz.underlying27 dZ hA_r (show((1:Nat):Int)=1 from rfl) (by omega))<|dW (o:=_) rfl rfl rfl (fun m=>aw rfl jc ((m.rd 0 rfl).cell (bM (by omega))))<|dW (o:=_) rfl rfl rfl (fun _=>yF (dh rfl rfl) ((decide_eq_false (by omega))))<|hy (fun _=>bD rfl rfl)<|ai<|al (ρ' :=[(17,_),(2,_),(0,_)]) ⟨rfl,rfl,rfl,trivial⟩<|ag<| ?_
    refine dB rfl (rfl) ?_
    have hL:hC f=some (lf (f.drop 2)):=if_neg (fun q=>q.elim h1 (fun q=>q.elim h2 h3))
    rw[rh hL]
    refine aB<|ag<|ah<|cT [] [(0,some 0),(1,some 0),(2,some 0),(3,some 0),(4,some 0),(5,some 0),(6,some 0),(7,some 0),(8,some 0),(9,some 0),(10,some 0),(11,some 0),(12,some 0),(13,some 0),(14,some 0),(15,some 0),(16,some 0),(17,some 0),(18,some 0),(19,some 0),(20,some 0),(21,some 0),(22,some 0)] (by kernel_rfl) (by kernel_rfl) rfl 99<|an (aa rfl)<|an (aS rfl rfl Tryz.underlying27 dZ hA_r (show((2:Nat):Int)=2 from rfl) (by omega))<|cq (fun m=>aw rfl jc ((m.rd 0 rfl).cell (bM (by omega))))<|an (bX rfl Tryz.underlying5 Tryz.underlying3 (Bw _))<|an (aa rfl)<|an (aS rfl rfl Tryz.underlying27 dZ hA_r (show((3:Nat):Int)=3 from rfl) (by omega))<|cq (fun m=>aw rfl jc ((m.rd 0 rfl).cell (bM (by omega))))<|an (bX rfl Tryz.underlying5 Tryz.underlying3 (Bw _))<|an (fN rfl rfl (bF (by omega) (by omega)))<|an (aN rfl rfl (bF (by omega) (by omega)))<|an (aa rfl)<|an (aS rfl rfl Tryz.underlying27 dZ hA_r (show((4:Nat):Int)=4 from rfl) (by omega))<|cq (fun m=>aw rfl jc ((m.rd 0 rfl).cell (bM (by omega))))<|an (bX rfl Tryz.underlying5 Tryz.underlying3 (Bw _))<|an (fN rfl rfl (bF (by omega) (by omega)))<|an (aN rfl rfl (bF (by omega) (by omega)))<|an (aa rfl)<|an (aS rfl rfl Tryz.underlying27 dZ hA_r (show((5:Nat):Int)=5 from rfl) (by omega))<|cq (fun m=>aw rfl jc ((m.rd 0 rfl).cell (bM (by omega))))<|an (bX rfl Tryz.underlying5 Tryz.underlying3 (Bw _))<|an (fN rfl rfl (bF (by omega) (by omega)))<|an (yV (aN rfl rfl (bF (by omega) (by omega))) ((show Value.int .i64 (((f.getD 2 0).toNat:Int)+256*((f.getD 3 0).toNat:Int)+65536*((f.getD 4 0).toNat:Int)+16777216*((f.getD 5 0).toNat:Int))= .int .i64 (lf (f.drop 2):Nat) by rw[hv];congr 1)))<|an (ab rfl)<|bz<|al (ρ' :=[(2,_),(17,_),(0,_)]) ⟨rfl,rfl,rfl,trivial⟩<|ag<|aX<| ?_
    exact bh trivial rfl rfl [] rfl [] rfl ⟨rfl,rfl,rfl⟩
theorem nC{f u:List UInt8}{k:Nat}(h:vf f k=(u,0)):gj f k=if u.length≠k then([],2)else if gP (da u)≠f.drop (f.length-4)then([],7)else(u,0):=by
 unfold gj
 rw[h]
 exact if_neg (by simp)
theorem A6{f:List UInt8}{k:Nat}(h:(vf f k).2≠0):gj f k=([],2):=by
 unfold gj
 exact if_pos h
theorem EC{A:Option Addr}{n c:Nat}{f:List UInt8}{most:Int}(hc:n≤c)(hl:f.length=n)(hn:n≤10000000)(hm:most≤1000000):cf Tryz.prog 156 [.slice A n c,.int .i64 most] [] [di 1 A n (aW f)] (fun v_ X_ S_=>∃A1 c1,v_=(.tuple #[.slice A1 (dp f most).1.length c1,.int .i64 (dp f most).2])∧X_=[]∧S_=[di 1 A1 (dp f most).1.length (aW (dp f most).1)]∧((dp f most).1.length≤c1)):=by
 refine aP (N:=48) Tryz.func156 rfl rfl (by simp) fun b=> ?_
 refine a6 (fun m=>ig (m.rd 0 rfl)) ?_
 rintro⟨hl_r,hA_r⟩
 refine ah<|aj<|hy (fun _=>ab rfl)<|hy (fun _=>ab rfl)<|ai<|ag<|ah<|aj<|hy (fun _=>aa rfl)<| ?_
 refine hx (aq rfl Tryz.call216 (GG hl hn) [] rfl [0] rfl ?_)
 rintro _ _ _ ⟨rfl,rfl,rfl⟩
 refine hy (fun _=>ab rfl)<|ai<|al (ρ' :=[(6,_),(5,_),(4,_),(0,_),(1,_)]) ⟨rfl,rfl,rfl,rfl,rfl,trivial⟩<|ak (X' :=[]) (S' :=[_]) (fun _ m=>m)<|ag<|ah<|ah<|aj<|hy (fun _=>aa rfl)<|hy (fun _=>bw rfl rfl)<|ai<|al (ρ' :=[(12,_),(6,_),(5,_),(4,_),(0,_),(1,_)]) ⟨rfl,rfl,rfl,rfl,rfl,rfl,trivial⟩<|ag<| ?_
 rcases hL:hC f with _|k
 ·refine gY rfl ((decide_eq_true (by rw[lP hL];decide))) ?_
  rw[(pE hL)]
  refine ah<|aj<|hy (fun _=>ab rfl)<|hy (fun _=>ab rfl)<|ai<|ag<|aX<|ay<| ?_
  refine ak (fun w m=>m.ob (r' :=di 1 none 0 []) (.refl _ _) (Rd.nil _ _ _) (fun k hk=>absurd rfl hk.1)) ?_
  have hA_z:0<0→(none:Option Addr)≠none:=fun h=>absurd h (by decide)
  exact dy trivial rfl rfl rfl [] rfl [0] rfl ⟨none,0,rfl,rfl,rfl,(Nat.le_refl _)⟩
 ·rw[rh hL]
  refine dB rfl ((decide_eq_false (by omega))) ?_
  refine aB<|ag<|ah<|ah<|aj<|hy (fun _=>aa rfl)<|hy (fun _=>aa rfl)<|hy (fun _=>dh rfl rfl)<|ai<|al (ρ' :=[(15,_),(12,_),(6,_),(5,_),(4,_),(0,_),(1,_)]) ⟨rfl,rfl,rfl,rfl,rfl,rfl,rfl,trivial⟩<|ag<| ?_
  refine cG rfl (fun hfar=> ?_) (fun hfar=> ?_)
  ·rw[(rE hL (by omega))]
   refine ah<|aj<|hy (fun _=>ab rfl)<|hy (fun _=>ab rfl)<|ai<|ag<|aX<|ay<| ?_
   refine ak (fun w m=>m.ob (r' :=di 1 none 0 []) (.refl _ _) (Rd.nil _ _ _) (fun k hk=>absurd rfl hk.1)) ?_
   have hA_z:0<0→(none:Option Addr)≠none:=fun h=>absurd h (by decide)
   exact dy trivial rfl rfl rfl [] rfl [0] rfl ⟨none,0,rfl,rfl,rfl,(Nat.le_refl _)⟩
  ·obtain⟨h10,hk32⟩:=tZ hL
   have hopen:=uk hL (by omega)
   refine bC (fun w m=>m.jL 0 rfl (View.sub (n:=n) (c:=c) (k:=6) (m:=n-4-6) (by omega) (by omega))) ?_
   refine a6 (fun m=>ig (m.rd 0 rfl)) ?_
   rintro⟨hl_p,hA_p⟩
   have hbl:n-4-6=(dI f).length:=by unfold dI;rw[List.length_take,List.length_drop];omega
   have hb2:(f.drop 6).take (n-4-6)=dI f:=by unfold dI;rw[show n-4-6=f.length-10 by omega]
   rw[hb2]
   refine aB<|ag<|ah<|aj<|hy (fun _=>aa rfl)<|hy (fun _=>aa rfl)<|hy (fun _=>aT rfl Tryz.underlying27)<|hy (fun _=>cp rfl rfl (bF (by omega) (by omega)))<|hy (fun _=>eZ rfl rfl rfl Tryz.underlying27 dZ (show((6:Nat):Int)=6 from rfl) (show((n-4:Nat):Int)=_ by omega) (by omega) (by omega))<|hy (fun _=>ab rfl)<|ai<|al (ρ' :=[(7,_),(15,_),(12,_),(6,_),(5,_),(4,_),(0,_),(1,_)]) ⟨rfl,rfl,rfl,rfl,rfl,rfl,rfl,rfl,trivial⟩<|ag<|ah<|ah<|aj<|hy (fun _=>aa rfl)<|hy (fun _=>aS rfl rfl Tryz.underlying27 dZ hA_r (show((1:Nat):Int)=1 from rfl) (by omega))<|hy (fun m=>aw rfl jc ((m.rd 1 rfl).cell (bM (by omega))))<|hy (fun _=>cM rfl rfl)<|ai<|al (ρ' :=[(24,_),(7,_),(15,_),(12,_),(6,_),(5,_),(4,_),(0,_),(1,_)]) ⟨rfl,rfl,rfl,rfl,rfl,rfl,rfl,rfl,rfl,trivial⟩<|ag<| ?_
   refine cG rfl (fun h1=> ?_) (fun h1=> ?_)
   ·have hf1:f.getD 1 0=1:=UInt8.toNat_inj.1 (by rw[show(1:UInt8).toNat=1 from rfl];omega)
    have hun:vf f k=j8 k (dI f) []:=if_pos hf1
    refine ah<|aj<|hy (fun _=>aa rfl)<|hy (fun _=>aa rfl)<| ?_
    refine hx (aq rfl Tryz.call217 (yQ (show n-4-6≤c-6 by omega) (by omega) hbl.symm (show(k:Int)≤10000000 by omega) (l:=(dI f))) [] rfl [0] rfl ?_)
    rintro _ _ _ ⟨v,nn,rfl,rfl,rfl⟩
    refine aA (fun m=>(m.own 0 rfl).slice) ?_
    rintro⟨A_x,c_x,rfl,hc_x⟩
    refine aA (fun m=>(m.ord 0 rfl).2.1) fun hA_x=> ?_
    refine hx (aM oy (fun g8=> ?_))
    refine cH (aJ 0 rfl rfl rfl jQ rfl kh rfl ?_)
    refine ai<|al (ρ' :=[(8,_),(24,_),(7,_),(15,_),(12,_),(6,_),(5,_),(4,_),(0,_),(1,_)]) ⟨rfl,rfl,rfl,rfl,rfl,rfl,rfl,rfl,rfl,rfl,trivial⟩<|ak (X' :=[_,_]) (S' :=[_,_]) (fun _ m=>m)<|ag<|ah<|ah<|aj<|hy (fun _=>aI rfl C0 (by decide))<|hy (fun m=>aw rfl lT (aE (m.aZ 0 rfl) (i:=2) rfl))<|hy (fun _=>cW rfl rfl)<|ai<|al (ρ' :=[(30,_),(8,_),(24,_),(7,_),(15,_),(12,_),(6,_),(5,_),(4,_),(0,_),(1,_)]) ⟨rfl,rfl,rfl,rfl,rfl,rfl,rfl,rfl,rfl,rfl,rfl,trivial⟩<|ag<| ?_
    refine cG rfl (fun he=> ?_) (fun he=> ?_)
    ·have hz:dp f most=([],2):=by rw[hopen,A6 (by rw[hun];exact he)]
     rw[hz]
     refine ah<|aj<|hy (fun _=>ab rfl)<|hy (fun _=>ab rfl)<|ai<|ag<|aX<|ay<|ay<| ?_
     refine ak (fun w m=>m.ob (r' :=di 1 none 0 []) (.refl _ _) (Rd.nil _ _ _) (fun k hk=>absurd rfl hk.1)) ?_
     have hA_z:0<0→(none:Option Addr)≠none:=fun h=>absurd h (by decide)
     exact dy trivial rfl rfl rfl [] rfl [0] rfl ⟨none,0,rfl,rfl,rfl,(Nat.le_refl _)⟩
    ·have he:=Decidable.not_not.1 he
     have hun2:vf f k=((j8 k (dI f) []).1,0):=by rw[hun];exact Prod.ext rfl he
     refine bC (fun w m=>(m.perm (au [1] _ [_] _ rfl)).freeze) ?_
     refine bC (fun w m=>m.jL 0 rfl .own) ?_
     generalize(j8 k (dI f) []).1=u at hc_x hA_x hun2 ⊢
     refine aB<|ag<|aj<|hy (fun _=>aI rfl BL (by decide))<|hy (fun m=>aw rfl eh (aE (m.aZ 0 rfl) (i:=0) rfl))<|hy (fun _=>ab rfl)<|ai<|al (ρ' :=[(7,_),(30,_),(8,_),(24,_),(15,_),(12,_),(6,_),(5,_),(4,_),(0,_),(1,_)]) ⟨rfl,rfl,rfl,rfl,rfl,rfl,rfl,rfl,rfl,rfl,rfl,trivial⟩<|ag<|ah<|ah<|aj<|hy (fun _=>aa rfl)<|hy (fun _=>aT rfl Tryz.underlying27)<|hy (fun _=>aa rfl)<|hy (fun _=>cW rfl rfl)<|ai<|al (ρ' :=[(36,_),(7,_),(30,_),(8,_),(24,_),(15,_),(12,_),(6,_),(5,_),(4,_),(0,_),(1,_)]) ⟨rfl,rfl,rfl,rfl,rfl,rfl,rfl,rfl,rfl,rfl,rfl,rfl,trivial⟩<|ag<| ?_
     refine cG rfl (fun h36=> ?_) (fun h36=> ?_)
     ·have hz:dp f most=([],2):=by rw[hopen,nC hun2];exact if_pos (by omega)
      rw[hz]
      refine ah<|aj<|hy (fun _=>ab rfl)<|hy (fun _=>ab rfl)<|ai<|ag<|aX<|ay<| ?_
      refine ak (fun w m=>m.ob (r' :=di 1 none 0 []) (.refl _ _) (Rd.nil _ _ _) (fun k hk=>absurd rfl hk.1)) ?_
      have hA_z:0<0→(none:Option Addr)≠none:=fun h=>absurd h (by decide)
      exact dy trivial rfl rfl rfl [] rfl [0] rfl ⟨none,0,rfl,rfl,rfl,(Nat.le_refl _)⟩
     ·have hlu:(u).length=k:=by omega
      have hgo:dp f most=if gP (da u)≠f.drop (f.length-4)then([],7)else(u,0):=by rw[hopen,nC hun2];exact if_neg (fun q=>q hlu)
      refine bC (fun w m=>m.jL 3 rfl (View.drop (n:=n) (c:=c) (k:=n-4) (by omega) (by omega))) ?_
      refine a6 (fun m=>ig (m.rd 0 rfl)) ?_
      rintro⟨hl_e4,hA_e4⟩
      refine aB<|ag<|ah<|ah<|cT [1,2] [(0,some 0),(3,some 2),(4,some 2),(5,some 2),(6,some 2),(7,some 2),(8,some 2),(1,none),(2,none),(9,some 2)] (by kernel_rfl) (by kernel_rfl) rfl 99<|an (aa rfl)<|an (aa rfl)<|an (aa rfl)<|an (aT rfl Tryz.underlying27)<|an (cp rfl rfl (bF (by omega) (by omega)))<|an (dE rfl rfl Tryz.underlying27 dZ (show((n-4:Nat):Int)=_ by omega) (by omega))<|cq (fun m=>kF rfl Tryz.underlying27 Tryz.underlying5 Tryz.underlying9 (m.rd 0 rfl))<| ?_
      refine ek (aq rfl Tryz.call161 (v7 hc_x (by omega) rfl (l:=u)) [] rfl [1] rfl ?_)
      rintro _ _ _ ⟨v2,rfl,rfl,rfl⟩
      refine⟨(fun _=>wk [1] [0,1,2,3,4] rfl rfl), ?_⟩
      refine cm (fun m=>(m.own 0 rfl).slice) ?_
      rintro⟨A_x2,c_x2,rfl,hc_x2⟩
      refine cm (fun m=>(m.ord 0 rfl).2.1) fun hA_x2=> ?_
      refine D3 (fun _=>wk [1] [0,1,2,3,4] rfl rfl) (fun m=>kF rfl Tryz.underlying27 Tryz.underlying5 Tryz.underlying9 (m.ord 0 rfl))<|an (oC rfl rfl)<|bz<|al (ρ' :=[(46,_),(36,_),(7,_),(30,_),(8,_),(24,_),(15,_),(12,_),(6,_),(5,_),(4,_),(0,_),(1,_)]) ⟨rfl,rfl,rfl,rfl,rfl,rfl,rfl,rfl,rfl,rfl,rfl,rfl,rfl,trivial⟩<|ak (X' :=[_,_]) (S' :=[_,_,_,_,_]) (fun _ m=>m)<|ag<| ?_
      refine cG rfl (fun h46=> ?_) (fun h46=> ?_)
      ·have hz:dp f most=([],7):=by rw[hgo];exact if_pos (fun e=>h46 (by rw[e,hl]))
       rw[hz]
       refine ah<|aj<|hy (fun _=>ab rfl)<|hy (fun _=>ab rfl)<|ai<|ag<|aX<|ay<| ?_
       refine ak (fun w m=>m.ob (r' :=di 1 none 0 []) (.refl _ _) (Rd.nil _ _ _) (fun k hk=>absurd rfl hk.1)) ?_
       have hA_z:0<0→(none:Option Addr)≠none:=fun h=>absurd h (by decide)
       exact dy trivial rfl rfl rfl [] rfl [0] rfl ⟨none,0,rfl,rfl,rfl,(Nat.le_refl _)⟩
      ·have h46:=cN.1 (Decidable.not_not.1 h46)
       have hz:dp f most=(u,0):=by rw[hgo];exact if_neg (fun q=>q (by rw[h46,hl]))
       rw[hz]
       refine aB<|ag<|ah<|aj<|hy (fun _=>aa rfl)<|hy (fun _=>ab rfl)<|hy (fun _=>ab rfl)<|ai<|al (ρ' :=[(5,_),(4,_),(46,_),(36,_),(7,_),(30,_),(8,_),(24,_),(15,_),(12,_),(6,_),(0,_),(1,_)]) ⟨rfl,rfl,rfl,rfl,rfl,rfl,rfl,rfl,rfl,rfl,rfl,rfl,rfl,trivial⟩<|ag<|aX<| ?_
       exact dy trivial rfl rfl rfl [] rfl [1] rfl ⟨_,_,rfl,rfl,rfl,hc_x⟩
   ·have hf1:¬f.getD 1 0=1:=fun q=>h1 (by rw[q];rfl)
    have hun:vf f k=(dI f,0):=if_neg hf1
    rw[hbl]
    refine aB<|ag<|ah<|ah<|aj<|hy (fun _=>aa rfl)<|hy (fun _=>aT rfl Tryz.underlying27)<|hy (fun _=>aa rfl)<|hy (fun _=>cW rfl rfl)<|ai<|al (ρ' :=[(36,_),(24,_),(7,_),(15,_),(12,_),(6,_),(5,_),(4,_),(0,_),(1,_)]) ⟨rfl,rfl,rfl,rfl,rfl,rfl,rfl,rfl,rfl,rfl,trivial⟩<|ag<| ?_
    refine cG rfl (fun h36=> ?_) (fun h36=> ?_)
    ·have hz:dp f most=([],2):=by rw[hopen,nC hun];exact if_pos (by omega)
     rw[hz]
     refine ah<|aj<|hy (fun _=>ab rfl)<|hy (fun _=>ab rfl)<|ai<|ag<|aX<|ay<| ?_
     refine ak (fun w m=>m.ob (r' :=di 1 none 0 []) (.refl _ _) (Rd.nil _ _ _) (fun k hk=>absurd rfl hk.1)) ?_
     have hA_z:0<0→(none:Option Addr)≠none:=fun h=>absurd h (by decide)
     exact dy trivial rfl rfl rfl [] rfl [0] rfl ⟨none,0,rfl,rfl,rfl,(Nat.le_refl _)⟩
    ·have hlu:((dI f)).length=k:=by omega
     have hgo:dp f most=if gP (da (dI f))≠f.drop (f.length-4)then([],7)else((dI f),0):=by rw[hopen,nC hun];exact if_neg (fun q=>q hlu)
     refine bC (fun w m=>m.jL 1 rfl (View.drop (n:=n) (c:=c) (k:=n-4) (by omega) (by omega))) ?_
     refine a6 (fun m=>ig (m.rd 0 rfl)) ?_
     rintro⟨hl_e4,hA_e4⟩
     refine aB<|ag<|ah<|ah<|cT [1,2] [(0,some 0),(3,some 2),(4,some 2),(5,some 2),(6,some 2),(7,some 2),(8,some 2),(1,none),(2,none),(9,some 2)] (by kernel_rfl) (by kernel_rfl) rfl 99<|an (aa rfl)<|an (aa rfl)<|an (aa rfl)<|an (aT rfl Tryz.underlying27)<|an (cp rfl rfl (bF (by omega) (by omega)))<|an (dE rfl rfl Tryz.underlying27 dZ (show((n-4:Nat):Int)=_ by omega) (by omega))<|cq (fun m=>kF rfl Tryz.underlying27 Tryz.underlying5 Tryz.underlying9 (m.rd 0 rfl))<| ?_
     refine ek (aq rfl Tryz.call161 (v7 (show(dI f).length≤c-6 by omega) (by omega) rfl (l:=(dI f))) [] rfl [1] rfl ?_)
     rintro _ _ _ ⟨v,rfl,rfl,rfl⟩
     refine⟨(fun _=>wk [] [0,1,2] rfl rfl), ?_⟩
     refine cm (fun m=>(m.own 0 rfl).slice) ?_
     rintro⟨A_x,c_x,rfl,hc_x⟩
     refine cm (fun m=>(m.ord 0 rfl).2.1) fun hA_x=> ?_
     refine D3 (fun _=>wk [] [0,1,2] rfl rfl) (fun m=>kF rfl Tryz.underlying27 Tryz.underlying5 Tryz.underlying9 (m.ord 0 rfl))<|an (oC rfl rfl)<|bz<|al (ρ' :=[(46,_),(36,_),(24,_),(7,_),(15,_),(12,_),(6,_),(5,_),(4,_),(0,_),(1,_)]) ⟨rfl,rfl,rfl,rfl,rfl,rfl,rfl,rfl,rfl,rfl,rfl,trivial⟩<|ak (X' :=[_]) (S' :=[_,_,_]) (fun _ m=>m)<|ag<| ?_
     refine cG rfl (fun h46=> ?_) (fun h46=> ?_)
     ·have hz:dp f most=([],7):=by rw[hgo];exact if_pos (fun e=>h46 (by rw[e,hl]))
      rw[hz]
      refine ah<|aj<|hy (fun _=>ab rfl)<|hy (fun _=>ab rfl)<|ai<|ag<|aX<|ay<| ?_
      refine ak (fun w m=>m.ob (r' :=di 1 none 0 []) (.refl _ _) (Rd.nil _ _ _) (fun k hk=>absurd rfl hk.1)) ?_
      have hA_z:0<0→(none:Option Addr)≠none:=fun h=>absurd h (by decide)
      exact dy trivial rfl rfl rfl [] rfl [0] rfl ⟨none,0,rfl,rfl,rfl,(Nat.le_refl _)⟩
     ·have h46:=cN.1 (Decidable.not_not.1 h46)
      have hz:dp f most=((dI f),0):=by rw[hgo];exact if_neg (fun q=>q (by rw[h46,hl]))
      rw[hz]
      refine aB<|ag<|ah<|aj<|hy (fun _=>aa rfl)<|hy (fun _=>ab rfl)<|hy (fun _=>ab rfl)<|ai<|al (ρ' :=[(5,_),(4,_),(46,_),(36,_),(24,_),(7,_),(15,_),(12,_),(6,_),(0,_),(1,_)]) ⟨rfl,rfl,rfl,rfl,rfl,rfl,rfl,rfl,rfl,rfl,rfl,trivial⟩<|ag<|aX<| ?_
      exact dy trivial rfl rfl rfl [] rfl [1] rfl ⟨_,_,rfl,rfl,rfl,(show(dI f).length≤c-6 by omega)⟩
end Go.Proofs.YtmibdabdlgmafaaGreatDoor
end
section
set_option maxRecDepth 20000
namespace Go.Proofs.YtmibdabdlgmafaaGreatDoor
open Go.Eng Go.Hx
theorem jC{x:UInt32}{n:Nat}(hn:n≤32):cf Tryz.prog 204 [Wd x,.int .i64 (n:Int)] [] [] (fun v_ X_ S_=>v_=(Wd (kQ n x))∧X_=[]∧S_=[]):=by
 refine aP (N:=18) Tryz.func204 rfl rfl (by simp) fun b=> ?_
 refine ah<|aj<|hy (fun _=>ab rfl)<|ai<|ag<|ah<|ah<|aj<|hy (fun _=>ab rfl)<|ai<|ag<|aK<| ?_
 refine vW (fun i y=>n-i) (fun i y=>[(0,Wd y),(5,.int .i64 (i:Nat))]) (fun i y=>[]) (fun i y=>[]) (fun i y=>i≤n∧y=kQ i x) 0 x [(4,_),(1,_)] ⟨rfl,rfl,trivial⟩ [] rfl [] rfl (⟨Nat.zero_le _,(xQ x).symm⟩) ⟨rfl,rfl,trivial⟩ (fun i y ⟨hin,hyv⟩=> ?_)
 refine ah<|ah<|aj<|hy (fun _=>aa rfl)<|hy (fun _=>aa rfl)<|hy (fun _=>bw rfl rfl)<|ai<|al (ρ' :=[(8,_),(0,_),(5,_),(4,_),(1,_)]) ⟨rfl,rfl,rfl,rfl,rfl,trivial⟩<|ag<| ?_
 refine cG rfl (fun h=> ?_) (fun h=> ?_)
 ·refine aB<|ag<|ah<|aK<|aj<|hy (fun _=>aa rfl)<|hy (fun _=>sy (b:=2) (by decide) rfl rfl)<|hy (fun _=>aa rfl)<|hy (fun _=>yY (b:=2) (by decide) rfl rfl)<|hy (fun _=>sh (b:=2147483648) rfl rfl)<|hy (fun _=>yV (dF rfl rfl) ((rfl:_=Wd (uq y))))<|hy (fun _=>ab rfl)<|ai<|al (ρ' :=[(0,_),(8,_),(5,_),(4,_),(1,_)]) ⟨rfl,rfl,rfl,rfl,rfl,trivial⟩<|aO<|ag<|aj<|hy (fun _=>aa rfl)<|hy (fun _=>aN rfl rfl (bF (by omega) (by omega)))<|hy (fun _=>ab rfl)<|ai<|al (ρ' :=[(5,_),(0,_),(8,_),(4,_),(1,_)]) ⟨rfl,rfl,rfl,rfl,rfl,trivial⟩<| ?_
  refine sR (i+1) (uq y) ⟨rfl,rfl,rfl,rfl,trivial⟩ [] rfl [] rfl (⟨by omega,by rw[hyv,yI (by omega)]⟩) (by omega)
 ·obtain rfl:i=n:=by omega
  subst hyv
  refine bL<|ao<|ao<|aD<|ag<|ah<|aj<|hy (fun _=>aa rfl)<|hy (fun _=>ab rfl)<|ai<|al (ρ' :=[(4,_),(8,_),(0,_),(5,_),(1,_)]) ⟨rfl,rfl,rfl,rfl,rfl,trivial⟩<|ag<|aX<| ?_
  exact bh trivial rfl rfl [] rfl [] rfl ⟨rfl,rfl,rfl⟩
theorem Fv{A:Option Addr}{n c:Nat}{l:List UInt8}{i:Nat}(hi:i+4≤n)(hn:n≤1000000000000):cf Tryz.prog 203 [.slice A n c,.int .i64 (i:Int)] [] [di 1 A n (aW l)] (fun v_ X_ S_=>v_=(Wd (lp l i))∧X_=[]∧S_=[]):=by
 refine aP (N:=34) Tryz.func203 rfl rfl (by simp) fun b=> ?_
 refine a6 (fun m=>ig (m.rd 0 rfl)) ?_
 rintro⟨hl_r,hA_r⟩
 have hl:l.length=n:=hl_r
 refine ah<|aj<|hy (fun _=>ab rfl)<|ai<|ag<|ah<|cT [] [(0,some 0),(1,some 0),(2,some 0),(3,some 0),(4,some 0),(5,some 0),(6,some 0),(7,some 0),(8,some 0),(9,some 0),(10,some 0),(11,some 0),(12,some 0),(13,some 0),(14,some 0),(15,some 0),(16,some 0),(17,some 0),(18,some 0),(19,some 0),(20,some 0),(21,some 0),(22,some 0),(23,some 0),(24,some 0),(25,some 0),(26,some 0),(27,some 0),(28,some 0),(29,some 0)] (by kernel_rfl) (by kernel_rfl) rfl 99<|an (aa rfl)<|an (aa rfl)<|an (aS rfl rfl Tryz.underlying27 dZ hA_r rfl (by omega))<|cq (fun m=>aw rfl jc ((m.rd 0 rfl).cell (bM (by omega))))<|an (AX rfl Tryz.underlying5 Tryz.underlying166)<|an (sh (b:=16777216) rfl rfl)<|an (aa rfl)<|an (aa rfl)<|an (aN rfl rfl (bF (by omega) (by omega)))<|an (aS rfl rfl Tryz.underlying27 dZ hA_r (show((i+1:Nat):Int)=_ by omega) (by omega))<|cq (fun m=>aw rfl jc ((m.rd 0 rfl).cell (bM (by omega))))<|an (AX rfl Tryz.underlying5 Tryz.underlying166)<|an (sh (b:=65536) rfl rfl)<|an (dF rfl rfl)<|an (aa rfl)<|an (aa rfl)<|an (aN rfl rfl (bF (by omega) (by omega)))<|an (aS rfl rfl Tryz.underlying27 dZ hA_r (show((i+2:Nat):Int)=_ by omega) (by omega))<|cq (fun m=>aw rfl jc ((m.rd 0 rfl).cell (bM (by omega))))<|an (AX rfl Tryz.underlying5 Tryz.underlying166)<|an (sh (b:=256) rfl rfl)<|an (dF rfl rfl)<|an (aa rfl)<|an (aa rfl)<|an (aN rfl rfl (bF (by omega) (by omega)))<|an (aS rfl rfl Tryz.underlying27 dZ hA_r (show((i+3:Nat):Int)=_ by omega) (by omega))<|cq (fun m=>aw rfl jc ((m.rd 0 rfl).cell (bM (by omega))))<|an (AX rfl Tryz.underlying5 Tryz.underlying166)<|an (yV (dF rfl rfl) ((show Wd ((l.getD i 0).toUInt32*16777216+(l.getD (i+1) 0).toUInt32*65536+(l.getD (i+2) 0).toUInt32*256+(l.getD (i+3) 0).toUInt32)=Wd (lp l i) by rw[xV])))<|an (ab rfl)<|bz<|al (ρ' :=[(4,_),(0,_),(1,_)]) ⟨rfl,rfl,rfl,trivial⟩<|ag<|aX<| ?_
 exact bh trivial rfl rfl [] rfl [] rfl ⟨rfl,rfl,rfl⟩
theorem CU:cf Tryz.prog 202 [] [] [] (fun v_ X_ S_=>∃v,v_=v∧X_=[aH 166 1 v 64 (ez fP)]∧S_=[]):=by
 refine aP (N:=2) Tryz.func202 rfl rfl (by simp) fun b=> ?_
 refine ah<|aj<|hy (fun _=>ab rfl)<|ai<|ag<|ah<|aj<| ?_
 refine hx (b6 Tryz.underlying215 oG rfl rfl rfl (by decide) (by decide) (by decide) (fun g1=> ?_))
 have hA_b1:0<64→(some (⟨g1,0,none⟩:Addr))≠none:=fun _ h=>by cases h
 refine hy (fun _=>ab rfl)<|ai<|al (ρ' :=[(0,_)]) ⟨rfl,trivial⟩<|ak (X' :=[_]) (S' :=[]) (fun _ m=>m)<|ag<|aX<| ?_
 refine ak (fun w m=>m.bN 0 rfl (show _=aH 166 1 (.slice (some ⟨g1,0,none⟩) 64 64) 64 (ez fP)from rfl)) ?_
 exact bh trivial rfl rfl [0] rfl [] rfl ⟨_,rfl,rfl,rfl⟩
theorem CT{H:Option Addr}{hc:Nat}{A:Option Addr}{c:Nat}{l:List UInt8}{h:List UInt32}(hcc:64≤c)(hh:h.length=8):cf Tryz.prog 142 [.slice H 8 hc,.slice A 64 c] [] [di 1 H 8 (ez h),di 1 A 64 (aW l)] (fun v_ X_ S_=>∃u,v_=u∧X_=[aH 166 1 u 8 (ez (eI h l))]∧S_=[]):=by
 refine aP (N:=230) Tryz.func142 rfl rfl (by simp) fun b=> ?_
 refine a6 (fun m=>gX (m.rd 0 rfl)) ?_
 rintro⟨hl_q,hA_q⟩
 refine a6 (fun m=>ig (m.rd 1 rfl)) ?_
 rintro⟨hl_r,hA_r⟩
 have hl:l.length=64:=hl_r
 refine ah<|aj<|hy (fun _=>ab rfl)<|ai<|ag<|ah<|aj<| ?_
 refine hx (aq rfl Tryz.call202 (CU) [] rfl [] rfl ?_)
 rintro _ _ _ ⟨v,rfl,rfl,rfl⟩
 refine aA (fun m=>(m.own 0 rfl).slice) ?_
 rintro⟨A_x,c_x,rfl,hc_x⟩
 refine aA (fun m=>(m.ord 0 rfl).2.1) fun hA_x=> ?_
 refine hy (fun _=>ab rfl)<|ai<|al (ρ' :=[(5,_),(4,_),(0,_),(1,_)]) ⟨rfl,rfl,rfl,rfl,trivial⟩<|ak (X' :=[_]) (S' :=[_,_]) (fun _ m=>m)<|ag<|ah<|aj<|hy (fun _=>ab rfl)<|ai<|ag<|ah<|ah<|aj<|hy (fun _=>ab rfl)<|ai<|ag<|aK<| ?_
 refine bC (fun w m=>m.dj (r' :=aH 166 1 (.slice none 0 0) 0 []) (.refl _ _) (Own.nil _ _ _ _) (fun k hk=>hk.elim)) ?_
 refine bC (fun w m=>m.bN 0 rfl (show _=aH 166 1 (.slice none 0 0) 0 (ez (wl l 0))from rfl)) ?_
 refine fS (fun i A1 c1=>16-i) (fun i A1 c1=>[(6,.slice A1 i c1),(7,.int .i64 (i:Nat))]) (fun i A1 c1=>[aH 166 1 (.slice A1 i c1) i (ez (wl l i))]) (fun i A1 c1=>[]) (fun i A1 c1=>i≤16) 0 none 0 [(5,_),(4,_),(0,_),(1,_)] ⟨rfl,rfl,rfl,rfl,trivial⟩ [0] rfl [] rfl (Nat.zero_le _) ⟨rfl,rfl,trivial⟩ (fun i A1 c1 hI=> ?_)
 refine ah<|ah<|aj<|hy (fun _=>aa rfl)<|hy (fun _=>bw rfl rfl)<|ai<|al (ρ' :=[(21,_),(6,_),(7,_),(5,_),(4,_),(0,_),(1,_)]) ⟨rfl,rfl,rfl,rfl,rfl,rfl,rfl,trivial⟩<|ag<| ?_
 refine cG rfl (fun hlt=> ?_) (fun hlt=> ?_)
 ·have hws:wl l (i+1)=wl l i++[lp l (4*i)]:=by rw[wl,if_pos (by omega)]
  refine aB<|ag<|ah<|aK<|aj<|hy (fun _=>aa rfl)<|hy (fun _=>aa rfl)<|hy (fun _=>aa rfl)<|hy (fun _=>fN rfl rfl (bF (by omega) (by omega)))<| ?_
  rw[show(4:Int)*(i:Int)=((4*i:Nat):Int) by omega]
  refine hx (aq rfl Tryz.call203 (Fv (by omega) (by omega) (i:=4*i)) [] rfl [1] rfl ?_)
  rintro _ _ _ ⟨rfl,rfl,rfl⟩
  refine hx (b6 Tryz.underlying215 oG rfl rfl rfl (by simp[Value.cells,B8]) (by decide) (by decide) (fun g29=> ?_))
  have hA_b29:0<1→(some (⟨g29,0,none⟩:Addr))≠none:=fun _ h=>by cases h
  refine aQ (fun w m=>m.bN 0 rfl (show _=aH 166 1 (.slice (some ⟨g29,0,none⟩) 1 1) 1 (ez [lp l (4*i)])from rfl)) ?_
  refine hx (bx 1 rfl rfl rfl Tryz.underlying215 Tryz.underlying215 (by exact .inl rfl) oG rfl (fun m=>Src.bR (m.ord 0 rfl)) iu (by unfold maxLen;omega) (by omega) (fun u=> ?_))
  refine aA (fun m=>(m.own 0 rfl).slice) ?_
  rintro⟨A_o,c_o,rfl,hc_o⟩
  refine aA (fun m=>(m.ord 0 rfl).2.1) fun hA_o=> ?_
  refine aQ (fun w m=>m.bN 0 rfl (show _=aH 166 1 (.slice A_o (i+1) c_o) (i+1) (ez (wl l (i+1)))from by rw[hws,p7])) ?_
  refine hy (fun _=>ab rfl)<|ai<|al (ρ' :=[(6,_),(21,_),(7,_),(5,_),(4,_),(0,_),(1,_)]) ⟨rfl,rfl,rfl,rfl,rfl,rfl,rfl,trivial⟩<|ak (X' :=[_,_,_]) (S' :=[_,_]) (fun _ m=>m)<|aO<|ag<|aj<|hy (fun _=>aa rfl)<|hy (fun _=>aN rfl rfl (bF (by omega) (by omega)))<|hy (fun _=>ab rfl)<|ai<|al (ρ' :=[(7,_),(6,_),(21,_),(5,_),(4,_),(0,_),(1,_)]) ⟨rfl,rfl,rfl,rfl,rfl,rfl,rfl,trivial⟩<| ?_
  refine fG (i+1) A_o c_o ⟨rfl,rfl,rfl,rfl,rfl,rfl,trivial⟩ [0,1] rfl [0,1] rfl (by omega) (by omega)
 ·obtain rfl:i=16:=by omega
  refine bL<|ao<|ao<|aD<|ag<|ah<|ah<|aj<|hy (fun _=>ab rfl)<|ai<|ag<|aK<| ?_
  refine fS (fun i A1 c1=>64-i) (fun i A1 c1=>[(6,.slice A1 i c1),(8,.int .i64 (i:Nat))]) (fun i A1 c1=>[aH 166 1 (.slice A1 i c1) i (ez (wl l i))]) (fun i A1 c1=>[]) (fun i A1 c1=>16≤i∧i≤64) 16 A1 c1 [(21,_),(7,_),(5,_),(4,_),(0,_),(1,_)] ⟨rfl,rfl,rfl,rfl,rfl,rfl,trivial⟩ [0] rfl [] rfl (⟨Nat.le_refl _,by decide⟩) ⟨rfl,rfl,trivial⟩ (fun i A1 c1 ⟨hi16,hi64⟩=> ?_)
  have hwl:=fM l i
  refine a6 (fun m=>(m.ord 0 rfl).2.1) fun hA_o=> ?_
  refine ah<|ah<|aj<|hy (fun _=>aa rfl)<|hy (fun _=>bw rfl rfl)<|ai<|al (ρ' :=[(32,_),(6,_),(8,_),(21,_),(7,_),(5,_),(4,_),(0,_),(1,_)]) ⟨rfl,rfl,rfl,rfl,rfl,rfl,rfl,rfl,rfl,trivial⟩<|ag<| ?_
  refine cG rfl (fun hlt=> ?_) (fun hlt=> ?_)
  ·have hws:wl l (i+1)=wl l i++[nz (wl l i) i]:=by rw[wl,if_neg (by omega)]
   refine aB<|ag<|ah<|aK<|ah<|cT [5,11] [(0,some 0),(1,some 2),(2,some 0),(3,some 0),(4,some 0),(6,some 1),(7,some 1),(8,some 1),(9,some 1),(10,some 1),(13,some 2),(14,some 2),(15,some 2),(16,some 2),(17,some 2),(18,some 2),(5,none),(11,none),(12,some 2),(19,some 2),(20,some 2)] (by kernel_rfl) (by kernel_rfl) rfl 99<|an (aa rfl)<|an (aa rfl)<|an (cp rfl rfl (bF (by omega) (by omega)))<|an (aS rfl rfl Tryz.underlying215 bQ hA_o (show((i-15:Nat):Int)=_ by omega) (by omega))<|cq (fun m=>aw rfl bY ((m.ord 0 rfl).cell (j:=i-15) (bp (by omega))))<|an (aa rfl)<|an (aa rfl)<|an (cp rfl rfl (bF (by omega) (by omega)))<|an (aS rfl rfl Tryz.underlying215 bQ hA_o (show((i-15:Nat):Int)=_ by omega) (by omega))<|cq (fun m=>aw rfl bY ((m.ord 0 rfl).cell (j:=i-15) (bp (by omega))))<|an (aa rfl)<|an (aa rfl)<|an (cp rfl rfl (bF (by omega) (by omega)))<|an (aS rfl rfl Tryz.underlying215 bQ hA_o (show((i-15:Nat):Int)=_ by omega) (by omega))<|cq (fun m=>aw rfl bY ((m.ord 0 rfl).cell (j:=i-15) (bp (by omega))))<|an (sy (b:=8) (by decide) rfl rfl)<| ?_
   refine ek (aq rfl Tryz.call204 (jC (by omega) (n:=7)) [] rfl [] rfl ?_)
   rintro _ _ _ ⟨rfl,rfl,rfl⟩
   refine⟨(fun _=>wk [0,0] [0,1] rfl rfl), ?_⟩
   refine ek (aq rfl Tryz.call204 (jC (by omega) (n:=18)) [] rfl [] rfl ?_)
   rintro _ _ _ ⟨rfl,rfl,rfl⟩
   refine⟨(fun _=>wk [0,0] [0,1] rfl rfl), ?_⟩
   refine an (ew rfl rfl)<|an (ew rfl rfl)<|an (ab rfl)<|bz<|al (ρ' :=[(9,_),(32,_),(6,_),(8,_),(21,_),(7,_),(5,_),(4,_),(0,_),(1,_)]) ⟨rfl,rfl,rfl,rfl,rfl,rfl,rfl,rfl,rfl,rfl,trivial⟩<|ak (X' :=[_,_]) (S' :=[_,_]) (fun _ m=>m)<|ag<|ah<|cT [5,11] [(0,some 0),(1,some 2),(2,some 0),(3,some 0),(4,some 0),(6,some 1),(7,some 1),(8,some 1),(9,some 1),(10,some 1),(13,some 2),(14,some 2),(15,some 2),(16,some 2),(17,some 2),(18,some 2),(5,none),(11,none),(12,some 2),(19,some 2),(20,some 2)] (by kernel_rfl) (by kernel_rfl) rfl 99<|an (aa rfl)<|an (aa rfl)<|an (cp rfl rfl (bF (by omega) (by omega)))<|an (aS rfl rfl Tryz.underlying215 bQ hA_o (show((i-2:Nat):Int)=_ by omega) (by omega))<|cq (fun m=>aw rfl bY ((m.ord 0 rfl).cell (j:=i-2) (bp (by omega))))<|an (aa rfl)<|an (aa rfl)<|an (cp rfl rfl (bF (by omega) (by omega)))<|an (aS rfl rfl Tryz.underlying215 bQ hA_o (show((i-2:Nat):Int)=_ by omega) (by omega))<|cq (fun m=>aw rfl bY ((m.ord 0 rfl).cell (j:=i-2) (bp (by omega))))<|an (aa rfl)<|an (aa rfl)<|an (cp rfl rfl (bF (by omega) (by omega)))<|an (aS rfl rfl Tryz.underlying215 bQ hA_o (show((i-2:Nat):Int)=_ by omega) (by omega))<|cq (fun m=>aw rfl bY ((m.ord 0 rfl).cell (j:=i-2) (bp (by omega))))<|an (sy (b:=1024) (by decide) rfl rfl)<| ?_
   refine ek (aq rfl Tryz.call204 (jC (by omega) (n:=17)) [] rfl [] rfl ?_)
   rintro _ _ _ ⟨rfl,rfl,rfl⟩
   refine⟨(fun _=>wk [0,0] [0,1] rfl rfl), ?_⟩
   refine ek (aq rfl Tryz.call204 (jC (by omega) (n:=19)) [] rfl [] rfl ?_)
   rintro _ _ _ ⟨rfl,rfl,rfl⟩
   refine⟨(fun _=>wk [0,0] [0,1] rfl rfl), ?_⟩
   refine an (ew rfl rfl)<|an (ew rfl rfl)<|an (ab rfl)<|bz<|al (ρ' :=[(10,_),(9,_),(32,_),(6,_),(8,_),(21,_),(7,_),(5,_),(4,_),(0,_),(1,_)]) ⟨rfl,rfl,rfl,rfl,rfl,rfl,rfl,rfl,rfl,rfl,rfl,trivial⟩<|ak (X' :=[_,_]) (S' :=[_,_]) (fun _ m=>m)<|ag<|cT [5,16,17] [(0,some 2),(1,some 3),(2,some 3),(3,some 3),(4,some 3),(6,some 3),(8,some 3),(9,some 3),(10,some 3),(11,some 3),(12,some 1),(14,some 1),(5,none),(7,some 1),(13,some 1),(15,some 1),(16,none),(17,none),(18,some 3)] (by kernel_rfl) (by kernel_rfl) rfl 2<|an (aa rfl)<|an (aa rfl)<|an (aa rfl)<|an (cp rfl rfl (bF (by omega) (by omega)))<|an (aS rfl rfl Tryz.underlying215 bQ hA_o (show((i-16:Nat):Int)=_ by omega) (by omega))<|an (aa rfl)<|an (aa rfl)<|an (aa rfl)<|an (cp rfl rfl (bF (by omega) (by omega)))<|an (aS rfl rfl Tryz.underlying215 bQ hA_o (show((i-7:Nat):Int)=_ by omega) (by omega))<|cq (fun m=>aw rfl bY ((m.ord 0 rfl).cell (j:=i-7) (bp (by omega))))<|an (aa rfl)<|D3 (fun _=>wk [0,0] [0,1] rfl rfl) (fun m=>aw rfl bY ((m.ord 0 rfl).cell (j:=i-16) (bp (by omega))))<|an (dF rfl rfl)<|an (dF rfl rfl)<|an (yV (dF rfl rfl) ((rfl:_=Wd (nz (wl l i) i))))<| ?_
   refine ek (b6 Tryz.underlying215 oG rfl rfl rfl (by exact tX (l:=[_])) (by decide) (by decide) (fun g91=>⟨(fun _=>wk [1,1] [0,1] rfl rfl), ?_⟩))
   have hA_b91:0<1→(some (⟨g91,0,none⟩:Addr))≠none:=fun _ h=>by cases h
   refine gV (fun w m=>m.bN 0 rfl (show _=aH 166 1 (.slice (some ⟨g91,0,none⟩) 1 1) 1 (ez [nz (wl l i) i])from rfl)) ?_
   refine ek (bx 1 rfl rfl rfl Tryz.underlying215 Tryz.underlying215 (by exact .inl rfl) oG rfl (fun m=>Src.bR (m.ord 0 rfl)) iu (by unfold maxLen;omega) (by omega) (fun u=>⟨(fun h=>absurd h (by decide)), ?_⟩))
   refine cm (fun m=>(m.own 0 rfl).slice) ?_
   rintro⟨A_o,c_o,rfl,hc_o⟩
   refine cm (fun m=>(m.ord 0 rfl).2.1) fun hA_o=> ?_
   refine gV (fun w m=>m.bN 0 rfl (show _=aH 166 1 (.slice A_o (i+1) c_o) (i+1) (ez (wl l (i+1)))from by rw[hws,p7])) ?_
   refine an (ab rfl)<|bz<|al (ρ' :=[(6,_),(10,_),(9,_),(32,_),(8,_),(21,_),(7,_),(5,_),(4,_),(0,_),(1,_)]) ⟨rfl,rfl,rfl,rfl,rfl,rfl,rfl,rfl,rfl,rfl,rfl,trivial⟩<|ak (X' :=[_,_,_]) (S' :=[_,_]) (fun _ m=>m)<|aO<|ag<|aj<|hy (fun _=>aa rfl)<|hy (fun _=>aN rfl rfl (bF (by omega) (by omega)))<|hy (fun _=>ab rfl)<|ai<|al (ρ' :=[(8,_),(6,_),(10,_),(9,_),(32,_),(21,_),(7,_),(5,_),(4,_),(0,_),(1,_)]) ⟨rfl,rfl,rfl,rfl,rfl,rfl,rfl,rfl,rfl,rfl,rfl,trivial⟩<| ?_
   refine fG (i+1) A_o c_o ⟨rfl,rfl,rfl,rfl,rfl,rfl,rfl,rfl,trivial⟩ [0,1] rfl [0,1] rfl (⟨by omega,by omega⟩) (by omega)
  ·obtain rfl:i=64:=by omega
   obtain⟨W,hW⟩:∃W,wl l 64=W:=⟨_,rfl⟩
   have hw64:W.length=64:=by rw[←hW];exact fM l 64
   rw[hW]
   refine bL<|ao<|ao<|aD<|ag<|ah<|aj<|hy (fun _=>ab rfl)<|ai<|ag<|ah<|aj<|hy (fun _=>aa rfl)<|hy (fun _=>aa rfl)<| ?_
   refine aQ (fun w m=>m.dj (r' :=aH 166 1 (.slice none 0 0) 0 []) (.refl _ _) (Own.nil _ _ _ _) (fun k hk=>hk.elim)) ?_
   refine hx (bx 0 rfl rfl rfl Tryz.underlying215 Tryz.underlying215 (by exact .inl rfl) oG rfl (fun m=>Src.bR (m.rd 0 rfl)) iu (by unfold maxLen;omega) (by omega) (fun u=> ?_))
   refine aA (fun m=>(m.own 0 rfl).slice) ?_
   rintro⟨A_v,c_v,rfl,hc_v⟩
   refine aA (fun m=>(m.ord 0 rfl).2.1) fun hA_v=> ?_
   refine aQ (fun w m=>m.bN 0 rfl (show _=aH 166 1 (.slice A_v 8 c_v) 8 (ez (kN W h 0))from rfl)) ?_
   refine hy (fun _=>ab rfl)<|ai<|al (ρ' :=[(11,_),(32,_),(6,_),(8,_),(21,_),(7,_),(5,_),(4,_),(0,_),(1,_)]) ⟨rfl,rfl,rfl,rfl,rfl,rfl,rfl,rfl,rfl,rfl,trivial⟩<|ak (X' :=[_,_,_]) (S' :=[_,_]) (fun _ m=>m)<|ag<|ah<|ah<|aj<|hy (fun _=>ab rfl)<|ai<|ag<|aK<| ?_
   refine fS (fun i A2 c2=>64-i) (fun i A2 c2=>[(11,.slice A2 8 c2),(12,.int .i64 (i:Nat))]) (fun i A2 c2=>[aH 166 1 (.slice A2 8 c2) 8 (ez (kN W h i))]) (fun i A2 c2=>[]) (fun i A2 c2=>i≤64) 0 A_v c_v [(32,_),(6,_),(8,_),(21,_),(7,_),(5,_),(4,_),(0,_),(1,_)] ⟨rfl,rfl,rfl,rfl,rfl,rfl,rfl,rfl,rfl,trivial⟩ [0] rfl [] rfl (Nat.zero_le _) ⟨rfl,rfl,trivial⟩ (fun i A2 c2 hi64=> ?_)
   have hv:=kW (w:=W) hh i
   have hro:fP.length=64:=rfl
   refine a6 (fun m=>(m.ord 0 rfl).2.1) fun hA_v=> ?_
   refine a6 (fun m=>(m.ord 2 rfl).2.1) fun hA_x=> ?_
   refine a6 (fun m=>(m.ord 1 rfl).2.1) fun hA_o=> ?_
   refine ah<|ah<|aj<|hy (fun _=>aa rfl)<|hy (fun _=>bw rfl rfl)<|ai<|al (ρ' :=[(97,_),(11,_),(12,_),(32,_),(6,_),(8,_),(21,_),(7,_),(5,_),(4,_),(0,_),(1,_)]) ⟨rfl,rfl,rfl,rfl,rfl,rfl,rfl,rfl,rfl,rfl,rfl,rfl,trivial⟩<|ag<| ?_
   refine cG rfl (fun hlt=> ?_) (fun hlt=> ?_)
   ·generalize hvd:kN W h i=v at hv ⊢
    refine aB<|ag<|ah<|aK<|ah<|cT [3,7,12] [(0,some 3),(1,some 0),(2,some 0),(4,some 1),(5,some 1),(6,some 1),(9,some 2),(10,some 2),(11,some 2),(3,none),(7,none),(8,some 3),(12,none),(13,some 3),(14,some 3)] (by kernel_rfl) (by kernel_rfl) rfl 99<|an (aa rfl)<|an (aS rfl rfl Tryz.underlying215 bQ hA_v (show((4:Nat):Int)=4 from rfl) (by omega))<|cq (fun m=>aw rfl bY ((m.ord 0 rfl).cell (j:=4) (bp (by omega))))<|an (aa rfl)<|an (aS rfl rfl Tryz.underlying215 bQ hA_v (show((4:Nat):Int)=4 from rfl) (by omega))<|cq (fun m=>aw rfl bY ((m.ord 0 rfl).cell (j:=4) (bp (by omega))))<|an (aa rfl)<|an (aS rfl rfl Tryz.underlying215 bQ hA_v (show((4:Nat):Int)=4 from rfl) (by omega))<|cq (fun m=>aw rfl bY ((m.ord 0 rfl).cell (j:=4) (bp (by omega))))<| ?_
    refine ek (aq rfl Tryz.call204 (jC (by omega) (n:=6)) [] rfl [] rfl ?_)
    rintro _ _ _ ⟨rfl,rfl,rfl⟩
    refine⟨(fun _=>wk [0,0,0] [0,1] rfl rfl), ?_⟩
    refine ek (aq rfl Tryz.call204 (jC (by omega) (n:=11)) [] rfl [] rfl ?_)
    rintro _ _ _ ⟨rfl,rfl,rfl⟩
    refine⟨(fun _=>wk [0,0,0] [0,1] rfl rfl), ?_⟩
    refine an (ew rfl rfl)<| ?_
    refine ek (aq rfl Tryz.call204 (jC (by omega) (n:=25)) [] rfl [] rfl ?_)
    rintro _ _ _ ⟨rfl,rfl,rfl⟩
    refine⟨(fun _=>wk [0,0,0] [0,1] rfl rfl), ?_⟩
    refine an (yV (ew rfl rfl) ((rfl:_=Wd (turns 6 11 25 (v_ v 4)))))<|an (ab rfl)<|bz<|al (ρ' :=[(13,_),(97,_),(11,_),(12,_),(32,_),(6,_),(8,_),(21,_),(7,_),(5,_),(4,_),(0,_),(1,_)]) ⟨rfl,rfl,rfl,rfl,rfl,rfl,rfl,rfl,rfl,rfl,rfl,rfl,rfl,trivial⟩<|ak (X' :=[_,_,_]) (S' :=[_,_]) (fun _ m=>m)<|ag<|ah<|cT [] [(0,some 0),(1,some 0),(2,some 0),(3,some 0),(4,some 0),(5,some 0),(6,some 0),(7,some 0),(8,some 0),(9,some 0),(10,some 0),(11,some 0),(12,some 0),(13,some 0),(14,some 0),(15,some 0),(16,some 0)] (by kernel_rfl) (by kernel_rfl) rfl 99<|an (aa rfl)<|an (aS rfl rfl Tryz.underlying215 bQ hA_v (show((4:Nat):Int)=4 from rfl) (by omega))<|cq (fun m=>aw rfl bY ((m.ord 0 rfl).cell (j:=4) (bp (by omega))))<|an (aa rfl)<|an (aS rfl rfl Tryz.underlying215 bQ hA_v (show((5:Nat):Int)=5 from rfl) (by omega))<|cq (fun m=>aw rfl bY ((m.ord 0 rfl).cell (j:=5) (bp (by omega))))<|an (jv rfl rfl)<|an (aa rfl)<|an (aS rfl rfl Tryz.underlying215 bQ hA_v (show((4:Nat):Int)=4 from rfl) (by omega))<|cq (fun m=>aw rfl bY ((m.ord 0 rfl).cell (j:=4) (bp (by omega))))<|an (Ct rfl rfl)<|an (aa rfl)<|an (aS rfl rfl Tryz.underlying215 bQ hA_v (show((6:Nat):Int)=6 from rfl) (by omega))<|cq (fun m=>aw rfl bY ((m.ord 0 rfl).cell (j:=6) (bp (by omega))))<|an (jv rfl rfl)<|an (ew rfl rfl)<|an (ab rfl)<|bz<|al (ρ' :=[(14,_),(13,_),(97,_),(11,_),(12,_),(32,_),(6,_),(8,_),(21,_),(7,_),(5,_),(4,_),(0,_),(1,_)]) ⟨rfl,rfl,rfl,rfl,rfl,rfl,rfl,rfl,rfl,rfl,rfl,rfl,rfl,rfl,trivial⟩<|ag<|ah<|cT [] [(0,some 0),(1,some 0),(2,some 0),(3,some 0),(4,some 0),(5,some 0),(6,some 0),(7,some 0),(8,some 0),(9,some 0),(10,some 0),(11,some 0),(12,some 0),(13,some 0),(14,some 0),(15,some 0),(16,some 0),(17,some 0)] (by kernel_rfl) (by kernel_rfl) rfl 99<|an (aa rfl)<|an (aS rfl rfl Tryz.underlying215 bQ hA_v (show((7:Nat):Int)=7 from rfl) (by omega))<|cq (fun m=>aw rfl bY ((m.ord 0 rfl).cell (j:=7) (bp (by omega))))<|an (aa rfl)<|an (dF rfl rfl)<|an (aa rfl)<|an (dF rfl rfl)<|an (aa rfl)<|an (aa rfl)<|an (aS rfl rfl Tryz.underlying215 bQ hA_x rfl (by omega))<|cq (fun m=>aw rfl bY ((m.ord 2 rfl).cell (j:=i) (bp (by omega))))<| ?_
    generalize hk:fP.getD i 0=k
    refine an (dF rfl rfl)<|an (aa rfl)<|an (aa rfl)<|an (aS rfl rfl Tryz.underlying215 bQ hA_o rfl (by omega))<|cq (fun m=>aw rfl bY ((m.ord 1 rfl).cell (j:=i) (bp (by omega))))<|an (yV (dF rfl rfl) ((rfl:_=Wd (rt v k (W.getD i 0)))))<|an (ab rfl)<|bz<|al (ρ' :=[(15,_),(14,_),(13,_),(97,_),(11,_),(12,_),(32,_),(6,_),(8,_),(21,_),(7,_),(5,_),(4,_),(0,_),(1,_)]) ⟨rfl,rfl,rfl,rfl,rfl,rfl,rfl,rfl,rfl,rfl,rfl,rfl,rfl,rfl,rfl,trivial⟩<|ag<|ah<|cT [3,7,12] [(0,some 3),(1,some 0),(2,some 0),(4,some 1),(5,some 1),(6,some 1),(9,some 2),(10,some 2),(11,some 2),(3,none),(7,none),(8,some 3),(12,none),(13,some 3),(14,some 3)] (by kernel_rfl) (by kernel_rfl) rfl 99<|an (aa rfl)<|an (aS rfl rfl Tryz.underlying215 bQ hA_v (show((0:Nat):Int)=0 from rfl) (by omega))<|cq (fun m=>aw rfl bY ((m.ord 0 rfl).cell (j:=0) (bp (by omega))))<|an (aa rfl)<|an (aS rfl rfl Tryz.underlying215 bQ hA_v (show((0:Nat):Int)=0 from rfl) (by omega))<|cq (fun m=>aw rfl bY ((m.ord 0 rfl).cell (j:=0) (bp (by omega))))<|an (aa rfl)<|an (aS rfl rfl Tryz.underlying215 bQ hA_v (show((0:Nat):Int)=0 from rfl) (by omega))<|cq (fun m=>aw rfl bY ((m.ord 0 rfl).cell (j:=0) (bp (by omega))))<| ?_
    refine ek (aq rfl Tryz.call204 (jC (by omega) (n:=2)) [] rfl [] rfl ?_)
    rintro _ _ _ ⟨rfl,rfl,rfl⟩
    refine⟨(fun _=>wk [0,0,0] [0,1] rfl rfl), ?_⟩
    refine ek (aq rfl Tryz.call204 (jC (by omega) (n:=13)) [] rfl [] rfl ?_)
    rintro _ _ _ ⟨rfl,rfl,rfl⟩
    refine⟨(fun _=>wk [0,0,0] [0,1] rfl rfl), ?_⟩
    refine an (ew rfl rfl)<| ?_
    refine ek (aq rfl Tryz.call204 (jC (by omega) (n:=22)) [] rfl [] rfl ?_)
    rintro _ _ _ ⟨rfl,rfl,rfl⟩
    refine⟨(fun _=>wk [0,0,0] [0,1] rfl rfl), ?_⟩
    refine an (yV (ew rfl rfl) ((rfl:_=Wd (turns 2 13 22 (v_ v 0)))))<|an (ab rfl)<|bz<|al (ρ' :=[(16,_),(15,_),(14,_),(13,_),(97,_),(11,_),(12,_),(32,_),(6,_),(8,_),(21,_),(7,_),(5,_),(4,_),(0,_),(1,_)]) ⟨rfl,rfl,rfl,rfl,rfl,rfl,rfl,rfl,rfl,rfl,rfl,rfl,rfl,rfl,rfl,rfl,trivial⟩<|ak (X' :=[_,_,_]) (S' :=[_,_]) (fun _ m=>m)<|ag<|ah<|cT [] [(0,some 0),(1,some 0),(2,some 0),(3,some 0),(4,some 0),(5,some 0),(6,some 0),(7,some 0),(8,some 0),(9,some 0),(10,some 0),(11,some 0),(12,some 0),(13,some 0),(14,some 0),(15,some 0),(16,some 0),(17,some 0),(18,some 0),(19,some 0),(20,some 0),(21,some 0),(22,some 0),(23,some 0)] (by kernel_rfl) (by kernel_rfl) rfl 99<|an (aa rfl)<|an (aS rfl rfl Tryz.underlying215 bQ hA_v (show((0:Nat):Int)=0 from rfl) (by omega))<|cq (fun m=>aw rfl bY ((m.ord 0 rfl).cell (j:=0) (bp (by omega))))<|an (aa rfl)<|an (aS rfl rfl Tryz.underlying215 bQ hA_v (show((1:Nat):Int)=1 from rfl) (by omega))<|cq (fun m=>aw rfl bY ((m.ord 0 rfl).cell (j:=1) (bp (by omega))))<|an (jv rfl rfl)<|an (aa rfl)<|an (aS rfl rfl Tryz.underlying215 bQ hA_v (show((0:Nat):Int)=0 from rfl) (by omega))<|cq (fun m=>aw rfl bY ((m.ord 0 rfl).cell (j:=0) (bp (by omega))))<|an (aa rfl)<|an (aS rfl rfl Tryz.underlying215 bQ hA_v (show((2:Nat):Int)=2 from rfl) (by omega))<|cq (fun m=>aw rfl bY ((m.ord 0 rfl).cell (j:=2) (bp (by omega))))<|an (jv rfl rfl)<|an (ew rfl rfl)<|an (aa rfl)<|an (aS rfl rfl Tryz.underlying215 bQ hA_v (show((1:Nat):Int)=1 from rfl) (by omega))<|cq (fun m=>aw rfl bY ((m.ord 0 rfl).cell (j:=1) (bp (by omega))))<|an (aa rfl)<|an (aS rfl rfl Tryz.underlying215 bQ hA_v (show((2:Nat):Int)=2 from rfl) (by omega))<|cq (fun m=>aw rfl bY ((m.ord 0 rfl).cell (j:=2) (bp (by omega))))<|an (jv rfl rfl)<|an (ew rfl rfl)<|an (ab rfl)<|bz<|al (ρ' :=[(17,_),(16,_),(15,_),(14,_),(13,_),(97,_),(11,_),(12,_),(32,_),(6,_),(8,_),(21,_),(7,_),(5,_),(4,_),(0,_),(1,_)]) ⟨rfl,rfl,rfl,rfl,rfl,rfl,rfl,rfl,rfl,rfl,rfl,rfl,rfl,rfl,rfl,rfl,rfl,trivial⟩<|ag<|cT [28] [(0,some 0),(1,some 0),(2,some 0),(3,some 0),(4,some 0),(5,some 0),(6,some 0),(7,some 0),(8,some 0),(9,some 0),(10,some 0),(11,some 0),(12,some 0),(13,some 0),(14,some 0),(15,some 0),(16,some 0),(17,some 0),(18,some 0),(19,some 0),(20,some 0),(21,some 0),(22,some 0),(23,some 0),(24,some 0),(25,some 0),(26,some 0),(27,some 0),(28,none),(29,some 1)] (by kernel_rfl) (by kernel_rfl) rfl 99<|an (aa rfl)<|an (aa rfl)<|an (dF rfl rfl)<|an (aa rfl)<|an (yV (dF rfl rfl) ((show Wd (rt v k (W.getD i 0)+turns 2 13 22 (v_ v 0)+((v_ v 0 &&& v_ v 1) ^^^ (v_ v 0 &&& v_ v 2) ^^^ (v_ v 1 &&& v_ v 2)))=Wd (rt v k (W.getD i 0)+ru v) by rw[UInt32.add_assoc];rfl)))<|an (aa rfl)<|an (aS rfl rfl Tryz.underlying215 bQ hA_v (show((0:Nat):Int)=0 from rfl) (by omega))<|cq (fun m=>aw rfl bY ((m.ord 0 rfl).cell (j:=0) (bp (by omega))))<|an (aa rfl)<|an (aS rfl rfl Tryz.underlying215 bQ hA_v (show((1:Nat):Int)=1 from rfl) (by omega))<|cq (fun m=>aw rfl bY ((m.ord 0 rfl).cell (j:=1) (bp (by omega))))<|an (aa rfl)<|an (aS rfl rfl Tryz.underlying215 bQ hA_v (show((2:Nat):Int)=2 from rfl) (by omega))<|cq (fun m=>aw rfl bY ((m.ord 0 rfl).cell (j:=2) (bp (by omega))))<|an (aa rfl)<|an (aS rfl rfl Tryz.underlying215 bQ hA_v (show((3:Nat):Int)=3 from rfl) (by omega))<|cq (fun m=>aw rfl bY ((m.ord 0 rfl).cell (j:=3) (bp (by omega))))<|an (aa rfl)<|an (dF rfl rfl)<|an (aa rfl)<|an (aS rfl rfl Tryz.underlying215 bQ hA_v (show((4:Nat):Int)=4 from rfl) (by omega))<|cq (fun m=>aw rfl bY ((m.ord 0 rfl).cell (j:=4) (bp (by omega))))<|an (aa rfl)<|an (aS rfl rfl Tryz.underlying215 bQ hA_v (show((5:Nat):Int)=5 from rfl) (by omega))<|cq (fun m=>aw rfl bY ((m.ord 0 rfl).cell (j:=5) (bp (by omega))))<|an (aa rfl)<|an (aS rfl rfl Tryz.underlying215 bQ hA_v (show((6:Nat):Int)=6 from rfl) (by omega))<|cq (fun m=>aw rfl bY ((m.ord 0 rfl).cell (j:=6) (bp (by omega))))<| ?_
    refine ek (b6 Tryz.underlying215 oG rfl rfl rfl (by exact tX (l:=[_,_,_,_,_,_,_,_])) (by decide) (by decide) (fun g212=>⟨(fun _=>wk [1,1,1] [0,1] rfl rfl), ?_⟩))
    have hA_b212:0<8→(some (⟨g212,0,none⟩:Addr))≠none:=fun _ h=>by cases h
    refine an (ab rfl)<|bz<|al (ρ' :=[(11,_),(17,_),(16,_),(15,_),(14,_),(13,_),(97,_),(12,_),(32,_),(6,_),(8,_),(21,_),(7,_),(5,_),(4,_),(0,_),(1,_)]) ⟨rfl,rfl,rfl,rfl,rfl,rfl,rfl,rfl,rfl,rfl,rfl,rfl,rfl,rfl,rfl,rfl,rfl,trivial⟩<|ak (X' :=[_,_,_,_]) (S' :=[_,_]) (fun _ m=>m)<|aO<|ag<|aj<|hy (fun _=>aa rfl)<|hy (fun _=>aN rfl rfl (bF (by omega) (by omega)))<|hy (fun _=>ab rfl)<|ai<|al (ρ' :=[(12,_),(11,_),(17,_),(16,_),(15,_),(14,_),(13,_),(97,_),(32,_),(6,_),(8,_),(21,_),(7,_),(5,_),(4,_),(0,_),(1,_)]) ⟨rfl,rfl,rfl,rfl,rfl,rfl,rfl,rfl,rfl,rfl,rfl,rfl,rfl,rfl,rfl,rfl,rfl,trivial⟩<| ?_
    refine ak (fun w m=>m.bN 0 rfl (show _=aH 166 1 (.slice (some ⟨g212,0,none⟩) 8 8) 8 (ez (kN W h (i+1)))from by rw[kN,hvd,hk];rfl)) ?_
    refine fG (i+1) (some ⟨g212,0,none⟩) 8 ⟨rfl,rfl,rfl,rfl,rfl,rfl,rfl,rfl,rfl,rfl,rfl,trivial⟩ [0,1,1] rfl [0,1] rfl (by omega) (by omega)
   ·obtain rfl:i=64:=by omega
    generalize hvv:kN W h 64=v at hv ⊢
    refine bC (fun w m=>m.bN 0 rfl (show _=aH 166 1 (.slice A2 8 c2) 8 (ez (gg v h 0))from by rw[rU])) ?_
    refine bL<|ao<|ao<|aD<|ag<|ah<|ah<|aj<|hy (fun _=>ab rfl)<|ai<|ag<|aK<| ?_
    refine dH (fun j=>8-j) (fun j=>[(18,.int .i64 (j:Nat))]) (fun j=>[aH 166 1 (.slice A2 8 c2) 8 (ez (gg v h j))]) (fun j=>[]) (fun j=>j≤8) 0 [(97,_),(11,_),(12,_),(32,_),(6,_),(8,_),(21,_),(7,_),(5,_),(4,_),(0,_),(1,_)] ⟨rfl,rfl,rfl,rfl,rfl,rfl,rfl,rfl,rfl,rfl,rfl,rfl,trivial⟩ [0] rfl [] rfl (Nat.zero_le _) ⟨rfl,trivial⟩ (fun j hj8=> ?_)
    have hsl:(gg v h j).length=v.length:=by simp[gg]
    refine ah<|ah<|aj<|hy (fun _=>aa rfl)<|hy (fun _=>bw rfl rfl)<|ai<|al (ρ' :=[(214,_),(18,_),(97,_),(11,_),(12,_),(32,_),(6,_),(8,_),(21,_),(7,_),(5,_),(4,_),(0,_),(1,_)]) ⟨rfl,rfl,rfl,rfl,rfl,rfl,rfl,rfl,rfl,rfl,rfl,rfl,rfl,rfl,trivial⟩<|ag<| ?_
    refine cG rfl (fun hj=> ?_) (fun hj=> ?_)
    ·refine aB<|ag<|ah<|aK<|cT [12] [(0,some 0),(1,some 0),(2,some 0),(3,some 0),(4,some 0),(5,some 0),(6,some 0),(7,some 0),(8,some 0),(9,some 0),(10,some 0),(11,some 0),(12,none)] (by kernel_rfl) (by kernel_rfl) rfl 0<|an (aa rfl)<|an (aa rfl)<|an (aa rfl)<|an (aa rfl)<|an (aS rfl rfl Tryz.underlying215 bQ hA_v rfl (by omega))<|cq (fun m=>aw rfl bY ((m.ord 0 rfl).cell (j:=j) (bp (by omega))))<|an (aa rfl)<|an (aa rfl)<|an (aS rfl rfl Tryz.underlying215 bQ hA_q rfl (by omega))<|cq (fun m=>aw rfl bY ((m.rd 0 rfl).cell (j:=j) (bp (by omega))))<|an (yV (dF rfl rfl) ((rfl:_=Wd (v_ (gg v h j) j+v_ h j))))<|an (aS rfl rfl Tryz.underlying215 bQ hA_v rfl (by omega))<| ?_
     refine kI (zM 0 rfl rfl rfl bQ rfl (by omega) ⟨(fun h=>absurd h (by decide)), ?_⟩)
     refine bz<|al (ρ' :=[(214,_),(18,_),(97,_),(11,_),(12,_),(32,_),(6,_),(8,_),(21,_),(7,_),(5,_),(4,_),(0,_),(1,_)]) ⟨rfl,rfl,rfl,rfl,rfl,rfl,rfl,rfl,rfl,rfl,rfl,rfl,rfl,rfl,trivial⟩<|ak (X' :=[_,_,_]) (S' :=[_,_]) (fun _ m=>m)<|aO<|ag<|aj<|hy (fun _=>aa rfl)<|hy (fun _=>aN rfl rfl (bF (by omega) (by omega)))<|hy (fun _=>ab rfl)<|ai<|al (ρ' :=[(18,_),(214,_),(97,_),(11,_),(12,_),(32,_),(6,_),(8,_),(21,_),(7,_),(5,_),(4,_),(0,_),(1,_)]) ⟨rfl,rfl,rfl,rfl,rfl,rfl,rfl,rfl,rfl,rfl,rfl,rfl,rfl,rfl,trivial⟩<| ?_
     refine ak (fun w m=>m.bN 0 rfl (show _=aH 166 1 (.slice A2 8 c2) 8 (ez (gg v h (j+1)))from by rw[xr,rR (by omega)])) ?_
     refine cX (j+1) ⟨rfl,rfl,rfl,rfl,rfl,rfl,rfl,rfl,rfl,rfl,rfl,rfl,rfl,trivial⟩ [0,0,0] rfl [0,1] rfl (by omega) (by omega)
    ·obtain rfl:j=8:=by omega
     have hB:gg v h 8=eI h l:=by rw[eI,hW,hvv]
     rw[hB]
     refine bL<|ao<|ao<|aD<|ag<|ah<|aj<|hy (fun _=>aa rfl)<|hy (fun _=>ab rfl)<|ai<|al (ρ' :=[(4,_),(214,_),(18,_),(97,_),(11,_),(12,_),(32,_),(6,_),(8,_),(21,_),(7,_),(5,_),(0,_),(1,_)]) ⟨rfl,rfl,rfl,rfl,rfl,rfl,rfl,rfl,rfl,rfl,rfl,rfl,rfl,rfl,trivial⟩<|ag<|aX<| ?_
     exact bh trivial rfl rfl [0] rfl [] rfl ⟨_,rfl,rfl,rfl⟩
end Go.Proofs.YtmibdabdlgmafaaGreatDoor
end
section
set_option maxRecDepth 20000
namespace Go.Proofs.YtmibdabdlgmafaaGreatDoor
open Go.Eng Go.Hx
def me(n:Nat):Nat→Nat
 |0=>n
 |i+1=>me n i/256
theorem qD(n:Nat):∀i,me n i=n/256 ^ i
 |0=>by simp[me]
 |i+1=>by rw[me,qD n i,Nat.div_div_eq_div_mul,Nat.pow_succ]
def qk(n i:Nat):List UInt8:=List.replicate (8-i) 0++(tb n).drop (8-i)
theorem lL(n:Nat):(tb n).length=8:=by simp[tb]
theorem AB(n i:Nat)(h:i≤8):(qk n i).length=8:=by
 rw[qk,List.length_append,List.length_replicate,List.length_drop,lL];omega
theorem yv{n i:Nat}(hi:i<8):(qk n i).set (7-i) (UInt8.ofNat (me n i % 256))=qk n (i+1):=by
 have e:UInt8.ofNat (me n i % 256)=UInt8.ofNat (n/256 ^ i):=by
  rw[qD];apply UInt8.toNat_inj.1;simp
 rw[e]
 obtain⟨k,hk⟩:∃k,8-i=k+1:=⟨7-i,by omega⟩
 have h7:7-i=k:=by omega
 have hd:(tb n).drop k=UInt8.ofNat (n/256 ^ i)::(tb n).drop (k+1):=by
  rw[List.drop_eq_getElem_cons (by rw[lL];omega)]
  congr 1
  simp only[tb,List.getElem_map,List.getElem_range]
  congr 3;omega
 rw[qk,qk,hk,h7,show 8-(i+1)=k by omega,hd,List.replicate_succ',List.append_assoc,List.set_append_right _ _ (by simp)]
 simp
theorem CY{A:Option Addr}{n c:Nat}{l:List UInt8}(hn:n≤140737488351232):cf Tryz.prog 141 [.slice A n c] [] [di 1 A n (aW l)] (fun v_ X_ S_=>∃v,v_=v∧X_=[aH 5 1 v (jx l).length (aW (jx l))]∧S_=[]):=by
 have hz64:iO n<64:=Nat.mod_lt _ (by decide)
 have hzp:(n+(1+iO n)) % 64=56:=by unfold iO;omega
 have hzm:∀j,j<iO n→(n+(1+j)) % 64≠56:=fun j hj=>by unfold iO at hj;omega
 refine aP (N:=39) Tryz.func141 rfl rfl (by simp) fun b=> ?_
 refine a6 (fun m=>ig (m.rd 0 rfl)) ?_
 rintro⟨hl_r,hA_r⟩
 have hl:l.length=n:=hl_r
 refine ah<|aj<|hy (fun _=>ab rfl)<|ai<|ag<|ah<|aj<|hy (fun _=>ab rfl)<|ai<|ag<|ah<|aj<|hy (fun _=>aa rfl)<|hy (fun _=>aa rfl)<| ?_
 refine aQ (fun w m=>m.dj (r' :=aH 5 1 (.slice none 0 0) 0 []) (.refl _ _) (Own.nil _ _ _ _) (fun k hk=>hk.elim)) ?_
 refine hx (bx 0 rfl rfl rfl Tryz.underlying27 Tryz.underlying27 (by exact .inl rfl) fk rfl (fun m=>Src.bR (m.rd 0 rfl)) aY (by unfold maxLen;omega) (by omega) (fun u=> ?_))
 refine aA (fun m=>(m.own 0 rfl).slice) ?_
 rintro⟨A_o,c_o,rfl,hc_o⟩
 refine aA (fun m=>(m.ord 0 rfl).2.1) fun hA_o=> ?_
 rw[Nat.zero_add]
 refine hy (fun _=>ab rfl)<|ai<|al (ρ' :=[(3,_),(2,_),(0,_)]) ⟨rfl,rfl,rfl,trivial⟩<|ak (X' :=[_]) (S' :=[_]) (fun _ m=>m)<|ag<|ah<|aj<|hy (fun _=>aa rfl)<| ?_
 refine hx (b6 Tryz.underlying27 fk rfl rfl rfl (by simp[Value.cells,B8]) (by decide) (by decide) (fun g11=> ?_))
 have hA_b11:0<1→(some (⟨g11,0,none⟩:Addr))≠none:=fun _ h=>by cases h
 refine aQ (fun w m=>m.bN 0 rfl (show _=aH 5 1 (.slice (some ⟨g11,0,none⟩) 1 1) 1 (aW [128])from rfl)) ?_
 refine hx (bx 1 rfl rfl rfl Tryz.underlying27 Tryz.underlying27 (by exact .inl rfl) fk rfl (fun m=>Src.bR (m.ord 0 rfl)) aY (by unfold maxLen;omega) (by omega) (fun u2=> ?_))
 refine aA (fun m=>(m.own 0 rfl).slice) ?_
 rintro⟨A_o2,c_o2,rfl,hc_o⟩
 refine aA (fun m=>(m.ord 0 rfl).2.1) fun hA_o=> ?_
 refine aQ (fun w m=>m.bN 0 rfl (show _=aH 5 1 (.slice A_o2 (n+1+0) c_o2) (n+1+0) (aW (l++128::List.replicate 0 0))from by simp[aW])) ?_
 refine hy (fun _=>ab rfl)<|ai<|al (ρ' :=[(3,_),(2,_),(0,_)]) ⟨rfl,rfl,rfl,trivial⟩<|ak (X' :=[_,_]) (S' :=[_]) (fun _ m=>m)<|ag<|ah<|aK<| ?_
 refine fS (fun j A1 cc=>iO n-j) (fun j A1 cc=>[(3,.slice A1 (n+1+j) cc)]) (fun j A1 cc=>[aH 5 1 (.slice A1 (n+1+j) cc) (n+1+j) (aW (l++128::List.replicate j 0))]) (fun j A1 cc=>[]) (fun j A1 cc=>j≤iO n) 0 A_o2 c_o2 [(2,_),(0,_)] ⟨rfl,rfl,trivial⟩ [0] rfl [] rfl (Nat.zero_le _) ⟨rfl,trivial⟩ (fun j A1 cc hjz=> ?_)
 refine ah<|ah<|aj<|hy (fun _=>aa rfl)<|hy (fun _=>aT rfl Tryz.underlying27)<|hy (fun _=>gN rfl rfl (by omega) (by omega))<|hy (fun _=>cW rfl rfl)<|ai<|al (ρ' :=[(16,_),(3,_),(2,_),(0,_)]) ⟨rfl,rfl,rfl,rfl,trivial⟩<|ag<| ?_
 refine cG rfl (fun hne=> ?_) (fun hne=> ?_)
 ·have hj:j<iO n:=by
   rcases Nat.lt_or_eq_of_le hjz with h|h
   ·exact h
   ·rw[←h]at hzp;omega
  refine aB<|ag<|aK<|aj<|hy (fun _=>aa rfl)<| ?_
  refine hx (b6 Tryz.underlying27 fk rfl rfl rfl (by simp[Value.cells,B8]) (by decide) (by decide) (fun g18=> ?_))
  have hA_b18:0<1→(some (⟨g18,0,none⟩:Addr))≠none:=fun _ h=>by cases h
  refine aQ (fun w m=>m.bN 0 rfl (show _=aH 5 1 (.slice (some ⟨g18,0,none⟩) 1 1) 1 (aW [0])from rfl)) ?_
  refine hx (bx 1 rfl rfl rfl Tryz.underlying27 Tryz.underlying27 (by exact .inl rfl) fk rfl (fun m=>Src.bR (m.ord 0 rfl)) aY (by unfold maxLen;omega) (by omega) (fun u3=> ?_))
  refine aA (fun m=>(m.own 0 rfl).slice) ?_
  rintro⟨A_o3,c_o3,rfl,hc_o⟩
  refine aA (fun m=>(m.ord 0 rfl).2.1) fun hA_o=> ?_
  refine hy (fun _=>ab rfl)<|ai<|al (ρ' :=[(3,_),(16,_),(2,_),(0,_)]) ⟨rfl,rfl,rfl,rfl,trivial⟩<|ak (X' :=[_,_,_]) (S' :=[_]) (fun _ m=>m)<|aO<| ?_
  refine ak (fun w m=>m.bN 0 rfl (show _=aH 5 1 (.slice A_o3 (n+1+(j+1)) c_o3) (n+1+(j+1)) (aW (l++128::List.replicate (j+1) 0))from by rw[List.replicate_succ'];simp[aW,Nat.add_assoc])) ?_
  refine fG (j+1) A_o3 c_o3 ⟨rfl,rfl,rfl,trivial⟩ [0,1] rfl [0] rfl (by omega) (by omega)
 ·have hj:j=iO n:=by
   refine Decidable.byContradiction fun hn=> ?_
   have:=hzm j (by omega)
   omega
  subst hj
  refine bL<|ao<|ao<|aD<|ag<|ah<|aj<|hy (fun _=>aa rfl)<|hy (fun _=>aT rfl Tryz.underlying27)<|hy (fun _=>yV (fN rfl rfl (bF (by omega) (by omega))) ((show Value.int .i64 (8*(n:Int))= .int .i64 ((me (8*n) 0:Nat):Int) by rw[me];congr 1)))<|hy (fun _=>ab rfl)<|ai<|al (ρ' :=[(4,_),(16,_),(3,_),(2,_),(0,_)]) ⟨rfl,rfl,rfl,rfl,rfl,trivial⟩<|ag<|ah<|aj<| ?_
  refine hx (B7 (n:=8) Tryz.underlying27 fk rfl rfl rfl (by decide) (by decide) (fun g23=> ?_))
  have hA_b23:∀{n:Nat},0<n→(some (⟨g23,0,none⟩:Addr))≠none:=fun _ h=>by cases h
  refine hy (fun _=>ab rfl)<|ai<|al (ρ' :=[(5,_),(4,_),(16,_),(3,_),(2,_),(0,_)]) ⟨rfl,rfl,rfl,rfl,rfl,rfl,trivial⟩<|ak (X' :=[_,_,_]) (S' :=[_]) (fun _ m=>m)<|ag<|ah<|ah<|aj<| ?_
  refine aQ (fun w m=>m.bN 0 rfl (show _=aL g23 5 (aW (qk (8*n) 0))from by rw[qk,List.drop_of_length_le (by rw[lL];decide),List.append_nil];rfl)) ?_
  refine hy (fun _=>ab rfl)<|ai<|ag<|aK<| ?_
  refine dH (fun i=>8-i) (fun i=>[(4,.int .i64 ((me (8*n) i:Nat):Int)),(6,.int .i64 (7-(i:Int)))]) (fun i=>[aL g23 5 (aW (qk (8*n) i))]) (fun i=>[]) (fun i=>i≤8) 0 [(5,_),(16,_),(3,_),(2,_),(0,_)] ⟨rfl,rfl,rfl,rfl,rfl,trivial⟩ [0] rfl [] rfl (Nat.zero_le _) ⟨rfl,rfl,trivial⟩ (fun i hi8=> ?_)
  have hq:me (8*n) i≤8*n:=by rw[qD];exact Nat.div_le_self ..
  have hbl:=AB (8*n) i hi8
  refine ah<|ah<|aj<|hy (fun _=>aa rfl)<|hy (fun _=>iX rfl rfl)<|ai<|al (ρ' :=[(25,_),(4,_),(6,_),(5,_),(16,_),(3,_),(2,_),(0,_)]) ⟨rfl,rfl,rfl,rfl,rfl,rfl,rfl,rfl,trivial⟩<|ag<| ?_
  refine cG rfl (fun hi=> ?_) (fun hi=> ?_)
  ·refine aB<|ag<|ah<|aK<|ah<|aj<|hy (fun _=>aa rfl)<|hy (fun _=>aa rfl)<|hy (fun _=>aa rfl)<|hy (fun _=>gN rfl rfl (by omega) (by omega))<|hy (fun _=>bX rfl Tryz.underlying3 Tryz.underlying5 (show IntKind.u8.wrap (((me (8*n) i:Nat):Int) % 256)=((UInt8.ofNat (me (8*n) i % 256)).toNat:Int)from ij (me (8*n) i % 256)))<|hy (fun _=>aS rfl rfl Tryz.underlying27 dZ hA_b23 (show((7-i:Nat):Int)=_ by omega) (by omega))<| ?_
   refine cH (ct 0 rfl rfl rfl dZ rfl (by rw[az,hbl];omega) ?_)
   refine ai<|al (ρ' :=[(25,_),(4,_),(6,_),(5,_),(16,_),(3,_),(2,_),(0,_)]) ⟨rfl,rfl,rfl,rfl,rfl,rfl,rfl,rfl,trivial⟩<|ak (X' :=[_,_,_]) (S' :=[_]) (fun _ m=>m)<|ag<|aj<|hy (fun _=>aa rfl)<|hy (fun _=>yV (jV rfl rfl (by omega) (by omega) (bF (by omega) (by omega))) ((show Value.int .i64 (((me (8*n) i:Nat):Int)/256)= .int .i64 ((me (8*n) (i+1):Nat):Int)from rfl)))<|hy (fun _=>ab rfl)<|ai<|al (ρ' :=[(4,_),(25,_),(6,_),(5,_),(16,_),(3,_),(2,_),(0,_)]) ⟨rfl,rfl,rfl,rfl,rfl,rfl,rfl,rfl,trivial⟩<|aO<|ag<|aj<|hy (fun _=>aa rfl)<|hy (fun _=>yV (cp rfl rfl (bF (by omega) (by omega))) ((show Value.int .i64 (7-(i:Int)-1)= .int .i64 (7-((i+1:Nat):Int))from congrArg (Value.int .i64) (by omega))))<|hy (fun _=>ab rfl)<|ai<|al (ρ' :=[(6,_),(4,_),(25,_),(5,_),(16,_),(3,_),(2,_),(0,_)]) ⟨rfl,rfl,rfl,rfl,rfl,rfl,rfl,rfl,trivial⟩<| ?_
   refine ak (fun w m=>m.bN 0 rfl (show _=aL g23 5 (aW (qk (8*n) (i+1)))from by rw[Nat.zero_add,←yv (by omega),wK];rfl)) ?_
   refine cX (i+1) ⟨rfl,rfl,rfl,rfl,rfl,rfl,rfl,trivial⟩ [0,0,0] rfl [0] rfl (by omega) (by omega)
  ·obtain rfl:i=8:=by omega
   have hpl:(jx l).length=n+1+iO n+8:=by
    simp only[jx,List.length_append,List.length_cons,List.length_replicate,lL,hl];omega
   refine bC (fun w m=>m.bN 0 rfl (show _=aL g23 5 (aW (tb (8*n)))from by simp[qk])) ?_
   refine bL<|ao<|ao<|aD<|ag<|ah<|aj<|hy (fun _=>aa rfl)<|hy (fun _=>aa rfl)<| ?_
   refine hx (bx 1 rfl rfl rfl Tryz.underlying27 Tryz.underlying27 (by exact .inl rfl) fk rfl (fun m=>Src.bR (Rd.gv (m.aZ 0 rfl) (by rw[az,lL]))) aY (by unfold maxLen;omega) (by omega) (fun u3=> ?_))
   refine aA (fun m=>(m.own 0 rfl).slice) ?_
   rintro⟨A_o3,c_o3,rfl,hc_o⟩
   refine aA (fun m=>(m.ord 0 rfl).2.1) fun hA_o=> ?_
   refine aQ (fun w m=>m.bN 0 rfl (show _=aH 5 1 (.slice A_o3 (jx l).length c_o3) (jx l).length (aW (jx l))from by rw[hpl,jx,hl];simp[aW])) ?_
   refine hy (fun _=>ab rfl)<|ai<|al (ρ' :=[(2,_),(25,_),(4,_),(6,_),(5,_),(16,_),(3,_),(0,_)]) ⟨rfl,rfl,rfl,rfl,rfl,rfl,rfl,rfl,trivial⟩<|ak (X' :=[_,_,_]) (S' :=[_]) (fun _ m=>m)<|ag<|aX<| ?_
   exact bh trivial rfl rfl [0] rfl [] rfl ⟨_,(by rw[hpl]),rfl,rfl⟩
theorem Ay{p r:List UInt8}{k:Nat}{a x:UInt8}(hp:p.length=k):(aW (p++x::r)).set k (B8 a)=aW (p++[a]++r):=by
 subst hp
 simp[aW,List.set_append]
def qw(x:UInt32):Nat→UInt32
 |0=>x
 |j+1=>qw x j/256
theorem te(x:UInt32):∀j,(qw x j).toNat=x.toNat/256 ^ j
 |0=>by simp[qw]
 |j+1=>by
  rw[qw,UInt32.toNat_div,te x j,Nat.pow_succ,←Nat.div_div_eq_div_mul];rfl
theorem Fm(x:UInt32){r:Nat}(hr:r<4):(By x)[r]? =some (UInt8.ofNat (qw x (3-r) % 256).toNat):=by
 have h256:(256:UInt32).toNat=256:=rfl
 have e:∀k,UInt8.ofNat ((qw x k % 256).toNat)=UInt8.ofNat (x.toNat/256 ^ k):=fun k=>by
  rw[UInt32.toNat_mod,te,h256]
  apply UInt8.toNat_inj.1;simp
 rw[e]
 match r,hr with
 |0,_=>simp[By,UInt32.toNat_div]
 |1,_=>simp[By,UInt32.toNat_div]
 |2,_=>simp[By,UInt32.toNat_div]
 |3,_=>simp[By]
theorem rf:∀(h:List UInt32) (q r:Nat),q<h.length→r<4→(eU h)[4*q+r]? =(By (h.getD q 0))[r]?
 |a::t,0,r,hq,hr=>by
  rw[eU,List.flatMap_cons,List.getElem?_append_left (by show 4*0+r<4;omega)]
  simp
 |a::t,q+1,r,hq,hr=>by
  rw[eU,List.flatMap_cons,List.getElem?_append_right (by show 4≤_;omega),show 4*(q+1)+r-(By a).length=4*q+r by show 4*(q+1)+r-4=_;omega]
  have:=rf t q r (by simpa using hq) hr
  simpa[eU]using this
theorem pC{A:Option Addr}{n c:Nat}{l:List UInt8}(hn:n≤140737488351232):cf Tryz.prog 56 [.slice A n c] [] [di 1 A n (aW l)] (fun v_ X_ S_=>v_=(.agg (aW (bn l)).toArray)∧X_=[]∧S_=[]):=by
 refine aP (N:=49) Tryz.func56 rfl rfl (by simp) fun b=> ?_
 refine a6 (fun m=>ig (m.rd 0 rfl)) ?_
 rintro⟨hl_r,hA_r⟩
 refine ah<|aj<| ?_
 refine hx (aM cP (fun g2=> ?_))
 refine ai<|ak (X' :=[_]) (S' :=[_]) (fun _ m=>m)<|ag<|ah<|aj<| ?_
 refine hx (b6 Tryz.underlying215 oG rfl rfl rfl (by decide) (by decide) (by decide) (fun g10=> ?_))
 have hA_b10:0<8→(some (⟨g10,0,none⟩:Addr))≠none:=fun _ h=>by cases h
 refine aQ (fun w m=>m.bN 0 rfl (show _=aH 166 1 (.slice (some ⟨g10,0,none⟩) 8 8) 8 (ez (fI mC ((jx l).take (64*0))))from by rw[Nat.mul_zero,List.take_zero];rfl)) ?_
 refine hy (fun _=>ab rfl)<|ai<|al (ρ' :=[(3,_),(2,_),(0,_)]) ⟨rfl,rfl,rfl,trivial⟩<|ak (X' :=[_,_]) (S' :=[_]) (fun _ m=>m)<|ag<|ah<|aj<|hy (fun _=>aa rfl)<| ?_
 refine hx (aq rfl Tryz.call141 (CY (by omega)) [] rfl [0] rfl ?_)
 rintro _ _ _ ⟨v,rfl,rfl,rfl⟩
 refine aA (fun m=>(m.own 0 rfl).slice) ?_
 rintro⟨A_x,c_x,rfl,hc_x⟩
 refine aA (fun m=>(m.ord 0 rfl).2.1) fun hA_x=> ?_
 refine hy (fun _=>ab rfl)<|ai<|al (ρ' :=[(4,_),(3,_),(2,_),(0,_)]) ⟨rfl,rfl,rfl,rfl,trivial⟩<|ak (X' :=[_,_,_]) (S' :=[_]) (fun _ m=>m)<|ag<|ah<|ah<|aj<|hy (fun _=>ab rfl)<|ai<|ag<|aK<| ?_
 have hpl:=oK l
 have hpb:(jx l).length≤140737488352000:=by
  have:l.length=n:=hl_r
  have hz:iO l.length<64:=Nat.mod_lt _ (by decide)
  simp only[jx,List.length_append,List.length_cons,List.length_replicate,lL];omega
 obtain⟨K,hK⟩:∃K,(jx l).length=64*K:=⟨(jx l).length/64,by omega⟩
 generalize hP:jx l=P at hpl hpb hK hc_x hA_x ⊢
 refine bC (fun w m=>(m.perm (au [0] _ [_] _ rfl)).freeze) ?_
 refine bC (fun w m=>m.jL 0 rfl .own) ?_
 refine a6 (fun m=>ig (m.rd 0 rfl)) ?_
 rintro⟨hl_xr,hA_xr⟩
 refine fS (fun k H hc=>K-k) (fun k H hc=>[(3,.slice H 8 hc),(5,.int .i64 ((64*k:Nat):Int))]) (fun k H hc=>[aH 166 1 (.slice H 8 hc) 8 (ez (fI mC (P.take (64*k))))]) (fun k H hc=>[]) (fun k H hc=>k≤K) 0 (some ⟨g10,0,none⟩) 8 [(4,_),(2,_),(0,_)] ⟨rfl,rfl,rfl,trivial⟩ [0] rfl [] rfl (Nat.zero_le _) ⟨rfl,rfl,trivial⟩ (fun k H hc hkK=> ?_)
 have hh:=mS (h:=mC) (P.take (64*k)) rfl
 refine ah<|ah<|aj<|hy (fun _=>aa rfl)<|hy (fun _=>aa rfl)<|hy (fun _=>aT rfl Tryz.underlying27)<|hy (fun _=>bw rfl rfl)<|ai<|al (ρ' :=[(16,_),(3,_),(5,_),(4,_),(2,_),(0,_)]) ⟨rfl,rfl,rfl,rfl,rfl,rfl,trivial⟩<|ag<| ?_
 refine cG rfl (fun hlt=> ?_) (fun hlt=> ?_)
 ·have hk:k<K:=by omega
  refine bC (fun w m=>m.jL 0 rfl (View.sub (k:=64*k) (m:=64) hc_x (by omega))) ?_
  refine a6 (fun m=>ig (m.rd 0 rfl)) ?_
  rintro⟨hl_r64,hA_r64⟩
  refine aB<|ag<|ah<|aK<|aj<|hy (fun _=>aa rfl)<|hy (fun _=>aa rfl)<|hy (fun _=>aa rfl)<|hy (fun _=>aa rfl)<|hy (fun _=>aN rfl rfl (bF (by omega) (by omega)))<|hy (fun _=>yV (eZ rfl rfl rfl Tryz.underlying27 dZ (show((64*k:Nat):Int)=_ by omega) (show((64*k+64:Nat):Int)=_ by omega) (by omega) (by omega)) ((show Value.slice (if c_x=64*k then A_x else A_x.map (·.add (64*k*1))) (64*k+64-64*k) (c_x-64*k)= .slice (if c_x=64*k then A_x else A_x.map (·.add (64*k*1))) 64 (c_x-64*k) by rw[Nat.add_sub_cancel_left])))<| ?_
  refine hx (cI rfl Tryz.call142 (CT (by omega) hh (h:=(fI mC (P.take (64*k))))) [] rfl (.x 0 rfl .own (.s 0 rfl .nil)) ?_)
  rintro _ _ _ ⟨u,rfl,rfl,rfl⟩
  refine⟨rfl, ?_⟩
  refine aA (fun m=>(m.own 0 rfl).slice) ?_
  rintro⟨A_y,c_y,rfl,hc_y⟩
  refine aA (fun m=>(m.ord 0 rfl).2.1) fun hA_y=> ?_
  refine hy (fun _=>ab rfl)<|ai<|al (ρ' :=[(3,_),(16,_),(5,_),(4,_),(2,_),(0,_)]) ⟨rfl,rfl,rfl,rfl,rfl,rfl,trivial⟩<|ak (X' :=[_,_,_]) (S' :=[_,_,_,_]) (fun _ m=>m)<|aO<|ag<|aj<|hy (fun _=>aa rfl)<|hy (fun _=>yV (aN rfl rfl (bF (by omega) (by omega))) ((show Value.int .i64 (((64*k:Nat):Int)+64)= .int .i64 ((64*(k+1):Nat):Int)from congrArg (Value.int .i64) (by omega))))<|hy (fun _=>ab rfl)<|ai<|al (ρ' :=[(5,_),(3,_),(16,_),(4,_),(2,_),(0,_)]) ⟨rfl,rfl,rfl,rfl,rfl,rfl,trivial⟩<| ?_
  have hfs:eI (fI mC (P.take (64*k))) ((P.drop (64*k)).take 64)=fI mC (P.take (64*(k+1))):=by
   rw[←p6 (by rw[List.length_take];omega) (by rw[List.length_take,List.length_drop];omega),←List.take_add]
   rfl
  rw[hfs]
  refine fG (k+1) A_y c_y ⟨rfl,rfl,rfl,rfl,rfl,trivial⟩ [0,1] rfl [1,2,3] rfl (by omega) (by omega)
 ·obtain rfl:k=K:=by omega
  have hfl:fI mC (P.take (64*k))=fI mC P:=by rw[List.take_of_length_le (by omega)]
  rw[hfl]at hh ⊢
  have hsha:bn l=eU (fI mC P):=by rw[bn,hP]
  have hdl:=mI hh
  generalize fI mC P=F at hh hsha hdl ⊢
  refine a6 (fun m=>(m.ord 0 rfl).2.1) fun hA_b10=> ?_
  refine bL<|ao<|ao<|aD<|ag<|ah<|aj<| ?_
  refine hx (aM cP (fun g6=> ?_))
  refine ai<|ak (X' :=[_,_,_]) (S' :=[_,_,_]) (fun _ m=>m)<|ag<|ah<|ah<|aj<|hy (fun _=>ab rfl)<|ai<|ag<|aK<| ?_
  refine bC (fun w m=>m.bN 0 rfl (show _=aL g6 53 (aW ((eU F).take 0++List.replicate (32-0) 0))from rfl)) ?_
  refine dH (fun i=>32-i) (fun i=>[(7,.int .i64 (i:Nat))]) (fun i=>[aL g6 53 (aW ((eU F).take i++List.replicate (32-i) 0))]) (fun i=>[]) (fun i=>i≤32) 0 [(6,_),(16,_),(3,_),(5,_),(4,_),(2,_),(0,_)] ⟨rfl,rfl,rfl,rfl,rfl,rfl,rfl,trivial⟩ [0] rfl [] rfl (Nat.zero_le _) ⟨rfl,trivial⟩ (fun i hi32=> ?_)
  refine ah<|ah<|aj<|hy (fun _=>aa rfl)<|hy (fun _=>bw rfl rfl)<|ai<|al (ρ' :=[(27,_),(7,_),(6,_),(16,_),(3,_),(5,_),(4,_),(2,_),(0,_)]) ⟨rfl,rfl,rfl,rfl,rfl,rfl,rfl,rfl,rfl,trivial⟩<|ag<| ?_
  refine cG rfl (fun hi=> ?_) (fun hi=> ?_)
  ·refine aB<|ag<|ah<|aK<|ah<|aj<|hy (fun _=>aa rfl)<|hy (fun _=>aa rfl)<|hy (fun _=>jV rfl rfl (by omega) (by omega) (bF (by omega) (by omega)))<|hy (fun _=>aS rfl rfl Tryz.underlying215 bQ hA_b10 (show((i/4:Nat):Int)=_ by omega) (by omega))<|hy (fun m=>yV (aw rfl bY ((m.ord 1 rfl).cell (j:=i/4) (bp (by omega)))) ((rfl:_=Wd (qw (F.getD (i/4) 0) 0))))<|hy (fun _=>ab rfl)<|ai<|al (ρ' :=[(8,_),(27,_),(7,_),(6,_),(16,_),(3,_),(5,_),(4,_),(2,_),(0,_)]) ⟨rfl,rfl,rfl,rfl,rfl,rfl,rfl,rfl,rfl,rfl,trivial⟩<|ag<|ah<|ah<|aj<|hy (fun _=>aa rfl)<|hy (fun _=>yV (gN rfl rfl (by omega) (by omega)) ((show Value.int .i64 ((i:Int) % 4)= .int .i64 (((i % 4+0:Nat)):Int)from congrArg (Value.int .i64) (by omega))))<|hy (fun _=>ab rfl)<|ai<|al (ρ' :=[(9,_),(8,_),(27,_),(7,_),(6,_),(16,_),(3,_),(5,_),(4,_),(2,_),(0,_)]) ⟨rfl,rfl,rfl,rfl,rfl,rfl,rfl,rfl,rfl,rfl,rfl,trivial⟩<|ag<|aK<| ?_
   refine dH (fun j=>3-j) (fun j=>[(8,Wd (qw (F.getD (i/4) 0) j)),(9,.int .i64 ((i % 4+j:Nat):Int))]) (fun j=>[]) (fun j=>[]) (fun j=>i % 4+j≤3) 0 [(27,_),(7,_),(6,_),(16,_),(3,_),(5,_),(4,_),(2,_),(0,_)] ⟨rfl,rfl,rfl,rfl,rfl,rfl,rfl,rfl,rfl,trivial⟩ [] rfl [] rfl ((by omega)) ⟨rfl,rfl,trivial⟩ (fun j hj3=> ?_)
   refine ah<|ah<|aj<|hy (fun _=>aa rfl)<|hy (fun _=>bw rfl rfl)<|ai<|al (ρ' :=[(38,_),(8,_),(9,_),(27,_),(7,_),(6,_),(16,_),(3,_),(5,_),(4,_),(2,_),(0,_)]) ⟨rfl,rfl,rfl,rfl,rfl,rfl,rfl,rfl,rfl,rfl,rfl,rfl,trivial⟩<|ag<| ?_
   refine cG rfl (fun hj=> ?_) (fun hj=> ?_)
   ·refine aB<|ag<|ah<|aK<|aj<|hy (fun _=>aa rfl)<|hy (fun _=>yV (sy (b:=256) (by decide) rfl rfl) ((rfl:_=Wd (qw (F.getD (i/4) 0) (j+1)))))<|hy (fun _=>ab rfl)<|ai<|al (ρ' :=[(8,_),(38,_),(9,_),(27,_),(7,_),(6,_),(16,_),(3,_),(5,_),(4,_),(2,_),(0,_)]) ⟨rfl,rfl,rfl,rfl,rfl,rfl,rfl,rfl,rfl,rfl,rfl,rfl,trivial⟩<|aO<|ag<|aj<|hy (fun _=>aa rfl)<|hy (fun _=>yV (aN rfl rfl (bF (by omega) (by omega))) ((show Value.int .i64 (((i % 4+j:Nat):Int)+1)= .int .i64 ((i % 4+(j+1):Nat):Int)from congrArg (Value.int .i64) (by omega))))<|hy (fun _=>ab rfl)<|ai<|al (ρ' :=[(9,_),(8,_),(38,_),(27,_),(7,_),(6,_),(16,_),(3,_),(5,_),(4,_),(2,_),(0,_)]) ⟨rfl,rfl,rfl,rfl,rfl,rfl,rfl,rfl,rfl,rfl,rfl,rfl,trivial⟩<| ?_
    refine cX (j+1) ⟨rfl,rfl,rfl,rfl,rfl,rfl,rfl,rfl,rfl,rfl,rfl,trivial⟩ [0,0,0] rfl [0,1,2] rfl (by omega) (by omega)
   ·have hj:j=3-i % 4:=by omega
    subst hj
    have hbyte:(eU F)[i]? =some (UInt8.ofNat (qw (F.getD (i/4) 0) (3-i % 4) % 256).toNat):=by
     rw[←Fm _ (by omega),←rf F (i/4) (i % 4) (by omega) (by omega)]
     congr 1;omega
    have hri:List.replicate (32-i) (0:UInt8)=0::List.replicate (32-(i+1)) 0:=by rw[show 32-i=(32-(i+1))+1 by omega];rfl
    have hti:(eU F).take (i+1)=(eU F).take i++[UInt8.ofNat (qw (F.getD (i/4) 0) (3-i % 4) % 256).toNat]:=by
     rw[List.take_add_one,hbyte];rfl
    refine bL<|ao<|ao<|aD<|ag<|aj<|hy (fun _=>aa rfl)<|hy (fun _=>aa rfl)<|hy (fun _=>yY (b:=256) (by decide) rfl rfl)<|hy (fun _=>zc rfl Tryz.underlying166 Tryz.underlying5)<|hy (fun _=>bZ rfl rfl Tryz.underlying53 dZ rfl (by omega))<| ?_
    refine cH (ct 0 rfl rfl rfl dZ rfl (by rw[az,List.length_append,List.length_take,List.length_replicate];omega) ?_)
    refine ai<|al (ρ' :=[(38,_),(8,_),(9,_),(27,_),(7,_),(6,_),(16,_),(3,_),(5,_),(4,_),(2,_),(0,_)]) ⟨rfl,rfl,rfl,rfl,rfl,rfl,rfl,rfl,rfl,rfl,rfl,rfl,trivial⟩<|ak (X' :=[_,_,_]) (S' :=[_,_,_]) (fun _ m=>m)<|aO<|ag<|aj<|hy (fun _=>aa rfl)<|hy (fun _=>aN rfl rfl (bF (by omega) (by omega)))<|hy (fun _=>ab rfl)<|ai<|al (ρ' :=[(7,_),(38,_),(8,_),(9,_),(27,_),(6,_),(16,_),(3,_),(5,_),(4,_),(2,_),(0,_)]) ⟨rfl,rfl,rfl,rfl,rfl,rfl,rfl,rfl,rfl,rfl,rfl,rfl,trivial⟩<| ?_
    refine ak (fun w m=>m.bN 0 rfl (show _=aL g6 53 (aW ((eU F).take (i+1)++List.replicate (32-(i+1)) 0))from by rw[hri,Nat.zero_add,hti];exact congrArg (aL _ _) (Ay (by rw[List.length_take];omega)))) ?_
    refine cX (i+1) ⟨rfl,rfl,rfl,rfl,rfl,rfl,rfl,rfl,trivial⟩ [0,0,0] rfl [0,1,2] rfl (by omega) (by omega)
  ·obtain rfl:i=32:=by omega
   refine bC (fun w m=>m.bN 0 rfl (show _=aL g6 53 (aW (bn l))from by rw[List.take_of_length_le (by omega),←hsha];simp)) ?_
   refine bL<|ao<|ao<|aD<|ag<|ah<|aj<|hy (fun m=>yV (aU rfl b9 bg (by rw[az,br]) ((m.aZ 0 rfl).ax)) ((rfl:_=Value.agg (aW (bn l)).toArray)))<| ?_
   refine cH (aJ 2 rfl rfl rfl bg (by rw[az,br]) aY rfl ?_)
   refine ai<|al (ρ' :=[(27,_),(7,_),(6,_),(16,_),(3,_),(5,_),(4,_),(2,_),(0,_)]) ⟨rfl,rfl,rfl,rfl,rfl,rfl,rfl,rfl,rfl,trivial⟩<|ak (X' :=[_,_,_]) (S' :=[_,_,_]) (fun _ m=>m)<|ag<|aX<| ?_
   exact fw trivial rfl rfl b9 bg (by rw[az,br]) (fun m=>(m.aZ 0 rfl).ax) [] rfl [] rfl ⟨rfl,rfl,rfl⟩
end Go.Proofs.YtmibdabdlgmafaaGreatDoor
end
section
set_option maxRecDepth 20000
set_option maxHeartbeats 4000000
namespace Go.Proofs.YtmibdabdlgmafaaGreatDoor
open Go.Eng Go.Hx
theorem wW{nm:List UInt8}(hm:nm.length=32):cf Tryz.prog 98 [.agg (aW nm).toArray] [] [] (fun v_ X_ S_=>v_=(.string (strOf (bU nm)))∧X_=[]∧S_=[]):=by
 have hhl:(cd nm).length=64:=by rw[dS,hm]
 refine aP (N:=6) Tryz.func98 rfl rfl (by simp) fun b=> ?_
 refine ah<|aj<| ?_
 refine hx (cw rfl (fun g1=> ?_))
 refine aQ (fun w m=>m.bN 0 rfl (show _=aL g1 53 (aW nm)from congrArg (aL _ _) (bu _))) ?_
 refine hy (fun _=>ab rfl)<|ai<|ak (X' :=[_]) (S' :=[]) (fun _ m=>m)<|ag<|ah<|aj<|hy (fun m=>aU rfl b9 bg (by rw[az];exact hm) ((m.aZ 0 rfl).ax))<| ?_
 refine hx (aq rfl Tryz.call111 (wF hm) [] rfl [] rfl ?_)
 rintro _ _ _ ⟨rfl,rfl,rfl⟩
 refine hy (fun _=>yV (jG rfl rfl (jj (a:=[116,47]) (b:=cd nm) (by simp[hhl]))) ((show Value.string (strOf [116,47]++strOf (cd nm))= .string (strOf (bU nm))from congrArg Value.string (dC _ _))))<|hy (fun _=>ab rfl)<|ai<|al (ρ' :=[(2,_),(1,_),(0,_)]) ⟨rfl,rfl,rfl,trivial⟩<|ak (X' :=[_]) (S' :=[]) (fun _ m=>m)<|ag<|aX<| ?_
 exact bh trivial rfl rfl [] rfl [] rfl ⟨rfl,rfl,rfl⟩
theorem Ds{x:RX}{kk:Nat}{nm:List UInt8}(ok:xP x.d kk)(hkk:kk≤100000)(hm:nm.length=32)(hrd:(x.d.cC (aG nm)).length≤10000000):cf Tryz.prog 74 [.agg x.cs.toArray,.agg (aW nm).toArray] [] [c6 x,ey] (fun v_ X_ S_=>v_=(.tuple #[.string (strOf (x.d.qu nm)),.int .i64 (x.d.eH nm)])∧X_=[]∧S_=[]):=by
 have h32:(aW nm).length=32:=by rw[az,hm]
 refine aP (N:=34) Tryz.func74 rfl rfl (by simp) fun b=> ?_
 refine ah<|aj<| ?_
 refine hx (cw rfl (fun g2=> ?_))
 refine aQ (fun w m=>m.bN 0 rfl (show _=aL g2 39 x.cs from congrArg (aL _ _) (bu _))) ?_
 refine hx (cw rfl (fun g3=> ?_))
 refine aQ (fun w m=>m.bN 0 rfl (show _=aL g3 53 (aW nm)from congrArg (aL _ _) (bu _))) ?_
 refine hy (fun _=>ab rfl)<|hy (fun _=>ab rfl)<|ai<|ak (X' :=[_,_]) (S' :=[_,_]) (fun _ m=>m)<|ag<|ah<|cT [2,3] [(0,some 1),(1,some 0),(2,none),(3,none),(4,some 2),(5,some 2),(6,some 2),(7,some 2),(8,some 2)] (by kernel_rfl) (by kernel_rfl) rfl 99<|cq (fun m=>yV (aU rfl ca bj rfl ((m.aZ 1 rfl).ax)) ((rfl:_=Value.agg x.cs.toArray)))<|cq (fun m=>aU rfl b9 bg h32 ((m.aZ 0 rfl).ax))<| ?_
 refine ek (aq rfl Tryz.call29 (lR hm) [] rfl [] rfl ?_)
 rintro _ _ _ ⟨rfl,rfl,rfl⟩
 refine⟨(fun _=>wk [0,0] [0,1] rfl rfl), ?_⟩
 refine ek (aq rfl Tryz.call91 (vv ok hkk (p:=(aG nm))) [] rfl [0] rfl ?_)
 rintro _ _ _ ⟨rfl,rfl,rfl⟩
 refine⟨(fun _=>wk [0,0] [0,1] rfl rfl), ?_⟩
 refine an (aa rfl)<|an (ar rfl rfl)<|an (ar rfl rfl)<|an (ab rfl)<|an (ab rfl)<|bz<|al (ρ' :=[(7,_),(6,_),(5,_),(4,_),(3,_),(2,_),(0,_),(1,_)]) ⟨rfl,rfl,rfl,rfl,rfl,rfl,rfl,rfl,trivial⟩<|ak (X' :=[_,_]) (S' :=[_,_]) (fun _ m=>m)<|ag<|ah<|ah<|aj<|hy (fun _=>aa rfl)<|hy (fun _=>cW rfl rfl)<|ai<|al (ρ' :=[(18,_),(7,_),(6,_),(5,_),(4,_),(3,_),(2,_),(0,_),(1,_)]) ⟨rfl,rfl,rfl,rfl,rfl,rfl,rfl,rfl,rfl,trivial⟩<|ag<| ?_
 refine cG rfl (fun h=> ?_) (fun h=> ?_)
 ·rw[j1 h,lF (by rw[j1 h];exact h)]
  refine ah<|aj<|hy (fun _=>aa rfl)<|hy (fun _=>ab rfl)<|hy (fun _=>ab rfl)<|ai<|al (ρ' :=[(5,_),(4,_),(18,_),(7,_),(6,_),(3,_),(2,_),(0,_),(1,_)]) ⟨rfl,rfl,rfl,rfl,rfl,rfl,rfl,rfl,rfl,trivial⟩<|ag<|aX<|ay<| ?_
  exact dy trivial rfl rfl rfl [] rfl [] rfl ⟨rfl,rfl,rfl⟩
 ·have h1:=Decidable.not_not.1 h
  have hbs:(bytesOf (strOf (x.d.cC (aG nm)))).length=(x.d.cC (aG nm)).length:=rfl
  have hol:=rj (f:=x.d.cC (aG nm)) (most:=4096) (by decide)
  refine aB<|ag<|ah<|aj<|hy (fun _=>aa rfl)<| ?_
  refine hx (Ew rfl Tryz.underlying9 Tryz.underlying27 Tryz.underlying5 (show(x.d.cC (aG nm)).length≤maxLen by unfold maxLen;omega) (fun v22=> ?_))
  refine aA (fun m=>(m.own 0 rfl).slice) ?_
  rintro⟨A_b22,c_b22,rfl,hc_b22⟩
  refine aA (fun m=>(m.ord 0 rfl).2.1) fun hA_b22=> ?_
  refine aQ (fun w m=>m.bN 0 rfl (show _=aH 5 1 (.slice A_b22 (x.d.cC (aG nm)).length c_b22) (x.d.cC (aG nm)).length (aW (x.d.cC (aG nm)))from rfl)) ?_
  refine aQ (fun w m=>(m.perm (au [0] _ [_] _ rfl)).freeze) ?_
  refine aQ (fun w m=>m.jL 0 rfl .own) ?_
  refine hx (aq rfl Tryz.call156 (EC hc_b22 rfl hrd (show(4096:Int)≤1000000 by decide) (f:=(x.d.cC (aG nm)))) [] rfl [0] rfl ?_)
  rintro _ _ _ ⟨A1,c1,rfl,rfl,rfl,hp⟩
  refine aA (fun m=>ig (m.rd 0 rfl)) ?_
  rintro⟨hl_q,hA_q⟩
  refine hy (fun _=>aa rfl)<|hy (fun _=>ar rfl rfl)<|hy (fun _=>ar rfl rfl)<|hy (fun _=>ab rfl)<|hy (fun _=>ab rfl)<|ai<|al (ρ' :=[(9,_),(8,_),(18,_),(7,_),(6,_),(5,_),(4,_),(3,_),(2,_),(0,_),(1,_)]) ⟨rfl,rfl,rfl,rfl,rfl,rfl,rfl,rfl,rfl,rfl,rfl,trivial⟩<|ak (X' :=[_,_]) (S' :=[_,_,_,_,_]) (fun _ m=>m)<|ag<|ah<|ah<|aj<|hy (fun _=>aa rfl)<|hy (fun _=>cW rfl rfl)<|ai<|al (ρ' :=[(27,_),(9,_),(8,_),(18,_),(7,_),(6,_),(5,_),(4,_),(3,_),(2,_),(0,_),(1,_)]) ⟨rfl,rfl,rfl,rfl,rfl,rfl,rfl,rfl,rfl,rfl,rfl,rfl,trivial⟩<|ag<| ?_
  refine cG rfl (fun h2=> ?_) (fun h2=> ?_)
  ·have hE:=nt (d:=x.d) (nm:=nm) h1 (.inl h2)
   rw[hE,lF (by rw[hE];decide)]
   refine ah<|aj<|hy (fun _=>ab rfl)<|hy (fun _=>ab rfl)<|ai<|ag<|aX<|ay<| ?_
   exact dy trivial rfl rfl rfl [] rfl [] rfl ⟨rfl,rfl,rfl⟩
  ·have h2:=Decidable.not_not.1 h2
   refine aB<|ag<|ah<|ah<|cT [1] [(0,some 0),(2,some 1),(1,none),(3,some 1)] (by kernel_rfl) (by kernel_rfl) rfl 99<|an (aa rfl)<|cq (fun m=>aU rfl b9 bg h32 ((m.aZ 0 rfl).ax))<| ?_
   refine ek (aq rfl Tryz.call56 (pC (by omega)) [] rfl [0] rfl ?_)
   rintro _ _ _ ⟨rfl,rfl,rfl⟩
   refine⟨(fun _=>wk [0,0] [0,1,2,3,4] rfl rfl), ?_⟩
   refine an (o1 rfl rfl (br _) hm)<|bz<|al (ρ' :=[(31,_),(27,_),(9,_),(8,_),(18,_),(7,_),(6,_),(5,_),(4,_),(3,_),(2,_),(0,_),(1,_)]) ⟨rfl,rfl,rfl,rfl,rfl,rfl,rfl,rfl,rfl,rfl,rfl,rfl,rfl,trivial⟩<|ak (X' :=[_,_]) (S' :=[_,_,_,_,_]) (fun _ m=>m)<|ag<| ?_
   refine cG rfl (fun h3=> ?_) (fun h3=> ?_)
   ·have hE:=nt (d:=x.d) (nm:=nm) h1 (.inr h3)
    rw[hE,lF (by rw[hE];decide)]
    refine ah<|aj<|hy (fun _=>ab rfl)<|hy (fun _=>ab rfl)<|ai<|ag<|aX<|ay<| ?_
    exact dy trivial rfl rfl rfl [] rfl [] rfl ⟨rfl,rfl,rfl⟩
   ·have hE:=sP (d:=x.d) (nm:=nm) h1 (fun q=>q.elim (fun q=>q h2) h3)
    rw[hE,sF hE]
    refine aB<|ag<|ah<|aj<|hy (fun _=>aa rfl)<|hy (fun m=>kF rfl Tryz.underlying27 Tryz.underlying5 Tryz.underlying9 (m.rd 0 rfl))<|hy (fun _=>ab rfl)<|hy (fun _=>ab rfl)<|ai<|al (ρ' :=[(5,_),(4,_),(31,_),(27,_),(9,_),(8,_),(18,_),(7,_),(6,_),(3,_),(2,_),(0,_),(1,_)]) ⟨rfl,rfl,rfl,rfl,rfl,rfl,rfl,rfl,rfl,rfl,rfl,rfl,rfl,trivial⟩<|ag<|aX<| ?_
    exact dy trivial rfl rfl rfl [] rfl [] rfl ⟨rfl,rfl,rfl⟩
theorem En{d:RD}{bb:List UInt8}(h:d.bP (bU (bn bb)) (bK bb)≠0):d.iY bb=(d.write (bU (bn bb)) (bK bb),d.bP (bU (bn bb)) (bK bb)):=by
 unfold RD.iY
 rw[cr]
 exact if_pos h
theorem E8{d:RD}{bb:List UInt8}(h:d.bP (bU (bn bb)) (bK bb)=0)(h2:(d.write (bU (bn bb)) (bK bb)).dx≠0):d.iY bb=((d.write (bU (bn bb)) (bK bb)).sync,(d.write (bU (bn bb)) (bK bb)).dx):=by
 unfold RD.iY
 rw[cr,if_neg (by show¬d.bP _ _≠0;rw[h];decide),cr]
 exact if_pos h2
theorem Eb{d:RD}{bb:List UInt8}(h:d.bP (bU (bn bb)) (bK bb)=0)(h2:(d.write (bU (bn bb)) (bK bb)).dx=0)(h3:(d.write (bU (bn bb)) (bK bb)).sync.b7 (bU (bn bb)) (aG (bn bb))≠0):d.iY bb=((d.write (bU (bn bb)) (bK bb)).sync.rename (bU (bn bb)) (aG (bn bb)),(d.write (bU (bn bb)) (bK bb)).sync.b7 (bU (bn bb)) (aG (bn bb))):=by
 unfold RD.iY
 rw[cr,if_neg (by show¬d.bP _ _≠0;rw[h];decide),cr,if_neg (by show¬(d.write _ _).dx≠0;rw[h2];decide),cr]
 exact if_pos h3
theorem Ft{d:RD}{bb:List UInt8}(h:d.bP (bU (bn bb)) (bK bb)=0)(h2:(d.write (bU (bn bb)) (bK bb)).dx=0)(h3:(d.write (bU (bn bb)) (bK bb)).sync.b7 (bU (bn bb)) (aG (bn bb))=0):d.iY bb=(((d.write (bU (bn bb)) (bK bb)).sync.rename (bU (bn bb)) (aG (bn bb))).sync,((d.write (bU (bn bb)) (bK bb)).sync.rename (bU (bn bb)) (aG (bn bb))).dx):=by
 unfold RD.iY
 rw[cr,if_neg (by show¬d.bP _ _≠0;rw[h];decide),cr,if_neg (by show¬(d.write _ _).dx≠0;rw[h2];decide),cr,if_neg (by show¬((d.write _ _).sync).b7 _ _≠0;rw[h3];decide),cr]
 by_cases h4:(cE (r7 (bU (bn bb)) (aG (bn bb)) (cE (sQ (bU (bn bb)) (bK bb) d).1).1).1).2=0
 ·rw[if_neg (fun q=>q h4)]
  exact Prod.ext rfl h4.symm
 ·rw[if_pos h4];rfl
theorem nH{d:RD}{bb:List UInt8}(hn:¬4096<bb.length)(h6:d.eH (bn bb)≠6)(h0:d.eH (bn bb)≠0){d' :RD}{e:Int}(h:d.iY bb=(d',e)):d.put bb=(d',if e=0 then bn bb else ei,e):=by
 unfold RD.put;rw[if_neg hn,if_neg h6,if_neg h0,h]
theorem kM{x:RX}{kk:Nat}{A:Option Addr}{n c:Nat}{bb:List UInt8}(hD:x.d.ok kk)(hkk:kk≤90000)(hc:n≤c)(hl:bb.length=n)(hn:n≤100000):cf Tryz.prog 26 [.agg x.cs.toArray,.slice A n c] [] [c6 x,di 1 A n (aW bb),ey] (fun v_ X_ S_=>∃y,v_=(.tuple #[.agg y.cs.toArray,.agg (aW (x.d.put bb).2.1).toArray,.int .i64 (x.d.put bb).2.2])∧X_=[]∧S_=[c6 y]∧(y.d=(x.d.put bb).1)):=by
 have hm:=br bb
 have h32:(aW (bn bb)).length=32:=by rw[az,hm]
 have z32:(aW ei).length=32:=by rw[az,fu]
 obtain⟨s0,s1⟩:=lh bb
 have hrd:(x.d.cC (aG (bn bb))).length≤10000000:=by
  obtain⟨st,hst⟩:=hD
  have:=hst.vo (aG (bn bb))
  omega
 have ok1:=hD.write (p:=bU (bn bb)) (l:=bK bb) (by omega)
 have okr:=hD.qy
 have okr1:=ok1.qy
 have okr2:=ok1.sync.qy
 have okr3:=ok1.sync.rename (a:=bU (bn bb)) (c:=aG (bn bb))|>.qy
 refine aP (N:=74) Tryz.func26 rfl rfl (by simp) fun b=> ?_
 refine a6 (fun m=>ig (m.rd 1 rfl)) ?_
 rintro⟨hl_rb,hA_rb⟩
 refine ah<|aj<| ?_
 refine hx (cw rfl (fun g2=> ?_))
 refine aQ (fun w m=>m.bN 0 rfl (show _=aL g2 39 x.cs from congrArg (aL _ _) (bu _))) ?_
 refine hx (aM fO (fun g4=> ?_))
 refine hx (aM cP (fun g5=> ?_))
 refine hy (fun _=>ab rfl)<|ai<|ak (X' :=[_,_,_]) (S' :=[_,_,_]) (fun _ m=>m)<|ag<|ah<|ah<|aj<|hy (fun _=>aa rfl)<|hy (fun _=>aT rfl Tryz.underlying27)<|hy (fun _=>dh rfl rfl)<|ai<|al (ρ' :=[(12,_),(6,_),(5,_),(4,_),(2,_),(0,_),(1,_)]) ⟨rfl,rfl,rfl,rfl,rfl,rfl,rfl,trivial⟩<|ag<| ?_
 refine cG rfl (fun hbig=> ?_) (fun hbig=> ?_)
 ·have e0:x.d.put bb=(x.d,ei,3):=w7 (by omega)
  rw[e0]
  refine ah<|aj<|hy (fun m=>yV (aU rfl ca bj rfl ((m.aZ 2 rfl).ax)) ((rfl:_=Value.agg x.cs.toArray)))<|hy (fun _=>yV (eA cP rfl (by kernel_rfl)) ((rfl:_=Value.agg (aW ei).toArray)))<| ?_
  refine cH (aJ 1 rfl rfl rfl bj rfl bA rfl ?_)
  refine cH (aJ 1 rfl rfl rfl bg z32 aY rfl ?_)
  refine hy (fun _=>ab rfl)<|ai<|al (ρ' :=[(6,_),(12,_),(5,_),(4,_),(2,_),(0,_),(1,_)]) ⟨rfl,rfl,rfl,rfl,rfl,rfl,rfl,trivial⟩<|ak (X' :=[_,_,_]) (S' :=[_,_,_]) (fun _ m=>m)<|ag<|aX<|ay<| ?_
  exact fz trivial rfl rfl rfl rfl ca bj rfl (fun m=>(m.aZ 1 rfl).ax) b9 bg z32 (fun m=>(m.aZ 0 rfl).ax) [] rfl [0] rfl ⟨x,rfl,rfl,rfl,rfl⟩
 ·have hbg:¬4096<bb.length:=by omega
  refine aB<|ag<|ah<|aj<|hy (fun _=>aa rfl)<| ?_
  refine hx (aq rfl Tryz.call56 (pC (by omega)) [] rfl [1] rfl ?_)
  rintro _ _ _ ⟨rfl,rfl,rfl⟩
  refine hx (aM cP (fun g7=> ?_))
  refine cH (aJ 0 rfl rfl rfl bg h32 aY rfl ?_)
  refine ai<|al (ρ' :=[(7,_),(12,_),(6,_),(5,_),(4,_),(2,_),(0,_),(1,_)]) ⟨rfl,rfl,rfl,rfl,rfl,rfl,rfl,rfl,trivial⟩<|ak (X' :=[_,_,_,_]) (S' :=[_,_,_]) (fun _ m=>m)<|ag<|ah<|aj<|hy (fun m=>yV (aU rfl ca bj rfl ((m.aZ 3 rfl).ax)) ((rfl:_=Value.agg x.cs.toArray)))<|hy (fun m=>aU rfl b9 bg h32 ((m.aZ 0 rfl).ax))<| ?_
  refine hx (aq rfl Tryz.call74 (Ds okr (by omega) hm hrd) [] rfl [0,2] rfl ?_)
  rintro _ _ _ ⟨rfl,rfl,rfl⟩
  refine hy (fun _=>aa rfl)<|hy (fun _=>ar rfl rfl)<|hy (fun _=>ar rfl rfl)<|hy (fun _=>ab rfl)<|hy (fun _=>ab rfl)<|ai<|al (ρ' :=[(9,_),(7,_),(12,_),(6,_),(5,_),(4,_),(2,_),(0,_),(1,_)]) ⟨rfl,rfl,rfl,rfl,rfl,rfl,rfl,rfl,rfl,trivial⟩<|ak (X' :=[_,_,_,_]) (S' :=[_,_,_]) (fun _ m=>m)<|ag<|ah<|ah<|aj<|hy (fun _=>aa rfl)<|hy (fun _=>cM rfl rfl)<|ai<|al (ρ' :=[(24,_),(9,_),(7,_),(12,_),(6,_),(5,_),(4,_),(2,_),(0,_),(1,_)]) ⟨rfl,rfl,rfl,rfl,rfl,rfl,rfl,rfl,rfl,rfl,trivial⟩<|ag<| ?_
  refine cG rfl (fun h0=> ?_) (fun h0=> ?_)
  ·have e0:x.d.put bb=(x.d,bn bb,0):=by unfold RD.put;rw[if_neg hbg,if_neg (by rw[h0];decide),if_pos h0]
   rw[e0]
   refine ah<|ui [0,1,2,3] (.alt 0 (.alt 1 (.alt 2 (.alt 3 (.take 4 4<|.done) (.stop)) (.stop)) (.alt 2 (.alt 1 (.alt 3 (.take 4 4<|.done) (.stop)) (.stop)) (.stop))) (.alt 1 (.alt 0 (.alt 2 (.alt 3 (.take 4 4<|.done) (.stop)) (.stop)) (.stop)) (.stop))) (by kernel_rfl) (by kernel_rfl) rfl 1<| ?_
   refine er ?_ ?_
   ·refine fx<|mX (fun m=>yV (aU rfl ca bj rfl ((m.aZ 3 rfl).ax)) ((rfl:_=Value.agg x.cs.toArray)))<|And.intro (fun _=>wk [0,0,0,0] [0,1,2] rfl rfl)<| ?_
    refine er ?_ ?_
    ·refine fx<|mX (fun m=>aU rfl b9 bg h32 ((m.aZ 0 rfl).ax))<|And.intro (fun h=>absurd h (by decide))<| ?_
     refine ee (aJ 2 rfl rfl rfl bj rfl bA rfl ⟨(fun h=>absurd h (by decide)), ?_⟩)
     refine ee (aJ 2 rfl rfl rfl bg h32 aY rfl ⟨(fun h=>absurd h (by decide)), ?_⟩)
     refine bV (ab rfl)<|eJ<|al (ρ' :=[(6,_),(24,_),(9,_),(7,_),(12,_),(5,_),(4,_),(2,_),(0,_),(1,_)]) ⟨rfl,rfl,rfl,rfl,rfl,rfl,rfl,rfl,rfl,rfl,trivial⟩<|ak (X' :=[_,_,_,_]) (S' :=[_,_,_]) (fun _ m=>m)<|ag<|aX<|ay<| ?_
     exact fz trivial rfl rfl rfl rfl ca bj rfl (fun m=>(m.aZ 1 rfl).ax) b9 bg h32 (fun m=>(m.aZ 0 rfl).ax) [] rfl [0] rfl ⟨x,rfl,rfl,rfl,rfl⟩
    ·refine ee (aJ 2 rfl rfl rfl bj rfl bA rfl ⟨(fun h=>absurd h (by decide)), ?_⟩)
     refine fx<|mX (fun m=>aU rfl b9 bg h32 ((m.aZ 1 rfl).ax))<|And.intro (fun h=>absurd h (by decide))<| ?_
     refine ee (aJ 2 rfl rfl rfl bg h32 aY rfl ⟨(fun h=>absurd h (by decide)), ?_⟩)
     refine bV (ab rfl)<|eJ<|al (ρ' :=[(6,_),(24,_),(9,_),(7,_),(12,_),(5,_),(4,_),(2,_),(0,_),(1,_)]) ⟨rfl,rfl,rfl,rfl,rfl,rfl,rfl,rfl,rfl,rfl,trivial⟩<|ak (X' :=[_,_,_,_]) (S' :=[_,_,_]) (fun _ m=>m)<|ag<|aX<|ay<| ?_
     exact fz trivial rfl rfl rfl rfl ca bj rfl (fun m=>(m.aZ 1 rfl).ax) b9 bg h32 (fun m=>(m.aZ 0 rfl).ax) [] rfl [0] rfl ⟨x,rfl,rfl,rfl,rfl⟩
   ·refine fx<|mX (fun m=>aU rfl b9 bg h32 ((m.aZ 0 rfl).ax))<|And.intro (fun _=>wk [0,0,0,0] [0,1,2] rfl rfl)<|fx<|mX (fun m=>yV (aU rfl ca bj rfl ((m.aZ 3 rfl).ax)) ((rfl:_=Value.agg x.cs.toArray)))<|And.intro (fun h=>absurd h (by decide))<| ?_
    refine ee (aJ 2 rfl rfl rfl bj rfl bA rfl ⟨(fun h=>absurd h (by decide)), ?_⟩)
    refine ee (aJ 2 rfl rfl rfl bg h32 aY rfl ⟨(fun h=>absurd h (by decide)), ?_⟩)
    refine bV (ab rfl)<|eJ<|al (ρ' :=[(6,_),(24,_),(9,_),(7,_),(12,_),(5,_),(4,_),(2,_),(0,_),(1,_)]) ⟨rfl,rfl,rfl,rfl,rfl,rfl,rfl,rfl,rfl,rfl,trivial⟩<|ak (X' :=[_,_,_,_]) (S' :=[_,_,_]) (fun _ m=>m)<|ag<|aX<|ay<| ?_
    exact fz trivial rfl rfl rfl rfl ca bj rfl (fun m=>(m.aZ 1 rfl).ax) b9 bg h32 (fun m=>(m.aZ 0 rfl).ax) [] rfl [0] rfl ⟨x,rfl,rfl,rfl,rfl⟩
  ·refine aB<|ag<|ah<|ah<|aj<|hy (fun _=>aa rfl)<|hy (fun _=>cM rfl rfl)<|ai<|al (ρ' :=[(28,_),(24,_),(9,_),(7,_),(12,_),(6,_),(5,_),(4,_),(2,_),(0,_),(1,_)]) ⟨rfl,rfl,rfl,rfl,rfl,rfl,rfl,rfl,rfl,rfl,rfl,trivial⟩<|ag<| ?_
   refine cG rfl (fun h6=> ?_) (fun h6=> ?_)
   ·have e0:x.d.put bb=(x.d,ei,6):=by unfold RD.put;rw[if_neg hbg,if_pos h6]
    rw[e0,h6]
    refine ah<|aj<|hy (fun m=>yV (aU rfl ca bj rfl ((m.aZ 3 rfl).ax)) ((rfl:_=Value.agg x.cs.toArray)))<|hy (fun _=>yV (eA cP rfl (by kernel_rfl)) ((rfl:_=Value.agg (aW ei).toArray)))<|hy (fun _=>aa rfl)<| ?_
    refine cH (aJ 2 rfl rfl rfl bj rfl bA rfl ?_)
    refine cH (aJ 2 rfl rfl rfl bg z32 aY rfl ?_)
    refine hy (fun _=>ab rfl)<|ai<|al (ρ' :=[(6,_),(28,_),(24,_),(9,_),(7,_),(12,_),(5,_),(4,_),(2,_),(0,_),(1,_)]) ⟨rfl,rfl,rfl,rfl,rfl,rfl,rfl,rfl,rfl,rfl,rfl,trivial⟩<|ak (X' :=[_,_,_,_]) (S' :=[_,_,_]) (fun _ m=>m)<|ag<|aX<|ay<| ?_
    exact fz trivial rfl rfl rfl rfl ca bj rfl (fun m=>(m.aZ 1 rfl).ax) b9 bg z32 (fun m=>(m.aZ 0 rfl).ax) [] rfl [0] rfl ⟨x,rfl,rfl,rfl,rfl⟩
   ·refine aB<|ag<|ah<|cT [2,4,5,6,10] [(0,some 3),(1,some 0),(3,some 1),(2,none),(4,none),(5,none),(6,none),(7,some 4),(8,some 4),(9,some 5),(10,none),(11,some 5)] (by kernel_rfl) (by kernel_rfl) rfl 4<|cq (fun m=>yV (aU rfl ca bj rfl ((m.aZ 3 rfl).ax)) ((rfl:_=Value.agg x.cs.toArray)))<|cq (fun m=>aU rfl b9 bg h32 ((m.aZ 0 rfl).ax))<|an (aa rfl)<| ?_
    refine ek (aq rfl Tryz.call98 (wW hm) [] rfl [] rfl ?_)
    rintro _ _ _ ⟨rfl,rfl,rfl⟩
    refine⟨(fun _=>wk [0,0,0,0] [0,1,2] rfl rfl), ?_⟩
    refine ek (aq rfl Tryz.call81 (DU hc (by omega) hl) [] rfl [1] rfl ?_)
    rintro _ _ _ ⟨v,rfl,rfl,rfl⟩
    refine⟨(fun _=>wk [1,1,1,1] [0,1,2] rfl rfl), ?_⟩
    refine cm (fun m=>(m.own 0 rfl).slice) ?_
    rintro⟨A_x,c_x,rfl,hc_x⟩
    refine cm (fun m=>(m.ord 0 rfl).2.1) fun hA_x=> ?_
    refine D3 (fun _=>wk [1,1,1,1] [0,1,2] rfl rfl) (fun m=>kF rfl Tryz.underlying27 Tryz.underlying5 Tryz.underlying9 (m.ord 0 rfl))<| ?_
    refine ek (aq rfl Tryz.call31 (nb okr (by omega) (by rw[jI hm];decide) (by omega) (p:=(bU (bn bb))) (bb:=(bK bb))) [] rfl [0] rfl ?_)
    rintro _ _ _ ⟨y,rfl,rfl,rfl,hd1⟩
    refine⟨(fun _=>wk [1,1,1,1] [1,2,3] rfl rfl), ?_⟩
    refine an (aa rfl)<|an (ar rfl rfl)<|an (ar rfl rfl)<| ?_
    refine kI (aJ 4 rfl rfl rfl bj rfl bA rfl ⟨(fun h=>absurd h (by decide)), ?_⟩)
    refine an (ab rfl)<|bz<|al (ρ' :=[(9,_),(28,_),(24,_),(7,_),(12,_),(6,_),(5,_),(4,_),(2,_),(0,_),(1,_)]) ⟨rfl,rfl,rfl,rfl,rfl,rfl,rfl,rfl,rfl,rfl,rfl,trivial⟩<|ak (X' :=[_,_,_,_,_]) (S' :=[_,_,_,_]) (fun _ m=>m)<|ag<|ah<|ah<|aj<|hy (fun _=>aa rfl)<|hy (fun _=>cM rfl rfl)<|ai<|al (ρ' :=[(43,_),(9,_),(28,_),(24,_),(7,_),(12,_),(6,_),(5,_),(4,_),(2,_),(0,_),(1,_)]) ⟨rfl,rfl,rfl,rfl,rfl,rfl,rfl,rfl,rfl,rfl,rfl,rfl,trivial⟩<|ag<| ?_
    refine cG rfl (fun h1=> ?_) (fun h1=> ?_)
    ·refine aj<|hy (fun m=>yV (aU rfl ca bj rfl ((m.aZ 0 rfl).ax)) ((rfl:_=Value.agg y.cs.toArray)))<| ?_
     refine hx (aq rfl Tryz.call99 (s5 (by rw[hd1];exact okr1)) [] rfl [0] rfl ?_)
     rintro _ _ _ ⟨y2,rfl,rfl,rfl,hd2⟩
     refine hy (fun _=>aa rfl)<|hy (fun _=>ar rfl rfl)<|hy (fun _=>ar rfl rfl)<| ?_
     refine cH (aJ 0 rfl rfl rfl bj rfl bA rfl ?_)
     refine hy (fun _=>ab rfl)<|ai<|al (ρ' :=[(9,_),(43,_),(28,_),(24,_),(7,_),(12,_),(6,_),(5,_),(4,_),(2,_),(0,_),(1,_)]) ⟨rfl,rfl,rfl,rfl,rfl,rfl,rfl,rfl,rfl,rfl,rfl,rfl,trivial⟩<|ak (X' :=[_,_,_,_,_]) (S' :=[_,_,_,_,_]) (fun _ m=>m)<|ag<|ah<|ah<|aj<|hy (fun _=>aa rfl)<|hy (fun _=>cM rfl rfl)<|ai<|al (ρ' :=[(50,_),(9,_),(43,_),(28,_),(24,_),(7,_),(12,_),(6,_),(5,_),(4,_),(2,_),(0,_),(1,_)]) ⟨rfl,rfl,rfl,rfl,rfl,rfl,rfl,rfl,rfl,rfl,rfl,rfl,rfl,trivial⟩<|ag<| ?_
     refine cG rfl (fun h2=> ?_) (fun h2=> ?_)
     ·refine cT [2,4,5,9] [(0,some 2),(1,some 0),(3,some 1),(2,none),(4,none),(5,none),(6,some 3),(7,some 3),(8,some 4),(9,none),(10,some 4)] (by kernel_rfl) (by kernel_rfl) rfl 3<|cq (fun m=>yV (aU rfl ca bj rfl ((m.aZ 0 rfl).ax)) ((rfl:_=Value.agg y2.cs.toArray)))<|cq (fun m=>aU rfl b9 bg h32 ((m.aZ 2 rfl).ax))<|cq (fun m=>aU rfl b9 bg h32 ((m.aZ 2 rfl).ax))<| ?_
      refine ek (aq rfl Tryz.call98 (wW hm) [] rfl [] rfl ?_)
      rintro _ _ _ ⟨rfl,rfl,rfl⟩
      refine⟨(fun _=>wk [0,0,0,0,0] [0,1,2,3,4] rfl rfl), ?_⟩
      refine ek (aq rfl Tryz.call29 (lR hm) [] rfl [] rfl ?_)
      rintro _ _ _ ⟨rfl,rfl,rfl⟩
      refine⟨(fun _=>wk [0,0,0,0,0] [0,1,2,3,4] rfl rfl), ?_⟩
      refine ek (aq rfl Tryz.call100 (A7 (by rw[hd2,hd1];exact okr2) (show kk+1≤100000 by omega) (by rw[eg hm];decide) (a:=(bU (bn bb))) (c:=(aG (bn bb)))) [] rfl [0] rfl ?_)
      rintro _ _ _ ⟨y3,rfl,rfl,rfl,hd3⟩
      refine⟨(fun _=>wk [0,0,0,0,0] [1,2,3,4,5] rfl rfl), ?_⟩
      refine an (aa rfl)<|an (ar rfl rfl)<|an (ar rfl rfl)<| ?_
      refine kI (aJ 0 rfl rfl rfl bj rfl bA rfl ⟨(fun h=>absurd h (by decide)), ?_⟩)
      refine an (ab rfl)<|bz<|al (ρ' :=[(9,_),(50,_),(43,_),(28,_),(24,_),(7,_),(12,_),(6,_),(5,_),(4,_),(2,_),(0,_),(1,_)]) ⟨rfl,rfl,rfl,rfl,rfl,rfl,rfl,rfl,rfl,rfl,rfl,rfl,rfl,trivial⟩<|ak (X' :=[_,_,_,_,_]) (S' :=[_,_,_,_,_,_]) (fun _ m=>m)<|ag<|ah<|ah<|aj<|hy (fun _=>aa rfl)<|hy (fun _=>cM rfl rfl)<|ai<|al (ρ' :=[(61,_),(9,_),(50,_),(43,_),(28,_),(24,_),(7,_),(12,_),(6,_),(5,_),(4,_),(2,_),(0,_),(1,_)]) ⟨rfl,rfl,rfl,rfl,rfl,rfl,rfl,rfl,rfl,rfl,rfl,rfl,rfl,rfl,trivial⟩<|ag<| ?_
      refine cG rfl (fun h3=> ?_) (fun h3=> ?_)
      ·have hP:=Ft (d:=x.d) (bb:=bb) h1 (by rw[←hd1];exact h2) (by rw[←hd1,←hd2];exact h3)
       rw[←hd1,←hd2,←hd3]at hP
       have e0:=nH hbg h6 h0 hP
       refine aj<|hy (fun m=>yV (aU rfl ca bj rfl ((m.aZ 0 rfl).ax)) ((rfl:_=Value.agg y3.cs.toArray)))<| ?_
       refine hx (aq rfl Tryz.call99 (s5 (by rw[hd3,hd2,hd1];exact okr3)) [] rfl [0] rfl ?_)
       rintro _ _ _ ⟨y4,rfl,rfl,rfl,hd4⟩
       refine hy (fun _=>aa rfl)<|hy (fun _=>ar rfl rfl)<|hy (fun _=>ar rfl rfl)<| ?_
       refine cH (aJ 0 rfl rfl rfl bj rfl bA rfl ?_)
       refine hy (fun _=>ab rfl)<|ai<|al (ρ' :=[(9,_),(61,_),(50,_),(43,_),(28,_),(24,_),(7,_),(12,_),(6,_),(5,_),(4,_),(2,_),(0,_),(1,_)]) ⟨rfl,rfl,rfl,rfl,rfl,rfl,rfl,rfl,rfl,rfl,rfl,rfl,rfl,rfl,trivial⟩<|ak (X' :=[_,_,_,_,_]) (S' :=[_,_,_,_,_,_,_]) (fun _ m=>m)<|ag<|ah<|ah<|aj<|hy (fun _=>aa rfl)<|hy (fun _=>cW rfl rfl)<|ai<|al (ρ' :=[(68,_),(9,_),(61,_),(50,_),(43,_),(28,_),(24,_),(7,_),(12,_),(6,_),(5,_),(4,_),(2,_),(0,_),(1,_)]) ⟨rfl,rfl,rfl,rfl,rfl,rfl,rfl,rfl,rfl,rfl,rfl,rfl,rfl,rfl,rfl,trivial⟩<|ag<| ?_
       rw[←hd4]at e0
       refine cG rfl (fun h4=> ?_) (fun h4=> ?_)
       ·rw[if_neg h4]at e0
        rw[e0]
        refine ah<|aj<|hy (fun m=>yV (aU rfl ca bj rfl ((m.aZ 0 rfl).ax)) ((rfl:_=Value.agg y4.cs.toArray)))<|hy (fun _=>yV (eA cP rfl (by kernel_rfl)) ((rfl:_=Value.agg (aW ei).toArray)))<|hy (fun _=>aa rfl)<| ?_
        refine cH (aJ 4 rfl rfl rfl bj rfl bA rfl ?_)
        refine cH (aJ 4 rfl rfl rfl bg z32 aY rfl ?_)
        refine hy (fun _=>ab rfl)<|ai<|al (ρ' :=[(6,_),(68,_),(9,_),(61,_),(50,_),(43,_),(28,_),(24,_),(7,_),(12,_),(5,_),(4,_),(2,_),(0,_),(1,_)]) ⟨rfl,rfl,rfl,rfl,rfl,rfl,rfl,rfl,rfl,rfl,rfl,rfl,rfl,rfl,rfl,trivial⟩<|ak (X' :=[_,_,_,_,_]) (S' :=[_,_,_,_,_,_,_]) (fun _ m=>m)<|ag<|aX<|ay<| ?_
        exact fz trivial rfl rfl rfl rfl ca bj rfl (fun m=>(m.aZ 1 rfl).ax) b9 bg z32 (fun m=>(m.aZ 0 rfl).ax) [] rfl [0] rfl ⟨y4,rfl,rfl,rfl,rfl⟩
       ·have h4:=Decidable.not_not.1 h4
        rw[if_pos h4,h4]at e0
        rw[e0]
        refine aB<|ag<|ah<|ui [0,1,2,3] (.alt 0 (.alt 1 (.alt 2 (.alt 3 (.take 4 4<|.done) (.stop)) (.stop)) (.alt 2 (.alt 1 (.alt 3 (.take 4 4<|.done) (.stop)) (.stop)) (.stop))) (.alt 1 (.alt 0 (.alt 2 (.alt 3 (.take 4 4<|.done) (.stop)) (.stop)) (.stop)) (.stop))) (by kernel_rfl) (by kernel_rfl) rfl 1<| ?_
        refine er ?_ ?_
        ·refine fx<|mX (fun m=>yV (aU rfl ca bj rfl ((m.aZ 0 rfl).ax)) ((rfl:_=Value.agg y4.cs.toArray)))<|And.intro (fun _=>wk [0,0,0,0,0] [0,1,2,3,4,5,6] rfl rfl)<| ?_
         refine er ?_ ?_
         ·refine fx<|mX (fun m=>aU rfl b9 bg h32 ((m.aZ 2 rfl).ax))<|And.intro (fun h=>absurd h (by decide))<| ?_
          refine ee (aJ 4 rfl rfl rfl bj rfl bA rfl ⟨(fun h=>absurd h (by decide)), ?_⟩)
          refine ee (aJ 4 rfl rfl rfl bg h32 aY rfl ⟨(fun h=>absurd h (by decide)), ?_⟩)
          refine bV (ab rfl)<|eJ<|al (ρ' :=[(6,_),(68,_),(9,_),(61,_),(50,_),(43,_),(28,_),(24,_),(7,_),(12,_),(5,_),(4,_),(2,_),(0,_),(1,_)]) ⟨rfl,rfl,rfl,rfl,rfl,rfl,rfl,rfl,rfl,rfl,rfl,rfl,rfl,rfl,rfl,trivial⟩<|ak (X' :=[_,_,_,_,_]) (S' :=[_,_,_,_,_,_,_]) (fun _ m=>m)<|ag<|aX<| ?_
          exact fz trivial rfl rfl rfl rfl ca bj rfl (fun m=>(m.aZ 1 rfl).ax) b9 bg h32 (fun m=>(m.aZ 0 rfl).ax) [] rfl [0] rfl ⟨y4,rfl,rfl,rfl,rfl⟩
         ·refine ee (aJ 4 rfl rfl rfl bj rfl bA rfl ⟨(fun h=>absurd h (by decide)), ?_⟩)
          refine fx<|mX (fun m=>aU rfl b9 bg h32 ((m.aZ 3 rfl).ax))<|And.intro (fun h=>absurd h (by decide))<| ?_
          refine ee (aJ 4 rfl rfl rfl bg h32 aY rfl ⟨(fun h=>absurd h (by decide)), ?_⟩)
          refine bV (ab rfl)<|eJ<|al (ρ' :=[(6,_),(68,_),(9,_),(61,_),(50,_),(43,_),(28,_),(24,_),(7,_),(12,_),(5,_),(4,_),(2,_),(0,_),(1,_)]) ⟨rfl,rfl,rfl,rfl,rfl,rfl,rfl,rfl,rfl,rfl,rfl,rfl,rfl,rfl,rfl,trivial⟩<|ak (X' :=[_,_,_,_,_]) (S' :=[_,_,_,_,_,_,_]) (fun _ m=>m)<|ag<|aX<| ?_
          exact fz trivial rfl rfl rfl rfl ca bj rfl (fun m=>(m.aZ 1 rfl).ax) b9 bg h32 (fun m=>(m.aZ 0 rfl).ax) [] rfl [0] rfl ⟨y4,rfl,rfl,rfl,rfl⟩
        ·refine fx<|mX (fun m=>aU rfl b9 bg h32 ((m.aZ 2 rfl).ax))<|And.intro (fun _=>wk [0,0,0,0,0] [0,1,2,3,4,5,6] rfl rfl)<|fx<|mX (fun m=>yV (aU rfl ca bj rfl ((m.aZ 0 rfl).ax)) ((rfl:_=Value.agg y4.cs.toArray)))<|And.intro (fun h=>absurd h (by decide))<| ?_
         refine ee (aJ 4 rfl rfl rfl bj rfl bA rfl ⟨(fun h=>absurd h (by decide)), ?_⟩)
         refine ee (aJ 4 rfl rfl rfl bg h32 aY rfl ⟨(fun h=>absurd h (by decide)), ?_⟩)
         refine bV (ab rfl)<|eJ<|al (ρ' :=[(6,_),(68,_),(9,_),(61,_),(50,_),(43,_),(28,_),(24,_),(7,_),(12,_),(5,_),(4,_),(2,_),(0,_),(1,_)]) ⟨rfl,rfl,rfl,rfl,rfl,rfl,rfl,rfl,rfl,rfl,rfl,rfl,rfl,rfl,rfl,trivial⟩<|ak (X' :=[_,_,_,_,_]) (S' :=[_,_,_,_,_,_,_]) (fun _ m=>m)<|ag<|aX<| ?_
         exact fz trivial rfl rfl rfl rfl ca bj rfl (fun m=>(m.aZ 1 rfl).ax) b9 bg h32 (fun m=>(m.aZ 0 rfl).ax) [] rfl [0] rfl ⟨y4,rfl,rfl,rfl,rfl⟩
      ·have hP:=Eb (d:=x.d) (bb:=bb) h1 (by rw[←hd1];exact h2) (by rw[←hd1,←hd2];exact h3)
       rw[←hd1,←hd2,←hd3]at hP
       have e0:=nH hbg h6 h0 hP
       rw[if_neg h3]at e0
       rw[e0]
       refine aB<|ag<|ah<|ah<|aj<|hy (fun _=>aa rfl)<|hy (fun _=>cW rfl rfl)<|ai<|al (ρ' :=[(68,_),(61,_),(9,_),(50,_),(43,_),(28,_),(24,_),(7,_),(12,_),(6,_),(5,_),(4,_),(2,_),(0,_),(1,_)]) ⟨rfl,rfl,rfl,rfl,rfl,rfl,rfl,rfl,rfl,rfl,rfl,rfl,rfl,rfl,rfl,trivial⟩<|ag<| ?_
       refine gY rfl ((decide_eq_true h3)) ?_
       refine ah<|aj<|hy (fun m=>yV (aU rfl ca bj rfl ((m.aZ 0 rfl).ax)) ((rfl:_=Value.agg y3.cs.toArray)))<|hy (fun _=>yV (eA cP rfl (by kernel_rfl)) ((rfl:_=Value.agg (aW ei).toArray)))<|hy (fun _=>aa rfl)<| ?_
       refine cH (aJ 4 rfl rfl rfl bj rfl bA rfl ?_)
       refine cH (aJ 4 rfl rfl rfl bg z32 aY rfl ?_)
       refine hy (fun _=>ab rfl)<|ai<|al (ρ' :=[(6,_),(68,_),(61,_),(9,_),(50,_),(43,_),(28,_),(24,_),(7,_),(12,_),(5,_),(4,_),(2,_),(0,_),(1,_)]) ⟨rfl,rfl,rfl,rfl,rfl,rfl,rfl,rfl,rfl,rfl,rfl,rfl,rfl,rfl,rfl,trivial⟩<|ak (X' :=[_,_,_,_,_]) (S' :=[_,_,_,_,_,_]) (fun _ m=>m)<|ag<|aX<|ay<| ?_
       exact fz trivial rfl rfl rfl rfl ca bj rfl (fun m=>(m.aZ 1 rfl).ax) b9 bg z32 (fun m=>(m.aZ 0 rfl).ax) [] rfl [0] rfl ⟨y3,rfl,rfl,rfl,rfl⟩
     ·have hP:=E8 (d:=x.d) (bb:=bb) h1 (by rw[←hd1];exact h2)
      rw[←hd1,←hd2]at hP
      have e0:=nH hbg h6 h0 hP
      rw[if_neg h2]at e0
      rw[e0]
      refine aB<|ag<|ah<|ah<|aj<|hy (fun _=>aa rfl)<|hy (fun _=>cM rfl rfl)<|ai<|al (ρ' :=[(61,_),(50,_),(9,_),(43,_),(28,_),(24,_),(7,_),(12,_),(6,_),(5,_),(4,_),(2,_),(0,_),(1,_)]) ⟨rfl,rfl,rfl,rfl,rfl,rfl,rfl,rfl,rfl,rfl,rfl,rfl,rfl,rfl,trivial⟩<|ag<| ?_
      refine dB rfl ((decide_eq_false h2)) ?_
      refine aB<|ag<|ah<|ah<|aj<|hy (fun _=>aa rfl)<|hy (fun _=>cW rfl rfl)<|ai<|al (ρ' :=[(68,_),(61,_),(50,_),(9,_),(43,_),(28,_),(24,_),(7,_),(12,_),(6,_),(5,_),(4,_),(2,_),(0,_),(1,_)]) ⟨rfl,rfl,rfl,rfl,rfl,rfl,rfl,rfl,rfl,rfl,rfl,rfl,rfl,rfl,rfl,trivial⟩<|ag<| ?_
      refine gY rfl ((decide_eq_true h2)) ?_
      refine ah<|aj<|hy (fun m=>yV (aU rfl ca bj rfl ((m.aZ 0 rfl).ax)) ((rfl:_=Value.agg y2.cs.toArray)))<|hy (fun _=>yV (eA cP rfl (by kernel_rfl)) ((rfl:_=Value.agg (aW ei).toArray)))<|hy (fun _=>aa rfl)<| ?_
      refine cH (aJ 4 rfl rfl rfl bj rfl bA rfl ?_)
      refine cH (aJ 4 rfl rfl rfl bg z32 aY rfl ?_)
      refine hy (fun _=>ab rfl)<|ai<|al (ρ' :=[(6,_),(68,_),(61,_),(50,_),(9,_),(43,_),(28,_),(24,_),(7,_),(12,_),(5,_),(4,_),(2,_),(0,_),(1,_)]) ⟨rfl,rfl,rfl,rfl,rfl,rfl,rfl,rfl,rfl,rfl,rfl,rfl,rfl,rfl,rfl,trivial⟩<|ak (X' :=[_,_,_,_,_]) (S' :=[_,_,_,_,_]) (fun _ m=>m)<|ag<|aX<|ay<| ?_
      exact fz trivial rfl rfl rfl rfl ca bj rfl (fun m=>(m.aZ 1 rfl).ax) b9 bg z32 (fun m=>(m.aZ 0 rfl).ax) [] rfl [0] rfl ⟨y2,rfl,rfl,rfl,rfl⟩
    ·have hP:=En (d:=x.d) (bb:=bb) h1
     have e0:=nH hbg h6 h0 hP
     rw[if_neg h1]at e0
     rw[e0,←hd1]
     refine aB<|ag<|ah<|ah<|aj<|hy (fun _=>aa rfl)<|hy (fun _=>cM rfl rfl)<|ai<|al (ρ' :=[(50,_),(43,_),(9,_),(28,_),(24,_),(7,_),(12,_),(6,_),(5,_),(4,_),(2,_),(0,_),(1,_)]) ⟨rfl,rfl,rfl,rfl,rfl,rfl,rfl,rfl,rfl,rfl,rfl,rfl,rfl,trivial⟩<|ag<| ?_
     refine dB rfl ((decide_eq_false h1)) ?_
     refine aB<|ag<|ah<|ah<|aj<|hy (fun _=>aa rfl)<|hy (fun _=>cM rfl rfl)<|ai<|al (ρ' :=[(61,_),(50,_),(43,_),(9,_),(28,_),(24,_),(7,_),(12,_),(6,_),(5,_),(4,_),(2,_),(0,_),(1,_)]) ⟨rfl,rfl,rfl,rfl,rfl,rfl,rfl,rfl,rfl,rfl,rfl,rfl,rfl,rfl,trivial⟩<|ag<| ?_
     refine dB rfl ((decide_eq_false h1)) ?_
     refine aB<|ag<|ah<|ah<|aj<|hy (fun _=>aa rfl)<|hy (fun _=>cW rfl rfl)<|ai<|al (ρ' :=[(68,_),(61,_),(50,_),(43,_),(9,_),(28,_),(24,_),(7,_),(12,_),(6,_),(5,_),(4,_),(2,_),(0,_),(1,_)]) ⟨rfl,rfl,rfl,rfl,rfl,rfl,rfl,rfl,rfl,rfl,rfl,rfl,rfl,rfl,rfl,trivial⟩<|ag<| ?_
     refine gY rfl ((decide_eq_true h1)) ?_
     refine ah<|aj<|hy (fun m=>yV (aU rfl ca bj rfl ((m.aZ 0 rfl).ax)) ((rfl:_=Value.agg y.cs.toArray)))<|hy (fun _=>yV (eA cP rfl (by kernel_rfl)) ((rfl:_=Value.agg (aW ei).toArray)))<|hy (fun _=>aa rfl)<| ?_
     refine cH (aJ 4 rfl rfl rfl bj rfl bA rfl ?_)
     refine cH (aJ 4 rfl rfl rfl bg z32 aY rfl ?_)
     refine hy (fun _=>ab rfl)<|ai<|al (ρ' :=[(6,_),(68,_),(61,_),(50,_),(43,_),(9,_),(28,_),(24,_),(7,_),(12,_),(5,_),(4,_),(2,_),(0,_),(1,_)]) ⟨rfl,rfl,rfl,rfl,rfl,rfl,rfl,rfl,rfl,rfl,rfl,rfl,rfl,rfl,rfl,trivial⟩<|ak (X' :=[_,_,_,_,_]) (S' :=[_,_,_,_]) (fun _ m=>m)<|ag<|aX<|ay<| ?_
     exact fz trivial rfl rfl rfl rfl ca bj rfl (fun m=>(m.aZ 1 rfl).ax) b9 bg z32 (fun m=>(m.aZ 0 rfl).ax) [] rfl [0] rfl ⟨y,rfl,rfl,rfl,rfl⟩
end Go.Proofs.YtmibdabdlgmafaaGreatDoor
end
