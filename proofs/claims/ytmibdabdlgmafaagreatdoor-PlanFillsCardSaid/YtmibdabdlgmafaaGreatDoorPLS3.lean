/- Part. -/
import Derived.Test.YtmibdabdlgmafaaGreatDoorPLS2
import Derived.Laws.BitsAllLaws
import Derived.Recover
import Derived.WideKeyEntry
set_option linter.all false
section
set_option maxRecDepth 20000
namespace Go.Proofs.YtmibdabdlgmafaaGreatDoor
open Go.Eng Go.Hx
def kR(ring l:List UInt8):Prop:=ring.length=16∧∀i,i<l.length→l.length≤i+16→ring.getD (i % 16) 0=l.getD i 0
theorem kR.snoc{ring l:List UInt8}(h:kR ring l)(c:UInt8):kR (ring.set (l.length % 16) c) (l++[c]):=by
 refine⟨by rw[List.length_set];exact h.1,fun i hi hi2=> ?_⟩
 rw[List.length_append,List.length_singleton]at hi hi2
 have h1:=h.1
 by_cases e:i=l.length
 ·subst e
  rw[List.getD,List.getElem?_set_self (by omega),List.getD,List.getElem?_append_right (Nat.le_refl _),Nat.sub_self]
  rfl
 ·have hne:l.length % 16≠i % 16:=by omega
  have h2:=h.2 i (by omega) (by omega)
  rw[List.getD]at h2
  rw[List.getD,List.getElem?_set_ne hne,h2,List.getD,List.getD,List.getElem?_append_left (by omega)]
theorem kR.nil{ring:List UInt8}(h:ring.length=16):kR ring []:=⟨h,fun i hi=>absurd hi (by simp)⟩
theorem kR.last{ring l:List UInt8}(h:kR ring l)(hl:16≤l.length):ring.getD (l.length % 16) 0=l.getD (l.length-16) 0:=by
 have:=h.2 (l.length-16) (by omega) (by omega)
 rwa [show(l.length-16) % 16=l.length % 16 by omega]at this
structure fV where
 d:Int
 ws:List UInt32
 ring:List UInt8
structure fV.ok(s:fV)(l:List UInt8):Prop where
 ws:(s.d=0∧s.ws.length=256)∨(s.d=1∧s.ws=bE)
 ring:kR s.ring l
theorem fV.ok.wl{s:fV}{l:List UInt8}(h:s.ok l):s.ws.length=256:=by
 rcases h.ws with h|h
 ·exact h.2
 ·rw[h.2];exact bD
theorem fV.ok.clear{s:fV}{l:List UInt8}(h:s.ok l):s.ok []:=⟨h.ws,.nil h.ring.1⟩
abbrev kL(g:Nat)(s:fV)(l:List UInt8):bl:=aH g 404 (gk s.d 0 s.ws s.ring l.length (eH bE l))
def lL:fV:=⟨0,List.replicate 256 0,List.replicate 16 0⟩
theorem xp:lL.ok []:=⟨.inl ⟨rfl,List.length_replicate ..⟩,.nil (List.length_replicate ..)⟩
theorem HW{g n:Nat}{d:Int}{ws:List UInt32}{ring:List UInt8}{s:UInt32}{c:UInt8}(hd:(d=0∧ws.length=256)∨(d=1∧ws=bE)):b7 Tryz.prog 309 [.pointer (some ⟨g,0,none⟩),B8 c] [aH g 404 (gk d 0 ws ring n s)] [] (fun v_ X_ S_=>v_=(Wd (bE.getD c.toNat 0))∧X_=[aH g 404 (gk 1 0 bE ring n s)]∧S_=[]):=by
 rcases hd with⟨rfl,h⟩|⟨rfl,rfl⟩
 ·exact Kt h
 ·exact Fk
theorem yU:b7 Tryz.prog 303 [] [] [] (fun v_ X_ S_=>∃g,v_=(.pointer (some ⟨g,0,none⟩))∧X_=[kL g lL []]∧S_=[]):=by
 refine aM (N:=3) Tryz.func303 rfl rfl (by simp) fun b=> ?_
 refine ae<|ai<|aG rfl<|ag<|ab<|ae<|ai<|hy (fun _=>dK I3 rfl (by kernel_rfl))<| ?_
 refine hx (bu rfl (fun g2=> ?_))
 refine aG rfl<|ag<|aB [0] rfl<|aj (X' :=[_]) (S' :=[]) (fun _ m=>m)<|ab<|aV<| ?_
 refine aj (fun w m=>m.bz 0 rfl (show _=aH g2 404 (gk lL.d 0 lL.ws lL.ring ([]:List UInt8).length (eH bE []))from congrArg (aH _ _) (aT _))) ?_
 exact bc trivial rfl rfl [0] rfl [] rfl ⟨_,rfl,rfl,rfl⟩
theorem H3{g:Nat}{s:fV}{l:List UInt8}{c:UInt8}(hs:s.ok l)(hn:l.length≤1000000):b7 Tryz.prog 304 [.pointer (some ⟨g,0,none⟩),B8 c] [kL g s l] [] (fun v_ X_ S_=>∃s1,v_=(Wd (eH bE (l++[c])))∧X_=[kL g s1 (l++[c])]∧S_=[]∧(s1.ok (l++[c]))):=by
 have hw:=hs.wl
 have hr:=hs.ring.1
 have hsn:=wh bE l c
 refine aM (N:=66) Tryz.func304 rfl rfl (by simp) fun b=> ?_
 refine ae<|ai<|aG rfl<|ag<|ab<|ae<|ai<|aw rfl<|hy (fun _=>aO rfl)<|hy (fun _=>aF rfl D9 (by decide))<|hy (fun _=>fU rfl rfl)<|aG rfl<|ag<|aB [5,4,0,1] rfl<|ab<|ae<|ai<|aw rfl<|hy (fun _=>aO rfl)<|hy (fun _=>aF rfl j9 (by decide))<|hy (fun m=>ao rfl dD ((m.aU 0 rfl).cell (xG hw hr)))<|hy (fun _=>yV (hZ rfl rfl (by omega) (by omega)) ((show Value.int .i64 ((l.length:Int) % 16)= .int .i64 ((l.length % 16:Nat):Int) by rw[Int.natCast_emod];rfl)))<|aG rfl<|ag<|aB [6,5,4,0,1] rfl<|ab<|ae<|ai<|aw rfl<|aw rfl<|hy (fun _=>aO rfl)<|hy (fun _=>aF rfl j0 (by decide))<|hy (fun m=>ao rfl bV ((m.aU 0 rfl).cell (xD hw hr)))<| ?_
 refine hx (aq rfl Tryz.call296 (Fw (by decide) (by decide) (n:=1) (x:=(eH bE l))) [] rfl [] rfl ?_)
 rintro _ _ _ ⟨rfl,rfl,rfl⟩
 refine aw rfl<|aw rfl<| ?_
 have e1:iN (32-1) (eH bE l)=kF (eH bE l):=tF (n:=1) (by decide)
 rw[e1]
 refine hx (eT rfl rfl Tryz.call309 (HW hs.ws (c:=c)) [0] rfl [] rfl ?_)
 rintro _ _ _ ⟨rfl,rfl,rfl⟩
 refine hy (fun _=>dj rfl rfl)<|hy (fun _=>aO rfl)<|hy (fun _=>aF rfl j0 (by decide))<| ?_
 refine cI (b9 0 rfl rfl rfl bI rfl (by(rw[jl bD hr];try dsimp only);omega) ?_)
 refine aJ (fun w m=>m.bz 0 rfl (show _=aH g 404 (gk 1 0 bE s.ring l.length (kF (eH bE l) ^^^ bE.getD c.toNat 0))from congrArg (aH _ _) (ra bD hr))) ?_
 refine ag<|aB [6,5,4,0,1] rfl<|aj (X' :=[_]) (S' :=[]) (fun _ m=>m)<|ab<|ae<|ae<|ai<|aw rfl<|hy (fun _=>aO rfl)<|hy (fun _=>aF rfl j9 (by decide))<|hy (fun m=>ao rfl dD ((m.aU 0 rfl).cell (xG bD hr)))<|hy (fun _=>dL rfl rfl)<|ag<|aB [32,6,5,4,0,1] rfl<|ab<| ?_
 refine cB rfl (fun hge=> ?_) (fun hge=> ?_)
 ·have hl16:16≤l.length:=by omega
  rw[if_pos hl16]at hsn
  refine py [0] [] rfl rfl [11,12,16] [(0,some 2),(1,some 2),(2,some 2),(3,some 2),(4,some 0),(5,some 2),(6,some 0),(7,some 2),(8,some 0),(9,some 0),(10,some 0),(11,none),(12,none),(13,some 2),(14,some 2),(15,some 2),(16,none)] (by kernel_rfl) (by kernel_rfl) rfl 2<|ak (ah rfl)<|ak (aO rfl)<|ak (aF rfl j0 (by decide))<|bZ (fun m=>ao rfl bV ((m.aU 0 rfl).cell (xD bD hr)))<|ak (ah rfl)<|ak (ah rfl)<|ak (ah rfl)<|ak (aO rfl)<|ak (aF rfl tL (by decide))<|ak (bS rfl rfl Tryz.underlying402 dU rfl (by omega))<|bZ (fun m=>ao rfl iO (ov (m.aU 0 rfl) (Ix bD hr (by omega))))<| ?_
  refine dF (eT rfl rfl Tryz.call309 (Fk (c:=(s.ring.getD (l.length % 16) 0))) [0] rfl [] rfl ?_)
  rintro _ _ _ ⟨rfl,rfl,rfl⟩
  refine⟨(fun _=>wk [0] [] rfl rfl), ?_⟩
  refine dF (aq rfl Tryz.call296 (Fw (by decide) (by decide) (n:=16) (x:=(bE.getD (s.ring.getD (l.length % 16) 0).toNat 0))) [] rfl [] rfl ?_)
  rintro _ _ _ ⟨rfl,rfl,rfl⟩
  refine⟨(fun _=>wk [0] [] rfl rfl), ?_⟩
  have e2:iN (32-16) (bE.getD (s.ring.getD (l.length % 16) 0).toNat 0)=mH (bE.getD (l.getD (l.length-16) 0).toNat 0) 16:=by rw[tF (n:=16) (by decide),hs.ring.last hl16]
  rw[e2]
  refine ak (dj rfl rfl)<|ak (aO rfl)<|ak (aF rfl j0 (by decide))<| ?_
  refine gu (b9 0 rfl rfl rfl bI rfl (by(rw[jl bD hr];try dsimp only);omega) ⟨(fun h=>absurd h (by decide)), ?_⟩)
  refine ez (fun w m=>m.bz 0 rfl (show _=aH g 404 (gk 1 0 bE s.ring l.length (eH bE (l++[c])))from congrArg (aH _ _) (by rw[hsn];exact ra bD hr))) ?_
  refine bq<|aB [32,6,5,4,0,1] rfl<|aj (X' :=[_]) (S' :=[]) (fun _ m=>m)<|ab<|ae<|ai<|aw rfl<|aw rfl<|aw rfl<|hy (fun _=>aO rfl)<|hy (fun _=>aF rfl tL (by decide))<|hy (fun _=>bS rfl rfl Tryz.underlying402 dU rfl (by omega))<| ?_
  refine cI (b9 0 rfl rfl rfl dU rfl (by(rw[jl bD hr];try dsimp only);omega) ?_)
  refine aJ (fun w m=>m.bz 0 rfl (show _=aH g 404 (gk 1 0 bE (s.ring.set (l.length % 16) c) l.length (eH bE (l++[c])))from congrArg (aH _ _) (show(gk 1 0 bE s.ring l.length (eH bE (l++[c]))).set (259+l.length % 16) (B8 c)=_ from vR bD hr (by omega)))) ?_
  have hr2:(s.ring.set (l.length % 16) c).length=16:=by rw[List.length_set];exact hr
  refine ag<|aB [32,6,5,4,0,1] rfl<|aj (X' :=[_]) (S' :=[]) (fun _ m=>m)<|ab<|ae<|ai<|aw rfl<|hy (fun _=>aO rfl)<|hy (fun _=>aF rfl j9 (by decide))<|hy (fun m=>ao rfl dD ((m.aU 0 rfl).cell (xG bD hr2)))<|hy (fun _=>aP rfl rfl (bA (by omega) (by omega)))<|hy (fun _=>aO rfl)<|hy (fun _=>aF rfl j9 (by decide))<| ?_
  refine cI (b9 0 rfl rfl rfl ue rfl (by(rw[jl bD hr2];try dsimp only);omega) ?_)
  refine aJ (fun w m=>m.bz 0 rfl (show _=aH g 404 (gk 1 0 bE (s.ring.set (l.length % 16) c) (l++[c]).length (eH bE (l++[c])))from congrArg (aH _ _) (by rw[List.length_append];exact qy (m:=l.length+1) bD hr2))) ?_
  refine ag<|aB [32,6,5,4,0,1] rfl<|aj (X' :=[_]) (S' :=[]) (fun _ m=>m)<|ab<|ae<|ai<|aw rfl<|hy (fun _=>aO rfl)<|hy (fun _=>aF rfl j0 (by decide))<|hy (fun m=>ao rfl bV ((m.aU 0 rfl).cell (xD bD hr2)))<|aG rfl<|ag<|aB [4,32,6,5,0,1] rfl<|ab<|aV<| ?_
  exact bc trivial rfl rfl [0] rfl [] rfl ⟨(⟨1,bE,s.ring.set (l.length % 16) c⟩:fV),rfl,rfl,rfl,⟨.inr ⟨rfl,rfl⟩,hs.ring.snoc c⟩⟩
 ·have hl16:¬16≤l.length:=by omega
  rw[if_neg hl16]at hsn
  rw[←hsn]
  refine aC<|ab<|ae<|ai<|aw rfl<|aw rfl<|aw rfl<|hy (fun _=>aO rfl)<|hy (fun _=>aF rfl tL (by decide))<|hy (fun _=>bS rfl rfl Tryz.underlying402 dU rfl (by omega))<| ?_
  refine cI (b9 0 rfl rfl rfl dU rfl (by(rw[jl bD hr];try dsimp only);omega) ?_)
  refine aJ (fun w m=>m.bz 0 rfl (show _=aH g 404 (gk 1 0 bE (s.ring.set (l.length % 16) c) l.length (eH bE (l++[c])))from congrArg (aH _ _) (show(gk 1 0 bE s.ring l.length (eH bE (l++[c]))).set (259+l.length % 16) (B8 c)=_ from vR bD hr (by omega)))) ?_
  have hr2:(s.ring.set (l.length % 16) c).length=16:=by rw[List.length_set];exact hr
  refine ag<|aB [32,6,5,4,0,1] rfl<|aj (X' :=[_]) (S' :=[]) (fun _ m=>m)<|ab<|ae<|ai<|aw rfl<|hy (fun _=>aO rfl)<|hy (fun _=>aF rfl j9 (by decide))<|hy (fun m=>ao rfl dD ((m.aU 0 rfl).cell (xG bD hr2)))<|hy (fun _=>aP rfl rfl (bA (by omega) (by omega)))<|hy (fun _=>aO rfl)<|hy (fun _=>aF rfl j9 (by decide))<| ?_
  refine cI (b9 0 rfl rfl rfl ue rfl (by(rw[jl bD hr2];try dsimp only);omega) ?_)
  refine aJ (fun w m=>m.bz 0 rfl (show _=aH g 404 (gk 1 0 bE (s.ring.set (l.length % 16) c) (l++[c]).length (eH bE (l++[c])))from congrArg (aH _ _) (by rw[List.length_append];exact qy (m:=l.length+1) bD hr2))) ?_
  refine ag<|aB [32,6,5,4,0,1] rfl<|aj (X' :=[_]) (S' :=[]) (fun _ m=>m)<|ab<|ae<|ai<|aw rfl<|hy (fun _=>aO rfl)<|hy (fun _=>aF rfl j0 (by decide))<|hy (fun m=>ao rfl bV ((m.aU 0 rfl).cell (xD bD hr2)))<|aG rfl<|ag<|aB [4,32,6,5,0,1] rfl<|ab<|aV<| ?_
  exact bc trivial rfl rfl [0] rfl [] rfl ⟨(⟨1,bE,s.ring.set (l.length % 16) c⟩:fV),rfl,rfl,rfl,⟨.inr ⟨rfl,rfl⟩,hs.ring.snoc c⟩⟩
theorem Dv{g:Nat}{s:fV}{l:List UInt8}(hs:s.ok l):b7 Tryz.prog 305 [.pointer (some ⟨g,0,none⟩)] [kL g s l] [] (fun v_ X_ S_=>v_=(.tuple #[])∧X_=[kL g s []]∧S_=[]):=by
 have hw:=hs.wl
 have hr:=hs.ring.1
 refine aM (N:=8) Tryz.func305 rfl rfl (by simp) fun b=> ?_
 refine bk (fun w m=>m.bz 0 rfl (show _=aH g 404 (gk s.d 0 s.ws s.ring l.length (eH bE l))from rfl)) ?_
 refine ai<|aw rfl<|aw rfl<|hy (fun _=>aO rfl)<|hy (fun _=>aF rfl j9 (by decide))<| ?_
 refine cI (b9 0 rfl rfl rfl ue rfl (by(rw[jl hw hr];try dsimp only);omega) ?_)
 refine aJ (fun w m=>m.bz 0 rfl (show _=aH g 404 (gk s.d 0 s.ws s.ring 0 (eH bE l))from congrArg (aH _ _) (qy (m:=0) hw hr))) ?_
 refine hy (fun _=>aO rfl)<|hy (fun _=>aF rfl j0 (by decide))<| ?_
 refine cI (b9 0 rfl rfl rfl bI rfl (by(rw[jl hw hr];try dsimp only);omega) ?_)
 refine aJ (fun w m=>m.bz 0 rfl (show _=aH g 404 (gk s.d 0 s.ws s.ring ([]:List UInt8).length (eH bE []))from congrArg (aH _ _) (ra (x:=0) hw hr))) ?_
 refine ag<|aB [0] rfl<|aj (X' :=[_]) (S' :=[]) (fun _ m=>m)<| ?_
 exact eU trivial rfl [0] rfl [] rfl ⟨rfl,rfl,rfl⟩
end Go.Proofs.YtmibdabdlgmafaaGreatDoor
end
section
set_option maxRecDepth 20000
namespace Go.Proofs.YtmibdabdlgmafaaGreatDoor
open Go.Eng Go.Hx Go.Extern
theorem text(A:Option Addr)(n c:Nat)(l:List UInt8)(w:World)(hr:Rd w 1 A n (aW l))(hn:n≤70368744177664):
  Calls Tryz.prog 177 #[.slice A n c] w fun e w' =>e= .returned (.string (strOf (cq l)))∧Fr No w w' :=by
 have hl:l.length=n:=by have:=hr.1;rw[ax]at this;omega
 refine enter (N:=28) Tryz.func177 rfl rfl (by simp) ?_
 refine bd<|bm<|nq (al rfl)<|bj<|aL<|bd<|bm<|nq (al rfl)<|bj<|aL<|bd<|bd<|bm<|nq (ah rfl)<|nq (aY rfl Tryz.underlying27)<|nq (ah rfl)<|bj<|bN (aa (t:=7) rfl<|aa (t:=6) rfl<|aa (t:=3) rfl<|aa (t:=2) rfl<|aa (t:=0) rfl<|aI)<|aL<|c9<| ?_
 refine w7 (fun k _=>n-k) (fun k v=>[(0,.slice A n c),(3,v),(6,.int .i64 n),(7,.int .i64 (k:Nat))]) (fun k v w' =>k≤n∧Go.Eng.Own w' w.heap.size 5 1 v (2*k) (aW (cq (l.take k)))∧Fr No w w') 0 (.slice none 0 0) (⟨Nat.zero_le _,Own.nil w w.heap.size _ 1,Fr.refl _ _⟩) (aa (t:=0) rfl<|aa (t:=3) rfl<|aa (t:=6) rfl<|aa (t:=7) rfl<|aI) (fun k v w1 ⟨hk,ho,hf⟩=> ?_)
 refine bd<|bm<|nq (bw rfl rfl)<|bj<|aL<|bd<| ?_
 refine ph rfl (fun h=> ?_) (fun h=> ?_)
 ·have hkn:k<n:=by omega
  have hb:=(l.getD k 0).toNat_lt
  refine dT<|aL<|bd<|c9<|bd<|bm<|nq (ah rfl)<|nq (al rfl)<|bj<|bN (aa (t:=4) rfl<|aa (t:=8) rfl<|aa (t:=0) rfl<|aa (t:=3) rfl<|aa (t:=6) rfl<|aa (t:=7) rfl<|aI)<|aL<| ?_
  refine Bf [(0,false),(1,false),(2,false),(3,false),(4,false),(5,false),(6,false),(7,false),(8,false),(9,false),(10,false),(11,false),(12,false),(13,true),(14,true),(15,false)] (by kernel_rfl) (by kernel_rfl) rfl (fun w' =>Fr No w w') (hf.cK (Fr.drew _)) (fun w2 hf2 hS2=> ?_)
  refine sq (fun w_ hS_=>ah rfl)<|sq (fun w_ hS_=>ah rfl)<|sq (fun w_ hS_=>ah rfl)<|sq (fun w_ hS_=>aZ rfl rfl Tryz.underlying27 dU hr.2.1 rfl (by omega))<|sq (fun w_ hS_=>ao rfl iO (((hr.qM hS_).cell (bM (by omega)))))<|sq (fun w_ hS_=>nt (p:=16) rfl rfl (by decide) (by decide) (by decide))<|sq (fun w_ hS_=>er rfl rfl Tryz.underlying9 rfl ((Dy _)))<|sq (fun w_ hS_=>ah rfl)<|sq (fun w_ hS_=>ah rfl)<|sq (fun w_ hS_=>aZ rfl rfl Tryz.underlying27 dU hr.2.1 rfl (by omega))<|sq (fun w_ hS_=>ao rfl iO (((hr.qM hS_).cell (bM (by omega)))))<|sq (fun w_ hS_=>gH (by simp) rfl rfl ((I6 _)))<|sq (fun w_ hS_=>er rfl rfl Tryz.underlying9 rfl ((Ev _)))<| ?_
  refine sx (qU Tryz.underlying27 fi rfl rfl rfl (by simp[Value.cells,B8]) (by decide) (by decide) fun g w3 hg hf3 hb3=> ?_)
  have hS3:Fr No w w3:=hS2.cK hf3
  refine⟨hS3, ?_⟩
  refine sx (mV rfl rfl Tryz.underlying27 Tryz.underlying27 (by exact .inl rfl) fi rfl (ho.qM (hf2.cK hf3)) (Src.bJ (Own.rd (Own.made hb3 (Nat.le_refl _) (Nat.le_refl _) (by decide) (by rfl))).2.2) (by simp[Value.cells];exact⟨rfl,rfl⟩) (by unfold maxLen;omega) (by omega) hS3.size fun v4 w4 ho4 hf4 hv4=> ?_)
  have hS4:Fr No w w4:=hS3.new hf4 (fun i hi=>(ho.from hi).1)
  refine⟨hS4, ?_⟩
  refine sq (fun w_ hS_=>al rfl)<|send<|bN (aa (t:=3) rfl<|aa (t:=4) rfl<|aa (t:=8) rfl<|aa (t:=0) rfl<|aa (t:=6) rfl<|aa (t:=7) rfl<|aI)<|fS<|aL<|bm<|nq (aP rfl rfl (bA (by omega) (by omega)))<|nq (ah rfl)<|bj<|bN (aa (t:=7) rfl<|aa (t:=3) rfl<|aa (t:=4) rfl<|aa (t:=8) rfl<|aa (t:=0) rfl<|aa (t:=6) rfl<|aI)<| ?_
  refine wF (k+1) v4 (aa (t:=0) rfl<|aa (t:=3) rfl<|aa (t:=6) rfl<|aa (t:=7) rfl<|aI) (⟨by omega, ?_,hS4⟩) (by omega)
  have e1:2*k+2=2*(k+1):=by omega
  have e2:cq (l.take (k+1))=cq (l.take k)++qp (l.getD k 0):=se (by omega)
  rw[e1]at ho4
  rw[e2,bR]
  exact ho4
 ·obtain rfl:k=n:=by omega
  obtain⟨A',c',rfl,hc'⟩:=ho.slice
  have hro:=(Own.rd ho).2.2
  rw[List.take_of_length_le (by omega)]at hro
  refine jS<|ca<|ca<|c5<|aL<|bd<|bm<|nq (ah rfl)<|nq (ma rfl Tryz.underlying27 Tryz.underlying5 Tryz.underlying9 hro)<|nq (al rfl)<|bj<|bN (aa (t:=2) rfl<|aa (t:=8) rfl<|aa (t:=0) rfl<|aa (t:=3) rfl<|aa (t:=6) rfl<|aa (t:=7) rfl<|aI)<|aL<|eb<| ?_
  exact fG trivial rfl rfl ⟨rfl,hf⟩
theorem yy(c:UInt8)(w:World):Calls Tryz.prog 226 #[.int .u8 (c.toNat:Int)] w fun e w' =>e= .returned (.int .i64 (kl c))∧w=w' :=by
 have hc:=c.toNat_lt
 refine enter (N:=21) Tryz.func226 rfl rfl (by simp) ?_
 refine bd<|bm<|nq (al rfl)<|bj<|aL<|bd<|bd<|bm<|nq (ah rfl)<|nq (dL rfl rfl)<|nq (ah rfl)<| ?_
 refine mK 5 rfl (fun h1=> ?_) (fun h1=> ?_)
 ·refine ng rfl rfl rfl (ah rfl)<|ng rfl rfl rfl (mh rfl rfl)<|nq (bC rfl rfl)<|bj<|bN (aa (t:=8) rfl<|aa (t:=2) rfl<|aa (t:=0) rfl<|aI)<|aL<| ?_
  refine ph rfl (fun h2=> ?_) (fun h2=> ?_)
  ·refine bd<|bm<|nq (ah rfl)<|nq (bY rfl Tryz.underlying5 Tryz.underlying3 ((bA (by omega) (by omega))))<|nq (cn rfl rfl (bA (by omega) (by omega)))<|nq (al rfl)<|bj<|bN (aa (t:=2) rfl<|aa (t:=8) rfl<|aa (t:=0) rfl<|aI)<|aL<|eb<|bH<| ?_
   refine fG trivial rfl rfl ⟨?_,rfl⟩
   rw[kl,if_pos (by omega)]
  ·refine dT<|aL<|bd<|bd<|bm<|nq (ah rfl)<|nq (dL rfl rfl)<|nq (ah rfl)<| ?_
   refine mK 14 rfl (fun h3=> ?_) (fun h3=> ?_)
   ·refine ng rfl rfl rfl (ah rfl)<|ng rfl rfl rfl (mh rfl rfl)<|nq (bC rfl rfl)<|bj<|bN (aa (t:=17) rfl<|aa (t:=8) rfl<|aa (t:=2) rfl<|aa (t:=0) rfl<|aI)<|aL<| ?_
    refine ph rfl (fun h4=> ?_) (fun h4=> ?_)
    ·refine bd<|bm<|nq (ah rfl)<|nq (bY rfl Tryz.underlying5 Tryz.underlying3 ((bA (by omega) (by omega))))<|nq (cn rfl rfl (bA (by omega) (by omega)))<|nq (al rfl)<|bj<|bN (aa (t:=2) rfl<|aa (t:=17) rfl<|aa (t:=8) rfl<|aa (t:=0) rfl<|aI)<|aL<|eb<|bH<| ?_
     refine fG trivial rfl rfl ⟨?_,rfl⟩
     rw[kl,if_neg (by omega),if_pos (by omega)]
    ·refine dT<|aL<|bd<|bm<|nq (al rfl)<|bj<|aL<|eb<| ?_
     refine fG trivial rfl rfl ⟨?_,rfl⟩
     rw[kl,if_neg (by omega),if_neg (by omega)]
   ·refine jd rfl rfl rfl (by decide)<|jd rfl rfl rfl (by decide)<|nq (bo rfl rfl)<|bj<|bN (aa (t:=17) rfl<|aa (t:=8) rfl<|aa (t:=2) rfl<|aa (t:=0) rfl<|aI)<|aL<| ?_
    refine qY rfl (rfl) ?_
    refine dT<|aL<|bd<|bm<|nq (al rfl)<|bj<|aL<|eb<| ?_
    refine fG trivial rfl rfl ⟨?_,rfl⟩
    rw[kl,if_neg (by omega),if_neg (by omega)]
 ·refine jd rfl rfl rfl (by decide)<|jd rfl rfl rfl (by decide)<|nq (bo rfl rfl)<|bj<|bN (aa (t:=8) rfl<|aa (t:=2) rfl<|aa (t:=0) rfl<|aI)<|aL<| ?_
  refine qY rfl (rfl) ?_
  refine dT<|aL<|bd<|bd<|bm<|nq (ah rfl)<|nq (dL rfl rfl)<|nq (ah rfl)<| ?_
  refine mK 14 rfl (fun h3=> ?_) (fun h3=> ?_)
  ·omega
  ·refine jd rfl rfl rfl (by decide)<|jd rfl rfl rfl (by decide)<|nq (bo rfl rfl)<|bj<|bN (aa (t:=17) rfl<|aa (t:=8) rfl<|aa (t:=2) rfl<|aa (t:=0) rfl<|aI)<|aL<| ?_
   refine qY rfl (rfl) ?_
   refine dT<|aL<|bd<|bm<|nq (al rfl)<|bj<|aL<|eb<| ?_
   refine fG trivial rfl rfl ⟨?_,rfl⟩
   rw[kl,if_neg (by omega),if_neg (by omega)]
theorem Jp(A:Option Addr)(n c:Nat)(l:List UInt8)(w:World)(hr:Rd w 1 A n (aW l))(hn:n≤70368744177664):
  Calls Tryz.prog 182 #[.slice A n c] w fun e w' =>e= .returned (.string (strOf (cq l)))∧Fr No w w' :=by
 have hl:l.length=n:=by have:=hr.1;rw[ax]at this;omega
 refine enter (N:=40) Tryz.func182 rfl rfl (by simp) ?_
 refine bd<|bm<|nq (al rfl)<|bj<|aL<|bd<|bm<|nq (al rfl)<|bj<|aL<|bd<|bm<|nq (al rfl)<|bj<|aL<|bd<|bd<|bm<|nq (al rfl)<|bj<|aL<|c9<| ?_
 refine kV (fun k=>n-k) (fun k=>[(0,.slice A n c),(3,.string ⟨#[48,49,50,51,52,53,54,55,56,57,97,98,99,100,101,102]⟩),(4,.string (strOf (cq (l.take k)))),(5,.int .i64 (k:Nat))]) (fun k w' =>k≤n∧Fr No w w') 0 (⟨Nat.zero_le _,Fr.refl _ _⟩) (aa (t:=0) rfl<|aa (t:=3) rfl<|aa (t:=4) rfl<|aa (t:=5) rfl<|aI) (fun k w1 ⟨hk,hf⟩=> ?_)
 refine bd<|bd<|bm<|nq (ah rfl)<|nq (ah rfl)<|nq (aY rfl Tryz.underlying27)<|nq (bw rfl rfl)<|bj<|bN (aa (t:=11) rfl<|aa (t:=0) rfl<|aa (t:=3) rfl<|aa (t:=4) rfl<|aa (t:=5) rfl<|aI)<|aL<| ?_
 refine ph rfl (fun h=> ?_) (fun h=> ?_)
 ·have hkn:k<n:=by omega
  have hb:=(l.getD k 0).toNat_lt
  have hr1:=hr.qM hf
  refine dT<|aL<|bd<|c9<|bd<|bm<|nq (ah rfl)<|nq (ah rfl)<|nq (aZ rfl rfl Tryz.underlying27 dU hr.2.1 rfl (by omega))<|nq (ao rfl iO (hr1.cell (bM (by omega))))<|nq (bY rfl Tryz.underlying5 Tryz.underlying3 ((C3 _)))<|nq (kA rfl rfl (by omega) (by omega) (bA (by omega) (by omega)))<|nq (al rfl)<|bj<|bN (aa (t:=6) rfl<|aa (t:=11) rfl<|aa (t:=0) rfl<|aa (t:=3) rfl<|aa (t:=4) rfl<|aa (t:=5) rfl<|aI)<|aL<|bd<|bm<|nq (ah rfl)<|nq (ah rfl)<|nq (aZ rfl rfl Tryz.underlying27 dU hr.2.1 rfl (by omega))<|nq (ao rfl iO (hr1.cell (bM (by omega))))<|nq (bY rfl Tryz.underlying5 Tryz.underlying3 ((C3 _)))<|nq (hZ rfl rfl (by omega) (by omega))<|nq (al rfl)<|bj<|bN (aa (t:=7) rfl<|aa (t:=6) rfl<|aa (t:=11) rfl<|aa (t:=0) rfl<|aa (t:=3) rfl<|aa (t:=4) rfl<|aa (t:=5) rfl<|aI)<|aL<| ?_
  have hll:=dQ (l.take k)
  have htl:(l.take k).length≤k:=List.length_take_le _ _
  refine Bf [(0,false),(1,false),(2,false),(3,false),(4,false),(5,false),(6,false),(7,false),(8,false),(9,false),(10,false),(11,false),(12,false),(13,false)] (by kernel_rfl) (by kernel_rfl) rfl (fun w' =>Fr No w w') (hf.cK (Fr.drew _)) (fun w2 hf2 hS2=> ?_)
  refine sq (fun w_ hS_=>ah rfl)<|sq (fun w_ hS_=>ah rfl)<|sq (fun w_ hS_=>ah rfl)<|sq (fun w_ hS_=>ah rfl)<|sq (fun w_ hS_=>aP rfl rfl (bA (by omega) (by omega)))<|sq (fun w_ hS_=>so rfl rfl rfl Tryz.underlying9 (show(((l.getD k 0).toNat/16:Nat):Int)=_ by omega) (show(((l.getD k 0).toNat/16+1:Nat):Int)=_ by omega) ((by omega)) ((by show _≤16;omega)))<|sq (fun w_ hS_=>jx rfl rfl ((by simp[cY];omega)))<|sq (fun w_ hS_=>ah rfl)<|sq (fun w_ hS_=>ah rfl)<|sq (fun w_ hS_=>ah rfl)<|sq (fun w_ hS_=>aP rfl rfl (bA (by omega) (by omega)))<|sq (fun w_ hS_=>so rfl rfl rfl Tryz.underlying9 (show(((l.getD k 0).toNat % 16:Nat):Int)=_ by omega) (show(((l.getD k 0).toNat % 16+1:Nat):Int)=_ by omega) ((by omega)) ((by show _≤16;omega)))<|sq (fun w_ hS_=>yV (jx rfl rfl ((by simp[cY,ByteArray.size_append];omega))) (congrArg Value.string (yY (by omega))))<|sq (fun w_ hS_=>al rfl)<|send<|bN (aa (t:=4) rfl<|aa (t:=7) rfl<|aa (t:=6) rfl<|aa (t:=11) rfl<|aa (t:=0) rfl<|aa (t:=3) rfl<|aa (t:=5) rfl<|aI)<|fS<|aL<|bm<|nq (ah rfl)<|nq (aP rfl rfl (bA (by omega) (by omega)))<|nq (al rfl)<|bj<|bN (aa (t:=5) rfl<|aa (t:=4) rfl<|aa (t:=7) rfl<|aa (t:=6) rfl<|aa (t:=11) rfl<|aa (t:=0) rfl<|aa (t:=3) rfl<|aI)<| ?_
  refine k8 (k+1) (aa (t:=0) rfl<|aa (t:=3) rfl<|aa (t:=4) rfl<|aa (t:=5) rfl<|aI) (⟨by omega,hS2⟩) (by omega)
 ·obtain rfl:k=n:=by omega
  refine jS<|ca<|ca<|c5<|aL<|bd<|bm<|nq (ah rfl)<|nq (al rfl)<|bj<|bN (aa (t:=2) rfl<|aa (t:=11) rfl<|aa (t:=0) rfl<|aa (t:=3) rfl<|aa (t:=4) rfl<|aa (t:=5) rfl<|aI)<|aL<|eb<| ?_
  refine fG trivial rfl rfl ⟨?_,hf⟩
  rw[List.take_of_length_le (by omega)]
def ij(w:World)(s:List UInt8)(v:Value)(w' :World):Prop:=
 match unhex s with
 |some x=>∃u,v= .tuple #[u,.int .i64 0]∧Go.Eng.Own w' w.heap.size 5 1 u x.length (aW x)
 |none=>v= .tuple #[.slice none 0 0,.int .i64 2]
theorem Gn(s:List UInt8)(w:World)(hs:s.length≤140737488351232):
  Calls Tryz.prog 169 #[.string (strOf s)] w fun e w' =>(∃v,e= .returned v∧ij w s v w')∧Fr No w w' :=by
 have hsz:(strOf s).size=s.length:=cY s
 refine enter (N:=43) Tryz.func169 rfl rfl (by simp) ?_
 refine bd<|bm<|nq (al rfl)<|nq (al rfl)<|bj<|aL<|bd<|bd<|bm<|nq (ah rfl)<|nq (cU rfl Tryz.underlying9)<|nq (hZ rfl rfl (by omega) (by omega))<|nq (cx rfl rfl)<|bj<|bN (aa (t:=11) rfl<|aa (t:=3) rfl<|aa (t:=2) rfl<|aa (t:=0) rfl<|aI)<|aL<| ?_
 refine ph rfl (fun h=> ?_) (fun h=> ?_)
 ·refine bd<|bm<|nq (al rfl)<|nq (al rfl)<|bj<|aL<|eb<|bH<| ?_
  refine tf trivial rfl rfl rfl ⟨⟨_,rfl, ?_⟩,Fr.refl _ _⟩
  rw[ij,oP s (by omega)]
 ·refine dT<|aL<|bd<|bm<|nq (al rfl)<|bj<|aL<|bd<|bd<|bm<|nq (al rfl)<|bj<|aL<|c9<| ?_
  refine Cu (fun k _ _=>s.length-2*k) (fun k v _=>[(0,.string (strOf s)),(4,v),(5,.int .i64 (2*(k:Nat):Int))]) (fun k v x w' =>2*k≤s.length∧unhex (s.take (2*k))=some x∧Go.Eng.Own w' w.heap.size 5 1 v k (aW x)∧Fr No w w') 0 (.slice none 0 0) [] (⟨Nat.zero_le _,rfl,Own.nil w w.heap.size _ 1,Fr.refl _ _⟩) (aa (t:=0) rfl<|aa (t:=4) rfl<|aa (t:=5) rfl<|aI) (fun k v x w1 ⟨hk,hx,ho,hf⟩=> ?_)
  refine bd<|bd<|bm<|nq (ah rfl)<|nq (aP rfl rfl (bA (by omega) (by omega)))<|nq (ah rfl)<|nq (cU rfl Tryz.underlying9)<|nq (bw rfl rfl)<|bj<|bN (aa (t:=16) rfl<|aa (t:=0) rfl<|aa (t:=4) rfl<|aa (t:=5) rfl<|aI)<|aL<| ?_
  refine ph rfl (fun h2=> ?_) (fun h2=> ?_)
  ·have hk2:2*k+1<s.length:=by omega
   have hd1:=iB (s.getD (2*k) 0)
   have hd2:=iB (s.getD (2*k+1) 0)
   have hlen:(s.take (2*k)).length=2*k:=by simp;omega
   have hsn:=mE (s.take (2*k)) k (s.getD (2*k) 0) (s.getD (2*k+1) 0) x hlen hx
   rw[←vX hk2]at hsn
   have hno:(kl (s.getD (2*k) 0)<0∨kl (s.getD (2*k+1) 0)<0)→unhex s=none:=fun hn=>by
    rw[if_pos hn]at hsn
    have:=gi _ (s.drop (2*(k+1))) (k+1) (by simp;omega) hsn
    rwa [List.take_append_drop]at this
   refine dT<|aL<|bd<|c9<|bd<|bm<|nq (ah rfl)<|nq (ah rfl)<|nq (er rfl rfl Tryz.underlying9 (show((2*k:Nat):Int)=_ by omega) (iQ (by omega)))<| ?_
   refine nx (eC rfl Tryz.call226 (yy _ w1) ?_)
   rintro e_ w2 ⟨rfl,rfl⟩
   refine⟨_,rfl, ?_⟩
   refine nq (al rfl)<|bj<|bN (aa (t:=6) rfl<|aa (t:=16) rfl<|aa (t:=0) rfl<|aa (t:=4) rfl<|aa (t:=5) rfl<|aI)<|aL<|bd<|bm<|nq (ah rfl)<|nq (ah rfl)<|nq (aP rfl rfl (bA (by omega) (by omega)))<|nq (er rfl rfl Tryz.underlying9 (show((2*k+1:Nat):Int)=_ by omega) (iQ (by omega)))<| ?_
   refine nx (eC rfl Tryz.call226 (yy _ w1) ?_)
   rintro e_ w2 ⟨rfl,rfl⟩
   refine⟨_,rfl, ?_⟩
   refine nq (al rfl)<|bj<|bN (aa (t:=7) rfl<|aa (t:=6) rfl<|aa (t:=16) rfl<|aa (t:=0) rfl<|aa (t:=4) rfl<|aa (t:=5) rfl<|aI)<|aL<|bd<|bd<|bm<|nq (ah rfl)<|nq (bw rfl rfl)<|nq (ah rfl)<| ?_
   refine mK 30 rfl (fun h3=> ?_) (fun h3=> ?_)
   ·refine jd rfl rfl rfl (by decide)<|jd rfl rfl rfl (by decide)<|nq (bC rfl rfl)<|bj<|bN (aa (t:=33) rfl<|aa (t:=7) rfl<|aa (t:=6) rfl<|aa (t:=16) rfl<|aa (t:=0) rfl<|aa (t:=4) rfl<|aa (t:=5) rfl<|aI)<|aL<| ?_
    refine zP rfl (rfl) ?_
    refine bd<|bm<|nq (al rfl)<|nq (al rfl)<|bj<|aL<|eb<|bH<|cE<|bH<|bH<|cE<|bH<| ?_
    refine tf trivial rfl rfl rfl ⟨⟨_,rfl, ?_⟩,hf⟩
    rw[ij,hno (.inl h3)]
   ·refine ng rfl rfl rfl (ah rfl)<|ng rfl rfl rfl (bw rfl rfl)<|nq (bo rfl rfl)<|bj<|bN (aa (t:=33) rfl<|aa (t:=7) rfl<|aa (t:=6) rfl<|aa (t:=16) rfl<|aa (t:=0) rfl<|aa (t:=4) rfl<|aa (t:=5) rfl<|aI)<|aL<| ?_
    refine ph rfl (fun h4=> ?_) (fun h4=> ?_)
    ·refine bd<|bm<|nq (al rfl)<|nq (al rfl)<|bj<|aL<|eb<|bH<|cE<|bH<|bH<|cE<|bH<| ?_
     refine tf trivial rfl rfl rfl ⟨⟨_,rfl, ?_⟩,hf⟩
     rw[ij,hno (.inr h4)]
    ·refine dT<|aL<|bm<|nq (ah rfl)<|nq (ah rfl)<|nq (fK rfl rfl (bA (by omega) (by omega)))<|nq (ah rfl)<|nq (aP rfl rfl (bA (by omega) (by omega)))<|nq (bY rfl Tryz.underlying3 Tryz.underlying5 (z6 (BD _ _ (by omega) (by omega))))<| ?_
     refine nx (qU Tryz.underlying27 fi rfl rfl rfl (by simp[Value.cells,B8]) (by decide) (by decide) fun g w3 hg hf3 hb3=> ?_)
     refine nx (mV rfl rfl Tryz.underlying27 Tryz.underlying27 (by exact .inl rfl) fi rfl (ho.qM hf3) (Src.j4 hb3 rfl) (bn (l:=[_])) (by unfold maxLen;omega) (by omega) (Nat.le_trans hf.size hf3.size) fun v4 w4 ho4 hf4 hv4=> ?_)
     refine nq (al rfl)<|bj<|bN (aa (t:=4) rfl<|aa (t:=33) rfl<|aa (t:=7) rfl<|aa (t:=6) rfl<|aa (t:=16) rfl<|aa (t:=0) rfl<|aa (t:=5) rfl<|aI)<|fS<|aL<|bm<|nq (ah rfl)<|nq (aP rfl rfl (bA (by omega) (by omega)))<|nq (al rfl)<|bj<|bN (aa (t:=5) rfl<|aa (t:=4) rfl<|aa (t:=33) rfl<|aa (t:=7) rfl<|aa (t:=6) rfl<|aa (t:=16) rfl<|aa (t:=0) rfl<|aI)<| ?_
     rw[if_neg (by omega)]at hsn
     refine Az (k+1) v4 _ (aa (t:=0) rfl<|aa (t:=4) rfl<|aa (t:=5) ?_<|aI) ⟨by omega,hsn, ?_,(hf.cK hf3).new hf4 (fun i hi=>(ho.from hi).1)⟩ (by omega)
     ·show some (Value.int .i64 (2*(k:Int)+2))=some (Value.int .i64 (2*((k+1:Nat):Int)))
      rw[show(2*(k:Int)+2)=2*((k+1:Nat):Int) by omega]
     ·rw[bR];exact ho4
  ·refine jS<|ca<|ca<|c5<|aL<|bd<|bm<|nq (ah rfl)<|nq (al rfl)<|nq (al rfl)<|bj<|bN (aa (t:=3) rfl<|aa (t:=2) rfl<|aa (t:=16) rfl<|aa (t:=0) rfl<|aa (t:=4) rfl<|aa (t:=5) rfl<|aI)<|aL<|eb<| ?_
   refine tf trivial rfl rfl rfl ⟨⟨_,rfl, ?_⟩,hf⟩
   rw[List.take_of_length_le (by omega)]at hx
   have hxl:=fR s x hx
   rw[ij,hx]
   have:x.length=k:=by omega
   exact⟨v,rfl,this▸ho⟩
theorem wD(s:ByteArray)(c:UInt8)(w:World):
  Calls Tryz.prog 267 #[.string s,.int .u8 c.toNat] w fun e w' =>e= .returned (.int .i64 (Lib.indexByte s.data.toList c))∧w=w' :=by
 refine enter (N:=8) Tryz.func267 rfl rfl (by simp) ?_
 refine bd<|bm<|nq (al rfl)<|bj<|aL<|bd<|bm<|nq (ah rfl)<|nq (ah rfl)<| ?_
 refine nq (Bj rfl Tryz.func295 (by kernel_rfl) (by kernel_rfl) (by kernel_rfl) (show _=some Extern.BytealgIndexByte.indexByte by kernel_rfl) (Lib.run_indexByteString _ _ _)) ?_
 refine nq (al rfl)<|bj<|bN (aa (t:=4) rfl<|aa (t:=0) rfl<|aa (t:=1) rfl<|aI)<|aL<|eb<| ?_
 refine fG trivial rfl rfl ⟨?_,rfl⟩
 rw[show((c.toNat:Int)).toNat.toUInt8=c by simp]
theorem indexByte(s:ByteArray)(c:UInt8)(w:World):
  Calls Tryz.prog 224 #[.string s,.int .u8 c.toNat] w fun e w' =>e= .returned (.int .i64 (Lib.indexByte s.data.toList c))∧w=w' :=by
 refine enter (N:=8) Tryz.func224 rfl rfl (by simp) ?_
 refine bd<|bm<|nq (al rfl)<|bj<|aL<|bd<|bm<|nq (ah rfl)<|nq (ah rfl)<| ?_
 refine nx (eC rfl Tryz.call267 (wD s c w) ?_)
 rintro e_ w' ⟨rfl,rfl⟩
 refine⟨_,rfl, ?_⟩
 refine nq (al rfl)<|bj<|bN (aa (t:=4) rfl<|aa (t:=0) rfl<|aa (t:=1) rfl<|aI)<|aL<|eb<| ?_
 exact fG trivial rfl rfl ⟨rfl,rfl⟩
theorem vk(c:UInt8)(w:World):
  Calls Tryz.prog 224 #[.string ⟨#[48,49,50,51,52,53,54,55,56,57,97,98,99,100,101,102]⟩,.int .u8 c.toNat] w fun e w' =>e= .returned (.int .i64 (kl c))∧w=w' :=by
 rw[←qg]
 exact indexByte _ c w
theorem parse(s:List UInt8)(w:World)(hs:s.length≤140737488351232):
  Calls Tryz.prog 166 #[.string (strOf s)] w fun e w' =>(∃v,e= .returned v∧ij w s v w')∧Fr No w w' :=by
 have hsz:(strOf s).size=s.length:=cY s
 refine enter (N:=45) Tryz.func166 rfl rfl (by simp) ?_
 refine bd<|bm<|nq (al rfl)<|nq (al rfl)<|bj<|aL<|bd<|bd<|bm<|nq (ah rfl)<|nq (cU rfl Tryz.underlying9)<|nq (hZ rfl rfl (by omega) (by omega))<|nq (cT rfl rfl)<|bj<|bN (aa (t:=11) rfl<|aa (t:=3) rfl<|aa (t:=2) rfl<|aa (t:=0) rfl<|aI)<|aL<| ?_
 refine ph rfl (fun h=> ?_) (fun h=> ?_)
 ·refine bd<|bm<|nq (al rfl)<|nq (al rfl)<|bj<|aL<|eb<|bH<| ?_
  refine tf trivial rfl rfl rfl ⟨⟨_,rfl, ?_⟩,Fr.refl _ _⟩
  rw[ij,oP s (by simp at h;omega)]
 ·simp at h
  refine dT<|aL<|bd<|bm<|nq (al rfl)<|bj<|aL<|bd<|bd<|bm<|nq (ah rfl)<|nq (cU rfl Tryz.underlying9)<|nq (kA rfl rfl (by omega) (by omega) (bA (by omega) (by omega)))<|nq (ah rfl)<|bj<|bN (aa (t:=15) rfl<|aa (t:=14) rfl<|aa (t:=4) rfl<|aa (t:=11) rfl<|aa (t:=3) rfl<|aa (t:=2) rfl<|aa (t:=0) rfl<|aI)<|aL<|c9<| ?_
  refine Cu (fun k _ _=>s.length-2*k) (fun k v _=>[(0,.string (strOf s)),(4,v),(14,.int .i64 ((s.length/2:Nat):Int)),(15,.int .i64 (k:Nat))]) (fun k v x w' =>2*k≤s.length∧unhex (s.take (2*k))=some x∧Go.Eng.Own w' w.heap.size 5 1 v k (aW x)∧Fr No w w') 0 (.slice none 0 0) [] (⟨Nat.zero_le _,rfl,Own.nil w w.heap.size _ 1,Fr.refl _ _⟩) (aa (t:=0) rfl<|aa (t:=4) rfl<|aa (t:=14) rfl<|aa (t:=15) rfl<|aI) (fun k v x w1 ⟨hk,hx,ho,hf⟩=> ?_)
  ·refine bd<|bm<|nq (bw rfl rfl)<|bj<|aL<|bd<| ?_
   refine ph rfl (fun h2=> ?_) (fun h2=> ?_)
   ·have hk2:2*k+1<s.length:=by omega
    have hd1:=iB (s.getD (2*k) 0)
    have hd2:=iB (s.getD (2*k+1) 0)
    have hlen:(s.take (2*k)).length=2*k:=by simp;omega
    have hsn:=mE (s.take (2*k)) k (s.getD (2*k) 0) (s.getD (2*k+1) 0) x hlen hx
    rw[←vX hk2]at hsn
    have hno:(kl (s.getD (2*k) 0)<0∨kl (s.getD (2*k+1) 0)<0)→unhex s=none:=fun hn=>by
     rw[if_pos hn]at hsn
     have:=gi _ (s.drop (2*(k+1))) (k+1) (by simp;omega) hsn
     rwa [List.take_append_drop]at this
    refine dT<|aL<|bd<|c9<|bd<|bm<|nq (ah rfl)<|nq (al rfl)<|bj<|bN (aa (t:=5) rfl<|aa (t:=16) rfl<|aa (t:=0) rfl<|aa (t:=4) rfl<|aa (t:=14) rfl<|aa (t:=15) rfl<|aI)<|aL<|bd<| ?_
    refine Bf [(0,false),(1,false),(2,false),(3,false),(5,false),(6,false),(7,false),(8,false),(9,false),(4,true),(10,true),(11,false),(12,false)] (by kernel_rfl) (by kernel_rfl) rfl (fun w' =>Fr No w w') (hf.cK (Fr.drew _)) (fun w2 hf2 hS2=> ?_)
    refine sq (fun w_ hS_=>ah rfl)<|sq (fun w_ hS_=>ah rfl)<|sq (fun w_ hS_=>fK rfl rfl (bA (by omega) (by omega)))<|sq (fun w_ hS_=>er rfl rfl Tryz.underlying9 (show((2*k:Nat):Int)=_ by omega) (iQ (by omega)))<|sq (fun w_ hS_=>ah rfl)<|sq (fun w_ hS_=>ah rfl)<|sq (fun w_ hS_=>fK rfl rfl (bA (by omega) (by omega)))<|sq (fun w_ hS_=>aP rfl rfl (bA (by omega) (by omega)))<|sq (fun w_ hS_=>er rfl rfl Tryz.underlying9 (show((2*k+1:Nat):Int)=_ by omega) (iQ (by omega)))<| ?_
    refine sx (eC rfl Tryz.call224 (vk _ _) ?_)
    rintro e_ w3 ⟨rfl,rfl⟩
    refine⟨_,rfl, ?_⟩
    refine⟨hS2, ?_⟩
    refine sx (eC rfl Tryz.call224 (vk _ _) ?_)
    rintro e_ w3 ⟨rfl,rfl⟩
    refine⟨_,rfl, ?_⟩
    refine⟨hS2, ?_⟩
    have hf:=hS2
    have ho:=ho.qM hf2
    refine sq (fun w_ hS_=>al rfl)<|sq (fun w_ hS_=>al rfl)<|send<|bN (aa (t:=7) rfl<|aa (t:=6) rfl<|aa (t:=5) rfl<|aa (t:=16) rfl<|aa (t:=0) rfl<|aa (t:=4) rfl<|aa (t:=14) rfl<|aa (t:=15) rfl<|aI)<|aL<|bd<|bd<|bm<|nq (ah rfl)<|nq (bw rfl rfl)<|nq (ah rfl)<| ?_
    refine mK 31 rfl (fun h3=> ?_) (fun h3=> ?_)
    ·refine jd rfl rfl rfl (by decide)<|jd rfl rfl rfl (by decide)<|nq (bC rfl rfl)<|bj<|bN (aa (t:=34) rfl<|aa (t:=7) rfl<|aa (t:=6) rfl<|aa (t:=5) rfl<|aa (t:=16) rfl<|aa (t:=0) rfl<|aa (t:=4) rfl<|aa (t:=14) rfl<|aa (t:=15) rfl<|aI)<|aL<| ?_
     refine zP rfl (rfl) ?_
     refine bd<|bm<|nq (al rfl)<|nq (al rfl)<|bj<|aL<|eb<|bH<|cE<|bH<|bH<|cE<|bH<| ?_
     refine tf trivial rfl rfl rfl ⟨⟨_,rfl, ?_⟩,hf⟩
     rw[ij,hno (.inl h3)]
    ·refine ng rfl rfl rfl (ah rfl)<|ng rfl rfl rfl (bw rfl rfl)<|nq (bo rfl rfl)<|bj<|bN (aa (t:=34) rfl<|aa (t:=7) rfl<|aa (t:=6) rfl<|aa (t:=5) rfl<|aa (t:=16) rfl<|aa (t:=0) rfl<|aa (t:=4) rfl<|aa (t:=14) rfl<|aa (t:=15) rfl<|aI)<|aL<| ?_
     refine ph rfl (fun h4=> ?_) (fun h4=> ?_)
     ·refine bd<|bm<|nq (al rfl)<|nq (al rfl)<|bj<|aL<|eb<|bH<|cE<|bH<|bH<|cE<|bH<| ?_
      refine tf trivial rfl rfl rfl ⟨⟨_,rfl, ?_⟩,hf⟩
      rw[ij,hno (.inr h4)]
     ·refine dT<|aL<|bm<|nq (ah rfl)<|nq (ah rfl)<|nq (vg (p:=16) rfl rfl (by decide) (by decide) (by decide) (bA (by omega) (by omega)))<|nq (ah rfl)<|nq (gH (by simp) rfl rfl (Gi _ _ (by omega) (by omega) (by omega) (by omega)))<|nq (bY rfl Tryz.underlying3 Tryz.underlying5 (z6 (BD _ _ (by omega) (by omega))))<| ?_
      refine nx (qU Tryz.underlying27 fi rfl rfl rfl (by simp[Value.cells,B8]) (by decide) (by decide) fun g w3 hg hf3 hb3=> ?_)
      refine nx (mV rfl rfl Tryz.underlying27 Tryz.underlying27 (by exact .inl rfl) fi rfl (ho.qM hf3) (Src.j4 hb3 rfl) (bn (l:=[_])) (by unfold maxLen;omega) (by omega) (Nat.le_trans hf.size hf3.size) fun v4 w4 ho4 hf4 hv4=> ?_)
      refine nq (al rfl)<|bj<|bN (aa (t:=4) rfl<|aa (t:=34) rfl<|aa (t:=7) rfl<|aa (t:=6) rfl<|aa (t:=5) rfl<|aa (t:=16) rfl<|aa (t:=0) rfl<|aa (t:=14) rfl<|aa (t:=15) rfl<|aI)<|fS<|aL<|bm<|nq (aP rfl rfl (bA (by omega) (by omega)))<|nq (ah rfl)<|bj<|bN (aa (t:=15) rfl<|aa (t:=4) rfl<|aa (t:=34) rfl<|aa (t:=7) rfl<|aa (t:=6) rfl<|aa (t:=5) rfl<|aa (t:=16) rfl<|aa (t:=0) rfl<|aa (t:=14) rfl<|aI)<| ?_
      rw[if_neg (by omega)]at hsn
      refine Az (k+1) v4 _ (aa (t:=0) rfl<|aa (t:=4) rfl<|aa (t:=14) rfl<|aa (t:=15) rfl<|aI) (⟨by omega,hsn,by rw[bR];exact ho4,(hf.cK hf3).new hf4 (fun i hi=>(ho.from hi).1)⟩) (by omega)
   ·refine jS<|ca<|ca<|c5<|aL<|bd<|bm<|nq (ah rfl)<|nq (al rfl)<|nq (al rfl)<|bj<|bN (aa (t:=3) rfl<|aa (t:=2) rfl<|aa (t:=16) rfl<|aa (t:=0) rfl<|aa (t:=4) rfl<|aa (t:=14) rfl<|aa (t:=15) rfl<|aI)<|aL<|eb<| ?_
    refine tf trivial rfl rfl rfl ⟨⟨_,rfl, ?_⟩,hf⟩
    rw[List.take_of_length_le (by omega)]at hx
    have hxl:=fR s x hx
    rw[ij,hx]
    have:x.length=k:=by omega
    exact⟨v,rfl,this▸ho⟩
theorem name(a:List UInt8)(w:World)(ha:a.length=32):
  Calls Tryz.prog 104 #[.agg (aW a).toArray] w fun e w' =>e= .returned (.string (strOf (cq a)))∧Fr No w w' :=by
 refine enter (N:=5) Tryz.func104 rfl rfl (by simp) ?_
 refine bd<|bm<| ?_
 refine nx (qC rfl fun g1 w1 hg1 hf1 hb1=> ?_)
 rw[aT]at hb1
 refine nq (al rfl)<|bj<|aL<|bd<|bm<|nq (D5 rfl Tryz.underlying53 dU)<| ?_
 refine nx (eC rfl Tryz.call177 (text _ _ _ a _ (Rd.j4 hb1 (by rw[ax];omega)) (by omega)) ?_)
 rintro e_ w2 ⟨rfl,hf2⟩
 refine⟨_,rfl, ?_⟩
 refine nq (al rfl)<|bj<|bN (aa (t:=2) rfl<|aa (t:=1) rfl<|aa (t:=0) rfl<|aI)<|aL<|eb<| ?_
 exact fG trivial rfl rfl ⟨rfl,hf1.cK hf2⟩
theorem BG(v:Value)(w:World):(Extern.ReflectliteType.typeOf #[.iface 47 v]).run Tryz.prog w= .ok (.iface 312 (.agg #[.pointer (some ⟨2,47,none⟩)])) w:=by kernel_rfl
theorem sN (w : World) : ((Extern.ReflectliteType.method fun t => do Rtype.noPackHeld "Comparable" t; pure (.bool (← typeInfo t).comparable)) #[.agg #[.pointer (some ⟨2, 47, none⟩)]]).run Tryz.prog w = .ok (.bool true) w := by kernel_rfl
theorem mz (v : Value) (w : World) : (Go.method (Tryz.prog.types.size + Made.depth) 312 v "Comparable").run Tryz.prog w = .ok (341, v) w := by kernel_rfl
theorem JT(v:Value)(xT:TypeId)(w:World):(Instr.typeAssert (.iface 47 v) xT 314 true).run Tryz.prog w= .ok (.tuple #[.nilIface,.bool false]) w:=run_typeAssert_lacksB Tryz.underlying314 (by kernel_rfl) (by kernel_rfl) v xT w
theorem Bl(v:Value)(xT:TypeId)(w:World):(Instr.typeAssert (.iface 47 v) xT 317 true).run Tryz.prog w= .ok (.tuple #[.nilIface,.bool false]) w:=run_typeAssert_lacksB Tryz.underlying317 (by kernel_rfl) (by kernel_rfl) v xT w
theorem zi(v:Value)(xT:TypeId)(w:World):(Instr.typeAssert (.iface 47 v) xT 319 true).run Tryz.prog w= .ok (.tuple #[.nilIface,.bool false]) w:=run_typeAssert_lacksB Tryz.underlying319 (by kernel_rfl) (by kernel_rfl) v xT w
theorem Js(k m:Int)(w:World):
  Calls Tryz.prog 176 #[.iface 47 (.int .i64 k),.iface 47 (.int .i64 m),.bool true] w fun e w' =>e= .returned (.bool (decide (k=m)))∧w=w' :=by
 refine enter (N:=54) Tryz.func176 rfl rfl (by simp) ?_
 refine bd<|bm<|nq (al rfl)<|bj<|aL<|c9<| ?_
 refine kV (fun _=>0) (fun _=>[(0,.iface 47 (.int .i64 k)),(1,.iface 47 (.int .i64 m)),(2,.bool true)]) (fun _ w' =>w=w') 0 (rfl) (aa (t:=0) rfl<|aa (t:=1) rfl<|aa (t:=2) rfl<|aI) (fun i w1 hw=> ?_)
 obtain rfl:=hw
 refine c9<|bd<|bd<|bm<|nq (ah rfl)<|nq (ah rfl)<|ng rfl rfl rfl (ah rfl)<|ng rfl rfl rfl (ah rfl)<|ng rfl rfl rfl (((F6 rfl rfl Tryz.underlying247 (by kernel_rfl) Tryz.underlying47)))<|nq (bC rfl rfl)<|bj<|bN (aa (t:=19) rfl<|aa (t:=0) rfl<|aa (t:=1) rfl<|aa (t:=2) rfl<|aI)<|aL<| ?_
 refine ph rfl (fun h=> ?_) (fun h=> ?_)
 ·refine bd<|bm<|nq (al rfl)<|bj<|aL<|eb<|bH<|cE<|bH<|cE<| ?_
  refine fG trivial rfl rfl ⟨?_,rfl⟩
  rw[decide_eq_true h]
 ·refine dT<|aL<|bd<|bd<|bm<|nq (ah rfl)<|nq (sb rfl ((JT _ _ _)))<|nq (ah rfl)<|nq (aD rfl rfl)<|nq (aD rfl rfl)<|nq (al rfl)<|nq (al rfl)<|bj<|bN (aa (t:=8) rfl<|aa (t:=7) rfl<|aa (t:=19) rfl<|aa (t:=0) rfl<|aa (t:=1) rfl<|aa (t:=2) rfl<|aI)<|aL<|bd<|bm<|nq (ah rfl)<|nq (ah rfl)<|jd rfl rfl rfl (by decide)<|jd rfl rfl rfl (by decide)<|jd rfl rfl rfl (by decide)<|nq (bo rfl rfl)<|bj<|bN (aa (t:=30) rfl<|aa (t:=8) rfl<|aa (t:=7) rfl<|aa (t:=19) rfl<|aa (t:=0) rfl<|aa (t:=1) rfl<|aa (t:=2) rfl<|aI)<|aL<| ?_
  refine qY rfl (rfl) ?_
  refine dT<|aL<|bd<|bm<|nq (ah rfl)<|bj<|aL<|c9<|bd<|bm<|nq (sb rfl ((Bl _ _ _)))<|nq (aD rfl rfl)<|nq (aD rfl rfl)<|bj<|bN (aa (t:=34) rfl<|aa (t:=33) rfl<|aa (t:=31) rfl<|aa (t:=30) rfl<|aa (t:=8) rfl<|aa (t:=7) rfl<|aa (t:=19) rfl<|aa (t:=0) rfl<|aa (t:=1) rfl<|aa (t:=2) rfl<|aI)<|aL<| ?_
  refine qY rfl (rfl) ?_
  refine bd<|bm<|nq (sb rfl ((zi _ _ _)))<|nq (aD rfl rfl)<|nq (aD rfl rfl)<|bj<|bN (aa (t:=41) rfl<|aa (t:=40) rfl<|aa (t:=34) rfl<|aa (t:=33) rfl<|aa (t:=31) rfl<|aa (t:=30) rfl<|aa (t:=8) rfl<|aa (t:=7) rfl<|aa (t:=19) rfl<|aa (t:=0) rfl<|aa (t:=1) rfl<|aa (t:=2) rfl<|aI)<|aL<| ?_
  refine qY rfl (rfl) ?_
  refine bd<|bm<|nq (al rfl)<|bj<|bN (aa (t:=41) rfl<|aa (t:=40) rfl<|aa (t:=34) rfl<|aa (t:=33) rfl<|aa (t:=31) rfl<|aa (t:=30) rfl<|aa (t:=8) rfl<|aa (t:=7) rfl<|aa (t:=19) rfl<|aa (t:=0) rfl<|aa (t:=1) rfl<|aa (t:=2) rfl<|aI)<|aL<|bd<|bm<|nq (al rfl)<|bj<|aL<|eb<|cE<|cE<|bH<|cE<| ?_
  refine fG trivial rfl rfl ⟨?_,rfl⟩
  rw[decide_eq_false h]
theorem re(k m:Int)(w:World):
    Calls Tryz.prog 103 #[.iface 47 (.int .i64 k),.iface 47 (.int .i64 m)] w fun e w' =>e= .returned (.bool (decide (k=m)))∧w=w' :=by
  refine enter (N:=22) Tryz.func103 rfl rfl (by simp) ?_
  refine bd<|bm<|nq (al rfl)<|bj<|aL<|bd<|bd<|bm<|nq (ah rfl)<|nq (((CM rfl rfl (by kernel_rfl))))<|nq (ah rfl)<|ng rfl rfl rfl (ah rfl)<|ng rfl rfl rfl (((CM rfl rfl (by kernel_rfl))))<|nq (bo rfl rfl)<|bj<|bN (aa (t:=11) rfl<|aa (t:=4) rfl<|aa (t:=0) rfl<|aa (t:=1) rfl<|aI)<|aL<| ?_
  refine qY rfl (rfl) ?_
  refine dT<|aL<|bd<|bm<|nq (ah rfl)<| ?_
  refine nq (Bj rfl Tryz.func175 (by kernel_rfl) (by kernel_rfl) (by kernel_rfl) (show _=some Extern.ReflectliteType.typeOf by kernel_rfl) (BG _ _)) ?_
  refine nq (FM rfl rfl (mz _ _) Tryz.func341 (by kernel_rfl) (by kernel_rfl) (by kernel_rfl) (g := Extern.ReflectliteType.method fun t => do Rtype.noPackHeld "Comparable" t; pure (.bool (← typeInfo t).comparable)) (by kernel_rfl) (sN _)) ?_
  refine nq (al rfl)<|bj<|bN (aa (t:=5) rfl<|aa (t:=11) rfl<|aa (t:=4) rfl<|aa (t:=0) rfl<|aa (t:=1) rfl<|aI)<|aL<|bd<|bm<|nq (ah rfl)<|nq (ah rfl)<|nq (ah rfl)<| ?_
  refine nx (eC rfl Tryz.call176 (Js k m w) ?_)
  rintro e_ w1 ⟨rfl,rfl⟩
  refine⟨_,rfl, ?_⟩
  refine nq (al rfl)<|bj<|bN (aa (t:=4) rfl<|aa (t:=5) rfl<|aa (t:=11) rfl<|aa (t:=0) rfl<|aa (t:=1) rfl<|aI)<|aL<|eb<| ?_
  exact fG trivial rfl rfl ⟨rfl,rfl⟩
def cj(s:List UInt8):List UInt8×Int:=match unhex s with
 |none=>(List.replicate 32 0,2)
 |some x=>if x.length=32 then(x,0)else(List.replicate 32 0,3)
theorem ig(s:List UInt8):(cj s).1.length=32:=by
 unfold cj
 split
 ·simp
 ·split
  ·assumption
  ·simp
theorem E0(s:List UInt8)(w:World)(hs:s.length≤140737488351232):
  Calls Tryz.prog 95 #[.string (strOf s)] w fun e w' =>e= .returned (.tuple #[.agg (aW (cj s).1).toArray,.int .i64 (cj s).2])∧Fr No w w' :=by
 refine enter (N:=21) Tryz.func95 rfl rfl (by simp) ?_
 refine bd<|bm<| ?_
 refine nx (oa dw fun g1 w1 hg1 hf1 hb1=> ?_)
 rw[qe]at hb1
 refine nq (al rfl)<|bj<|aL<|bd<|bm<|nq (ah rfl)<| ?_
 refine nx (eC rfl Tryz.call169 (Gn s w1 hs) ?_)
 rintro e_ w2 ⟨⟨v,rfl,hv⟩,hf2⟩
 refine⟨_,rfl, ?_⟩
 have h12:=hb1.qM hf2
 have z32:(aW (List.replicate 32 (0:UInt8))).length=32:=by rw[ax];simp
 unfold ij at hv
 split at hv
 ·rename_i x hx
  obtain⟨u,rfl,hu⟩:=hv
  obtain⟨Au,cu,rfl,hcu⟩:=hu.slice
  have ru:=(Own.rd hu).2.2
  have hxl:=fR s x hx
  refine nq (ah rfl)<|nq (aD rfl rfl)<|nq (aD rfl rfl)<|nq (al rfl)<|nq (al rfl)<|bj<|bN (aa (t:=5) rfl<|aa (t:=4) rfl<|aa (t:=3) rfl<|aa (t:=2) rfl<|aa (t:=0) rfl<|aI)<|aL<|bd<|bd<|bm<|nq (ah rfl)<|nq (cT rfl rfl)<|bj<|bN (aa (t:=12) rfl<|aa (t:=5) rfl<|aa (t:=4) rfl<|aa (t:=3) rfl<|aa (t:=2) rfl<|aa (t:=0) rfl<|aI)<|aL<| ?_
  refine qY rfl ((decide_eq_false (fun h=>h rfl):decide (¬(0:Int)=0)=false)) ?_
  refine dT<|aL<|bd<|bd<|bm<|nq (ah rfl)<|nq (aY rfl Tryz.underlying27)<|nq (cT rfl rfl)<|bj<|bN (aa (t:=17) rfl<|aa (t:=12) rfl<|aa (t:=5) rfl<|aa (t:=4) rfl<|aa (t:=3) rfl<|aa (t:=2) rfl<|aa (t:=0) rfl<|aI)<|aL<| ?_
  refine ph rfl (fun h=> ?_) (fun h=> ?_)
  ·refine bd<|bm<|nq (dK dw rfl (by kernel_rfl))<| ?_
   refine C6 (qO rfl rfl bp (List.length_replicate ..) h12 z32 fun w3 hf3 h13 hs3=> ?_)
   refine nq (al rfl)<|bj<|bN (aa (t:=3) rfl<|aa (t:=17) rfl<|aa (t:=12) rfl<|aa (t:=5) rfl<|aa (t:=4) rfl<|aa (t:=2) rfl<|aa (t:=0) rfl<|aI)<|aL<|eb<|bH<| ?_
   refine qI trivial rfl rfl rfl b5 bp z32 h13.au ⟨?_,(hf1.cK hf2).new hf3 (fun i hi=>by omega)⟩
   rw[cj,hx]
   simp only
   rw[if_neg (fun e=>h (by rw[e];rfl))]
  ·have h32:x.length=32:=by omega
   rw[h32]at ru ⊢
   refine dT<|aL<|bd<|bm<|nq (ah rfl)<| ?_
   refine nx (eC rfl Tryz.call170 (of Au cu x _ ru) ?_)
   rintro e_ w3 ⟨rfl,hf3⟩
   refine⟨_,rfl, ?_⟩
   refine C6 (qO rfl rfl bp h32 (h12.qM hf3) z32 fun w4 hf4 h14 hs4=> ?_)
   refine nq (al rfl)<|bj<|bN (aa (t:=3) rfl<|aa (t:=17) rfl<|aa (t:=12) rfl<|aa (t:=5) rfl<|aa (t:=4) rfl<|aa (t:=2) rfl<|aa (t:=0) rfl<|aI)<|aL<|eb<| ?_
   refine qI trivial rfl rfl rfl b5 bp (by rw[ax];exact h32) h14.au ⟨?_,((hf1.cK hf2).cK hf3).new hf4 (fun i hi=>by omega)⟩
   rw[cj,hx]
   simp only
   rw[if_pos h32]
 ·rename_i hx
  subst hv
  refine nq (ah rfl)<|nq (aD rfl rfl)<|nq (aD rfl rfl)<|nq (al rfl)<|nq (al rfl)<|bj<|bN (aa (t:=5) rfl<|aa (t:=4) rfl<|aa (t:=3) rfl<|aa (t:=2) rfl<|aa (t:=0) rfl<|aI)<|aL<|bd<|bd<|bm<|nq (ah rfl)<|nq (cT rfl rfl)<|bj<|bN (aa (t:=12) rfl<|aa (t:=5) rfl<|aa (t:=4) rfl<|aa (t:=3) rfl<|aa (t:=2) rfl<|aa (t:=0) rfl<|aI)<|aL<| ?_
  refine zP rfl ((decide_eq_true (by decide):decide (¬(2:Int)=0)=true)) ?_
  refine bd<|bm<|nq (dK dw rfl (by kernel_rfl))<|nq (ah rfl)<| ?_
  refine C6 (qO rfl rfl bp (List.length_replicate ..) h12 z32 fun w3 hf3 h13 hs3=> ?_)
  refine nq (al rfl)<|bj<|bN (aa (t:=3) rfl<|aa (t:=12) rfl<|aa (t:=5) rfl<|aa (t:=4) rfl<|aa (t:=2) rfl<|aa (t:=0) rfl<|aI)<|aL<|eb<|bH<| ?_
  refine qI trivial rfl rfl rfl b5 bp z32 h13.au ⟨?_,(hf1.cK hf2).new hf3 (fun i hi=>by omega)⟩
  rw[cj,hx]
  rfl
theorem EC(s:List UInt8)(w:World)(hs:s.length≤140737488351232):
  Calls Tryz.prog 92 #[.string (strOf s)] w fun e w' =>e= .returned (.tuple #[.agg (aW (cj s).1).toArray,.int .i64 (cj s).2])∧Fr No w w' :=by
 refine enter (N:=26) Tryz.func92 rfl rfl (by simp) ?_
 refine bd<|bm<| ?_
 refine nx (oa dw fun g1 w1 hg1 hf1 hb1=> ?_)
 rw[qe]at hb1
 refine nq (al rfl)<|bj<|aL<|bd<|bm<|nq (ah rfl)<| ?_
 refine nx (eC rfl Tryz.call166 (parse s w1 hs) ?_)
 rintro e_ w2 ⟨⟨v,rfl,hv⟩,hf2⟩
 refine⟨_,rfl, ?_⟩
 have h12:=hb1.qM hf2
 have z32:(aW (List.replicate 32 (0:UInt8))).length=32:=by rw[ax];simp
 unfold ij at hv
 split at hv
 ·rename_i x hx
  obtain⟨u,rfl,hu⟩:=hv
  obtain⟨Au,cu,rfl,hcu⟩:=hu.slice
  have ru:=(Own.rd hu).2.2
  have hxl:=fR s x hx
  refine nq (ah rfl)<|nq (aD rfl rfl)<|nq (aD rfl rfl)<|nq (al rfl)<|nq (al rfl)<|bj<|bN (aa (t:=5) rfl<|aa (t:=4) rfl<|aa (t:=3) rfl<|aa (t:=2) rfl<|aa (t:=0) rfl<|aI)<|aL<|bd<|c9<|bd<|bm<|nq (ah rfl)<|nq (l9 rfl Tryz.underlying47 (fun _ h=>by cases h))<|nq (l9 rfl Tryz.underlying47 (fun _ h=>by cases h))<| ?_
  refine nx (eC rfl Tryz.call103 (re 0 2 _) ?_)
  rintro e_ w3 ⟨rfl,rfl⟩
  refine⟨_,rfl, ?_⟩
  refine nq (al rfl)<|bj<|bN (aa (t:=11) rfl<|aa (t:=5) rfl<|aa (t:=4) rfl<|aa (t:=3) rfl<|aa (t:=2) rfl<|aa (t:=0) rfl<|aI)<|aL<| ?_
  refine qY rfl ((decide_eq_false (by decide):decide ((0:Int)=2)=false)) ?_
  refine bd<|bm<|nq (ah rfl)<|nq (aY rfl Tryz.underlying27)<|nq (cT rfl rfl)<|nq (al rfl)<|bj<|bN (aa (t:=18) rfl<|aa (t:=11) rfl<|aa (t:=5) rfl<|aa (t:=4) rfl<|aa (t:=3) rfl<|aa (t:=2) rfl<|aa (t:=0) rfl<|aI)<|aL<| ?_
  refine ph rfl (fun h=> ?_) (fun h=> ?_)
  ·refine bd<|bm<|nq (dK dw rfl (by kernel_rfl))<| ?_
   refine C6 (qO rfl rfl bp (List.length_replicate ..) h12 z32 fun w3 hf3 h13 hs3=> ?_)
   refine nq (al rfl)<|bj<|bN (aa (t:=3) rfl<|aa (t:=18) rfl<|aa (t:=11) rfl<|aa (t:=5) rfl<|aa (t:=4) rfl<|aa (t:=2) rfl<|aa (t:=0) rfl<|aI)<|aL<|eb<|cE<|bH<| ?_
   refine qI trivial rfl rfl rfl b5 bp z32 h13.au ⟨?_,(hf1.cK hf2).new hf3 (fun i hi=>by omega)⟩
   rw[cj,hx]
   simp only
   rw[if_neg (fun e=>h (by rw[e];rfl))]
  ·have h32:x.length=32:=by omega
   rw[h32]at ru ⊢
   obtain⟨ad,rfl⟩:∃ad,Au=some ad:=⟨_,ru.some (by omega)⟩
   refine dT<|fS<|aL<|bd<|bm<|nq (ah rfl)<|nq (p8 rfl Tryz.underlying53 (by omega))<|nq (aQ rfl b5 bp ((by rw[ax];exact h32)) ru.2.2)<| ?_
   refine C6 (qO rfl rfl bp h32 h12 z32 fun w4 hf4 h14 hs4=> ?_)
   refine nq (al rfl)<|bj<|bN (aa (t:=3) rfl<|aa (t:=18) rfl<|aa (t:=11) rfl<|aa (t:=5) rfl<|aa (t:=4) rfl<|aa (t:=2) rfl<|aa (t:=0) rfl<|aI)<|aL<|eb<| ?_
   refine qI trivial rfl rfl rfl b5 bp (by rw[ax];exact h32) h14.au ⟨?_,(hf1.cK hf2).new hf4 (fun i hi=>by omega)⟩
   rw[cj,hx]
   simp only
   rw[if_pos h32]
 ·rename_i hx
  subst hv
  refine nq (ah rfl)<|nq (aD rfl rfl)<|nq (aD rfl rfl)<|nq (al rfl)<|nq (al rfl)<|bj<|bN (aa (t:=5) rfl<|aa (t:=4) rfl<|aa (t:=3) rfl<|aa (t:=2) rfl<|aa (t:=0) rfl<|aI)<|aL<|bd<|c9<|bd<|bm<|nq (ah rfl)<|nq (l9 rfl Tryz.underlying47 (fun _ h=>by cases h))<|nq (l9 rfl Tryz.underlying47 (fun _ h=>by cases h))<| ?_
  refine nx (eC rfl Tryz.call103 (re 2 2 _) ?_)
  rintro e_ w3 ⟨rfl,rfl⟩
  refine⟨_,rfl, ?_⟩
  refine nq (al rfl)<|bj<|bN (aa (t:=11) rfl<|aa (t:=5) rfl<|aa (t:=4) rfl<|aa (t:=3) rfl<|aa (t:=2) rfl<|aa (t:=0) rfl<|aI)<|aL<| ?_
  refine zP rfl ((decide_eq_true rfl:decide ((2:Int)=2)=true)) ?_
  refine bd<|bm<|nq (dK dw rfl (by kernel_rfl))<|nq (ah rfl)<| ?_
  refine C6 (qO rfl rfl bp (List.length_replicate ..) h12 z32 fun w3 hf3 h13 hs3=> ?_)
  refine nq (al rfl)<|bj<|bN (aa (t:=3) rfl<|aa (t:=11) rfl<|aa (t:=5) rfl<|aa (t:=4) rfl<|aa (t:=2) rfl<|aa (t:=0) rfl<|aI)<|aL<|eb<|cE<|bH<| ?_
  refine qI trivial rfl rfl rfl b5 bp z32 h13.au ⟨?_,(hf1.cK hf2).new hf3 (fun i hi=>by omega)⟩
  rw[cj,hx]
  rfl
theorem H4(a:List UInt8)(w:World)(ha:a.length=32):
  Calls Tryz.prog 111 #[.agg (aW a).toArray] w fun e w' =>e= .returned (.string (strOf (cq a)))∧Fr No w w' :=by
 refine enter (N:=6) Tryz.func111 rfl rfl (by simp) ?_
 refine bd<|bm<| ?_
 refine nx (qC rfl fun g1 w1 hg1 hf1 hb1=> ?_)
 rw[aT]at hb1
 refine nq (al rfl)<|bj<|aL<|bd<|bm<|nq (aQ rfl b5 bp ((by rw[ax];exact ha)) hb1.au)<| ?_
 refine nx (eC rfl Tryz.call183 (bytes a _ ha) ?_)
 rintro e_ w2 ⟨v,rfl,hv,hf2⟩
 refine⟨_,rfl, ?_⟩
 obtain⟨Av,cv,rfl,hcv⟩:=hv.slice
 refine nx (eC rfl Tryz.call182 (Jp Av _ cv a _ ((Own.rd hv).2.2) (by omega)) ?_)
 rintro e_ w3 ⟨rfl,hf3⟩
 refine⟨_,rfl, ?_⟩
 refine nq (al rfl)<|bj<|bN (aa (t:=2) rfl<|aa (t:=1) rfl<|aa (t:=0) rfl<|aI)<|aL<|eb<| ?_
 exact fG trivial rfl rfl ⟨rfl,(hf1.cK hf2).cK hf3⟩
theorem rF(d:List UInt8)(h:d.length=32):cj (cq d)=(d,0):=by
 rw[cj,j5]
 simp only
 rw[if_pos h]
end Go.Proofs.YtmibdabdlgmafaaGreatDoor
end
section
set_option maxRecDepth 20000
namespace Go.Proofs.YtmibdabdlgmafaaGreatDoor
open Go.Eng Go.Hx
theorem CZ{a:List UInt8}(ha:a.length=32):b7 Tryz.prog 104 [.agg (aW a).toArray] [] [] (fun v_ X_ S_=>v_=(.string (strOf (cq a)))∧X_=[]∧S_=[]):=by
 exact fZ fun m=>Calls.mono (name a _ ha) (fun e w' ⟨h,hf⟩=>⟨_,h,⟨rfl,rfl,rfl⟩,hf⟩)
theorem yj{a:List UInt8}(ha:a.length=32):b7 Tryz.prog 111 [.agg (aW a).toArray] [] [] (fun v_ X_ S_=>v_=(.string (strOf (cq a)))∧X_=[]∧S_=[]):=by
 exact fZ fun m=>Calls.mono (H4 a _ ha) (fun e w' ⟨h,hf⟩=>⟨_,h,⟨rfl,rfl,rfl⟩,hf⟩)
theorem A9{s:List UInt8}(hs:s.length≤1000000):b7 Tryz.prog 92 [.string (strOf s)] [] [] (fun v_ X_ S_=>v_=(.tuple #[.agg (aW (cj s).1).toArray,.int .i64 (cj s).2])∧X_=[]∧S_=[]):=by
 exact fZ fun m=>Calls.mono (EC s _ (by omega)) (fun e w' ⟨h,hf⟩=>⟨_,h,⟨rfl,rfl,rfl⟩,hf⟩)
theorem y7{s:List UInt8}(hs:s.length≤1000000):b7 Tryz.prog 95 [.string (strOf s)] [] [] (fun v_ X_ S_=>v_=(.tuple #[.agg (aW (cj s).1).toArray,.int .i64 (cj s).2])∧X_=[]∧S_=[]):=by
 exact fZ fun m=>Calls.mono (E0 s _ (by omega)) (fun e w' ⟨h,hf⟩=>⟨_,h,⟨rfl,rfl,rfl⟩,hf⟩)
theorem GN{k q:Int}:b7 Tryz.prog 103 [.iface 47 (.int .i64 k),.iface 47 (.int .i64 q)] [] [] (fun v_ X_ S_=>v_=(.bool (decide (k=q)))∧X_=[]∧S_=[]):=by
 exact fZ fun m=>Calls.mono (re k q _) (fun e w' ⟨h,hw⟩=>⟨_,h,⟨rfl,rfl,rfl⟩,hw▸Fr.refl _ _⟩)
end Go.Proofs.YtmibdabdlgmafaaGreatDoor
end
section
set_option maxRecDepth 20000
namespace Go.Proofs.YtmibdabdlgmafaaGreatDoor
open Go.Eng Go.Hx
theorem Fa{P:Program}{N:Nat}{D:List Deferred}{ρ:Env}{w:World}{x y:Operand}{ty t t' :TypeId}{a b:ByteArray}(hx:ev ρ x=some (.string a))(hy:ev ρ y=some (.string b)):Yl P N D ρ w (.binOp .geq t x y t') ty (.bool (!Op.bytesLess a.toList b.toList)):=
 fun _ _ _ _ _ ha=>by simp[execOp,ha.eval hx,ha.eval hy,eqGuard,binOp,Op.stringOp]
abbrev FP:=List UInt8×List UInt8
def fc(l:List FP):List Value:=l.flatMap fun x=>[SV x.1,SV x.2]
theorem iA(a b:List FP):fc (a++b)=fc a++fc b:=by simp[fc]
theorem jy:∀(l:List FP) (i:Nat) (x:FP),l[i]? =some x→(fc l)[i*2]? =some (SV x.1)∧(fc l)[i*2+1]? =some (SV x.2)
 | [],i,x,h=>by simp at h
 |a::r,0,x,h=>by
  simp only[List.getElem?_cons_zero,Option.some.injEq]at h
  subst h
  exact⟨rfl,rfl⟩
 |a::r,i+1,x,h=>by
  have ih:=jy r i x (by simpa using h)
  have e:fc (a::r)=SV a.1::SV a.2::fc r:=by simp[fc]
  rw[e,show(i+1)*2=i*2+2 by omega]
  exact ih
theorem nR{w:World}{A:Option Addr}{n i:Nat}{l:List FP}{x:FP}(h:Rd w 2 A n (fc l))(hx:l[i]? =some x):∀(j:Nat) (u:Value),[SV x.1,SV x.2][j]? =some u→w.cell? (((A.getD d0).add (i*2)).add j)=some u:=by
 obtain⟨g0,g1⟩:=jy l i x hx
 intro j u hu
 match j,hu with
 |0,hu=>cases hu;exact fC h g0
 |1,hu=>cases hu;exact fC h g1
 |j+2,hu=>simp at hu
theorem oF{l:List FP}:∀u∈fc l,u.oneCell' =true:=by
 intro u hu
 obtain⟨x,_,h⟩:=List.mem_flatMap.1 hu
 simp only[List.mem_cons,List.not_mem_nil,or_false]at h
 rcases h with rfl|rfl <;> rfl
theorem xQ{p:List UInt8}(hp:p.length≤1000000000):b7 Tryz.prog 112 [.string (strOf p)] [] [] (fun v_ X_ S_=>v_=(.bool (decide (gv p)))∧X_=[]∧S_=[]):=by
 have hsz:=cY p
 refine aM (N:=22) Tryz.func112 rfl rfl (by simp) fun b=> ?_
 refine ae<|ai<|aG rfl<|ag<|ab<|ae<|ae<|ai<|aG rfl<|ag<|ab<|aN<| ?_
 refine de (fun i=>p.length-i) (fun i=>[(3,.int .i64 (i:Nat))]) (fun i=>[]) (fun i=>[]) (fun i=>i≤p.length∧¬(0:UInt8)∈p.take i) 0 [(0,_)] ⟨rfl,trivial⟩ [] rfl [] rfl (⟨Nat.zero_le _,by simp⟩) ⟨rfl,trivial⟩ (fun i hI=> ?_)
 obtain⟨hip,hno⟩:=hI
 refine ae<|ae<|ai<|aw rfl<|aw rfl<|hy (fun _=>cU rfl Tryz.underlying9)<|hy (fun _=>bw rfl rfl)<|ag<|aB [7,3,0] rfl<|ab<| ?_
 refine cB rfl (fun h=> ?_) (fun h=> ?_)
 ·have hil:i<p.length:=by omega
  refine aC<|ab<|ae<|aN<|ae<|ai<|aw rfl<|aw rfl<|hy (fun _=>er rfl rfl Tryz.underlying9 rfl (iQ hil))<|hy (fun _=>cx rfl rfl)<|ag<|aB [13,7,3,0] rfl<|ab<| ?_
  refine cB rfl (fun h0=> ?_) (fun h0=> ?_)
  ·have h00:p.getD i 0=0:=UInt8.toNat_inj.1 (by simpa using h0)
   refine ae<|ai<|aG rfl<|ag<|ab<|aV<|a7<|ay<|ay<|a7<|ay<| ?_
   exact bc trivial rfl rfl [] rfl [] rfl ⟨(congrArg Value.bool (decide_eq_false (fun hN=>hN.2.2 (by rw[←h00];rw[List.getD,List.getElem?_eq_getElem hil];exact List.getElem_mem hil))).symm),rfl,rfl⟩
  ·have hno2:¬(0:UInt8)∈p.take (i+1):=fun hm=>by
    rw[List.take_succ_eq_append_getElem hil]at hm
    rcases List.mem_append.1 hm with h1|h1
    ·exact hno h1
    ·apply h0
     have:=List.mem_singleton.1 h1
     rw[List.getD,List.getElem?_eq_getElem hil]
     simp[←this]
   refine aC<|aS<|ab<|ai<|aw rfl<|hy (fun _=>aP rfl rfl (bA (by omega) (by omega)))<|aG rfl<|ag<|aB [3,13,7,0] rfl<| ?_
   refine cM (i+1) ⟨rfl,rfl,trivial⟩ [] rfl [] rfl (⟨by omega,hno2⟩) (by omega)
 ·obtain rfl:i=p.length:=by omega
  rw[List.take_of_length_le (Nat.le_refl _)]at hno
  by_cases h1:0<p.length
  ·refine bG<|an<|an<|aE<|ab<|ae<|ai<|aw rfl<|hy (fun _=>cU rfl Tryz.underlying9)<|hy (fun _=>yT (cW rfl rfl) ((decide_eq_true (by omega))))<|aw rfl<|cy (o:=_) rfl rfl rfl (fun _=>ah rfl)<|cy (o:=_) rfl rfl rfl (fun _=>cU rfl Tryz.underlying9)<|cy (o:=_) rfl rfl rfl (fun _=>bw rfl rfl)<|hy (fun _=>bC rfl rfl)<|aG rfl<|ag<|aB [2,7,3,0] rfl<|ab<|aV<| ?_
   exact bc trivial rfl rfl [] rfl [] rfl ⟨(congrArg Value.bool (decide_eq_decide.2 ⟨fun h=>⟨fun e=>by rw[e]at h1;exact absurd h1 (by decide),by omega,hno⟩,fun h=>by have:=h.2.1;omega⟩)),rfl,rfl⟩
  ·refine bG<|an<|an<|aE<|ab<|ae<|ai<|aw rfl<|hy (fun _=>cU rfl Tryz.underlying9)<|hy (fun _=>yF (cW rfl rfl) ((decide_eq_false (by omega))))<|aw rfl<|bg rfl rfl rfl (by decide)<|bg rfl rfl rfl (by decide)<|bg rfl rfl rfl (by decide)<|hy (fun _=>bo rfl rfl)<|aG rfl<|ag<|aB [2,7,3,0] rfl<|ab<|aV<| ?_
   exact bc trivial rfl rfl [] rfl [] rfl ⟨(congrArg Value.bool (decide_eq_false (fun hN=>hN.1 (List.eq_nil_of_length_eq_zero (by omega)))).symm),rfl,rfl⟩
def cV(l:List FP)(p:List UInt8):Nat:=l.findIdx (fun x=>decide (x.1=p))
def lf(l:List FP)(p:List UInt8):Int:=if cV l p<l.length then(cV l p:Nat)else-1
theorem BI{l:List FP}{p:List UInt8}{i:Nat}{x:FP}(hx:l[i]? =some x)(h:x.1=p)(hno:∀j,j<i→∀y,l[j]? =some y→y.1≠p):cV l p=i:=by
 obtain⟨hi,rfl⟩:=List.getElem?_eq_some_iff.1 hx
 unfold cV
 rw[List.findIdx_eq hi]
 exact⟨by simpa using h,fun j hj=>by simpa using hno j hj _ (List.getElem?_eq_getElem (by omega))⟩
theorem Ay{l:List FP}{p:List UInt8}(hno:∀j,j<l.length→∀y,l[j]? =some y→y.1≠p):¬cV l p<l.length:=by
 intro h
 have h1:=List.findIdx_getElem (w:=h)
 exact hno _ h _ (List.getElem?_eq_getElem h) (of_decide_eq_true h1)
theorem xt{A:Option Addr}{n c:Nat}{l:List FP}{p:List UInt8}(hl:l.length=n)(hn:n≤1000000000):b7 Tryz.prog 113 [.slice A n c,.string (strOf p)] [] [cL 2 A n (fc l)] (fun v_ X_ S_=>v_=(.int .i64 (lf l p))∧X_=[]∧S_=[]):=by
 refine aM (N:=20) Tryz.func113 rfl rfl (by simp) fun b=> ?_
 refine a6 (fun m=>fH (m.rd 0 rfl)) ?_
 rintro⟨hl_r,hA_r⟩
 refine ae<|ai<|aG rfl<|ag<|ab<|ae<|ae<|ai<|aG rfl<|ag<|ab<|aN<| ?_
 refine de (fun i=>n-i) (fun i=>[(5,.int .i64 (i:Nat))]) (fun i=>[]) (fun i=>[]) (fun i=>i≤n∧∀j,j<i→∀y,l[j]? =some y→y.1≠p) 0 [(0,_),(1,_)] ⟨rfl,rfl,trivial⟩ [] rfl [] rfl (⟨Nat.zero_le _,fun j hj=>absurd hj (Nat.not_lt_zero j)⟩) ⟨rfl,trivial⟩ (fun i hI=> ?_)
 obtain⟨hin,hno⟩:=hI
 refine ae<|ae<|ai<|aw rfl<|aw rfl<|hy (fun _=>aY rfl Tryz.underlying36)<|hy (fun _=>bw rfl rfl)<|ag<|aB [9,5,0,1] rfl<|ab<| ?_
 refine cB rfl (fun h=> ?_) (fun h=> ?_)
 ·have hil:i<l.length:=by omega
  obtain⟨x,hx⟩:∃x,l[i]? =some x:=⟨_,List.getElem?_eq_getElem hil⟩
  obtain⟨g0,g1⟩:=jy l i x hx
  refine aC<|ab<|ae<|aN<|ae<|ai<|aw rfl<|aw rfl<|hy (fun _=>cC rfl rfl Tryz.underlying36 fh hA_r rfl (by omega))<|hy (fun _=>aF rfl fe (by decide))<|hy (fun m=>yV (ao rfl mG (fC (m.rd 0 rfl) g0)) ((rfl:_=Value.string (strOf x.1))))<|aw rfl<|hy (fun _=>sB rfl rfl)<|ag<|aB [18,9,5,0,1] rfl<|ab<| ?_
  refine cB rfl (fun h0=> ?_) (fun h0=> ?_)
  ·have he:x.1=p:=cJ.1 h0
   have hN:=BI hx he hno
   refine ae<|ai<|aw rfl<|aG rfl<|ag<|aB [4,18,9,5,0,1] rfl<|ab<|aV<|a7<|ay<|ay<|a7<|ay<| ?_
   exact bc trivial rfl rfl [] rfl [] rfl ⟨(by rw[lf,hN,if_pos hil]),rfl,rfl⟩
  ·have he:x.1≠p:=fun e=>h0 (cJ.2 e)
   have hno2:∀j,j<i+1→∀y,l[j]? =some y→y.1≠p:=fun j hj y hy=>by
    rcases Nat.lt_succ_iff_lt_or_eq.1 hj with h1|h1
    ·exact hno j h1 y hy
    ·rw[h1,hx]at hy;cases hy;exact he
   refine aC<|aS<|ab<|ai<|aw rfl<|hy (fun _=>aP rfl rfl (bA (by omega) (by omega)))<|aG rfl<|ag<|aB [5,18,9,0,1] rfl<| ?_
   refine cM (i+1) ⟨rfl,rfl,rfl,trivial⟩ [] rfl [0] rfl (⟨by omega,hno2⟩) (by omega)
 ·obtain rfl:i=n:=by omega
  refine bG<|an<|an<|aE<|ab<|ae<|ai<|aG rfl<|ag<|ab<|aV<| ?_
  exact bc trivial rfl rfl [] rfl [] rfl ⟨(by rw[lf,if_neg (Ay (fun j hj=>hno j (by omega)))]),rfl,rfl⟩
def dN(l:List FP):Nat:=(l.map fun x=>x.2.length).sum
theorem sk{l:List FP}{i:Nat}{x:FP}(h:l[i]? =some x):dN (l.take (i+1))=dN (l.take i)+x.2.length:=by
 obtain⟨hi,rfl⟩:=List.getElem?_eq_some_iff.1 h
 rw[List.take_succ_eq_append_getElem hi]
 unfold dN
 rw[List.map_append,List.sum_append]
 simp
theorem xI(l:List FP)(i:Nat):dN (l.take i)≤dN l:=by
 have:dN l=dN (l.take i)+dN (l.drop i):=by
  conv=>lhs;rw[←List.take_append_drop i l]
  simp only[dN,List.map_append,List.sum_append]
 omega
def dv(room:Int)(s l w:Value)(pw:Int):List Value:=[.int .i64 room,s,l,w,.int .i64 pw]
theorem Hq{room pw:Int}{vl vw:Value}{A:Option Addr}{n c:Nat}{l:List FP}(hl:l.length=n)(hn:n≤1000000000)(ht:dN l≤1000000000000):b7 Tryz.prog 89 [.agg (dv room (.slice A n c) vl vw pw).toArray] [] [cL 2 A n (fc l)] (fun v_ X_ S_=>v_=(.int .i64 (dN l:Nat))∧X_=[]∧S_=[]):=by
 refine aM (N:=22) Tryz.func89 rfl rfl (by simp) fun b=> ?_
 refine a6 (fun m=>fH (m.rd 0 rfl)) ?_
 rintro⟨hl_r,hA_r⟩
 refine ae<|ai<| ?_
 refine hx (bu rfl (fun g1=> ?_))
 refine aJ (fun w m=>m.bz 0 rfl (show _=aH g1 39 (dv room (.slice A n c) vl vw pw)from congrArg (aH _ _) (aT _))) ?_
 refine aG rfl<|ag<|aj (X' :=[_]) (S' :=[_]) (fun _ m=>m)<|ab<|ae<|ai<|aG rfl<|ag<|ab<|ae<|ae<|ai<|aG rfl<|ag<|ab<|aN<| ?_
 refine de (fun i=>n-i) (fun i=>[(3,.int .i64 (dN (l.take i):Nat)),(4,.int .i64 (i:Nat))]) (fun i=>[aH g1 39 (dv room (.slice A n c) vl vw pw)]) (fun i=>[]) (fun i=>i≤n) 0 [(2,_),(1,_),(0,_)] ⟨rfl,rfl,rfl,trivial⟩ [0] rfl [] rfl (Nat.zero_le _) ⟨rfl,rfl,trivial⟩ (fun i hI=> ?_)
 refine ae<|ae<|ai<|aw rfl<|hy (fun _=>aF rfl iR (by decide))<|hy (fun m=>ao rfl rJ (aA (m.aU 0 rfl) rfl))<|hy (fun _=>aY rfl Tryz.underlying36)<|hy (fun _=>bw rfl rfl)<|ag<|aB [9,3,4,2,1,0] rfl<|ab<| ?_
 refine cB rfl (fun h=> ?_) (fun h=> ?_)
 ·have hil:i<l.length:=by omega
  obtain⟨x,hx⟩:∃x,l[i]? =some x:=⟨_,List.getElem?_eq_getElem hil⟩
  obtain⟨g0,g2⟩:=jy l i x hx
  have h1:=sk hx
  have h2:=xI l (i+1)
  have hsz:=cY x.2
  refine aC<|ab<|ae<|aN<|ai<|aw rfl<|hy (fun _=>aF rfl iR (by decide))<|hy (fun m=>ao rfl rJ (aA (m.aU 0 rfl) (i:=1) rfl))<|aw rfl<|hy (fun _=>cC rfl rfl Tryz.underlying36 fh hA_r rfl (by omega))<|hy (fun _=>aF rfl pO (by decide))<|hy (fun m=>yV (ao rfl mG (fC (m.rd 0 rfl) g2)) ((rfl:_=Value.string (strOf x.2))))<|hy (fun _=>cU rfl Tryz.underlying9)<|hy (fun _=>yV (aP rfl rfl (bA (by omega) (by omega))) ((show Value.int .i64 ((dN (l.take i):Nat)+((strOf x.2).size:Nat))= .int .i64 (dN (l.take (i+1)):Nat) by rw[hsz,h1];rfl)))<|aG rfl<|ag<|aB [3,9,4,2,1,0] rfl<|aS<|ab<|ai<|aw rfl<|hy (fun _=>aP rfl rfl (bA (by omega) (by omega)))<|aG rfl<|ag<|aB [4,3,9,2,1,0] rfl<| ?_
  refine cM (i+1) ⟨rfl,rfl,rfl,rfl,rfl,trivial⟩ [0] rfl [0] rfl (by omega) (by omega)
 ·obtain rfl:i=n:=by omega
  refine bG<|an<|an<|aE<|ab<|ae<|ai<|aw rfl<|aG rfl<|ag<|aB [2,9,3,4,1,0] rfl<|ab<|aV<| ?_
  exact bc trivial rfl rfl [] rfl [] rfl ⟨(by rw[←hl,List.take_of_length_le (Nat.le_refl _)]),rfl,rfl⟩
theorem rR{A:Option Addr}{n c:Nat}{l:List FP}{p:List UInt8}(hl:l.length=n)(hn:n≤1000000):b7 Tryz.prog 221 [.slice A n c,.string (strOf p)] [] [cL 2 A n (fc l)] (fun v_ X_ S_=>∃v k,v_=v∧X_=[aK 156 2 v k (fc (l.filter fun x=>decide (x.1≠p)))]∧S_=[]∧(k=(l.filter fun x=>decide (x.1≠p)).length)):=by
 refine aM (N:=28) Tryz.func221 rfl rfl (by simp) fun b=> ?_
 refine a6 (fun m=>fH (m.rd 0 rfl)) ?_
 rintro⟨hl_r,hA_r⟩
 refine ae<|ai<|aG rfl<|ag<|ab<|ae<|ai<|aG rfl<|ag<|ab<|ae<|ae<|ai<|aG rfl<|ag<|ab<|aN<| ?_
 refine bk (fun w m=>m.cQ (r' :=aK 156 2 (.slice none 0 0) 0 []) (.refl _ _) (Own.nil _ _ _ _) (fun k hk=>hk.elim)) ?_
 refine j3 (fun i A1 k c1=>n-i) (fun i A1 k c1=>[(5,.slice A1 k c1),(6,.int .i64 (i:Nat))]) (fun i A1 k c1=>[aK 156 2 (.slice A1 k c1) k (fc ((l.take i).filter fun x=>decide (x.1≠p)))]) (fun i A1 k c1=>[]) (fun i A1 k c1=>i≤n∧k=((l.take i).filter fun x=>decide (x.1≠p)).length) 0 none 0 0 [(4,_),(0,_),(1,_)] ⟨rfl,rfl,rfl,trivial⟩ [0] rfl [] rfl (⟨Nat.zero_le _,rfl⟩) ⟨rfl,rfl,trivial⟩ (fun i A1 k c1 hI=> ?_)
 obtain⟨hin,hk⟩:=hI
 have hkl:((l.take i).filter fun x=>decide (x.1≠p)).length≤i:=Nat.le_trans (List.length_filter_le ..) (by rw[List.length_take];omega)
 refine ae<|ae<|ai<|aw rfl<|aw rfl<|hy (fun _=>aY rfl Tryz.underlying36)<|hy (fun _=>bw rfl rfl)<|ag<|aB [10,5,6,4,0,1] rfl<|ab<| ?_
 refine cB rfl (fun h=> ?_) (fun h=> ?_)
 ·have hil:i<l.length:=by omega
  obtain⟨x,hgx⟩:∃x,l[i]? =some x:=⟨_,List.getElem?_eq_getElem hil⟩
  obtain⟨g0,g2⟩:=jy l i x hgx
  have Em:(l.take (i+1)).filter (fun x=>decide (x.1≠p))=(l.take i).filter (fun x=>decide (x.1≠p))++[x].filter (fun x=>decide (x.1≠p)):=by
   obtain⟨hi,rfl⟩:=List.getElem?_eq_some_iff.1 hgx
   rw[List.take_succ_eq_append_getElem hi,List.filter_append]
  refine aC<|ab<|ae<|aN<|ae<|ai<|aw rfl<|aw rfl<|hy (fun _=>cC rfl rfl Tryz.underlying36 fh hA_r rfl (by omega))<|hy (fun _=>aF rfl fe (by decide))<|hy (fun m=>yV (ao rfl mG (fC (m.rd 0 rfl) g0)) ((rfl:_=Value.string (strOf x.1))))<|aw rfl<|hy (fun _=>qN rfl rfl)<|ag<|aB [19,10,5,6,4,0,1] rfl<|ab<| ?_
  refine cB rfl (fun h0=> ?_) (fun h0=> ?_)
  ·have hF:(l.take i).filter (fun x=>decide (x.1≠p))++[x]=(l.take (i+1)).filter (fun x=>decide (x.1≠p)):=by
    have hne:x.1≠p:=fun e=>h0 (cJ.2 e)
    rw[Em];simp[hne]
   refine ai<|aw rfl<|aw rfl<|aw rfl<|hy (fun _=>cC rfl rfl Tryz.underlying36 fh hA_r rfl (by omega))<|hy (fun m=>yV (aQ rfl rW fh rfl (nR (m.rd 0 rfl) hgx)) ((rfl:_=Value.agg [SV x.1,SV x.2].toArray)))<| ?_
   refine hx (bQ Tryz.underlying36 jg rfl rfl rfl (by simp[Value.cells,B8]) (by decide) (by decide) (fun g25=> ?_))
   have hA_b25:0<1→(some (⟨g25,0,none⟩:Addr))≠none:=fun _ h=>by cases h
   refine aJ (fun w m=>m.bz 0 rfl (show _=aK 156 2 (.slice (some ⟨g25,0,none⟩) 1 1) 1 (fc [x])from rfl)) ?_
   refine hx (bs 1 rfl rfl rfl Tryz.underlying36 Tryz.underlying36 (by exact .inl rfl) jg rfl (fun m=>Src.bJ (m.ord 0 rfl)) oF (by unfold maxLen;omega) (by omega) (fun u=> ?_))
   refine az (fun m=>(m.own 0 rfl).slice) ?_
   rintro⟨A_o,c_o,rfl,hc_o⟩
   refine az (fun m=>(m.ord 0 rfl).2.1) fun hA_o=> ?_
   refine aJ (fun w m=>m.bz 0 rfl (show _=aK 156 2 (.slice A_o (k+1) c_o) (k+1) (fc ((l.take (i+1)).filter fun x=>decide (x.1≠p)))from congrArg (aK _ _ _ _) ((iA ..).symm.trans (congrArg fc hF)))) ?_
   refine aG rfl<|ag<|aB [5,19,10,6,4,0,1] rfl<|aj (X' :=[_,_]) (S' :=[_]) (fun _ m=>m)<|aS<|ab<|ai<|aw rfl<|hy (fun _=>aP rfl rfl (bA (by omega) (by omega)))<|aG rfl<|ag<|aB [6,5,19,10,4,0,1] rfl<| ?_
   refine ej (i+1) A_o (k+1) c_o ⟨rfl,rfl,rfl,rfl,rfl,trivial⟩ [0] rfl [0] rfl (⟨by omega,by rw[←hF,hk,List.length_append];rfl⟩) (by omega)
  ·have hF:(l.take (i+1)).filter (fun x=>decide (x.1≠p))=(l.take i).filter (fun x=>decide (x.1≠p)):=by
    have hne:x.1=p:=cJ.1 (Decidable.not_not.1 h0)
    rw[Em];simp[hne]
   refine bk (fun w m=>m.bz 0 rfl (show _=aK 156 2 (.slice A1 k c1) k (fc ((l.take (i+1)).filter fun x=>decide (x.1≠p)))from by rw[hF])) ?_
   refine aC<|aS<|ab<|ai<|aw rfl<|hy (fun _=>aP rfl rfl (bA (by omega) (by omega)))<|aG rfl<|ag<|aB [6,19,10,5,4,0,1] rfl<| ?_
   refine ej (i+1) A1 k c1 ⟨rfl,rfl,rfl,rfl,rfl,trivial⟩ [0] rfl [0] rfl (⟨by omega,by rw[hF];exact hk⟩) (by omega)
 ·obtain rfl:i=n:=by omega
  rw[←hl,List.take_of_length_le (Nat.le_refl _)]at hk
  refine bk (fun w m=>m.bz 0 rfl (show _=aK 156 2 (.slice A1 k c1) k (fc (l.filter fun x=>decide (x.1≠p)))from by rw[←hl,List.take_of_length_le (Nat.le_refl _)])) ?_
  refine bG<|an<|an<|aE<|ab<|ae<|ai<|aw rfl<|aG rfl<|ag<|aB [4,10,5,6,0,1] rfl<|ab<|aV<| ?_
  exact bc trivial rfl rfl [0] rfl [] rfl ⟨_,_,rfl,rfl,rfl,hk⟩
end Go.Proofs.YtmibdabdlgmafaaGreatDoor
end
section
set_option maxRecDepth 20000
namespace Go.Proofs.YtmibdabdlgmafaaGreatDoor
open Go.Eng Go.Hx
def nf(a b:List UInt8):Bool:=Op.bytesLess (strOf a).toList (strOf b).toList
def iH(f:FP)(st:List FP×Bool)(x:FP):List FP×Bool:=
 let s1:=if st.2=false∧nf x.1 f.1=false then(st.1++[f],true)else st
 (if x.1≠f.1 then s1.1++[x]else s1.1,s1.2)
def De(f:FP)(l:List FP)(i:Nat):List FP×Bool:=(l.take i).foldl (iH f) ([],false)
theorem AV{f:FP}{l:List FP}{i:Nat}{x:FP}(h:l[i]? =some x):De f l (i+1)=iH f (De f l i) x:=by
 obtain⟨hi,rfl⟩:=List.getElem?_eq_some_iff.1 h
 unfold De
 rw[List.take_succ_eq_append_getElem hi,List.foldl_append]
 rfl
def hC(l:List FP)(f:FP):List FP:=if(De f l l.length).2 then(De f l l.length).1 else(De f l l.length).1++[f]
theorem Cm{A:Option Addr}{n c:Nat}{l:List FP}{f:FP}(hl:l.length=n)(hn:n≤1000000):b7 Tryz.prog 220 [.slice A n c,.agg [SV f.1,SV f.2].toArray] [] [cL 2 A n (fc l)] (fun v_ X_ S_=>∃v k,v_=v∧X_=[aK 156 2 v k (fc (hC l f))]∧S_=[]∧(k=(hC l f).length∧k≤n+1)):=by
 refine aM (N:=52) Tryz.func220 rfl rfl (by simp) fun b=> ?_
 refine a6 (fun m=>fH (m.rd 0 rfl)) ?_
 rintro⟨hl_r,hA_r⟩
 refine ae<|ai<| ?_
 refine hx (bu rfl (fun g3=> ?_))
 refine aJ (fun w m=>m.bz 0 rfl (show _=aH g3 156 [SV f.1,SV f.2]from congrArg (aH _ _) (aT _))) ?_
 refine aG rfl<|ag<|aj (X' :=[_]) (S' :=[_]) (fun _ m=>m)<|ab<|ae<|ai<|aG rfl<|ag<|ab<|ae<|ai<|aG rfl<|ag<|ab<|ae<|ae<|ai<|aG rfl<|ag<|ab<|aN<| ?_
 refine bk (fun w m=>m.cQ (r' :=aK 156 2 (.slice none 0 0) 0 []) (.refl _ _) (Own.nil _ _ _ _) (fun k hk=>hk.elim)) ?_
 refine tk (fun i A1 k c1 out pt=>n-i) (fun i A1 k c1 out pt=>[(5,.slice A1 k c1),(6,.bool pt),(7,.int .i64 (i:Nat))]) (fun i A1 k c1 out pt=>[aK 156 2 (.slice A1 k c1) k (fc out),aH g3 156 [SV f.1,SV f.2]]) (fun i A1 k c1 out pt=>[]) (fun i A1 k c1 out pt=>i≤n∧De f l i=(out,pt)∧k=out.length∧k≤i+pt.toNat) 0 none 0 0 [] false [(4,_),(3,_),(0,_),(1,_)] ⟨rfl,rfl,rfl,rfl,trivial⟩ [0,0] rfl [] rfl (⟨Nat.zero_le _,rfl,rfl,Nat.le_refl _⟩) ⟨rfl,rfl,rfl,trivial⟩ (fun i A1 k c1 out pt ⟨hin,hw,hk,hki⟩=> ?_)
 have hpt:pt.toNat≤1:=by cases pt <;> decide
 refine ae<|ae<|ai<|aw rfl<|aw rfl<|hy (fun _=>aY rfl Tryz.underlying36)<|hy (fun _=>bw rfl rfl)<|ag<|aB [11,5,6,7,4,3,0,1] rfl<|ab<| ?_
 refine cB rfl (fun h=> ?_) (fun h=> ?_)
 ·have hil:i<l.length:=by omega
  obtain⟨x,hgx⟩:∃x,l[i]? =some x:=⟨_,List.getElem?_eq_getElem hil⟩
  obtain⟨g0,g2⟩:=jy l i x hgx
  have hs:=AV (f:=f) hgx
  rw[hw]at hs
  unfold iH at hs
  by_cases hp:pt=true
  ·subst hp
   simp only[Bool.true_eq_false,false_and,if_false]at hs
   refine aC<|ab<|ae<|aN<|ae<|ae<|cD [] [(0,some 0),(1,some 0),(2,some 0),(3,some 0),(4,some 0),(5,some 0),(6,some 0),(7,some 0),(8,some 0),(9,some 0),(10,some 0),(11,some 0)] (by kernel_rfl) (by kernel_rfl) rfl 99<|ak (ah rfl)<|ak ((iK rfl))<|ak (ah rfl)<|aX rfl rfl rfl (by decide)<|aX rfl rfl rfl (by decide)<|aX rfl rfl rfl (by decide)<|aX rfl rfl rfl (by decide)<|aX rfl rfl rfl (by decide)<|aX rfl rfl rfl (by decide)<|aX rfl rfl rfl (by decide)<|aX rfl rfl rfl (by decide)<|ak (bo rfl rfl)<|bq<|aB [25,11,5,6,7,4,3,0,1] rfl<|ab<| ?_
   refine cN rfl (rfl) ?_
   refine aC<|ab<|ae<|cD [] [(0,some 0),(1,some 0),(2,some 0),(3,some 0),(4,some 0),(5,some 0),(6,some 0),(7,some 0)] (by kernel_rfl) (by kernel_rfl) rfl 99<|ak (ah rfl)<|ak (ah rfl)<|ak (cC rfl rfl Tryz.underlying36 fh hA_r rfl (by omega))<|ak (aF rfl fe (by decide))<|bZ (fun m=>yV (ao rfl mG (fC (m.rd 0 rfl) g0)) ((rfl:_=Value.string (strOf x.1))))<|ak (aF rfl fe (by decide))<|bZ (fun m=>yV (ao rfl mG (aA (m.aU 1 rfl) (i:=0) rfl)) ((rfl:_=Value.string (strOf f.1))))<|ak (qN rfl rfl)<|bq<|aB [37,25,11,5,6,7,4,3,0,1] rfl<|ab<| ?_
   refine cB rfl (fun h1=> ?_) (fun h1=> ?_)
   ·have hne:x.1≠f.1:=fun e=>h1 (cJ.2 e)
    refine ai<|aw rfl<|aw rfl<|aw rfl<|hy (fun _=>cC rfl rfl Tryz.underlying36 fh hA_r rfl (by omega))<|hy (fun m=>yV (aQ rfl rW fh rfl (nR (m.rd 0 rfl) hgx)) ((rfl:_=Value.agg [SV x.1,SV x.2].toArray)))<| ?_
    refine hx (bQ Tryz.underlying36 jg rfl rfl rfl (by simp[Value.cells,B8]) (by decide) (by decide) (fun g43=> ?_))
    have hA_b43:0<1→(some (⟨g43,0,none⟩:Addr))≠none:=fun _ h=>by cases h
    refine aJ (fun w m=>m.bz 0 rfl (show _=aK 156 2 (.slice (some ⟨g43,0,none⟩) 1 1) 1 (fc [x])from rfl)) ?_
    refine hx (bs 1 rfl rfl rfl Tryz.underlying36 Tryz.underlying36 (by exact .inl rfl) jg rfl (fun m=>Src.bJ (m.ord 0 rfl)) oF (by unfold maxLen;omega) (by omega) (fun u=> ?_))
    refine az (fun m=>(m.own 0 rfl).slice) ?_
    rintro⟨A_o,c_o,rfl,hc_o⟩
    refine az (fun m=>(m.ord 0 rfl).2.1) fun hA_o=> ?_
    refine aJ (fun w m=>m.bz 0 rfl (show _=aK 156 2 (.slice A_o (k+1) c_o) (k+1) (fc (out++[x]))from congrArg (aK _ _ _ _) (iA ..).symm)) ?_
    refine aG rfl<|ag<|aB [5,37,25,11,6,7,4,3,0,1] rfl<|aj (X' :=[_,_,_]) (S' :=[_]) (fun _ m=>m)<|aS<|ab<|ai<|aw rfl<|hy (fun _=>aP rfl rfl (bA (by omega) (by omega)))<|aG rfl<|ag<|aB [7,5,37,25,11,6,4,3,0,1] rfl<| ?_
    refine iP (i+1) A_o (k+1) c_o (out++[x]) true ⟨rfl,rfl,rfl,rfl,rfl,rfl,rfl,trivial⟩ [0,1] rfl [0] rfl (⟨by omega,by rw[hs,if_pos hne],by rw[List.length_append,hk.symm];rfl,by simp at hki ⊢;omega⟩) (by omega)
   ·have hne:¬x.1≠f.1:=fun e=>h1 (fun h=>e (cJ.1 h))
    refine aC<|aS<|ab<|ai<|aw rfl<|hy (fun _=>aP rfl rfl (bA (by omega) (by omega)))<|aG rfl<|ag<|aB [7,37,25,11,5,6,4,3,0,1] rfl<| ?_
    refine iP (i+1) A1 (k) c1 (out) true ⟨rfl,rfl,rfl,rfl,rfl,rfl,rfl,trivial⟩ [0,0] rfl [0] rfl (⟨by omega,by rw[hs,if_neg hne],hk.symm.symm,by simp at hki ⊢;omega⟩) (by omega)
  ·obtain rfl:pt=false:=by simpa using hp
   by_cases hge:nf x.1 f.1=false
   ·simp only[hge,and_self,if_true]at hs
    refine aC<|ab<|ae<|aN<|ae<|ae<|cD [] [(0,some 0),(1,some 0),(2,some 0),(3,some 0),(4,some 0),(5,some 0),(6,some 0),(7,some 0),(8,some 0),(9,some 0),(10,some 0),(11,some 0)] (by kernel_rfl) (by kernel_rfl) rfl 99<|ak (ah rfl)<|ak ((iK rfl))<|ak (ah rfl)<|bB (o:=_) rfl rfl rfl (ah rfl)<|bB (o:=_) rfl rfl rfl (ah rfl)<|bB (o:=_) rfl rfl rfl (cC rfl rfl Tryz.underlying36 fh hA_r rfl (by omega))<|bB (o:=_) rfl rfl rfl (aF rfl fe (by decide))<|iW (o:=_) rfl rfl rfl (fun m=>yV (ao rfl mG (fC (m.rd 0 rfl) g0)) ((rfl:_=Value.string (strOf x.1))))<|bB (o:=_) rfl rfl rfl (aF rfl fe (by decide))<|iW (o:=_) rfl rfl rfl (fun m=>yV (ao rfl mG (aA (m.aU 1 rfl) (i:=0) rfl)) ((rfl:_=Value.string (strOf f.1))))<|bB (o:=_) rfl rfl rfl (yT (Fa rfl rfl) ((by show(!nf x.1 f.1)=true;rw[hge];rfl)))<|ak (bC rfl rfl)<|bq<|aB [25,11,5,6,7,4,3,0,1] rfl<|ab<| ?_
    refine fq rfl (rfl) ?_
    refine ae<|ai<|aw rfl<|hy (fun m=>yV (aQ rfl rW fh rfl ((m.aU 1 rfl).au)) ((rfl:_=Value.agg [SV f.1,SV f.2].toArray)))<| ?_
    refine hx (bQ Tryz.underlying36 jg rfl rfl rfl (by simp[Value.cells,B8]) (by decide) (by decide) (fun g28=> ?_))
    have hA_b28:0<1→(some (⟨g28,0,none⟩:Addr))≠none:=fun _ h=>by cases h
    refine aJ (fun w m=>m.bz 0 rfl (show _=aK 156 2 (.slice (some ⟨g28,0,none⟩) 1 1) 1 (fc [f])from rfl)) ?_
    refine hx (bs 1 rfl rfl rfl Tryz.underlying36 Tryz.underlying36 (by exact .inl rfl) jg rfl (fun m=>Src.bJ (m.ord 0 rfl)) oF (by unfold maxLen;omega) (by omega) (fun u=> ?_))
    refine az (fun m=>(m.own 0 rfl).slice) ?_
    rintro⟨A_o,c_o,rfl,hc_o⟩
    refine az (fun m=>(m.ord 0 rfl).2.1) fun hA_o=> ?_
    refine aJ (fun w m=>m.bz 0 rfl (show _=aK 156 2 (.slice A_o (k+1) c_o) (k+1) (fc (out++[f]))from congrArg (aK _ _ _ _) (iA ..).symm)) ?_
    have hk1:(out++[f]).length=k+1:=by rw[List.length_append,hk];rfl
    refine aG rfl<|ag<|aB [5,25,11,6,7,4,3,0,1] rfl<|aj (X' :=[_,_,_]) (S' :=[_]) (fun _ m=>m)<|ab<|ai<|aG rfl<|ag<|ab<|ae<|cD [] [(0,some 0),(1,some 0),(2,some 0),(3,some 0),(4,some 0),(5,some 0),(6,some 0),(7,some 0)] (by kernel_rfl) (by kernel_rfl) rfl 99<|ak (ah rfl)<|ak (ah rfl)<|ak (cC rfl rfl Tryz.underlying36 fh hA_r rfl (by omega))<|ak (aF rfl fe (by decide))<|bZ (fun m=>yV (ao rfl mG (fC (m.rd 0 rfl) g0)) ((rfl:_=Value.string (strOf x.1))))<|ak (aF rfl fe (by decide))<|bZ (fun m=>yV (ao rfl mG (aA (m.aU 2 rfl) (i:=0) rfl)) ((rfl:_=Value.string (strOf f.1))))<|ak (qN rfl rfl)<|bq<|aB [37,6,5,25,11,7,4,3,0,1] rfl<|ab<| ?_
    refine cB rfl (fun h1=> ?_) (fun h1=> ?_)
    ·have hne:x.1≠f.1:=fun e=>h1 (cJ.2 e)
     refine ai<|aw rfl<|aw rfl<|aw rfl<|hy (fun _=>cC rfl rfl Tryz.underlying36 fh hA_r rfl (by omega))<|hy (fun m=>yV (aQ rfl rW fh rfl (nR (m.rd 0 rfl) hgx)) ((rfl:_=Value.agg [SV x.1,SV x.2].toArray)))<| ?_
     refine hx (bQ Tryz.underlying36 jg rfl rfl rfl (by simp[Value.cells,B8]) (by decide) (by decide) (fun g43=> ?_))
     have hA_b43:0<1→(some (⟨g43,0,none⟩:Addr))≠none:=fun _ h=>by cases h
     refine aJ (fun w m=>m.bz 0 rfl (show _=aK 156 2 (.slice (some ⟨g43,0,none⟩) 1 1) 1 (fc [x])from rfl)) ?_
     refine hx (bs 1 rfl rfl rfl Tryz.underlying36 Tryz.underlying36 (by exact .inl rfl) jg rfl (fun m=>Src.bJ (m.ord 0 rfl)) oF (by unfold maxLen;omega) (by omega) (fun u2=> ?_))
     refine az (fun m=>(m.own 0 rfl).slice) ?_
     rintro⟨A_o2,c_o2,rfl,hc_o⟩
     refine az (fun m=>(m.ord 0 rfl).2.1) fun hA_o=> ?_
     refine aJ (fun w m=>m.bz 0 rfl (show _=aK 156 2 (.slice A_o2 (k+1+1) c_o2) (k+1+1) (fc ((out++[f])++[x]))from congrArg (aK _ _ _ _) (iA ..).symm)) ?_
     refine aG rfl<|ag<|aB [5,37,6,25,11,7,4,3,0,1] rfl<|aj (X' :=[_,_,_,_]) (S' :=[_]) (fun _ m=>m)<|aS<|ab<|ai<|aw rfl<|hy (fun _=>aP rfl rfl (bA (by omega) (by omega)))<|aG rfl<|ag<|aB [7,5,37,6,25,11,4,3,0,1] rfl<| ?_
     refine iP (i+1) A_o2 (k+1+1) c_o2 ((out++[f])++[x]) true ⟨rfl,rfl,rfl,rfl,rfl,rfl,rfl,trivial⟩ [0,2] rfl [0] rfl (⟨by omega,by rw[hs,if_pos hne],by rw[List.length_append,hk1];rfl,by simp at hki ⊢;omega⟩) (by omega)
    ·have hne:¬x.1≠f.1:=fun e=>h1 (fun h=>e (cJ.1 h))
     refine aC<|aS<|ab<|ai<|aw rfl<|hy (fun _=>aP rfl rfl (bA (by omega) (by omega)))<|aG rfl<|ag<|aB [7,37,6,5,25,11,4,3,0,1] rfl<| ?_
     refine iP (i+1) A_o (k+1) c_o ((out++[f])) true ⟨rfl,rfl,rfl,rfl,rfl,rfl,rfl,trivial⟩ [0,1] rfl [0] rfl (⟨by omega,by rw[hs,if_neg hne],hk1.symm,by simp at hki ⊢;omega⟩) (by omega)
   ·have hlt:nf x.1 f.1=true:=by simpa using hge
    simp only[hlt,Bool.true_eq_false,and_false,if_false]at hs
    refine aC<|ab<|ae<|aN<|ae<|ae<|cD [] [(0,some 0),(1,some 0),(2,some 0),(3,some 0),(4,some 0),(5,some 0),(6,some 0),(7,some 0),(8,some 0),(9,some 0),(10,some 0),(11,some 0)] (by kernel_rfl) (by kernel_rfl) rfl 99<|ak (ah rfl)<|ak ((iK rfl))<|ak (ah rfl)<|bB (o:=_) rfl rfl rfl (ah rfl)<|bB (o:=_) rfl rfl rfl (ah rfl)<|bB (o:=_) rfl rfl rfl (cC rfl rfl Tryz.underlying36 fh hA_r rfl (by omega))<|bB (o:=_) rfl rfl rfl (aF rfl fe (by decide))<|iW (o:=_) rfl rfl rfl (fun m=>yV (ao rfl mG (fC (m.rd 0 rfl) g0)) ((rfl:_=Value.string (strOf x.1))))<|bB (o:=_) rfl rfl rfl (aF rfl fe (by decide))<|iW (o:=_) rfl rfl rfl (fun m=>yV (ao rfl mG (aA (m.aU 1 rfl) (i:=0) rfl)) ((rfl:_=Value.string (strOf f.1))))<|bB (o:=_) rfl rfl rfl (yF (Fa rfl rfl) ((by show(!nf x.1 f.1)=false;rw[hlt];rfl)))<|ak (bC rfl rfl)<|bq<|aB [25,11,5,6,7,4,3,0,1] rfl<|ab<| ?_
    refine cN rfl (rfl) ?_
    refine aC<|ab<|ae<|cD [] [(0,some 0),(1,some 0),(2,some 0),(3,some 0),(4,some 0),(5,some 0),(6,some 0),(7,some 0)] (by kernel_rfl) (by kernel_rfl) rfl 99<|ak (ah rfl)<|ak (ah rfl)<|ak (cC rfl rfl Tryz.underlying36 fh hA_r rfl (by omega))<|ak (aF rfl fe (by decide))<|bZ (fun m=>yV (ao rfl mG (fC (m.rd 0 rfl) g0)) ((rfl:_=Value.string (strOf x.1))))<|ak (aF rfl fe (by decide))<|bZ (fun m=>yV (ao rfl mG (aA (m.aU 1 rfl) (i:=0) rfl)) ((rfl:_=Value.string (strOf f.1))))<|ak (qN rfl rfl)<|bq<|aB [37,25,11,5,6,7,4,3,0,1] rfl<|ab<| ?_
    refine cB rfl (fun h1=> ?_) (fun h1=> ?_)
    ·have hne:x.1≠f.1:=fun e=>h1 (cJ.2 e)
     refine ai<|aw rfl<|aw rfl<|aw rfl<|hy (fun _=>cC rfl rfl Tryz.underlying36 fh hA_r rfl (by omega))<|hy (fun m=>yV (aQ rfl rW fh rfl (nR (m.rd 0 rfl) hgx)) ((rfl:_=Value.agg [SV x.1,SV x.2].toArray)))<| ?_
     refine hx (bQ Tryz.underlying36 jg rfl rfl rfl (by simp[Value.cells,B8]) (by decide) (by decide) (fun g43=> ?_))
     have hA_b43:0<1→(some (⟨g43,0,none⟩:Addr))≠none:=fun _ h=>by cases h
     refine aJ (fun w m=>m.bz 0 rfl (show _=aK 156 2 (.slice (some ⟨g43,0,none⟩) 1 1) 1 (fc [x])from rfl)) ?_
     refine hx (bs 1 rfl rfl rfl Tryz.underlying36 Tryz.underlying36 (by exact .inl rfl) jg rfl (fun m=>Src.bJ (m.ord 0 rfl)) oF (by unfold maxLen;omega) (by omega) (fun u=> ?_))
     refine az (fun m=>(m.own 0 rfl).slice) ?_
     rintro⟨A_o,c_o,rfl,hc_o⟩
     refine az (fun m=>(m.ord 0 rfl).2.1) fun hA_o=> ?_
     refine aJ (fun w m=>m.bz 0 rfl (show _=aK 156 2 (.slice A_o (k+1) c_o) (k+1) (fc (out++[x]))from congrArg (aK _ _ _ _) (iA ..).symm)) ?_
     refine aG rfl<|ag<|aB [5,37,25,11,6,7,4,3,0,1] rfl<|aj (X' :=[_,_,_]) (S' :=[_]) (fun _ m=>m)<|aS<|ab<|ai<|aw rfl<|hy (fun _=>aP rfl rfl (bA (by omega) (by omega)))<|aG rfl<|ag<|aB [7,5,37,25,11,6,4,3,0,1] rfl<| ?_
     refine iP (i+1) A_o (k+1) c_o (out++[x]) false ⟨rfl,rfl,rfl,rfl,rfl,rfl,rfl,trivial⟩ [0,1] rfl [0] rfl (⟨by omega,by rw[hs,if_pos hne],by rw[List.length_append,hk.symm];rfl,by simp at hki ⊢;omega⟩) (by omega)
    ·have hne:¬x.1≠f.1:=fun e=>h1 (fun h=>e (cJ.1 h))
     refine aC<|aS<|ab<|ai<|aw rfl<|hy (fun _=>aP rfl rfl (bA (by omega) (by omega)))<|aG rfl<|ag<|aB [7,37,25,11,5,6,4,3,0,1] rfl<| ?_
     refine iP (i+1) A1 (k) c1 (out) false ⟨rfl,rfl,rfl,rfl,rfl,rfl,rfl,trivial⟩ [0,0] rfl [0] rfl (⟨by omega,by rw[hs,if_neg hne],hk.symm.symm,by simp at hki ⊢;omega⟩) (by omega)
 ·obtain rfl:i=n:=by omega
  have hww:De f l l.length=(out,pt):=by rw[hl];exact hw
  by_cases hp:pt=true
  ·subst hp
   have hW:hC l f=out:=by rw[hC,hww];rfl
   refine bG<|an<|an<|aE<|ab<|ae<|ae<|ai<|aw rfl<|hy (fun _=>(iK rfl))<|ag<|aB [46,11,5,6,7,4,3,0,1] rfl<|ab<| ?_
   refine cN rfl (rfl) ?_
   refine aC<|ab<|ae<|ai<|aw rfl<|aG rfl<|ag<|aB [4,46,11,5,6,7,3,0,1] rfl<|ab<|aV<| ?_
   refine aj (fun w m=>m.bz 0 rfl (show _=aK 156 2 (.slice A1 k c1) k (fc (hC l f))from by rw[hW])) ?_
   exact bc trivial rfl rfl [0] rfl [] rfl ⟨_,_,rfl,rfl,rfl,⟨by rw[hW];exact hk,by simp at hki;omega⟩⟩
  ·obtain rfl:pt=false:=by simpa using hp
   have hW:hC l f=out++[f]:=by rw[hC,hww];rfl
   refine bG<|an<|an<|aE<|ab<|ae<|ae<|ai<|aw rfl<|hy (fun _=>(iK rfl))<|ag<|aB [46,11,5,6,7,4,3,0,1] rfl<|ab<| ?_
   refine fq rfl (rfl) ?_
   refine ai<|aw rfl<|hy (fun m=>yV (aQ rfl rW fh rfl ((m.aU 1 rfl).au)) ((rfl:_=Value.agg [SV f.1,SV f.2].toArray)))<| ?_
   refine hx (bQ Tryz.underlying36 jg rfl rfl rfl (by simp[Value.cells,B8]) (by decide) (by decide) (fun g49=> ?_))
   have hA_b49:0<1→(some (⟨g49,0,none⟩:Addr))≠none:=fun _ h=>by cases h
   refine aJ (fun w m=>m.bz 0 rfl (show _=aK 156 2 (.slice (some ⟨g49,0,none⟩) 1 1) 1 (fc [f])from rfl)) ?_
   refine hx (bs 1 rfl rfl rfl Tryz.underlying36 Tryz.underlying36 (by exact .inl rfl) jg rfl (fun m=>Src.bJ (m.ord 0 rfl)) oF (by unfold maxLen;omega) (by omega) (fun u=> ?_))
   refine az (fun m=>(m.own 0 rfl).slice) ?_
   rintro⟨A_o,c_o,rfl,hc_o⟩
   refine az (fun m=>(m.ord 0 rfl).2.1) fun hA_o=> ?_
   refine aJ (fun w m=>m.bz 0 rfl (show _=aK 156 2 (.slice A_o (k+1) c_o) (k+1) (fc (hC l f))from(congrArg (aK _ _ _ _) ((iA ..).symm.trans (congrArg fc hW.symm))))) ?_
   refine aG rfl<|ag<|aB [5,46,11,6,7,4,3,0,1] rfl<|aj (X' :=[_,_,_]) (S' :=[_]) (fun _ m=>m)<|ab<|ae<|ai<|aw rfl<|aG rfl<|ag<|aB [4,5,46,11,6,7,3,0,1] rfl<|ab<|aV<| ?_
   exact bc trivial rfl rfl [0] rfl [] rfl ⟨_,_,rfl,rfl,rfl,⟨by rw[hW,List.length_append,hk];rfl,by simp at hki;omega⟩⟩
end Go.Proofs.YtmibdabdlgmafaaGreatDoor
end
section
set_option maxRecDepth 20000
namespace Go.Proofs.YtmibdabdlgmafaaGreatDoor
open Go.Eng Go.Hx
def eg(l:List FP)(p:List UInt8):List FP:=l.filter fun x=>decide (x.1≠p)
def cv(k:Int)(p t b:List UInt8):List Value:=[.int .i64 k,SV p,SV t,SV b]
def eo(l:List FP)(k:Int)(p t b:List UInt8):List FP:=
 if k=0 then hC l (p,b)else match l[cV l p]? with
  |none=>l
  |some x=>if k=2 then eg l p else hC (eg l p) (t,x.2)
theorem iz{l:List FP}{p:List UInt8}:lf l p<0↔l[cV l p]? =none:=by
 unfold lf
 by_cases h:cV l p<l.length
 ·rw[if_pos h,List.getElem?_eq_getElem h];simp
 ·rw[if_neg h,List.getElem?_eq_none (by omega)];simp
theorem FX{A:Option Addr}{n c:Nat}{l:List FP}{k:Int}{p t bb:List UInt8}(hl:l.length=n)(hn:n≤900000):b7 Tryz.prog 162 [.slice A n c,.agg (cv k p t bb).toArray] [] [cL 2 A n (fc l)] (fun v_ X_ S_=>∃A1 n1 c1,v_=(.slice A1 n1 c1)∧X_=[]∧S_=[cL 2 A1 n1 (fc (eo l k p t bb))]∧(n1=(eo l k p t bb).length∧n1≤n+1)):=by
 refine aM (N:=43) Tryz.func162 rfl rfl (by simp) fun b=> ?_
 refine a6 (fun m=>fH (m.rd 0 rfl)) ?_
 rintro⟨hl_r,hA_r⟩
 refine ae<|ai<| ?_
 refine hx (bu rfl (fun g3=> ?_))
 refine aJ (fun w m=>m.bz 0 rfl (show _=aH g3 186 (cv k p t bb)from congrArg (aH _ _) (aT _))) ?_
 refine aG rfl<|ag<|aj (X' :=[_]) (S' :=[_]) (fun _ m=>m)<|ab<|ae<|ae<|ai<|hy (fun _=>aF rfl yz (by decide))<|hy (fun m=>ao rfl dD (aA (m.aU 0 rfl) (i:=0) rfl))<|hy (fun _=>cx rfl rfl)<|ag<|aB [8,4,3,0,1] rfl<|ab<| ?_
 refine cB rfl (fun h0=> ?_) (fun h0=> ?_)
 ·have hM:eo l k p t bb=hC l (p,bb):=by rw[eo,if_pos h0]
  refine ae<|ai<|aw rfl<|hy (fun _=>aF rfl pR (by decide))<|hy (fun m=>yV (ao rfl mG (aA (m.aU 0 rfl) (i:=1) rfl)) ((rfl:_=SV p)))<|hy (fun _=>aF rfl E2 (by decide))<|hy (fun m=>yV (ao rfl mG (aA (m.aU 0 rfl) (i:=3) rfl)) ((rfl:_=SV bb)))<|hy (fun _=>yV (bU jg rfl rfl (by kernel_rfl) (.cons (o:=0) (sz:=1) (by kernel_rfl) rfl rfl (Nat.le_of_ble_eq_true rfl) (.cons (o:=1) (sz:=1) (by kernel_rfl) rfl rfl (Nat.le_of_ble_eq_true rfl) .nil))) ((rfl:_=Value.agg [SV p,SV bb].toArray)))<| ?_
  refine hx (aq rfl Tryz.call220 (Cm (by omega) (by omega) (f:=(p,bb))) [] rfl [0] rfl ?_)
  rintro _ _ _ ⟨v,k2,rfl,rfl,rfl,hp⟩
  refine az (fun m=>(m.own 0 rfl).slice) ?_
  rintro⟨A_x,c_x,rfl,hc_x⟩
  refine az (fun m=>(m.ord 0 rfl).2.1) fun hA_x=> ?_
  refine aG rfl<|ag<|aB [4,8,3,0,1] rfl<|aj (X' :=[_,_]) (S' :=[_]) (fun _ m=>m)<|ab<|aV<|ay<| ?_
  rw[←hM]at hp
  refine aj (fun w m=>m.bz 0 rfl (show _=aK 156 2 (.slice A_x k2 c_x) k2 (fc (eo l k p t bb))from by rw[hM])) ?_
  refine aj (fun w m=>(m.perm (ar [0] _ [_] _ rfl)).freeze) ?_
  refine aj (fun w m=>m.fA 0 rfl .own) ?_
  refine w9 (fun m=>fH (m.rd 0 rfl)) ?_
  rintro⟨hl_xr,hA_xr⟩
  exact bc trivial rfl rfl [] rfl [0] rfl ⟨_,_,_,rfl,rfl,rfl,hp⟩
 ·refine aC<|ab<|ae<|ai<|aw rfl<|hy (fun _=>aF rfl pR (by decide))<|hy (fun m=>yV (ao rfl mG (aA (m.aU 0 rfl) (i:=1) rfl)) ((rfl:_=SV p)))<| ?_
  refine hx (aq rfl Tryz.call113 (xt (by omega) (by omega)) [] rfl [0] rfl ?_)
  rintro _ _ _ ⟨rfl,rfl,rfl⟩
  refine aG rfl<|ag<|aB [5,8,4,3,0,1] rfl<|aj (X' :=[_]) (S' :=[_]) (fun _ m=>m)<|ab<|ae<|ae<|ai<|aw rfl<|hy (fun _=>bw rfl rfl)<|ag<|aB [21,5,8,4,3,0,1] rfl<|ab<| ?_
  refine cB rfl (fun h1=> ?_) (fun h1=> ?_)
  ·have hM:eo l k p t bb=l:=by rw[eo,if_neg h0,iz.1 h1]
   refine ae<|ai<|aw rfl<|aG rfl<|ag<|aB [4,21,5,8,3,0,1] rfl<|ab<|aV<|ay<| ?_
   rw[hM]
   exact bc trivial rfl rfl [] rfl [0] rfl ⟨_,_,_,rfl,rfl,rfl,⟨hl.symm,by omega⟩⟩
  ·obtain⟨x0,cI⟩:∃x0,l[cV l p]? =some x0:=by
    cases hq:l[cV l p]? with
    |none=>exact absurd (iz.2 hq) h1
    |some x0=>exact⟨x0,rfl⟩
   have hfl:cV l p<l.length:=(List.getElem?_eq_some_iff.1 cI).1
   obtain⟨f0,f1⟩:=jy l _ x0 cI
   have hfi:lf l p=(cV l p:Nat):=by rw[lf,if_pos hfl]
   have hwl:(eg l p).length≤l.length:=List.length_filter_le ..
   refine aC<|ab<|ae<|ae<|ai<|hy (fun _=>aF rfl yz (by decide))<|hy (fun m=>ao rfl dD (aA (m.aU 0 rfl) (i:=0) rfl))<|hy (fun _=>cx rfl rfl)<|ag<|aB [25,21,5,8,4,3,0,1] rfl<|ab<| ?_
   refine cB rfl (fun h2=> ?_) (fun h2=> ?_)
   ·have hM:eo l k p t bb=eg l p:=by rw[eo,if_neg h0,cI];simp only[if_pos h2]
    refine ae<|ai<|aw rfl<|hy (fun _=>aF rfl pR (by decide))<|hy (fun m=>yV (ao rfl mG (aA (m.aU 0 rfl) (i:=1) rfl)) ((rfl:_=SV p)))<| ?_
    refine hx (aq rfl Tryz.call221 (rR (by omega) (by omega)) [] rfl [0] rfl ?_)
    rintro _ _ _ ⟨v,k2,rfl,rfl,rfl,hp⟩
    refine az (fun m=>(m.own 0 rfl).slice) ?_
    rintro⟨A_x,c_x,rfl,hc_x⟩
    refine az (fun m=>(m.ord 0 rfl).2.1) fun hA_x=> ?_
    refine aG rfl<|ag<|aB [4,25,21,5,8,3,0,1] rfl<|aj (X' :=[_,_]) (S' :=[_]) (fun _ m=>m)<|ab<|aV<|ay<| ?_
    refine aj (fun w m=>m.bz 0 rfl (show _=aK 156 2 (.slice A_x k2 c_x) k2 (fc (eo l k p t bb))from by rw[hM];rfl)) ?_
    refine aj (fun w m=>(m.perm (ar [0] _ [_] _ rfl)).freeze) ?_
    refine aj (fun w m=>m.fA 0 rfl .own) ?_
    refine w9 (fun m=>fH (m.rd 0 rfl)) ?_
    rintro⟨hl_xr,hA_xr⟩
    exact bc trivial rfl rfl [] rfl [0] rfl ⟨_,_,_,rfl,rfl,rfl,⟨hp.trans (congrArg List.length hM.symm),by rw[hp];show(eg l p).length≤_;omega⟩⟩
   ·have hM:eo l k p t bb=hC (eg l p) (t,x0.2):=by rw[eo,if_neg h0,cI];simp only[if_neg h2]
    refine aC<|ab<|ae<|cD [3,12] [(0,some 0),(1,some 0),(2,some 0),(4,some 1),(5,some 1),(6,some 2),(7,some 2),(8,some 1),(9,some 1),(10,some 1),(11,some 1),(3,none),(12,none),(13,some 2)] (by kernel_rfl) (by kernel_rfl) rfl 99<|ak (ah rfl)<|ak (aF rfl pR (by decide))<|bZ (fun m=>yV (ao rfl mG (aA (m.aU 0 rfl) (i:=1) rfl)) ((rfl:_=SV p)))<|ak (aF rfl E7 (by decide))<|bZ (fun m=>yV (ao rfl mG (aA (m.aU 0 rfl) (i:=2) rfl)) ((rfl:_=SV t)))<|ak (ah rfl)<|ak (ah rfl)<|ak (cC rfl rfl Tryz.underlying36 fh hA_r hfi.symm (by omega))<|ak (aF rfl pO (by decide))<|bZ (fun m=>yV (ao rfl mG (fC (m.rd 0 rfl) f1)) ((rfl:_=SV x0.2)))<|ak (yV (bU jg rfl rfl (by kernel_rfl) (.cons (o:=0) (sz:=1) (by kernel_rfl) rfl rfl (Nat.le_of_ble_eq_true rfl) (.cons (o:=1) (sz:=1) (by kernel_rfl) rfl rfl (Nat.le_of_ble_eq_true rfl) .nil))) ((rfl:_=Value.agg [SV t,SV x0.2].toArray)))<| ?_
    refine dF (aq rfl Tryz.call221 (rR (by omega) (by omega)) [] rfl [0] rfl ?_)
    rintro _ _ _ ⟨v,k2,rfl,rfl,rfl,hp⟩
    refine⟨(fun _=>wk [1] [0] rfl rfl), ?_⟩
    refine cd (fun m=>(m.own 0 rfl).slice) ?_
    rintro⟨A_x,c_x,rfl,hc_x⟩
    refine cd (fun m=>(m.ord 0 rfl).2.1) fun hA_x=> ?_
    have hk2:k2=(eg l p).length:=hp
    clear hp
    refine dF (c6 rfl Tryz.call220 (Cm (by omega) (by omega) (l:=(eg l p)) (f:=(t,x0.2))) [] rfl (.x 0 rfl .own .nil) ?_)
    rintro _ _ _ ⟨v2,k3,rfl,rfl,rfl,hp2⟩
    refine⟨rfl, ?_⟩
    refine⟨(fun _=>wk [2] [0] rfl rfl), ?_⟩
    refine cd (fun m=>(m.own 0 rfl).slice) ?_
    rintro⟨A_x2,c_x2,rfl,hc_x2⟩
    refine cd (fun m=>(m.ord 0 rfl).2.1) fun hA_x2=> ?_
    refine ak (al rfl)<|bq<|aB [4,25,21,5,8,3,0,1] rfl<|aj (X' :=[_,_,_]) (S' :=[_]) (fun _ m=>m)<|ab<|aV<| ?_
    rw[hM]
    refine aj (fun w m=>(m.perm (ar [0] _ [_] _ rfl)).freeze) ?_
    refine aj (fun w m=>m.fA 0 rfl .own) ?_
    refine w9 (fun m=>fH (m.rd 0 rfl)) ?_
    rintro⟨hl_x2r,hA_x2r⟩
    exact bc trivial rfl rfl [] rfl [0] rfl ⟨_,_,_,rfl,rfl,rfl,⟨hp2.1,by omega⟩⟩
abbrev RC:=Int×List UInt8×List UInt8×List UInt8
def v7(l:List RC):List Value:=l.flatMap fun x=>cv x.1 x.2.1 x.2.2.1 x.2.2.2
theorem xl(a b:List RC):v7 (a++b)=v7 a++v7 b:=by simp[v7]
theorem xS{l:List RC}:∀u∈v7 l,u.oneCell' =true:=by
 intro u hu
 obtain⟨x,_,h⟩:=List.mem_flatMap.1 hu
 simp only[cv,List.mem_cons,List.not_mem_nil,or_false]at h
 rcases h with rfl|rfl|rfl|rfl <;> rfl
theorem jC{room pw:Int}{A A2 A3:Option Addr}{n c n2 c2 n3 c3:Nat}:∀u∈dv room (.slice A n c) (.slice A2 n2 c2) (.slice A3 n3 c3) pw,u.oneCell' =true:=by
 intro u hu
 simp only[dv,List.mem_cons,List.not_mem_nil,or_false]at hu
 rcases hu with rfl|rfl|rfl|rfl|rfl <;> rfl
def eZ(pw:Int):Int:=if 0<pw then pw-1 else pw
theorem G3{room pw:Int}{A Al A3:Option Addr}{n c nl cl n3 c3:Nat}{l:List FP}{wl:List RC}{k:Int}{p t bb:List UInt8}(hl:l.length=n)(hn:n≤900000)(hw:wl.length=n3)(hn3:n3≤900000)(hp1:-10≤pw)(hp2:pw≤1000000000000):b7 Tryz.prog 114 [.agg (dv room (.slice A n c) (.slice Al nl cl) (.slice A3 n3 c3) pw).toArray,.agg (cv k p t bb).toArray] [] [cL 2 A n (fc l),cL 4 A3 n3 (v7 wl)] (fun v_ X_ S_=>∃A1 n1 c1 A2 n2 c2,v_=(.agg (dv room (.slice A1 n1 c1) (.slice Al nl cl) (.slice A2 n2 c2) (eZ pw)).toArray)∧X_=[]∧S_=[cL 2 A1 n1 (fc (eo l k p t bb)),cL 4 A2 n2 (v7 (wl++[(k,p,t,bb)]))]∧(n1=(eo l k p t bb).length∧n1≤n+1∧n2=n3+1)):=by
 refine aM (N:=28) Tryz.func114 rfl rfl (by simp) fun b=> ?_
 refine a6 (fun m=>fH (m.rd 0 rfl)) ?_
 rintro⟨hl_r,hA_r⟩
 refine a6 (fun m=>fH (m.rd 1 rfl)) ?_
 rintro⟨hl_w,hA_w⟩
 refine ae<|ai<| ?_
 refine hx (bu rfl (fun g2=> ?_))
 refine aJ (fun w m=>m.bz 0 rfl (show _=aH g2 39 (dv room (.slice A n c) (.slice Al nl cl) (.slice A3 n3 c3) pw)from congrArg (aH _ _) (aT _))) ?_
 refine hx (bu rfl (fun g3=> ?_))
 refine aJ (fun w m=>m.bz 0 rfl (show _=aH g3 186 (cv k p t bb)from congrArg (aH _ _) (aT _))) ?_
 refine hx (bf ou (fun g4=> ?_))
 refine ag<|aj (X' :=[_,_,_]) (S' :=[_,_]) (fun _ m=>m)<|ab<|ae<|ai<|hy (fun _=>aF rfl iR (by decide))<|hy (fun m=>ao rfl rJ (aA (m.aU 2 rfl) (i:=1) rfl))<|hy (fun m=>yV (aQ rfl Fe FH rfl ((m.aU 1 rfl).au)) ((rfl:_=Value.agg (cv k p t bb).toArray)))<| ?_
 refine hx (aq rfl Tryz.call162 (FX (by omega) (by omega)) [] rfl [0] rfl ?_)
 rintro _ _ _ ⟨A1,n1,c1,rfl,rfl,rfl,hp⟩
 refine az (fun m=>fH (m.rd 0 rfl)) ?_
 rintro⟨hl_q,hA_q⟩
 refine hy (fun _=>aF rfl iR (by decide))<| ?_
 refine cI (b9 2 rfl rfl rfl IS rfl (by first|exact Nat.le_of_ble_eq_true rfl|simp) ?_)
 refine ag<|aB [4,3,2,0,1] rfl<|aj (X' :=[_,_,_]) (S' :=[_,_,_]) (fun _ m=>m)<|ab<|ae<|ai<|aG rfl<|ag<|ab<|ae<|ai<|aw rfl<|hy (fun _=>aF rfl s3 (by decide))<|hy (fun m=>ao rfl Ib (aA (m.aU 0 rfl) rfl))<| ?_
 refine aJ (fun w m=>m.cQ (r' :=aK 186 4 (.slice none 0 0) 0 []) (.refl _ _) (Own.nil _ _ _ _) (fun k hk=>hk.elim)) ?_
 refine hx (bs 0 rfl rfl rfl Tryz.underlying37 Tryz.underlying37 (by exact .inl rfl) sK rfl (fun m=>Src.bJ (m.rd 2 rfl)) xS (by unfold maxLen;omega) (by omega) (fun u=> ?_))
 refine az (fun m=>(m.own 0 rfl).slice) ?_
 rintro⟨A_o,c_o,rfl,hc_o⟩
 refine az (fun m=>(m.ord 0 rfl).2.1) fun hA_o=> ?_
 rw[Nat.zero_add]
 refine aJ (fun w m=>m.bz 0 rfl (show _=aK 186 4 (.slice A_o n3 c_o) n3 (v7 wl)from rfl)) ?_
 refine aG rfl<|ag<|aB [5,4,3,2,0,1] rfl<|aj (X' :=[_,_,_,_]) (S' :=[_,_,_]) (fun _ m=>m)<|ab<|ae<|ai<|aw rfl<|hy (fun m=>yV (aQ rfl Fe FH rfl ((m.aU 3 rfl).au)) ((rfl:_=Value.agg (cv k p t bb).toArray)))<| ?_
 refine hx (bQ Tryz.underlying37 sK rfl rfl rfl (by simp[Value.cells,cv]) (by decide) (by decide) (fun g17=> ?_))
 have hA_b17:0<1→(some (⟨g17,0,none⟩:Addr))≠none:=fun _ h=>by cases h
 refine aJ (fun w m=>m.bz 0 rfl (show _=aK 186 4 (.slice (some ⟨g17,0,none⟩) 1 1) 1 (v7 [(k,p,t,bb)])from rfl)) ?_
 refine hx (bs 1 rfl rfl rfl Tryz.underlying37 Tryz.underlying37 (by exact .inl rfl) sK rfl (fun m=>Src.bJ (m.ord 0 rfl)) xS (by unfold maxLen;omega) (by omega) (fun u2=> ?_))
 refine az (fun m=>(m.own 0 rfl).slice) ?_
 rintro⟨A_o2,c_o2,rfl,hc_o⟩
 refine az (fun m=>(m.ord 0 rfl).2.1) fun hA_o=> ?_
 refine aJ (fun w m=>m.bz 0 rfl (show _=aK 186 4 (.slice A_o2 (n3+1) c_o2) (n3+1) (v7 (wl++[(k,p,t,bb)]))from congrArg (aK _ _ _ _) (xl ..).symm)) ?_
 refine hy (fun _=>aF rfl s3 (by decide))<| ?_
 refine cI (b9 2 rfl rfl rfl Jo rfl (by first|exact Nat.le_of_ble_eq_true rfl|simp) ?_)
 refine aJ (fun w m=>m.bz 0 rfl (show _=aH g2 39 (dv room (.slice A1 n1 c1) (.slice Al nl cl) (.slice A_o2 (n3+1) c_o2) pw)from rfl)) ?_
 refine ag<|aB [5,4,3,2,0,1] rfl<|aj (X' :=[_,_,_,_,_]) (S' :=[_,_,_]) (fun _ m=>m)<|ab<|ae<|ae<|ai<|hy (fun _=>aF rfl jv (by decide))<|hy (fun m=>ao rfl dD (aA (m.aU 0 rfl) (i:=4) rfl))<|hy (fun _=>cW rfl rfl)<|ag<|aB [22,5,4,3,2,0,1] rfl<|ab<| ?_
 refine bk (fun w m=>(m.perm (ar [1] _ [_] _ rfl)).freeze) ?_
 refine bk (fun w m=>m.fA 0 rfl .own) ?_
 refine cB rfl (fun h=> ?_) (fun h=> ?_)
 ·refine ai<|hy (fun _=>aF rfl jv (by decide))<|hy (fun m=>ao rfl dD (aA (m.aU 0 rfl) (i:=4) rfl))<|hy (fun _=>cn rfl rfl (bA (by omega) (by omega)))<|hy (fun _=>aF rfl jv (by decide))<| ?_
  refine cI (b9 0 rfl rfl rfl ue rfl (by first|exact Nat.le_of_ble_eq_true rfl|simp) ?_)
  refine aJ (fun w m=>m.bz 0 rfl (show _=aH g2 39 (dv room (.slice A1 n1 c1) (.slice Al nl cl) (.slice A_o2 (n3+1) c_o2) (eZ pw))from by rw[eZ,if_pos h];rfl)) ?_
  refine ag<|aB [22,5,4,3,2,0,1] rfl<|aj (X' :=[_,_,_,_]) (S' :=[_,_,_,_,_]) (fun _ m=>m)<|ab<|ae<|ai<|hy (fun m=>aQ rfl cF bP rfl ((m.aU 0 rfl).au))<| ?_
  refine cI (ba 2 rfl rfl rfl bP rfl jC rfl ?_)
  refine ag<|aB [22,5,4,3,2,0,1] rfl<|aj (X' :=[_,_,_,_]) (S' :=[_,_,_,_,_]) (fun _ m=>m)<|ab<|aV<| ?_
  exact eO trivial rfl rfl cF bP rfl (fun m=>(m.aU 0 rfl).au) [] rfl [2,0] rfl ⟨_,_,_,_,_,_,rfl,rfl,rfl,⟨hp.1,hp.2,rfl⟩⟩
 ·refine bk (fun w m=>m.bz 0 rfl (show _=aH g2 39 (dv room (.slice A1 n1 c1) (.slice Al nl cl) (.slice A_o2 (n3+1) c_o2) (eZ pw))from by rw[eZ,if_neg h])) ?_
  refine aC<|ab<|ae<|ai<|hy (fun m=>aQ rfl cF bP rfl ((m.aU 0 rfl).au))<| ?_
  refine cI (ba 2 rfl rfl rfl bP rfl jC rfl ?_)
  refine ag<|aB [22,5,4,3,2,0,1] rfl<|aj (X' :=[_,_,_,_]) (S' :=[_,_,_,_,_]) (fun _ m=>m)<|ab<|aV<| ?_
  exact eO trivial rfl rfl cF bP rfl (fun m=>(m.aU 0 rfl).au) [] rfl [2,0] rfl ⟨_,_,_,_,_,_,rfl,rfl,rfl,⟨hp.1,hp.2,rfl⟩⟩
end Go.Proofs.YtmibdabdlgmafaaGreatDoor
end
section
set_option maxRecDepth 20000
namespace Go.Proofs.YtmibdabdlgmafaaGreatDoor
open Go.Eng Go.Hx
structure RD where
 room:Int
 seen:List FP
 dm:List FP
 waits:List RC
 pw:Int
def RD.sz(d:RD)(p:List UInt8):Nat:=((d.seen[cV d.seen p]?).map (·.2.length)).getD 0
def RD.bX(d:RD)(p bb:List UInt8):Int:=if¬gv p then 1 else if d.pw=0 then 6 else if d.room<(dN d.seen:Int)+(bb.length:Nat)-(d.sz p:Nat)then 5 else 0
def RD.kG(d:RD)(k:Int)(p t bb:List UInt8):RD:={d with seen:=eo d.seen k p t bb,waits:=d.waits++[(k,p,t,bb)],pw:=eZ d.pw}
def RD.write(d:RD)(p bb:List UInt8):RD:=if d.bX p bb=0 then d.kG 0 p [] bb else d
structure zY(d:RD)(k:Nat):Prop where
 seen:d.seen.length≤k
 waits:d.waits.length≤k
 mP:dN d.seen≤k*1048576
 p1:-10≤d.pw
 p2:d.pw≤1000000000000
theorem H2(d:RD)(p:List UInt8):d.sz p≤dN d.seen:=by
 unfold RD.sz
 cases h:d.seen[cV d.seen p]? with
 |none=>simp
 |some x=>
  have h1:=sk h
  have h2:=xI d.seen (cV d.seen p+1)
  simp only[Option.map_some,Option.getD_some]
  omega
def rv(d:RD)(A:Option Addr)(n c:Nat)(Al:Option Addr)(nl cl:Nat)(A3:Option Addr)(n3 c3:Nat):List Value:=dv d.room (.slice A n c) (.slice Al nl cl) (.slice A3 n3 c3) d.pw
theorem IZ{room:Int}:b7 Tryz.prog 25 [.int .i64 room] [] [] (fun v_ X_ S_=>v_=(.agg (dv room (.slice none 0 0) (.slice none 0 0) (.slice none 0 0) (-1)).toArray)∧X_=[]∧S_=[]):=by
 refine aM (N:=5) Tryz.func25 rfl rfl (by simp) fun b=> ?_
 refine ae<|ai<| ?_
 refine hx (bf ou (fun g2=> ?_))
 refine ag<|aj (X' :=[_]) (S' :=[]) (fun _ m=>m)<|ab<|ae<|ai<|aw rfl<|hy (fun _=>yV (bU ou rfl rfl (by kernel_rfl) (.cons (o:=0) (sz:=1) (by kernel_rfl) rfl rfl (Nat.le_of_ble_eq_true rfl) (.cons (o:=4) (sz:=1) (by kernel_rfl) rfl rfl (Nat.le_of_ble_eq_true rfl) .nil))) ((rfl:_=Value.agg (dv room (.slice none 0 0) (.slice none 0 0) (.slice none 0 0) (-1)).toArray)))<| ?_
 refine cI (ba 0 rfl rfl rfl bP rfl jC rfl ?_)
 refine ag<|aB [2,0] rfl<|aj (X' :=[_]) (S' :=[]) (fun _ m=>m)<|ab<|aV<| ?_
 exact eO trivial rfl rfl cF bP rfl (fun m=>(m.aU 0 rfl).au) [] rfl [] rfl ⟨rfl,rfl,rfl⟩
theorem Dm{d:RD}{kk:Nat}{A Al A3:Option Addr}{n c nl cl n3 c3:Nat}{p bb:List UInt8}(hl:d.seen.length=n)(hw:d.waits.length=n3)(ok:zY d kk)(hkk:kk≤100000)(hpl:p.length≤1000000)(hbb:bb.length≤1000000):b7 Tryz.prog 31 [.agg (rv d A n c Al nl cl A3 n3 c3).toArray,.string (strOf p),.string (strOf bb)] [] [cL 2 A n (fc d.seen),cL 4 A3 n3 (v7 d.waits)] (fun v_ X_ S_=>∃A1 n1 c1 A2 n2 c2,v_=(.tuple #[.agg (rv (d.write p bb) A1 n1 c1 Al nl cl A2 n2 c2).toArray,.int .i64 (d.bX p bb)])∧X_=[]∧S_=[cL 2 A1 n1 (fc (d.write p bb).seen),cL 4 A2 n2 (v7 (d.write p bb).waits)]∧((d.write p bb).seen.length=n1∧(d.write p bb).waits.length=n2)):=by
 have hk1:=ok.seen
 have hk2:=ok.waits
 have hk3:=ok.mP
 have hk4:=ok.p1
 have hk5:=ok.p2
 have hsz:=H2 d p
 refine aM (N:=50) Tryz.func31 rfl rfl (by simp) fun b=> ?_
 refine a6 (fun m=>fH (m.rd 0 rfl)) ?_
 rintro⟨hl_r,hA_r⟩
 refine a6 (fun m=>fH (m.rd 1 rfl)) ?_
 rintro⟨hl_w,hA_w⟩
 refine ae<|ai<| ?_
 refine hx (bu rfl (fun g3=> ?_))
 refine aJ (fun w m=>m.bz 0 rfl (show _=aH g3 39 (rv d A n c Al nl cl A3 n3 c3)from congrArg (aH _ _) (aT _))) ?_
 refine hx (bf ou (fun g6=> ?_))
 refine aG rfl<|ag<|aj (X' :=[_,_]) (S' :=[_,_]) (fun _ m=>m)<|ab<|ae<|ai<|aw rfl<| ?_
 refine hx (aq rfl Tryz.call112 (xQ (by omega)) [] rfl [] rfl ?_)
 rintro _ _ _ ⟨rfl,rfl,rfl⟩
 refine aG rfl<|ag<|aB [8,7,6,3,0,1,2] rfl<|aj (X' :=[_,_]) (S' :=[_,_]) (fun _ m=>m)<|ab<|ae<|ae<|ai<|aw rfl<|hy (fun _=>fl rfl)<|ag<|aB [14,8,7,6,3,0,1,2] rfl<|ab<| ?_
 refine cB rfl (fun hN=> ?_) (fun hN=> ?_)
 ·have hE:d.bX p bb=1:=by rw[RD.bX,if_pos hN]
  have hW:d.write p bb=d:=by rw[RD.write,if_neg (by rw[hE];decide)]
  rw[hE,hW]
  refine ae<|ai<|hy (fun m=>yV (aQ rfl cF bP rfl ((m.aU 1 rfl).au)) ((rfl:_=Value.agg (rv d A n c Al nl cl A3 n3 c3).toArray)))<| ?_
  refine cI (ba 0 rfl rfl rfl bP rfl jC rfl ?_)
  refine aG rfl<|ag<|aB [7,14,8,6,3,0,1,2] rfl<|aj (X' :=[_,_]) (S' :=[_,_]) (fun _ m=>m)<|ab<|aV<|ay<| ?_
  exact eK trivial rfl rfl rfl cF bP rfl (fun m=>(m.aU 0 rfl).au) [] rfl [0,1] rfl ⟨_,_,_,_,_,_,rfl,rfl,rfl,⟨hl,hw⟩⟩
 ·refine aC<|ab<|ae<|ae<|ai<|hy (fun _=>aF rfl jv (by decide))<|hy (fun m=>ao rfl dD (aA (m.aU 1 rfl) (i:=4) rfl))<|hy (fun _=>cx rfl rfl)<|ag<|aB [18,14,8,7,6,3,0,1,2] rfl<|ab<| ?_
  refine cB rfl (fun h0=> ?_) (fun h0=> ?_)
  ·have hE:d.bX p bb=6:=by rw[RD.bX,if_neg hN,if_pos h0]
   have hW:d.write p bb=d:=by rw[RD.write,if_neg (by rw[hE];decide)]
   rw[hE,hW]
   refine ae<|ai<|hy (fun m=>yV (aQ rfl cF bP rfl ((m.aU 1 rfl).au)) ((rfl:_=Value.agg (rv d A n c Al nl cl A3 n3 c3).toArray)))<| ?_
   refine cI (ba 0 rfl rfl rfl bP rfl jC rfl ?_)
   refine aG rfl<|ag<|aB [7,18,14,8,6,3,0,1,2] rfl<|aj (X' :=[_,_]) (S' :=[_,_]) (fun _ m=>m)<|ab<|aV<|ay<| ?_
   exact eK trivial rfl rfl rfl cF bP rfl (fun m=>(m.aU 0 rfl).au) [] rfl [0,1] rfl ⟨_,_,_,_,_,_,rfl,rfl,rfl,⟨hl,hw⟩⟩
  ·have hsb:=cY bb
   refine aC<|ab<|ae<|ai<|hy (fun m=>yV (aQ rfl cF bP rfl ((m.aU 1 rfl).au)) ((rfl:_=Value.agg (rv d A n c Al nl cl A3 n3 c3).toArray)))<| ?_
   refine hx (aq rfl Tryz.call89 (Hq (by omega) (by omega) (by omega)) [] rfl [0] rfl ?_)
   rintro _ _ _ ⟨rfl,rfl,rfl⟩
   refine aw rfl<|hy (fun _=>cU rfl Tryz.underlying9)<|hy (fun _=>aP rfl rfl (bA (by omega) (by omega)))<|aG rfl<|ag<|aB [9,18,14,8,7,6,3,0,1,2] rfl<|aj (X' :=[_,_]) (S' :=[_,_]) (fun _ m=>m)<|ab<|ae<|ai<|hy (fun _=>aF rfl iR (by decide))<|hy (fun m=>ao rfl rJ (aA (m.aU 1 rfl) (i:=1) rfl))<|aw rfl<| ?_
   refine hx (aq rfl Tryz.call113 (xt (by omega) (by omega)) [] rfl [0] rfl ?_)
   rintro _ _ _ ⟨rfl,rfl,rfl⟩
   refine aG rfl<|ag<|aB [10,9,18,14,8,7,6,3,0,1,2] rfl<|aj (X' :=[_,_]) (S' :=[_,_]) (fun _ m=>m)<|ab<|ae<|ae<|ai<|aw rfl<|hy (fun _=>dL rfl rfl)<|ag<|aB [30,10,9,18,14,8,7,6,3,0,1,2] rfl<|ab<| ?_
   refine cB rfl (fun hf=> ?_) (fun hf=> ?_)
   ·obtain⟨x0,hfx⟩:∃x0,d.seen[cV d.seen p]? =some x0:=by
     cases hq:d.seen[cV d.seen p]? with
     |none=>exact absurd (iz.2 hq) (by omega)
     |some x0=>exact⟨x0,rfl⟩
    have hfl:cV d.seen p<d.seen.length:=(List.getElem?_eq_some_iff.1 hfx).1
    obtain⟨f0,f1⟩:=jy d.seen _ x0 hfx
    have hfi:lf d.seen p=(cV d.seen p:Nat):=by rw[lf,if_pos hfl]
    have hsx:=cY x0.2
    have hs0:d.sz p=x0.2.length:=by unfold RD.sz;rw[hfx];rfl
    refine ai<|aw rfl<|hy (fun _=>aF rfl iR (by decide))<|hy (fun m=>ao rfl rJ (aA (m.aU 1 rfl) (i:=1) rfl))<|aw rfl<|hy (fun _=>cC rfl rfl Tryz.underlying36 fh hA_r hfi.symm (by omega))<|hy (fun _=>aF rfl pO (by decide))<|hy (fun m=>yV (ao rfl mG (fC (m.rd 0 rfl) f1)) ((rfl:_=Value.string (strOf x0.2))))<|hy (fun _=>cU rfl Tryz.underlying9)<|hy (fun _=>cn rfl rfl (bA (by omega) (by omega)))<|aG rfl<|ag<|aB [9,30,10,18,14,8,7,6,3,0,1,2] rfl<|ab<|ae<|ae<|ai<|aw rfl<|hy (fun _=>aF rfl BY (by decide))<|hy (fun m=>ao rfl dD (aA (m.aU 1 rfl) (i:=0) rfl))<|hy (fun _=>cW rfl rfl)<|ag<|aB [43,9,30,10,18,14,8,7,6,3,0,1,2] rfl<|ab<| ?_
    refine cB rfl (fun hR=> ?_) (fun hR=> ?_)
    ·have hE:d.bX p bb=5:=by rw[RD.bX,if_neg hN,if_neg h0,if_pos (by omega)]
     have hW:d.write p bb=d:=by rw[RD.write,if_neg (by rw[hE];decide)]
     rw[hE,hW]
     refine ae<|ai<|hy (fun m=>yV (aQ rfl cF bP rfl ((m.aU 1 rfl).au)) ((rfl:_=Value.agg (rv d A n c Al nl cl A3 n3 c3).toArray)))<| ?_
     refine cI (ba 0 rfl rfl rfl bP rfl jC rfl ?_)
     refine aG rfl<|ag<|aB [7,43,9,30,10,18,14,8,6,3,0,1,2] rfl<|aj (X' :=[_,_]) (S' :=[_,_]) (fun _ m=>m)<|ab<|aV<|ay<| ?_
     exact eK trivial rfl rfl rfl cF bP rfl (fun m=>(m.aU 0 rfl).au) [] rfl [0,1] rfl ⟨_,_,_,_,_,_,rfl,rfl,rfl,⟨hl,hw⟩⟩
    ·have hE:d.bX p bb=0:=by rw[RD.bX,if_neg hN,if_neg h0,if_neg (by omega)]
     have hW:d.write p bb=d.kG 0 p [] bb:=by rw[RD.write,if_pos hE]
     rw[hE,hW]
     refine aC<|ab<|ae<|ai<|hy (fun m=>yV (aQ rfl cF bP rfl ((m.aU 1 rfl).au)) ((rfl:_=Value.agg (dv d.room (.slice A n c) (.slice Al nl cl) (.slice A3 n3 c3) d.pw).toArray)))<|aw rfl<|aw rfl<|hy (fun _=>yV (bU sK rfl rfl (by kernel_rfl) (.cons (o:=1) (sz:=1) (by kernel_rfl) rfl rfl (Nat.le_of_ble_eq_true rfl) (.cons (o:=3) (sz:=1) (by kernel_rfl) rfl rfl (Nat.le_of_ble_eq_true rfl) .nil))) ((rfl:_=Value.agg (cv 0 p [] bb).toArray)))<| ?_
     refine hx (aq rfl Tryz.call114 (G3 (by omega) (by omega) (by omega) (by omega) (by omega) (by omega)) [] rfl [0,1] rfl ?_)
     rintro _ _ _ ⟨A1,n1,c1,A2,n2,c2,rfl,rfl,rfl,hp⟩
     refine az (fun m=>fH (m.rd 0 rfl)) ?_
     rintro⟨hl_q,hA_q⟩
     refine az (fun m=>fH (m.rd 1 rfl)) ?_
     rintro⟨hl_u,hA_u⟩
     refine cI (ba 0 rfl rfl rfl bP rfl jC rfl ?_)
     refine aG rfl<|ag<|aB [7,43,9,30,10,18,14,8,6,3,0,1,2] rfl<|aj (X' :=[_,_]) (S' :=[_,_,_,_]) (fun _ m=>m)<|ab<|aV<| ?_
     exact eK trivial rfl rfl rfl cF bP rfl (fun m=>(m.aU 0 rfl).au) [] rfl [0,1] rfl ⟨_,_,_,_,_,_,rfl,rfl,rfl,⟨hp.1.symm,by rw[hp.2.2,←hw];exact List.length_append⟩⟩
   ·have hs0:d.sz p=0:=by
     unfold RD.sz
     rw[iz.1 (by omega)];rfl
    refine aC<|ab<|ae<|ae<|ai<|aw rfl<|hy (fun _=>aF rfl BY (by decide))<|hy (fun m=>ao rfl dD (aA (m.aU 1 rfl) (i:=0) rfl))<|hy (fun _=>cW rfl rfl)<|ag<|aB [43,30,10,9,18,14,8,7,6,3,0,1,2] rfl<|ab<| ?_
    refine cB rfl (fun hR=> ?_) (fun hR=> ?_)
    ·have hE:d.bX p bb=5:=by rw[RD.bX,if_neg hN,if_neg h0,if_pos (by omega)]
     have hW:d.write p bb=d:=by rw[RD.write,if_neg (by rw[hE];decide)]
     rw[hE,hW]
     refine ae<|ai<|hy (fun m=>yV (aQ rfl cF bP rfl ((m.aU 1 rfl).au)) ((rfl:_=Value.agg (rv d A n c Al nl cl A3 n3 c3).toArray)))<| ?_
     refine cI (ba 0 rfl rfl rfl bP rfl jC rfl ?_)
     refine aG rfl<|ag<|aB [7,43,30,10,9,18,14,8,6,3,0,1,2] rfl<|aj (X' :=[_,_]) (S' :=[_,_]) (fun _ m=>m)<|ab<|aV<|ay<| ?_
     exact eK trivial rfl rfl rfl cF bP rfl (fun m=>(m.aU 0 rfl).au) [] rfl [0,1] rfl ⟨_,_,_,_,_,_,rfl,rfl,rfl,⟨hl,hw⟩⟩
    ·have hE:d.bX p bb=0:=by rw[RD.bX,if_neg hN,if_neg h0,if_neg (by omega)]
     have hW:d.write p bb=d.kG 0 p [] bb:=by rw[RD.write,if_pos hE]
     rw[hE,hW]
     refine aC<|ab<|ae<|ai<|hy (fun m=>yV (aQ rfl cF bP rfl ((m.aU 1 rfl).au)) ((rfl:_=Value.agg (dv d.room (.slice A n c) (.slice Al nl cl) (.slice A3 n3 c3) d.pw).toArray)))<|aw rfl<|aw rfl<|hy (fun _=>yV (bU sK rfl rfl (by kernel_rfl) (.cons (o:=1) (sz:=1) (by kernel_rfl) rfl rfl (Nat.le_of_ble_eq_true rfl) (.cons (o:=3) (sz:=1) (by kernel_rfl) rfl rfl (Nat.le_of_ble_eq_true rfl) .nil))) ((rfl:_=Value.agg (cv 0 p [] bb).toArray)))<| ?_
     refine hx (aq rfl Tryz.call114 (G3 (by omega) (by omega) (by omega) (by omega) (by omega) (by omega)) [] rfl [0,1] rfl ?_)
     rintro _ _ _ ⟨A1,n1,c1,A2,n2,c2,rfl,rfl,rfl,hp⟩
     refine az (fun m=>fH (m.rd 0 rfl)) ?_
     rintro⟨hl_q,hA_q⟩
     refine az (fun m=>fH (m.rd 1 rfl)) ?_
     rintro⟨hl_u,hA_u⟩
     refine cI (ba 0 rfl rfl rfl bP rfl jC rfl ?_)
     refine aG rfl<|ag<|aB [7,43,30,10,9,18,14,8,6,3,0,1,2] rfl<|aj (X' :=[_,_]) (S' :=[_,_,_,_]) (fun _ m=>m)<|ab<|aV<| ?_
     exact eK trivial rfl rfl rfl cF bP rfl (fun m=>(m.aU 0 rfl).au) [] rfl [0,1] rfl ⟨_,_,_,_,_,_,rfl,rfl,rfl,⟨hp.1.symm,by rw[hp.2.2,←hw];exact List.length_append⟩⟩
def RD.dO(d:RD)(p:List UInt8):Int:=if d.pw=0 then 6 else if d.seen[cV d.seen p]? =none then 4 else 0
def RD.cS(d:RD)(p:List UInt8):List UInt8:=if d.pw=0 then []else((d.seen[cV d.seen p]?).map (·.2)).getD []
theorem G4{d:RD}{kk:Nat}{A Al A3:Option Addr}{n c nl cl n3 c3:Nat}{p:List UInt8}(hl:d.seen.length=n)(ok:zY d kk)(hkk:kk≤100000):b7 Tryz.prog 91 [.agg (rv d A n c Al nl cl A3 n3 c3).toArray,.string (strOf p)] [] [cL 2 A n (fc d.seen)] (fun v_ X_ S_=>v_=(.tuple #[.string (strOf (d.cS p)),.int .i64 (d.dO p)])∧X_=[]∧S_=[]):=by
 have hk1:=ok.seen
 refine aM (N:=22) Tryz.func91 rfl rfl (by simp) fun b=> ?_
 refine a6 (fun m=>fH (m.rd 0 rfl)) ?_
 rintro⟨hl_r,hA_r⟩
 refine ae<|ai<| ?_
 refine hx (bu rfl (fun g2=> ?_))
 refine aJ (fun w m=>m.bz 0 rfl (show _=aH g2 39 (rv d A n c Al nl cl A3 n3 c3)from congrArg (aH _ _) (aT _))) ?_
 refine aG rfl<|aG rfl<|ag<|aj (X' :=[_]) (S' :=[_]) (fun _ m=>m)<|ab<|ae<|ai<|hy (fun _=>aF rfl iR (by decide))<|hy (fun m=>ao rfl rJ (aA (m.aU 0 rfl) (i:=1) rfl))<|aw rfl<| ?_
 refine hx (aq rfl Tryz.call113 (xt (by omega) (by omega)) [] rfl [0] rfl ?_)
 rintro _ _ _ ⟨rfl,rfl,rfl⟩
 refine aG rfl<|ag<|aB [6,5,4,2,0,1] rfl<|aj (X' :=[_]) (S' :=[_]) (fun _ m=>m)<|ab<|ae<|ae<|ai<|hy (fun _=>aF rfl jv (by decide))<|hy (fun m=>ao rfl dD (aA (m.aU 0 rfl) (i:=4) rfl))<|hy (fun _=>cx rfl rfl)<|ag<|aB [13,6,5,4,2,0,1] rfl<|ab<| ?_
 refine cB rfl (fun h0=> ?_) (fun h0=> ?_)
 ·have hE:d.dO p=6:=by rw[RD.dO,if_pos h0]
  have hB:d.cS p=[]:=by rw[RD.cS,if_pos h0]
  rw[hE,hB]
  refine ae<|ai<|aG rfl<|aG rfl<|ag<|ab<|aV<|ay<| ?_
  exact db trivial rfl rfl rfl [] rfl [] rfl ⟨rfl,rfl,rfl⟩
 ·refine aC<|ab<|ae<|ae<|ai<|aw rfl<|hy (fun _=>bw rfl rfl)<|ag<|aB [15,13,6,5,4,2,0,1] rfl<|ab<| ?_
  refine cB rfl (fun h1=> ?_) (fun h1=> ?_)
  ·have hq:=iz.1 h1
   have hE:d.dO p=4:=by rw[RD.dO,if_neg h0,if_pos hq]
   have hB:d.cS p=[]:=by rw[RD.cS,if_neg h0,hq];rfl
   rw[hE,hB]
   refine ae<|ai<|aG rfl<|aG rfl<|ag<|ab<|aV<|ay<| ?_
   exact db trivial rfl rfl rfl [] rfl [] rfl ⟨rfl,rfl,rfl⟩
  ·obtain⟨x0,hfx⟩:∃x0,d.seen[cV d.seen p]? =some x0:=by
    cases hq:d.seen[cV d.seen p]? with
    |none=>exact absurd (iz.2 hq) h1
    |some x0=>exact⟨x0,rfl⟩
   have hfl:cV d.seen p<d.seen.length:=(List.getElem?_eq_some_iff.1 hfx).1
   obtain⟨f0,f1⟩:=jy d.seen _ x0 hfx
   have hfi:lf d.seen p=(cV d.seen p:Nat):=by rw[lf,if_pos hfl]
   have hE:d.dO p=0:=by rw[RD.dO,if_neg h0,if_neg (by rw[hfx];exact fun e=>by cases e)]
   have hB:d.cS p=x0.2:=by rw[RD.cS,if_neg h0,hfx];rfl
   rw[hE,hB]
   refine aC<|ab<|ae<|ai<|hy (fun _=>aF rfl iR (by decide))<|hy (fun m=>ao rfl rJ (aA (m.aU 0 rfl) (i:=1) rfl))<|aw rfl<|hy (fun _=>cC rfl rfl Tryz.underlying36 fh hA_r hfi.symm (by omega))<|hy (fun _=>aF rfl pO (by decide))<|hy (fun m=>yV (ao rfl mG (fC (m.rd 0 rfl) f1)) ((rfl:_=Value.string (strOf x0.2))))<|aG rfl<|aG rfl<|ag<|aB [5,4,15,13,6,2,0,1] rfl<|ab<|aV<| ?_
   exact db trivial rfl rfl rfl [] rfl [] rfl ⟨rfl,rfl,rfl⟩
end Go.Proofs.YtmibdabdlgmafaaGreatDoor
end
section
namespace Go.Proofs.YtmibdabdlgmafaaGreatDoor
open Go.Eng Go.Hx
theorem Fu:∀(x y:List UInt8),Op.bytesLess x y=decide (x<y)
 | [],[]=>by simp[Op.bytesLess]
 |_::_,[]=>by simp[Op.bytesLess]
 | [],_::_=>by simp[Op.bytesLess]
 |a::x,b::y=>by
  rw[Op.bytesLess,Fu x y]
  simp only[List.cons_lt_cons_iff]
  by_cases h1:a<b <;> by_cases h2:a=b <;> by_cases h3:x<y <;> simp[h1,h2,h3]
theorem sf{a b:List UInt8}:nf a b=decide (a<b):=by
 unfold nf
 rw[Fu,Lib.toList_data,Lib.toList_data]
 rfl
def ix:List FP→FP→List FP
 | [],f=>[f]
 |x::r,f=>if x.1<f.1 then x::ix r f else f::(x::r).filter fun y=>decide (y.1≠f.1)
theorem ln(f:FP):∀(l acc:List FP),l.foldl (iH f) (acc,true)=(acc++l.filter (fun y=>decide (y.1≠f.1)),true)
 | [],acc=>by simp
 |x::r,acc=>by
  rw[List.foldl_cons]
  by_cases h:x.1=f.1
  ·have:iH f (acc,true) x=(acc,true):=by simp[iH,h]
   rw[this,ln f r acc];simp[h]
  ·have:iH f (acc,true) x=(acc++[x],true):=by simp[iH,h]
   rw[this,ln f r (acc++[x])];simp[h]
def AQ(f:FP)(st:List FP×Bool):List FP:=if st.2 then st.1 else st.1++[f]
theorem qs(f:FP):∀(l acc:List FP),AQ f (l.foldl (iH f) (acc,false))=acc++ix l f
 | [],acc=>by simp[ix,AQ]
 |x::r,acc=>by
  rw[List.foldl_cons]
  by_cases h:x.1<f.1
  ·have hne:x.1≠f.1:=fun e=>by rw[e]at h;exact List.lt_irrefl _ h
   have:iH f (acc,false) x=(acc++[x],false):=by simp[iH,sf,h,hne]
   rw[this,qs f r (acc++[x]),ix,if_pos h];simp
  ·have hs:nf x.1 f.1=false:=by rw[sf];simpa using h
   rw[ix,if_neg h]
   by_cases he:x.1=f.1
   ·have hs' :nf f.1 f.1=false:=he▸hs
    have:iH f (acc,false) x=(acc++[f],true):=by simp[iH,hs',he]
    rw[this,ln];simp[he,AQ]
   ·have:iH f (acc,false) x=(acc++[f]++[x],true):=by simp[iH,hs,he]
    rw[this,ln];simp[he,AQ]
theorem jL(l:List FP)(f:FP):hC l f=ix l f:=by
 have:=qs f l []
 rw[List.nil_append]at this
 rw[←this]
 unfold hC De AQ
 rw[List.take_of_length_le (Nat.le_refl _)]
def lk:List FP→List UInt8→Option (List UInt8)
 | [],_=>none
 |x::r,p=>if x.1=p then some x.2 else lk r p
theorem j2:∀(l:List FP) (p:List UInt8),(l[cV l p]?).map (·.2)=lk l p
 | [],p=>rfl
 |x::r,p=>by
  have:=j2 r p
  unfold cV at this ⊢
  rw[List.findIdx_cons]
  by_cases h:x.1=p
  ·simp[h,lk]
  ·simp[h,lk,this]
theorem lH(q:List UInt8):∀(l:List FP) (p:List UInt8),lk (l.filter fun y=>decide (y.1≠q)) p=if p=q then none else lk l p
 | [],p=>by simp[lk]
 |x::r,p=>by
  have ih:=lH q r p
  by_cases h:x.1=q
  ·rw[List.filter_cons,if_neg (by simp[h]),ih]
   by_cases hp:p=q
   ·simp[hp]
   ·rw[if_neg hp,if_neg hp,lk,if_neg (fun e=>hp (e.symm.trans h))]
  ·rw[List.filter_cons,if_pos (by simp[h]),lk,ih]
   by_cases hp:p=q
   ·rw[if_pos hp,if_pos hp,if_neg (fun e=>h (e.trans hp))]
   ·rw[if_neg hp,if_neg hp,lk]
theorem tW:∀(l:List FP) (f:FP) (p:List UInt8),lk (ix l f) p=if p=f.1 then some f.2 else lk l p
 | [],f,p=>by simp only[ix,lk,eq_comm]
 |x::r,f,p=>by
  unfold ix
  by_cases h:x.1<f.1
  ·rw[if_pos h,lk,tW r f p,lk]
   have hne:x.1≠f.1:=fun e=>by rw[e]at h;exact List.lt_irrefl _ h
   by_cases hp:p=f.1
   ·rw[if_pos hp,if_pos hp,if_neg (fun e=>hne (e.trans hp))]
   ·rw[if_neg hp,if_neg hp]
  ·rw[if_neg h,lk,lH]
   by_cases hp:p=f.1
   ·rw[if_pos hp.symm,if_pos hp]
   ·rw[if_neg (fun e=>hp e.symm),if_neg hp,if_neg hp]
def rH(l:List FP):Prop:=(l.map (·.1)).Pairwise (· <·)
theorem pe{l:List FP}(q:FP→Bool)(h:rH l):rH (l.filter q):=List.Pairwise.sublist (List.Sublist.map _ List.filter_sublist) h
theorem ye{l:List FP}{f y:FP}(h:y∈ix l f):y=f∨y∈l:=by
 induction l with
 |nil=>exact .inl (by simpa[ix]using h)
 |cons x r ih=>
  unfold ix at h
  split at h
  ·rcases List.mem_cons.1 h with h|h
   ·exact .inr (by rw[h];exact List.mem_cons_self ..)
   ·rcases ih h with h|h
    ·exact .inl h
    ·exact .inr (List.mem_cons_of_mem _ h)
  ·rcases List.mem_cons.1 h with h|h
   ·exact .inl h
   ·exact .inr ((List.mem_filter.1 h).1)
theorem CN{l:List FP}{f:FP}(h:rH l):rH (ix l f):=by
 induction l with
 |nil=>simp[rH,ix]
 |cons x r ih=>
  have hx:∀y∈r,x.1<y.1:=by
   intro y hy
   exact(List.pairwise_cons.1 h).1 _ (List.mem_map.2 ⟨y,hy,rfl⟩)
  have hr:rH r:=(List.pairwise_cons.1 h).2
  unfold ix
  by_cases hlt:x.1<f.1
  ·rw[if_pos hlt]
   refine List.pairwise_cons.2 ⟨?_,ih hr⟩
   intro a ha
   obtain⟨y,hy,rfl⟩:=List.mem_map.1 ha
   rcases ye hy with rfl|hy
   ·exact hlt
   ·exact hx y hy
  ·rw[if_neg hlt]
   refine List.pairwise_cons.2 ⟨?_,pe _ h⟩
   intro a ha
   obtain⟨y,hy,rfl⟩:=List.mem_map.1 ha
   have hy1:=(List.mem_filter.1 hy).1
   have hy2:y.1≠f.1:=by simpa using(List.mem_filter.1 hy).2
   have hge:¬y.1<f.1:=by
    rcases List.mem_cons.1 hy1 with rfl|h1
    ·exact hlt
    ·exact fun e=>hlt (List.lt_trans (hx y h1) e)
   exact Decidable.byContradiction fun hn=>hy2 (List.le_antisymm (List.not_lt.1 hn) (List.not_lt.1 hge))
structure gF(fs:dY)(l:List FP):Prop where
 ord:rH l
 nd:(cA fs).Nodup
 look:∀p,(bO fs p).map (·.l)=lk l p
 len:∀x∈fs,x.2.n=x.2.l.length
theorem gF.nil:gF [] []:=⟨by simp[rH],by simp[cA],fun p=>rfl,fun x h=>by cases h⟩
theorem G0{l:List FP}{p:List UInt8}:lk l p≠none↔p∈l.map (·.1):=by
 induction l with
 |nil=>simp[lk]
 |cons x r ih=>
  unfold lk
  by_cases h:x.1=p
  ·simp[h]
  ·rw[if_neg h,ih];simp[Ne.symm h]
theorem gF.keys{fs:dY}{l:List FP}(h:gF fs l):(cA fs).Perm (l.map (·.1)):=by
 have hn:(l.map (·.1)).Nodup:=List.Pairwise.imp (fun hlt e=>by rw[e]at hlt;exact List.lt_irrefl _ hlt) h.ord
 refine(List.perm_ext_iff_of_nodup h.nd hn).2 fun p=> ?_
 rw[←G0,←h.look p]
 have:= @lp (List UInt8) aR _ fs p
 cases hq:bO fs p with
 |none=>simp[this.1 hq]
 |some r=>simp;exact Decidable.byContradiction fun hm=>by rw[this.2 hm]at hq;cases hq
theorem gF.put{fs:dY}{l:List FP}(h:gF fs l){p:List UInt8}{r:aR}(hr:r.n=r.l.length):gF (cP fs p r) (hC l (p,r.l)):=by
 rw[jL]
 refine⟨CN h.ord,gI h.nd,fun q=> ?_,fun x hx=> ?_⟩
 ·rw[lx,tW]
  by_cases hq:p=q
  ·rw[if_pos hq,if_pos hq.symm];rfl
  ·rw[if_neg hq,if_neg (fun e=>hq e.symm)];exact h.look q
 ·rcases oL (List.mem_map.2 ⟨x,hx,rfl⟩)with h1|h1
  ·obtain⟨y,hy,e⟩:=List.mem_map.1 h1
   rw[←e];exact h.len y hy
  ·rw[h1];exact hr
theorem Bb{a b:List Nat}(h:a.Perm b):a.sum=b.sum:=by
 induction h with
 |nil=>rfl
 |cons x _ ih=>simp[ih]
 |swap x y l=>simp;omega
 |trans _ _ h1 h2=>rw[h1,h2]
theorem Di{l:List FP}(h:rH l){x:FP}(hx:x∈l):lk l x.1=some x.2:=by
 induction l with
 |nil=>cases hx
 |cons y r ih=>
  unfold lk
  rcases List.mem_cons.1 hx with rfl|h1
  ·rw[if_pos rfl]
  ·have hlt:y.1<x.1:=(List.pairwise_cons.1 h).1 _ (List.mem_map.2 ⟨x,h1,rfl⟩)
   rw[if_neg (fun e=>by rw[e]at hlt;exact List.lt_irrefl _ hlt)]
   exact ih (List.pairwise_cons.1 h).2 h1
theorem gF.mP{fs:dY}{l:List FP}(h:gF fs l):mP fs=dN l:=by
 let g:List UInt8→Nat:=fun p=>((lk l p).getD []).length
 have h1:fs.map (fun x=>x.2.n)=(cA fs).map g:=by
  rw[cA,List.map_map]
  refine List.map_congr_left fun x hx=> ?_
  have:=h.look x.1
  rw[oS h.nd (show(x.1,x.2)∈fs from hx)]at this
  show x.2.n=((lk l x.1).getD []).length
  rw[←this,h.len x hx];rfl
 have h2:l.map (fun x=>x.2.length)=(l.map (·.1)).map g:=by
  rw[List.map_map]
  refine List.map_congr_left fun x hx=> ?_
  show x.2.length=((lk l x.1).getD []).length
  rw[Di h.ord hx];rfl
 show(fs.map fun x=>x.2.n).sum=(l.map fun x=>x.2.length).sum
 rw[h1,h2]
 exact Bb (h.keys.map g)
theorem gF.J7{fs:dY}{l:List FP}(h:gF fs l):fs.length=l.length:=by
 have:=h.keys.length_eq
 simpa[cA]using this
theorem gF.sz{fs:dY}{l:List FP}(h:gF fs l)(p:List UInt8):((bO fs p).map (·.n)).getD 0=((l[cV l p]?).map (·.2.length)).getD 0:=by
 have h1:=h.look p
 rw[←j2]at h1
 cases hq:bO fs p with
 |none=>
  rw[hq]at h1
  cases hl:l[cV l p]? with
  |none=>rfl
  |some x=>rw[hl]at h1;cases h1
 |some r=>
  rw[hq]at h1
  cases hl:l[cV l p]? with
  |none=>rw[hl]at h1;cases h1
  |some x=>
   rw[hl]at h1
   have e:r.l=x.2:=Option.some.inj h1
   have:=h.len _ (jR hq)
   simp only[Option.map_some,Option.getD_some]
   rw[←e];exact this
structure wS(st:da)(d:RD):Prop where
 room:st.room=d.room
 ck:st.ck=d.pw
 files:gF st.seen d.seen
 waits:st.waits.length=d.waits.length
theorem wS.bX{st:da}{d:RD}(h:wS st d)(p bb:List UInt8):bX st p bb.length=d.bX p bb:=by
 have h1:=h.files.sz p
 have h2:=h.files.mP
 unfold Go.Proofs.YtmibdabdlgmafaaGreatDoor.bX RD.bX RD.sz
 rw[h.ck,h.room,h1,h2]
 by_cases hn:¬gv p
 ·rw[if_pos hn,if_pos hn]
 ·rw[if_neg hn,if_neg hn]
  by_cases h0:d.pw=0
  ·rw[if_pos h0,if_pos h0]
  ·rw[if_neg h0,if_neg h0]
   by_cases hr:d.room<(dN d.seen:Int)+(bb.length:Nat)-(((d.seen[cV d.seen p]?).map (·.2.length)).getD 0:Nat)
   ·rw[if_pos hr,if_pos (by omega)]
   ·rw[if_neg hr,if_neg (by omega)]
theorem wS.dO{st:da}{d:RD}(h:wS st d)(p:List UInt8):eJ st p=d.dO p:=by
 have h1:=h.files.look p
 rw[←j2]at h1
 unfold eJ RD.dO
 rw[h.ck]
 by_cases h0:d.pw=0
 ·rw[if_pos h0,if_pos h0]
 ·rw[if_neg h0,if_neg h0]
  cases ha:bO st.seen p with
  |none=>
   rw[ha]at h1
   cases hb:d.seen[cV d.seen p]? with
   |none=>simp
   |some y=>rw[hb]at h1;cases h1
  |some r=>
   rw[ha]at h1
   cases hb:d.seen[cV d.seen p]? with
   |none=>rw[hb]at h1;cases h1
   |some y=>simp
theorem wS.cS{st:da}{d:RD}(h:wS st d)(p:List UInt8):cS st p=d.cS p:=by
 have h1:=h.files.look p
 rw[←j2]at h1
 have h2:=h.dO p
 unfold Go.Proofs.YtmibdabdlgmafaaGreatDoor.cS RD.cS
 rw[h2,←h1]
 unfold RD.dO
 by_cases h0:d.pw=0
 ·rw[if_pos h0,if_pos h0,if_neg (by decide)]
 ·rw[if_neg h0,if_neg h0]
  cases hb:d.seen[cV d.seen p]? with
  |none=>
   rw[hb]at h1
   cases ha:bO st.seen p with
   |none=>simp
   |some r=>rw[ha]at h1;cases h1
  |some y=>simp
end Go.Proofs.YtmibdabdlgmafaaGreatDoor
end
section
set_option maxRecDepth 20000
namespace Go.Proofs.YtmibdabdlgmafaaGreatDoor
open Go.Eng Go.Hx
structure RX where
 d:RD
 A:Option Addr
 c:Nat
 Al:Option Addr
 cl:Nat
 A3:Option Addr
 c3:Nat
def RX.cs(x:RX):List Value:=rv x.d x.A x.d.seen.length x.c x.Al x.d.dm.length x.cl x.A3 x.d.waits.length x.c3
abbrev RX.parts(x:RX):List bl:=[cL 2 x.A x.d.seen.length (fc x.d.seen),cL 2 x.Al x.d.dm.length (fc x.d.dm),cL 4 x.A3 x.d.waits.length (v7 x.d.waits)]
def eL(x:RX):bl:=gE x.parts
theorem cH{x:RX}:∀u∈x.cs,u.oneCell' =true:=jC
theorem View.BZ{x:RX}:View (eL x) (cL 2 x.A x.d.seen.length (fc x.d.seen)):=View.rE 0 rfl
theorem View.Hb{x:RX}:View (eL x) (cL 2 x.Al x.d.dm.length (fc x.d.dm)):=View.rE 1 rfl
theorem View.ID{x:RX}:View (eL x) (cL 4 x.A3 x.d.waits.length (v7 x.d.waits)):=View.rE 2 rfl
def RD.new(room:Int):RD:=⟨room,[],[],[],-1⟩
def RX.new(room:Int):RX:=⟨RD.new room,none,0,none,0,none,0⟩
theorem xB{y:RX}{S:List bl}(h0:∃t∈S,View t (cL 2 y.A y.d.seen.length (fc y.d.seen)))(h1:∃t∈S,View t (cL 2 y.Al y.d.dm.length (fc y.d.dm)))(h2:∃t∈S,View t (cL 4 y.A3 y.d.waits.length (v7 y.d.waits))):sX S [eL y]:=by
 refine sX.cons (fun s hs=> ?_) sX.nil
 simp only[List.mem_cons,List.not_mem_nil,or_false]at hs
 rcases hs with rfl|rfl|rfl
 ·exact h0
 ·exact h1
 ·exact h2
theorem C9{room:Int}:sX [] [eL (RX.new room)]:=by
 intro s hs
 obtain rfl:=List.mem_singleton.1 hs
 refine⟨fun w _ x hx=> ?_,fun k hk=> ?_⟩
 ·simp only[List.mem_cons,List.not_mem_nil,or_false]at hx
  rcases hx with rfl|rfl|rfl <;> exact Rd.nil _ _ _
 ·obtain⟨x,hx,hk⟩:=hk
  simp only[List.mem_cons,List.not_mem_nil,or_false]at hx
  rcases hx with rfl|rfl|rfl <;> exact absurd rfl hk.1
theorem Ki{r:bl}{S:List bl}:∃t∈r::S,View t r:=⟨r,List.mem_cons_self ..,.same⟩
theorem inr{r a:bl}{S:List bl}(h:∃t∈S,View t r):∃t∈a::S,View t r:=by
 obtain⟨t,ht,hv⟩:=h
 exact⟨t,List.mem_cons_of_mem _ ht,hv⟩
theorem inv1{r a:bl}{S:List bl}(h:View a r):∃t∈a::S,View t r:=⟨a,List.mem_cons_self ..,h⟩
theorem IK{room:Int}:b7 Tryz.prog 25 [.int .i64 room] [] [] (fun v_ X_ S_=>∃y,v_=(.agg y.cs.toArray)∧X_=[]∧S_=[eL y]∧(y.d=RD.new room)):=by
 exact b7.wV IZ (fun s hs=>by cases hs) (fun v X S h=>by
  obtain⟨rfl,rfl,rfl⟩:=h
  exact⟨_,⟨RX.new room,rfl,rfl,rfl,rfl⟩,C9⟩)
theorem Cg{x:RX}{kk:Nat}{p:List UInt8}(ok:zY x.d kk)(hkk:kk≤100000):b7 Tryz.prog 91 [.agg x.cs.toArray,.string (strOf p)] [] [eL x] (fun v_ X_ S_=>v_=(.tuple #[.string (strOf (x.d.cS p)),.int .i64 (x.d.dO p)])∧X_=[]∧S_=[]):=by
 exact b7.wV (G4 rfl ok hkk) (fun s hs=>⟨_,List.mem_singleton_self _,by rw[List.mem_singleton.1 hs];exact View.BZ⟩) (fun v X S h=>⟨[],⟨h.1,h.2.1,rfl⟩,sX.nil⟩)
theorem pr(d:RD)(p bb:List UInt8):(d.write p bb).dm=d.dm:=by
 unfold RD.write
 split <;> rfl
theorem yJ{x:RX}:∀s∈ [cL 2 x.A x.d.seen.length (fc x.d.seen),cL 4 x.A3 x.d.waits.length (v7 x.d.waits)],∃t∈ [eL x],View t s:=by
 intro s hs
 refine⟨_,List.mem_singleton_self _, ?_⟩
 simp only[List.mem_cons,List.not_mem_nil,or_false]at hs
 rcases hs with rfl|rfl
 ·exact View.BZ
 ·exact View.ID
theorem E3{x:RX}{kk:Nat}{p bb:List UInt8}(ok:zY x.d kk)(hkk:kk≤100000)(hpl:p.length≤1000000)(hbb:bb.length≤1000000):b7 Tryz.prog 31 [.agg x.cs.toArray,.string (strOf p),.string (strOf bb)] [] [eL x] (fun v_ X_ S_=>∃y,v_=(.tuple #[.agg y.cs.toArray,.int .i64 (x.d.bX p bb)])∧X_=[]∧S_=[eL y]∧(y.d=x.d.write p bb)):=by
 refine b7.wV (Dm rfl rfl ok hkk hpl hbb) yJ (fun v X S h=> ?_)
 obtain⟨A1,n1,c1,A2,n2,c2,rfl,rfl,rfl,rfl,rfl⟩:=h
 refine⟨_,⟨⟨x.d.write p bb,A1,c1,x.Al,x.cl,A2,c2⟩,by unfold RX.cs;simp only[pr],rfl,rfl,rfl⟩,xB Ki (inr (inr (inv1 ?_))) (inr Ki)⟩
 simp only[pr]
 exact View.Hb
theorem JY{x:RX}{kk:Nat}{k:Int}{p t bb:List UInt8}(ok:zY x.d kk)(hkk:kk≤100000):b7 Tryz.prog 114 [.agg x.cs.toArray,.agg (cv k p t bb).toArray] [] [eL x] (fun v_ X_ S_=>∃y,v_=(.agg y.cs.toArray)∧X_=[]∧S_=[eL y]∧(y.d=x.d.kG k p t bb)):=by
 have h1:=ok.seen
 have h2:=ok.waits
 refine b7.wV (G3 rfl (by omega) rfl (by omega) ok.p1 ok.p2) yJ (fun v X S h=> ?_)
 obtain⟨A1,n1,c1,A2,n2,c2,rfl,rfl,rfl,rfl,_,rfl⟩:=h
 have e:(x.d.waits++[(k,p,t,bb)]).length=x.d.waits.length+1:=by simp
 refine⟨_,⟨⟨x.d.kG k p t bb,A1,c1,x.Al,x.cl,A2,c2⟩,by unfold RX.cs;simp only[RD.kG,e];rfl,rfl,rfl,rfl⟩,xB Ki (inr (inr (inv1 View.Hb))) (inr (inv1 ?_))⟩
 simp only[RD.kG,e]
 exact .same
def RD.cg(d:RD)(a c:List UInt8):Int:=if¬gv c then 1 else d.dO a
def RD.rename(d:RD)(a c:List UInt8):RD:=if d.cg a c=0 then d.kG 1 a c []else d
theorem AU{x:RX}{kk:Nat}{a c:List UInt8}(ok:zY x.d kk)(hkk:kk≤100000)(hcl:c.length≤1000000):b7 Tryz.prog 100 [.agg x.cs.toArray,.string (strOf a),.string (strOf c)] [] [eL x] (fun v_ X_ S_=>∃y,v_=(.tuple #[.agg y.cs.toArray,.int .i64 (x.d.cg a c)])∧X_=[]∧S_=[eL y]∧(y.d=x.d.rename a c)):=by
 refine aM (N:=31) Tryz.func100 rfl rfl (by simp) fun b=> ?_
 refine ae<|ai<| ?_
 refine hx (bu rfl (fun g3=> ?_))
 refine aJ (fun w m=>m.bz 0 rfl (show _=aH g3 39 x.cs from congrArg (aH _ _) (aT _))) ?_
 refine hx (bf ou (fun g6=> ?_))
 refine aG rfl<|ag<|aj (X' :=[_,_]) (S' :=[_]) (fun _ m=>m)<|ab<|ae<|ai<|aw rfl<| ?_
 refine hx (aq rfl Tryz.call112 (xQ (by omega)) [] rfl [] rfl ?_)
 rintro _ _ _ ⟨rfl,rfl,rfl⟩
 refine aG rfl<|ag<|aB [8,7,6,3,0,1,2] rfl<|aj (X' :=[_,_]) (S' :=[_]) (fun _ m=>m)<|ab<|ae<|ae<|ai<|aw rfl<|hy (fun _=>fl rfl)<|ag<|aB [14,8,7,6,3,0,1,2] rfl<|ab<| ?_
 refine cB rfl (fun hN=> ?_) (fun hN=> ?_)
 ·have hE:x.d.cg a c=1:=by rw[RD.cg,if_pos hN]
  have hE0:¬(1:Int)=0:=by decide
  have hW:x.d.rename a c=x.d:=by rw[RD.rename,if_neg (by rw[hE];exact hE0)]
  rw[hE,hW]
  refine ae<|ai<|hy (fun m=>yV (aQ rfl cF bP rfl ((m.aU 1 rfl).au)) ((rfl:_=Value.agg x.cs.toArray)))<| ?_
  refine cI (ba 0 rfl rfl rfl bP rfl cH rfl ?_)
  refine aG rfl<|ag<|aB [7,14,8,6,3,0,1,2] rfl<|aj (X' :=[_,_]) (S' :=[_]) (fun _ m=>m)<|ab<|aV<|ay<| ?_
  exact eK trivial rfl rfl rfl cF bP rfl (fun m=>(m.aU 0 rfl).au) [] rfl [0] rfl ⟨x,rfl,rfl,rfl,rfl⟩
 ·have hE:x.d.cg a c=x.d.dO a:=by rw[RD.cg,if_neg hN]
  refine aC<|ab<|ae<|ai<|hy (fun m=>yV (aQ rfl cF bP rfl ((m.aU 1 rfl).au)) ((rfl:_=Value.agg x.cs.toArray)))<|aw rfl<| ?_
  refine hx (aq rfl Tryz.call91 (Cg (by omega) (by omega)) [] rfl [0] rfl ?_)
  rintro _ _ _ ⟨rfl,rfl,rfl⟩
  refine aw rfl<|hy (fun _=>aD rfl rfl)<|hy (fun _=>aD rfl rfl)<|aG rfl<|aG rfl<|ag<|aB [10,14,8,7,6,3,0,1,2] rfl<|aj (X' :=[_,_]) (S' :=[_]) (fun _ m=>m)<|ab<|ae<|ae<|ai<|aw rfl<|hy (fun _=>cT rfl rfl)<|ag<|aB [23,10,14,8,7,6,3,0,1,2] rfl<|ab<| ?_
  refine cB rfl (fun hE0=> ?_) (fun hE0=> ?_)
  ·have hW:x.d.rename a c=x.d:=by rw[RD.rename,if_neg (by rw[hE];exact hE0)]
   rw[hE,hW]
   refine ae<|ai<|hy (fun m=>yV (aQ rfl cF bP rfl ((m.aU 1 rfl).au)) ((rfl:_=Value.agg x.cs.toArray)))<|aw rfl<| ?_
   refine cI (ba 0 rfl rfl rfl bP rfl cH rfl ?_)
   refine aG rfl<|ag<|aB [7,23,10,14,8,6,3,0,1,2] rfl<|aj (X' :=[_,_]) (S' :=[_]) (fun _ m=>m)<|ab<|aV<|ay<| ?_
   exact eK trivial rfl rfl rfl cF bP rfl (fun m=>(m.aU 0 rfl).au) [] rfl [0] rfl ⟨x,rfl,rfl,rfl,rfl⟩
  ·have hr0:=Decidable.not_not.1 hE0
   have hW:x.d.rename a c=x.d.kG 1 a c []:=by rw[RD.rename,if_pos (by rw[hE];exact hr0)]
   rw[hE,hW,hr0]
   refine aC<|ab<|ae<|ai<|hy (fun m=>yV (aQ rfl cF bP rfl ((m.aU 1 rfl).au)) ((rfl:_=Value.agg x.cs.toArray)))<|aw rfl<|aw rfl<|hy (fun _=>yV (bU sK rfl rfl (by kernel_rfl) (.cons (o:=0) (sz:=1) (by kernel_rfl) rfl rfl (Nat.le_of_ble_eq_true rfl) (.cons (o:=1) (sz:=1) (by kernel_rfl) rfl rfl (Nat.le_of_ble_eq_true rfl) (.cons (o:=2) (sz:=1) (by kernel_rfl) rfl rfl (Nat.le_of_ble_eq_true rfl) .nil)))) ((rfl:_=Value.agg (cv 1 a c []).toArray)))<| ?_
   refine hx (aq rfl Tryz.call114 (JY (by omega) (by omega)) [] rfl [0] rfl ?_)
   rintro _ _ _ ⟨y,rfl,rfl,rfl,hp⟩
   refine cI (ba 0 rfl rfl rfl bP rfl cH rfl ?_)
   refine aG rfl<|ag<|aB [7,23,10,14,8,6,3,0,1,2] rfl<|aj (X' :=[_,_]) (S' :=[_,_]) (fun _ m=>m)<|ab<|aV<| ?_
   exact eK trivial rfl rfl rfl cF bP rfl (fun m=>(m.aU 0 rfl).au) [] rfl [0] rfl ⟨y,rfl,rfl,rfl,hp⟩
def RD.dM(d:RD):Int:=if d.pw=0 then 6 else 0
def RD.sync(d:RD):RD:=if d.pw=0 then d else{d with dm:=d.seen,waits:=[],pw:=eZ d.pw}
theorem BX{x:RX}{kk:Nat}(ok:zY x.d kk):b7 Tryz.prog 99 [.agg x.cs.toArray] [] [eL x] (fun v_ X_ S_=>∃y,v_=(.tuple #[.agg y.cs.toArray,.int .i64 x.d.dM])∧X_=[]∧S_=[eL y]∧(y.d=x.d.sync)):=by
 have hp1:=ok.p1
 have hp2:=ok.p2
 refine aM (N:=20) Tryz.func99 rfl rfl (by simp) fun b=> ?_
 refine ae<|ai<| ?_
 refine hx (bu rfl (fun g1=> ?_))
 refine aJ (fun w m=>m.bz 0 rfl (show _=aH g1 39 x.cs from congrArg (aH _ _) (aT _))) ?_
 refine hx (bf ou (fun g2=> ?_))
 refine aG rfl<|ag<|aj (X' :=[_,_]) (S' :=[_]) (fun _ m=>m)<|ab<|ae<|ae<|ai<|hy (fun _=>aF rfl jv (by decide))<|hy (fun m=>ao rfl dD (aA (m.aU 1 rfl) (i:=4) rfl))<|hy (fun _=>cx rfl rfl)<|ag<|aB [6,3,2,1,0] rfl<|ab<| ?_
 refine cB rfl (fun h0=> ?_) (fun h0=> ?_)
 ·have hE:x.d.dM=6:=by rw[RD.dM,if_pos h0]
  have hW:x.d.sync=x.d:=by rw[RD.sync,if_pos h0]
  rw[hE,hW]
  refine ae<|ai<|hy (fun m=>yV (aQ rfl cF bP rfl ((m.aU 1 rfl).au)) ((rfl:_=Value.agg x.cs.toArray)))<| ?_
  refine cI (ba 0 rfl rfl rfl bP rfl cH rfl ?_)
  refine aG rfl<|ag<|aB [3,6,2,1,0] rfl<|aj (X' :=[_,_]) (S' :=[_]) (fun _ m=>m)<|ab<|aV<|ay<| ?_
  exact eK trivial rfl rfl rfl cF bP rfl (fun m=>(m.aU 0 rfl).au) [] rfl [0] rfl ⟨x,rfl,rfl,rfl,rfl⟩
 ·have hE:x.d.dM=0:=by rw[RD.dM,if_neg h0]
  have hW:x.d.sync={x.d with dm:=x.d.seen,waits:=[],pw:=eZ x.d.pw}:=by rw[RD.sync,if_neg h0]
  rw[hE]
  refine bk (fun w m=>m.fA 0 rfl View.BZ) ?_
  refine a6 (fun m=>fH (m.rd 0 rfl)) ?_
  rintro⟨hl_r0,hA_r0⟩
  refine bk (fun w m=>m.rm (r' :=cL 4 none 0 []) (.refl _ _) (Rd.nil _ _ _) (fun k hk=>absurd rfl hk.1)) ?_
  have hA_z:0<0→(none:Option Addr)≠none:=fun h=>absurd h (by decide)
  refine aC<|ab<|ae<|ai<|hy (fun _=>aF rfl iR (by decide))<|hy (fun m=>ao rfl rJ (aA (m.aU 1 rfl) (i:=1) rfl))<|hy (fun _=>aF rfl Ha (by decide))<| ?_
  refine cI (b9 1 rfl rfl rfl IS rfl (by first|exact Nat.le_of_ble_eq_true rfl|simp) ?_)
  refine ag<|aB [6,3,2,1,0] rfl<|aj (X' :=[_,_]) (S' :=[_,_,_]) (fun _ m=>m)<|ab<|ae<|ai<|hy (fun _=>aF rfl s3 (by decide))<| ?_
  refine cI (b9 0 rfl rfl rfl Jo rfl (by first|exact Nat.le_of_ble_eq_true rfl|simp) ?_)
  refine ag<|aB [6,3,2,1,0] rfl<|aj (X' :=[_,_]) (S' :=[_,_,_]) (fun _ m=>m)<|ab<|ae<|ae<|ai<|hy (fun _=>aF rfl jv (by decide))<|hy (fun m=>ao rfl dD (aA (m.aU 0 rfl) (i:=4) rfl))<|hy (fun _=>cW rfl rfl)<|ag<|aB [14,6,3,2,1,0] rfl<|ab<| ?_
  refine bk (S' :=eL ⟨{x.d with dm:=x.d.seen,waits:=[],pw:=eZ x.d.pw},x.A,x.c,x.A,x.c,none,0⟩::_) (fun w m=>m.pF [1,1,0] rfl) ?_
  refine cB rfl (fun h1=> ?_) (fun h1=> ?_)
  ·refine ai<|hy (fun _=>aF rfl jv (by decide))<|hy (fun m=>ao rfl dD (aA (m.aU 0 rfl) (i:=4) rfl))<|hy (fun _=>cn rfl rfl (bA (by omega) (by omega)))<|hy (fun _=>aF rfl jv (by decide))<| ?_
   refine cI (b9 0 rfl rfl rfl ue rfl (by first|exact Nat.le_of_ble_eq_true rfl|simp) ?_)
   refine ag<|aB [14,6,3,2,1,0] rfl<|aj (X' :=[_,_]) (S' :=[_,_,_,_]) (fun _ m=>m)<|ab<|ae<|ai<| ?_
   refine aJ (fun w m=>m.bz 0 rfl (show _=aH g1 39 (RX.cs ⟨{x.d with dm:=x.d.seen,waits:=[],pw:=eZ x.d.pw},x.A,x.c,x.A,x.c,none,0⟩)from by rw[eZ,if_pos h1];rfl)) ?_
   refine hy (fun m=>yV (aQ rfl cF bP rfl ((m.aU 0 rfl).au)) ((rfl:_=Value.agg (RX.cs ⟨{x.d with dm:=x.d.seen,waits:=[],pw:=eZ x.d.pw},x.A,x.c,x.A,x.c,none,0⟩).toArray)))<| ?_
   refine cI (ba 1 rfl rfl rfl bP rfl cH rfl ?_)
   refine aG rfl<|ag<|aB [3,14,6,2,1,0] rfl<|aj (X' :=[_,_]) (S' :=[_,_,_,_]) (fun _ m=>m)<|ab<|aV<| ?_
   exact eK trivial rfl rfl rfl cF bP rfl (fun m=>(m.aU 0 rfl).au) [] rfl [0] rfl ⟨_,rfl,rfl,rfl,hW.symm⟩
  ·refine aC<|ab<|ae<|ai<| ?_
   refine aJ (fun w m=>m.bz 0 rfl (show _=aH g1 39 (RX.cs ⟨{x.d with dm:=x.d.seen,waits:=[],pw:=eZ x.d.pw},x.A,x.c,x.A,x.c,none,0⟩)from by rw[eZ,if_neg h1];rfl)) ?_
   refine hy (fun m=>yV (aQ rfl cF bP rfl ((m.aU 0 rfl).au)) ((rfl:_=Value.agg (RX.cs ⟨{x.d with dm:=x.d.seen,waits:=[],pw:=eZ x.d.pw},x.A,x.c,x.A,x.c,none,0⟩).toArray)))<| ?_
   refine cI (ba 1 rfl rfl rfl bP rfl cH rfl ?_)
   refine aG rfl<|ag<|aB [3,14,6,2,1,0] rfl<|aj (X' :=[_,_]) (S' :=[_,_,_,_]) (fun _ m=>m)<|ab<|aV<| ?_
   exact eK trivial rfl rfl rfl cF bP rfl (fun m=>(m.aU 0 rfl).au) [] rfl [0] rfl ⟨_,rfl,rfl,rfl,hW.symm⟩
def RD.ck(d:RD)(n:Int):RD:={d with pw:=max n (-1)}
theorem Eh{x:RX}{n:Int}:b7 Tryz.prog 58 [.agg x.cs.toArray,.int .i64 n] [] [eL x] (fun v_ X_ S_=>∃y,v_=(.agg y.cs.toArray)∧X_=[]∧S_=[eL y]∧(y.d=x.d.ck n)):=by
 refine aM (N:=9) Tryz.func58 rfl rfl (by simp) fun b=> ?_
 refine ae<|ai<| ?_
 refine hx (bu rfl (fun g2=> ?_))
 refine aJ (fun w m=>m.bz 0 rfl (show _=aH g2 39 x.cs from congrArg (aH _ _) (aT _))) ?_
 refine aJ (fun w m=>m.fA 0 rfl View.BZ) ?_
 refine az (fun m=>fH (m.rd 0 rfl)) ?_
 rintro⟨hl_r0,hA_r0⟩
 refine aJ (fun w m=>m.fA 1 rfl View.Hb) ?_
 refine az (fun m=>fH (m.rd 0 rfl)) ?_
 rintro⟨hl_r1,hA_r1⟩
 refine aJ (fun w m=>m.fA 2 rfl View.ID) ?_
 refine az (fun m=>fH (m.rd 0 rfl)) ?_
 rintro⟨hl_r2,hA_r2⟩
 refine hx (bf ou (fun g4=> ?_))
 refine ag<|aj (X' :=[_,_]) (S' :=[_,_,_,_]) (fun _ m=>m)<|ab<|ae<|ai<|aw rfl<|hy (fun _=>Co rfl rfl)<|hy (fun _=>aF rfl jv (by decide))<| ?_
 refine cI (b9 1 rfl rfl rfl ue rfl (by first|exact Nat.le_of_ble_eq_true rfl|simp) ?_)
 refine ag<|aB [4,2,0,1] rfl<|aj (X' :=[_,_]) (S' :=[_,_,_,_]) (fun _ m=>m)<|ab<|ae<|ai<| ?_
 refine aJ (S' :=eL ⟨x.d.ck n,x.A,x.c,x.Al,x.cl,x.A3,x.c3⟩::_) (fun w m=>m.pF [2,1,0] rfl) ?_
 refine aJ (fun w m=>m.bz 0 rfl (show _=aH g2 39 (RX.cs ⟨x.d.ck n,x.A,x.c,x.Al,x.cl,x.A3,x.c3⟩)from rfl)) ?_
 refine hy (fun m=>yV (aQ rfl cF bP rfl ((m.aU 0 rfl).au)) ((rfl:_=Value.agg (RX.cs ⟨x.d.ck n,x.A,x.c,x.Al,x.cl,x.A3,x.c3⟩).toArray)))<| ?_
 refine cI (ba 1 rfl rfl rfl bP rfl cH rfl ?_)
 refine ag<|aB [4,2,0,1] rfl<|aj (X' :=[_,_]) (S' :=[_,_,_,_,_]) (fun _ m=>m)<|ab<|aV<| ?_
 exact eO trivial rfl rfl cF bP rfl (fun m=>(m.aU 0 rfl).au) [] rfl [0] rfl ⟨_,rfl,rfl,rfl,rfl⟩
end Go.Proofs.YtmibdabdlgmafaaGreatDoor
end
section
set_option maxRecDepth 20000
namespace Go.Proofs.YtmibdabdlgmafaaGreatDoor
open Go.Eng Go.Hx
theorem vM{α:Type}{f:α→List Value}{k:Nat}(hf:∀x,(f x).length=k):∀(l:List α) (i j:Nat) (x:α),l[i]? =some x→j<k→(l.flatMap f)[i*k+j]? =(f x)[j]?
 | [],i,j,x,h,hj=>by simp at h
 |a::r,0,j,x,h,hj=>by
  simp only[List.getElem?_cons_zero,Option.some.injEq]at h
  subst h
  rw[List.flatMap_cons,Nat.zero_mul,Nat.zero_add,List.getElem?_append_left (by rw[hf];exact hj)]
 |a::r,i+1,j,x,h,hj=>by
  rw[List.flatMap_cons,List.getElem?_append_right (by rw[hf,Nat.succ_mul];omega),hf,show(i+1)*k+j-k=i*k+j by rw[Nat.succ_mul];omega]
  exact vM hf r i j x (by simpa using h) hj
theorem dJ{α:Type}{f:α→List Value}{k:Nat}{w:World}{A:Option Addr}{n i:Nat}{l:List α}{x:α}(hf:∀x,(f x).length=k)(h:Rd w k A n (l.flatMap f))(hx:l[i]? =some x):∀(j:Nat) (u:Value),(f x)[j]? =some u→w.cell? (((A.getD d0).add (i*k)).add j)=some u:=by
 intro j u hu
 have hj:j<k:=by have:=(List.getElem?_eq_some_iff.1 hu).1;rwa [hf]at this
 exact fC h (by rw[vM hf l i j x hx hj];exact hu)
end Go.Proofs.YtmibdabdlgmafaaGreatDoor
end
section
namespace Go.Proofs.YtmibdabdlgmafaaGreatDoor
open Go.Eng Go.Hx
theorem gF.del{fs:dY}{l:List FP}(h:gF fs l)(p:List UInt8):gF (fv fs p) (eg l p):=by
 refine⟨pe _ h.ord,mM h.nd,fun q=> ?_,fun x hx=> ?_⟩
 ·rw[zo h.nd]
  have:=lH p l q
  unfold eg
  rw[this]
  by_cases hq:p=q
  ·rw[if_pos hq,if_pos hq.symm];rfl
  ·rw[if_neg hq,if_neg (fun e=>hq e.symm)];exact h.look q
 ·have h1:=oN (List.mem_map.2 ⟨x,hx,rfl⟩)
  obtain⟨y,hy,e⟩:=List.mem_map.1 h1
  rw[←e];exact h.len y hy
theorem gF.at{fs:dY}{l:List FP}(h:gF fs l)(p:List UInt8):(bO fs p=none∧l[cV l p]? =none)∨∃r x,bO fs p=some r∧l[cV l p]? =some x∧r.l=x.2∧r.n=r.l.length:=by
 have h1:=h.look p
 rw[←j2]at h1
 cases ha:bO fs p with
 |none=>
  rw[ha]at h1
  cases hb:l[cV l p]? with
  |none=>exact .inl ⟨rfl,rfl⟩
  |some y=>rw[hb]at h1;cases h1
 |some r=>
  rw[ha]at h1
  cases hb:l[cV l p]? with
  |none=>rw[hb]at h1;cases h1
  |some y=>
   rw[hb]at h1
   exact .inr ⟨r,y,rfl,rfl,Option.some.inj h1,h.len _ (jR ha)⟩
def jF.rc:jF→RC
 | .written p r=>(0,p,[],r.l)
 | .renamed a c=>(1,a,c,[])
 | .removed p=>(2,p,[],[])
def jF.wl(c:jF):Prop:=∀r,c.row=some r→r.n=r.l.length
theorem gF.uc{fs:dY}{l:List FP}(h:gF fs l){c:jF}(hc:c.wl):gF (uc fs c) (eo l c.rc.1 c.rc.2.1 c.rc.2.2.1 c.rc.2.2.2):=by
 cases c with
 |written p r=>
  rw[eo]
  exact h.put (hc r rfl)
 |renamed a b=>
  rw[eo]
  simp only[jF.rc,Go.Proofs.YtmibdabdlgmafaaGreatDoor.uc]
  rcases h.at a with⟨h1,h2⟩|⟨r,x,h1,h2,h3,h4⟩
  ·simp only[h1,h2];exact h
  ·simp only[h1,h2]
   rw[←h3]
   exact(h.del a).put h4
 |removed p=>
  rw[eo]
  simp only[jF.rc,Go.Proofs.YtmibdabdlgmafaaGreatDoor.uc]
  rcases h.at p with⟨h1,h2⟩|⟨r,x,h1,h2,h3,h4⟩
  ·simp only[h2]
   have e:fv fs p=fs:=by
    have hk:¬p∈cA fs:=lp.1 h1
    clear h h2 h1
    induction fs with
    |nil=>rfl
    |cons a q ih=>
     obtain⟨k,u⟩:=a
     simp only[cA,List.map_cons,List.mem_cons,not_or]at hk
     simp only[fv]
     rw[if_neg (fun e=>hk.1 e.symm),ih hk.2]
   rw[if_neg (by decide),e];exact h
  ·simp only[h2]
   rw[if_neg (by decide)]
   exact h.del p
structure DS(st:da)(d:RD)(k:Nat):Prop where
 pJ:wS st d
 ok:pQ st k
 low:-1≤d.pw
 dm:gF st.dm d.dm
 waits:st.waits.map jF.rc=d.waits
 G5:∀c∈st.waits,c.wl
theorem DS.le{st:da}{d:RD}{k k' :Nat}(h:DS st d k)(hk:k≤k'):DS st d k' :=⟨h.pJ,h.ok.le hk,h.low,h.dm,h.waits,h.G5⟩
theorem DS.C2{st:da}{d:RD}{k:Nat}(h:DS st d k):zY d k:=by
 refine⟨?_, ?_, ?_,by have:=h.low;omega, ?_⟩
 ·rw[←h.pJ.files.J7];exact h.ok.seen
 ·rw[←h.pJ.waits];have:=h.ok.rest;omega
 ·rw[←h.pJ.files.mP];exact h.ok.mP
 ·rw[←h.pJ.ck];exact h.ok.ck
theorem DS.init{n:Int}{gs gl:Nat}(h:n≤1048576):DS (mZ n gs gl) (RD.new n) 0:=
 ⟨⟨rfl,rfl,gF.nil,rfl⟩,pQ.init h,Int.le_refl _,gF.nil,rfl,fun c hc=>by cases hc⟩
theorem sD{p:Int}(h:-1≤p):-1≤eZ p:=by
 unfold eZ
 split <;> omega
theorem DS.kG{st:da}{d:RD}{k:Nat}(h:DS st d k){c:jF}(hc:c.wl){st1:da}(hs:st1.room=st.room∧st1.dm=st.dm∧st1.ck=st.fJ.ck∧st1.seen=uc st.seen c∧st1.waits=st.waits++[c])(ok:pQ st1 (k+1)):
  DS st1 (d.kG c.rc.1 c.rc.2.1 c.rc.2.2.1 c.rc.2.2.2) (k+1):=by
 obtain⟨h1,h2,h3,h4,h5⟩:=hs
 refine⟨⟨h1.trans h.pJ.room, ?_, ?_, ?_⟩,ok,sD h.low, ?_, ?_,fun x hx=> ?_⟩
 ·rw[h3]
  show(if 0<st.ck then st.ck-1 else st.ck)=eZ d.pw
  rw[h.pJ.ck];rfl
 ·rw[h4];exact h.pJ.files.uc hc
 ·rw[h5,List.length_append,h.pJ.waits]
  show _=(d.waits++[_]).length
  rw[List.length_append];rfl
 ·rw[h2];exact h.dm
 ·rw[h5,List.map_append,h.waits];rfl
 ·rw[h5]at hx
  rcases List.mem_append.1 hx with hx|hx
  ·exact h.G5 x hx
  ·rw[List.mem_singleton.1 hx];exact hc
theorem DS.write{st st1:da}{d:RD}{k n:Nat}(h:DS st d k){p l:List UInt8}{B A:Option Addr}{c1 c2:Nat}(hl:l.length=n)(hn:n≤1048576)
  (hw:(bX st p n≠0∧st1=st)∨(bX st p n=0∧st1=st.wrote p ⟨B,n,c1,l⟩ A c2)):DS st1 (d.write p l) (k+1)∧d.bX p l=bX st p n:=by
 subst hl
 have e:=h.pJ.bX p l
 refine⟨?_,e.symm⟩
 unfold RD.write
 rw[←e]
 rcases hw with⟨h1,rfl⟩|⟨h1,rfl⟩
 ·rw[if_neg h1];exact h.le (Nat.le_succ _)
 ·rw[if_pos h1]
  exact h.kG (c:=.written p ⟨B,l.length,c1,l⟩) (fun r hr=>by cases hr;rfl) ⟨rfl,rfl,rfl,rfl,rfl⟩ (h.ok.wrote hn A c2)
theorem DS.dO{st:da}{d:RD}{k:Nat}(h:DS st d k)(p:List UInt8):d.dO p=eJ st p:=(h.pJ.dO p).symm
theorem DS.cS{st:da}{d:RD}{k:Nat}(h:DS st d k)(p:List UInt8):d.cS p=cS st p:=(h.pJ.cS p).symm
theorem DS.rename{st st1:da}{d:RD}{k:Nat}(h:DS st d k){a c:List UInt8}{A:Option Addr}{j:Nat}
  (hw:(cg st a c≠0∧st1=st)∨(cg st a c=0∧st1=st.kG (.renamed a c) A j)):DS st1 (d.rename a c) (k+1)∧d.cg a c=cg st a c:=by
 have e:d.cg a c=cg st a c:=by
  unfold RD.cg Go.Proofs.YtmibdabdlgmafaaGreatDoor.cg
  rw[h.dO]
 refine⟨?_,e⟩
 unfold RD.rename
 rw[e]
 rcases hw with⟨h1,rfl⟩|⟨h1,rfl⟩
 ·rw[if_neg h1];exact h.le (Nat.le_succ _)
 ·rw[if_pos h1]
  exact h.kG (c:=.renamed a c) (fun r hr=>by cases hr) ⟨rfl,rfl,rfl,rfl,rfl⟩ (h.ok.kG rfl A j)
theorem DS.sync{st st1:da}{d:RD}{k gl:Nat}(h:DS st d k)(hw:(st.ck=0∧st1=st)∨(st.ck≠0∧st1=st.synced gl)):DS st1 d.sync k∧d.dM=dM st:=by
 have e:d.dM=dM st:=by unfold RD.dM Go.Proofs.YtmibdabdlgmafaaGreatDoor.dM;rw[h.pJ.ck]
 refine⟨?_,e⟩
 unfold RD.sync
 rw[←h.pJ.ck]
 rcases hw with⟨h1,rfl⟩|⟨h1,rfl⟩
 ·rw[if_pos h1];exact h
 ·rw[if_neg h1]
  refine⟨⟨h.pJ.room, ?_,h.pJ.files,rfl⟩,h.ok.synced gl, ?_,h.pJ.files,rfl,fun c hc=>by cases hc⟩
  ·rfl
  ·rw[h.pJ.ck];exact sD h.low
theorem DS.ck{st:da}{d:RD}{k:Nat}(h:DS st d k){n:Int}(hn:n≤1000000000000):DS (st.nV n) (d.ck n) k:=by
 refine⟨⟨h.pJ.room,rfl,h.pJ.files,h.pJ.waits⟩,⟨?_,h.ok.room,h.ok.seen,h.ok.rest,h.ok.small⟩, ?_,h.dm,h.waits,h.G5⟩
 ·show max n (-1)≤_;omega
 ·show-1≤max n (-1);omega
def RD.ok(d:RD)(k:Nat):Prop:=∃st,DS st d k
theorem RD.ok.C2{d:RD}{k:Nat}(h:d.ok k):zY d k:=by obtain⟨st,h⟩:=h;exact h.C2
theorem RD.ok.le{d:RD}{k k' :Nat}(h:d.ok k)(hk:k≤k'):d.ok k' :=by obtain⟨st,h⟩:=h;exact⟨st,h.le hk⟩
theorem RD.ok.write{d:RD}{k:Nat}(h:d.ok k){p l:List UInt8}(hl:l.length≤1048576):(d.write p l).ok (k+1):=by
 obtain⟨st,h⟩:=h
 by_cases he:Go.Proofs.YtmibdabdlgmafaaGreatDoor.bX st p l.length=0
 ·exact⟨_,(h.write (st1:=st.wrote p ⟨none,l.length,0,l⟩ none 0) rfl hl (.inr ⟨he,rfl⟩)).1⟩
 ·exact⟨_,(h.write (B:=none) (A:=none) (c1:=0) (c2:=0) (st1:=st) rfl hl (.inl ⟨he,rfl⟩)).1⟩
theorem RD.ok.rename{d:RD}{k:Nat}(h:d.ok k){a c:List UInt8}:(d.rename a c).ok (k+1):=by
 obtain⟨st,h⟩:=h
 by_cases he:Go.Proofs.YtmibdabdlgmafaaGreatDoor.cg st a c=0
 ·exact⟨_,(h.rename (st1:=st.kG (.renamed a c) none 0) (.inr ⟨he,rfl⟩)).1⟩
 ·exact⟨_,(h.rename (A:=none) (j:=0) (st1:=st) (.inl ⟨he,rfl⟩)).1⟩
theorem RD.ok.sync{d:RD}{k:Nat}(h:d.ok k):d.sync.ok k:=by
 obtain⟨st,h⟩:=h
 by_cases he:st.ck=0
 ·exact⟨_,(h.sync (gl:=0) (st1:=st) (.inl ⟨he,rfl⟩)).1⟩
 ·exact⟨_,(h.sync (st1:=st.synced 0) (.inr ⟨he,rfl⟩)).1⟩
end Go.Proofs.YtmibdabdlgmafaaGreatDoor
end
section
namespace Go.Hx
open Go.Eng
def chunks(k:Nat)(l:List UInt8):List (List UInt8):=(List.range k).map fun i=>(l.drop (32*i)).take 32
def pE(l:List UInt8):Nat:=(l.getD 0 0).toNat+256*(l.getD 1 0).toNat+65536*(l.getD 2 0).toNat+16777216*(l.getD 3 0).toNat
theorem EO(l:List UInt8):pE l<4294967296:=by
 have h0:=(l.getD 0 0).toNat_lt
 have h1:=(l.getD 1 0).toNat_lt
 have h2:=(l.getD 2 0).toNat_lt
 have h3:=(l.getD 3 0).toNat_lt
 unfold pE
 omega
end Go.Hx
end
section
namespace Go.Hx
open Go.Eng
def acc(l:List UInt8):Nat→Nat
 |0=>0
 |j+1=>acc l j*256+(l.getD (3-j) 0).toNat
theorem BC(l:List UInt8):∀j,acc l j<256 ^ j
 |0=>by simp[acc]
 |j+1=>by
  have h1:=BC l j
  have h2:=(l.getD (3-j) 0).toNat_lt
  rw[acc,Nat.pow_succ]
  omega
theorem Gb(l:List UInt8){j:Nat}(h:j≤4):acc l j<4294967296:=by
 have h1:=BC l j
 have h2:256 ^ j≤256 ^ 4:=Nat.pow_le_pow_right (by decide) h
 have h3:256 ^ 4=4294967296:=by decide
 omega
theorem JZ(l:List UInt8):acc l 4=pE l:=by
 have e:(3-0=3)∧(3-1=2)∧(3-2=1)∧(3-3=0):=by decide
 simp only[acc,pE,e.1,e.2.1,e.2.2.1,e.2.2.2]
 omega
theorem Dh(a b:Nat)(ha:a<4294967296)(hb:b<256):bits .or .i64 (a*256:Int) (b:Int)=((a*256+b:Nat):Int):=by
 have h1:(a*256:Int)=((a*256:Nat):Int):=by simp
 have h2:a*256 ||| b=a*256+b:=by rw[Nat.mul_comm a 256,show 256=2 ^ 8 from rfl,Nat.two_pow_add_eq_or_of_lt (by simpa using hb)]
 have e0:∀n:Nat,n<18446744073709551616→(BitVec.ofInt 64 (n:Int)).toNat=n:=fun n hn=>by
  rw[BitVec.toNat_ofInt]
  simp
  omega
 rw[h1]
 show IntKind.i64.wrap ((BitVec.ofInt 64 ((a*256:Nat):Int) ||| BitVec.ofInt 64 (b:Int)).toNat:Int)=_
 rw[BitVec.toNat_or,e0 _ (by omega),e0 _ (by omega),h2]
 exact bA (by omega) (by omega)
end Go.Hx
end
section
namespace Go.Hx
open Go.Eng
def cX(l:List UInt8):Nat×Nat×Nat×Bool:=
 if(l.getD 0 0).toNat<128 then((l.getD 0 0).toNat+2,(l.getD 0 0).toNat+1,0,decide ((l.getD 0 0).toNat+2≤l.length))
 else if l.length<3 then(0,0,0,false)else(3,(l.getD 0 0).toNat-124,1+(l.getD 1 0).toNat+256*(l.getD 2 0).toNat,true)
def again(d:Nat):Nat→List UInt8→List UInt8
 |0,o=>o
 |k+1,o=>again d k (o++[o.getD (o.length-d) 0])
theorem nZ(d:Nat):∀(k:Nat) (o:List UInt8),(again d k o).length=o.length+k
 |0,o=>rfl
 |k+1,o=>by rw[again,nZ d k];simp;omega
theorem lz{l:List UInt8}(h:(cX l).2.2.2=true):2≤(cX l).1∧(cX l).1≤l.length:=by
 unfold cX at h ⊢
 split at h
 ·rename_i h1
  rw[if_pos h1]
  have:=of_decide_eq_true h
  exact⟨by show 2≤_+2;omega,this⟩
 ·rename_i h1
  rw[if_neg h1]
  split at h
  ·cases h
  ·rename_i h2
   rw[if_neg h2]
   exact⟨by show 2≤3;decide,by show 3≤_;omega⟩
theorem Gr(l:List UInt8):(cX l).2.1≤131∧(cX l).2.2.1≤65536:=by
 have h0:=(l.getD 0 0).toNat_lt
 have h1:=(l.getD 1 0).toNat_lt
 have h2:=(l.getD 2 0).toNat_lt
 unfold cX
 split
 ·exact⟨by show _+1≤_;omega,by show 0≤_;omega⟩
 ·split
  ·exact⟨by show 0≤_;omega,by show 0≤_;omega⟩
  ·exact⟨by show _-124≤_;omega,by show 1+_+256*_≤_;omega⟩
def made(l o:List UInt8):List UInt8:=if(cX l).2.2.1=0 then o++(l.drop 1).take ((cX l).1-1)else again (cX l).2.2.1 (cX l).2.1 o
def lD(most:Int)(l o:List UInt8):List UInt8×Int:=
 if h0:l=[]then(o,0)
 else if h1:(cX l).2.2.2=true then
  if o.length<(cX l).2.2.1 then([],2)else if most<(o.length:Int)+((cX l).2.1:Nat)then([],3)else lD most (l.drop (cX l).1) (made l o)
 else([],2)
termination_by l.length
decreasing_by
 obtain⟨h2,h3⟩:=lz h1
 rw[List.length_drop]
 omega
theorem ub(most:Int)(o:List UInt8):lD most [] o=(o,0):=by
 rw[lD]
 rfl
theorem lN{most:Int}{l o:List UInt8}(h0:l≠ [])(h:¬((cX l).2.2.2=true∧(cX l).2.2.1≤o.length)):lD most l o=([],2):=by
 rw[lD,dif_neg h0]
 split
 ·rename_i h1
  rw[if_pos (Nat.lt_of_not_le fun h2=>h ⟨h1,h2⟩)]
 ·rfl
theorem pY{most:Int}{l o:List UInt8}(h0:l≠ [])(h1:(cX l).2.2.2=true)(h2:(cX l).2.2.1≤o.length)(h3:most<(o.length:Int)+((cX l).2.1:Nat)):lD most l o=([],3):=by
 rw[lD,dif_neg h0,dif_pos h1,if_neg (by omega),if_pos h3]
theorem tc{most:Int}{l o:List UInt8}(h0:l≠ [])(h1:(cX l).2.2.2=true)(h2:(cX l).2.2.1≤o.length)(h3:¬most<(o.length:Int)+((cX l).2.1:Nat)):lD most l o=lD most (l.drop (cX l).1) (made l o):=by
 rw[lD,dif_neg h0,dif_pos h1,if_neg (by omega),if_neg h3]
theorem o6{l o:List UInt8}(h1:(cX l).2.2.2=true):(made l o).length=o.length+(cX l).2.1:=by
 unfold made
 split
 ·rename_i h0
  obtain⟨h2,h3⟩:=lz h1
  have e:(cX l).1-1=(cX l).2.1:=by
   unfold cX at h0 h1 ⊢
   split
   ·show _+2-1=_+1;omega
   ·split
    ·rename_i a1 a2;rw[if_neg a1,if_pos a2]at h1;cases h1
    ·rename_i a1 a2;rw[if_neg a1,if_neg a2]at h0;simp at h0
  rw[List.length_append,List.length_take,List.length_drop,e]
  omega
 ·exact nZ _ _ _
end Go.Hx
end
section
namespace Go.Hx
open Go.Eng
def lT(b:List UInt8)(i k:Nat):Nat→Nat→Nat
 |0,n=>n
 |f+1,n=>if i+n<b.length∧b.getD (i+n) 0=b.getD (k+n) 0 then lT b i k f (n+1)else n
def mO(b:List UInt8)(i k:Nat):Nat:=lT b i k 131 0
theorem gT(b:List UInt8)(i k:Nat):∀f n,n≤lT b i k f n∧lT b i k f n≤n+f∧(i+n≤b.length→i+lT b i k f n≤b.length)∧∀j,n≤j→j<lT b i k f n→b.getD (i+j) 0=b.getD (k+j) 0
 |0,n=>⟨Nat.le_refl _,Nat.le_refl _,fun h=>h,fun j h1 h2=>by simp only[lT]at h2;omega⟩
 |f+1,n=>by
  unfold lT
  split
  ·rename_i h
   obtain⟨h1,h2,h3,h4⟩:=gT b i k f (n+1)
   refine⟨by omega,by omega,fun _=>h3 (by omega),fun j hj hj2=> ?_⟩
   rcases Nat.eq_or_lt_of_le hj with e|e
   ·rw[←e];exact h.2
   ·exact h4 j e hj2
  ·exact⟨Nat.le_refl _,by omega,fun h=>h,fun j h1 h2=>by omega⟩
theorem GM(b:List UInt8)(i k:Nat):mO b i k≤131:=by have:=(gT b i k 131 0).2.1;unfold mO;omega
theorem Cj{b:List UInt8}{i:Nat}(k:Nat)(h:i≤b.length):i+mO b i k≤b.length:=(gT b i k 131 0).2.2.1 (by omega)
theorem tu{b:List UInt8}{i k j:Nat}(h:j<mO b i k):b.getD (i+j) 0=b.getD (k+j) 0:=(gT b i k 131 0).2.2.2 j (Nat.zero_le _) h
theorem lO{b:List UInt8}{i k f n:Nat}(h:¬(i+n<b.length∧b.getD (i+n) 0=b.getD (k+n) 0)):lT b i k f n=n:=by
 cases f with
 |zero=>rfl
 |succ f=>rw[lT,if_neg h]
theorem iC{b:List UInt8}{i k f n:Nat}(hf:0<f)(h:i+n<b.length∧b.getD (i+n) 0=b.getD (k+n) 0):lT b i k f n=lT b i k (f-1) (n+1):=by
 cases f with
 |zero=>omega
 |succ f=>rw[lT,if_pos h];rfl
def eI(b:List UInt8)(p:Nat):List UInt8:=(b.drop p).take 4
theorem bW{b:List UInt8}{p:Nat}(h:p+4≤b.length):(eI b p).length=4:=by unfold eI;rw[List.length_take,List.length_drop];omega
theorem EE{b:List UInt8}{i p:Nat}(hi:i+4≤b.length)(hp:p<i):eI b p=eI b i↔3<mO b i p:=by
 have e:∀q,q+4≤b.length→eI b q=[b.getD (q+0) 0,b.getD (q+1) 0,b.getD (q+2) 0,b.getD (q+3) 0]:=by
  intro q hq
  apply List.ext_getElem?
  intro j
  unfold eI
  rw[List.getElem?_take,List.getElem?_drop]
  rcases j with _|_|_|_|j
  all_goals simp
  all_goals (try (rw[List.getElem?_eq_getElem (by omega)];rfl))
  all_goals (try (intro h;omega))
 rw[e p (by omega),e i hi]
 constructor
 ·intro h
  simp only[List.cons.injEq,and_true]at h
  have e0:mO b i p=lT b i p 127 4:=by
   unfold mO
   rw[iC (by decide) ⟨by omega,h.1.symm⟩,iC (by decide) ⟨by omega,h.2.1.symm⟩,iC (by decide) ⟨by omega,h.2.2.1.symm⟩,iC (by decide) ⟨by omega,h.2.2.2.symm⟩]
  rw[e0]
  exact(gT b i p 127 4).1
 ·intro h
  simp only[List.cons.injEq,and_true]
  exact⟨(tu (by omega)).symm,(tu (by omega)).symm,(tu (by omega)).symm,(tu (by omega)).symm⟩
def gX(b:List UInt8)(i:Nat)(s:Nat×Nat)(d:Nat):Nat×Nat:=if 3<mO b i (i-d)∧s.1<mO b i (i-d)then(mO b i (i-d),d)else s
def cz(b:List UInt8)(i k:Nat):Nat×Nat:=(List.range' 1 k).foldl (gX b i) (0,0)
theorem dS(b:List UInt8)(i k:Nat):cz b i (k+1)=gX b i (cz b i k) (k+1):=by
 unfold cz
 rw[List.range'_concat,List.foldl_append]
 simp[Nat.add_comm]
def bh(b:List UInt8)(i:Nat):Nat×Nat:=cz b i (min i 1024)
def gx(b:List UInt8)(i:Nat)(s:Nat×Nat)(p:Nat):Nat×Nat:=if 1024<i-p then s else if s.1<mO b i p then(mO b i p,i-p)else s
def lg(b:List UInt8)(n:Nat)(k:List UInt8):List Nat:=(List.range n).filter fun p=>decide (eI b p=k)
theorem zg(b:List UInt8)(n:Nat)(k:List UInt8):lg b (n+1) k=lg b n k++if eI b n=k then [n]else []:=by
 unfold lg
 rw[List.range_succ,List.filter_append]
 congr 1
 by_cases h:eI b n=k <;> simp[h]
theorem Eb{b:List UInt8}{n p:Nat}{k:List UInt8}(h:p∈lg b n k):p<n∧eI b p=k:=by
 unfold lg at h
 simpa using h
theorem oW(b:List UInt8)(n:Nat)(k:List UInt8):(lg b n k).length≤n:=by
 unfold lg
 exact Nat.le_trans (List.length_filter_le _ _) (by simp)
theorem zh(i:Nat):(List.range i).reverse=(List.range' 1 i).map fun d=>i-d:=by
 apply List.ext_getElem
 ·simp
 ·intro j h1 h2
  simp
  omega
theorem kr{α β:Type}(f:β→α→β)(s:β):∀(l:List α),(∀x∈l,∀t,f t x=t)→l.foldl f s=s
 | [],_=>rfl
 |x::l,h=>by
  rw[List.foldl_cons,h x (by simp) s]
  exact kr f s l (fun y hy=>h y (List.mem_cons_of_mem _ hy))
theorem uz{b:List UInt8}{i:Nat}(hi:i+4≤b.length):(lg b i (eI b i)).reverse.foldl (gx b i) (0,0)=bh b i:=by
 unfold lg bh
 rw[←List.filter_reverse,zh,List.filter_map,List.foldl_map,List.foldl_filter]
 have h1:∀(l:List Nat) (s:Nat×Nat),(∀d∈l,1≤d∧d≤i)→l.foldl (fun s d=>if((fun p=>decide (eI b p=eI b i)) ∘ fun d=>i-d) d=true then gx b i s (i-d)else s) s=l.foldl (fun s d=>if 1024<d then s else gX b i s d) s:=by
  intro l
  induction l with
  |nil=>intro s _;rfl
  |cons d l ih=>
   intro s hd
   simp only[List.foldl_cons]
   rw[ih _ (fun x hx=>hd x (List.mem_cons_of_mem _ hx))]
   congr 1
   obtain⟨hd1,hd2⟩:=hd d (by simp)
   have e:=EE (p:=i-d) hi (by omega)
   simp only[Function.comp_apply,decide_eq_true_eq]
   unfold gx gX
   rw[show i-(i-d)=d by omega]
   by_cases hk:eI b (i-d)=eI b i
   ·rw[if_pos hk]
    have:=e.1 hk
    split
    ·rfl
    ·by_cases h:s.1<mO b i (i-d)
     ·rw[if_pos h,if_pos ⟨this,h⟩]
     ·rw[if_neg h,if_neg (fun q=>h q.2)]
   ·rw[if_neg hk]
    split
    ·rfl
    ·rw[if_neg (fun q=>hk (e.2 q.1))]
 rw[h1 _ _ (fun d hd=>by simp at hd;omega)]
 have h2:List.range' 1 i=List.range' 1 (min i 1024)++List.range' (1+min i 1024) (i-min i 1024):=by
  rw[List.range'_append_1]
  congr 1
  omega
 rw[h2,List.foldl_append,kr _ _ (List.range' (1+min i 1024) (i-min i 1024))]
 ·unfold cz
  have h3:∀(l:List Nat) (s:Nat×Nat),(∀d∈l,d≤1024)→l.foldl (fun s d=>if 1024<d then s else gX b i s d) s=l.foldl (gX b i) s:=by
   intro l
   induction l with
   |nil=>intro s _;rfl
   |cons d l ih=>
    intro s hd
    simp only[List.foldl_cons]
    rw[if_neg (by have:=hd d (by simp);omega)]
    exact ih _ (fun x hx=>hd x (List.mem_cons_of_mem _ hx))
  exact h3 _ _ (fun d hd=>by simp at hd;omega)
 ·intro d hd t
  simp at hd
  rw[if_pos (by omega)]
theorem vE(b:List UInt8)(n:Nat)(k:List UInt8):(lg b n k).Pairwise (· <·):=(List.pairwise_lt_range).filter _
theorem zM{b:List UInt8}{i n x:Nat}{k:List UInt8}{pre rest:List Nat}{s:Nat×Nat}(h:(lg b n k).reverse=pre++x::rest)(hx:1024<i-x):(lg b n k).reverse.foldl (gx b i) s=pre.foldl (gx b i) s:=by
 have hs:(pre++x::rest).Pairwise (· >·):=by
  rw[←h,List.pairwise_reverse]
  exact vE b n k
 rw[h,List.foldl_append]
 refine kr _ _ _ fun y hy t=> ?_
 have h1:=(List.pairwise_cons.1 (List.pairwise_append.1 hs).2.1).1
 unfold gx
 rw[if_pos]
 rcases List.mem_cons.1 hy with rfl|hy
 ·exact hx
 ·have:=h1 y hy
  omega
theorem ug{b:List UInt8}{i:Nat}(hi:i≤b.length)(h:b.length<i+4):bh b i=(0,0):=by
 unfold bh cz
 refine kr _ _ _ fun d hd t=> ?_
 unfold gX
 rw[if_neg]
 intro q
 have:=Cj (i-d) hi
 omega
theorem sj(b:List UInt8)(i:Nat)(hi:i≤b.length):∀k,k≤i→(cz b i k=(0,0))∨(4≤(cz b i k).1∧(cz b i k).1≤131∧1≤(cz b i k).2∧(cz b i k).2≤k∧i+(cz b i k).1≤b.length∧(cz b i k).1=mO b i (i-(cz b i k).2))
 |0,_=>.inl rfl
 |k+1,hk=>by
  rw[dS]
  unfold gX
  split
  ·rename_i h
   exact .inr ⟨by show 4≤mO _ _ _;omega,GM _ _ _,by show 1≤k+1;omega,Nat.le_refl _,Cj _ hi,rfl⟩
  ·rcases sj b i hi k (by omega)with h|h
   ·exact .inl h
   ·exact .inr ⟨h.1,h.2.1,h.2.2.1,by omega,h.2.2.2.2.1,h.2.2.2.2.2⟩
theorem oH{b:List UInt8}{i:Nat}(hi:i≤b.length):(bh b i=(0,0))∨(4≤(bh b i).1∧(bh b i).1≤131∧1≤(bh b i).2∧(bh b i).2≤min i 1024∧i+(bh b i).1≤b.length∧(bh b i).1=mO b i (i-(bh b i).2)):=sj b i hi _ (by omega)
def fm(l:List UInt8):List UInt8:=if h:l=[]then []else UInt8.ofNat (min l.length 128-1)::l.take 128++fm (l.drop 128)
termination_by l.length
decreasing_by
 have:=List.length_pos_iff.2 h
 rw[List.length_drop]
 omega
theorem qj:fm []=[]:=by rw[fm];rfl
theorem om{l:List UInt8}(h:l≠ []):fm l=UInt8.ofNat (min l.length 128-1)::l.take 128++fm (l.drop 128):=by rw[fm,dif_neg h]
theorem fM(l:List UInt8):(fm l).length≤2*l.length:=by
 by_cases h:l=[]
 ·subst h;rw[qj];simp
 ·have hp:=List.length_pos_iff.2 h
  have hd:(l.drop 128).length=l.length-128:=List.length_drop
  have:=fM (l.drop 128)
  rw[om h]
  simp only[List.length_append,List.length_cons,List.length_take]
  omega
termination_by l.length
decreasing_by
 rw[List.length_drop]
 have:=List.length_pos_iff.2 h
 omega
def iD(m:Nat×Nat):List UInt8:=[UInt8.ofNat (124+m.1),UInt8.ofNat (m.2-1),UInt8.ofNat ((m.2-1)/256)]
def iq(b:List UInt8)(i:Nat)(own out:List UInt8):List UInt8:=
 if h:i<b.length then
  if h0:(bh b i).1=0 then iq b (i+1) (own++[b.getD i 0]) out
  else iq b (i+(bh b i).1) [] (out++fm own++iD (bh b i))
 else out++fm own
termination_by b.length-i
def e8(b:List UInt8):List UInt8:=iq b 0 [] []
theorem oq{b own out:List UInt8}{i:Nat}(h:¬i<b.length):iq b i own out=out++fm own:=by rw[iq,dif_neg h]
theorem oO{b own out:List UInt8}{i:Nat}(h:i<b.length)(h0:(bh b i).1=0):iq b i own out=iq b (i+1) (own++[b.getD i 0]) out:=by rw[iq,dif_pos h,dif_pos h0]
theorem kN{b own out:List UInt8}{i:Nat}(h:i<b.length)(h0:(bh b i).1≠0):iq b i own out=iq b (i+(bh b i).1) [] (out++fm own++iD (bh b i)):=by rw[iq,dif_pos h,dif_neg h0]
theorem kb:∀(b:List UInt8) (i:Nat) (own out:List UInt8),i≤b.length→out.length+2*own.length≤2*i→(iq b i own out).length≤2*b.length
 |b,i,own,out,hi,h=>by
  by_cases hlt:i<b.length
  ·by_cases h0:(bh b i).1=0
   ·rw[oO hlt h0]
    exact kb b (i+1) _ _ (by omega) (by simp;omega)
   ·rw[kN hlt h0]
    rcases oH hi with hm|hm
    ·rw[hm]at h0;exact absurd rfl h0
    ·have:=fM own
     exact kb b _ _ _ (by omega) (by simp[iD];omega)
  ·rw[oq hlt,List.length_append]
   have:=fM own
   omega
termination_by b i=>b.length-i
theorem nU(b:List UInt8):(e8 b).length≤2*b.length:=kb b 0 [] [] (Nat.zero_le _) (by simp)
end Go.Hx
end
section
namespace Go.Hx
open Go.Eng
def Cc(b:List UInt8):Bool:=decide ((e8 b).length<b.length)
def oU(b:List UInt8):List UInt8:=if Cc b then e8 b else b
def cr(b:List UInt8):List UInt8:=[76,if Cc b then 1 else 0]++jY b.length++oU b++jY (dE b)
theorem tD(b:List UInt8):(oU b).length≤b.length:=by
 unfold oU Cc
 split
 ·rename_i h;have:=of_decide_eq_true h;omega
 ·exact Nat.le_refl _
theorem tm(b:List UInt8):(cr b).length=(oU b).length+10:=by simp[cr,iI];omega
theorem n4(b:List UInt8):10≤(cr b).length∧(cr b).length≤b.length+10:=by
 have:=tD b
 rw[tm]
 omega
def iF(f:List UInt8):Option Nat:=if f.length<10∨f.getD 0 0≠76∨1<(f.getD 1 0).toNat then none else some (pE (f.drop 2))
def dR(f:List UInt8):List UInt8:=(f.drop 6).take (f.length-10)
def zB(f:List UInt8)(n:Nat):List UInt8×Int:=if f.getD 1 0=1 then lD n (dR f) []else(dR f,0)
def gV(f:List UInt8)(n:Nat):List UInt8×Int:=
 if(zB f n).2≠0 then([],2)else if(zB f n).1.length≠n then([],2)else if jY (dE (zB f n).1)≠f.drop (f.length-4)then([],7)else((zB f n).1,0)
def dx(f:List UInt8)(most:Int):List UInt8×Int:=
 match iF f with
 |none=>([],2)
 |some n=>if most<n then([],3)else gV f n
theorem qJ{most:Int}:∀(l o:List UInt8),(o.length:Int)≤most→(((lD most l o).1.length:Int)≤most∨(lD most l o).1=[])∧((lD most l o).2=0∨(lD most l o).2=2∨(lD most l o).2=3)∧((lD most l o).2≠0→(lD most l o).1=[])
 |l,o,hm=>by
  by_cases h0:l=[]
  ·subst h0;rw[ub];exact⟨.inl hm,.inl rfl,fun h=>absurd rfl h⟩
  ·by_cases h1:(cX l).2.2.2=true∧(cX l).2.2.1≤o.length
   ·by_cases h2:most<(o.length:Int)+((cX l).2.1:Nat)
    ·rw[pY h0 h1.1 h1.2 h2];exact⟨.inr rfl,.inr (.inr rfl),fun _=>rfl⟩
    ·rw[tc h0 h1.1 h1.2 h2]
     exact qJ _ _ (by rw[o6 h1.1];omega)
   ·rw[lN h0 h1];exact⟨.inr rfl,.inr (.inl rfl),fun _=>rfl⟩
termination_by l=>l.length
decreasing_by
 obtain⟨h2,h3⟩:=lz h1.1
 rw[List.length_drop]
 omega
theorem Bc{f:List UInt8}{n:Nat}(h:(gV f n).2=0):(gV f n).1.length=n:=by
 unfold gV at h ⊢
 split at h
 ·cases h
 ·rename_i h1
  rw[if_neg h1]
  split at h
  ·cases h
  ·rename_i h2
   rw[if_neg h2]
   split at h
   ·cases h
   ·rename_i h3
    rw[if_neg h3]
    exact Decidable.not_not.1 h2
theorem zU{f:List UInt8}{n:Nat}(h:(gV f n).2≠0):(gV f n).1=[]:=by
 unfold gV at h ⊢
 split at h
 ·rename_i h1;rw[if_pos h1]
 ·rename_i h1
  rw[if_neg h1]
  split at h
  ·rename_i h2;rw[if_pos h2]
  ·rename_i h2
   rw[if_neg h2]
   split at h
   ·rename_i h3;rw[if_pos h3]
   ·exact absurd rfl h
theorem zu{f:List UInt8}{most:Int}(h:(dx f most).2≠0):(dx f most).1=[]:=by
 unfold dx at h ⊢
 split at h
 ·rfl
 ·rename_i n hn
  split at h
  ·rename_i h1;rw[if_pos h1]
  ·rename_i h1;rw[if_neg h1];exact zU h
theorem BB{f:List UInt8}{most:Int}(h:(dx f most).2=0):((dx f most).1.length:Int)≤most:=by
 unfold dx at h ⊢
 split at h
 ·cases h
 ·rename_i n hn
  split at h
  ·cases h
  ·rename_i h1;rw[if_neg h1,Bc h];omega
theorem sG{f:List UInt8}{most:Int}(hm:0≤most):((dx f most).1.length:Int)≤most:=by
 by_cases h:(dx f most).2=0
 ·exact BB h
 ·rw[zu h];simpa using hm
end Go.Hx
end
section
namespace Go.Proofs.YtmibdabdlgmafaaGreatDoor
open Go.Eng Go.Hx
def bx(nm:List UInt8):List UInt8:=[99,47]++(cq nm).take 2++[47]++cq nm
def b6(nm:List UInt8):List UInt8:=[116,47]++cq nm
theorem fp{nm:List UInt8}(h:nm.length=32):(bx nm).length=69:=by simp[bx,dQ,h]
theorem jA{nm:List UInt8}(h:nm.length=32):(b6 nm).length=66:=by simp[b6,dQ,h]
theorem kS{nm:List UInt8}(h:nm.length=32):(bx nm).drop 5=cq nm:=by
 have h2:((cq nm).take 2).length=2:=by rw[List.length_take,dQ,h];rfl
 unfold bx
 rw[List.drop_append_of_le_length (by simp[h2]),List.drop_of_length_le (by simp[h2])]
 rfl
theorem wO{a b:List UInt8}(ha:a.length=32)(hb:b.length=32)(h:bx a=bx b):a=b:=by
 have:=congrArg (List.drop 5) h
 rw[kS ha,kS hb]at this
 exact BT this
def RD.E9(d:RD)(nm:List UInt8):List UInt8×Int:=dx (d.cS (bx nm)) 4096
def RD.ic(d:RD)(nm:List UInt8):Int:=if d.dO (bx nm)≠0 then d.dO (bx nm)else if(d.E9 nm).2≠0∨bL (d.E9 nm).1≠nm then 7 else 0
def RD.xq(d:RD)(nm:List UInt8):List UInt8:=if d.ic nm=0 then(d.E9 nm).1 else []
theorem jI{d:RD}{nm:List UInt8}(h:d.dO (bx nm)≠0):d.ic nm=d.dO (bx nm):=by unfold RD.ic;rw[if_pos h]
theorem n5{d:RD}{nm:List UInt8}(h:d.dO (bx nm)=0)(h2:(d.E9 nm).2≠0∨bL (d.E9 nm).1≠nm):d.ic nm=7:=by unfold RD.ic;rw[if_neg (fun q=>q h),if_pos h2]
theorem ya{d:RD}{nm:List UInt8}(h:d.dO (bx nm)=0)(h2:¬((d.E9 nm).2≠0∨bL (d.E9 nm).1≠nm)):d.ic nm=0:=by unfold RD.ic;rw[if_neg (fun q=>q h),if_neg h2]
theorem ll{d:RD}{nm:List UInt8}(h:d.ic nm≠0):d.xq nm=[]:=by unfold RD.xq;rw[if_neg h]
theorem yL{d:RD}{nm:List UInt8}(h:d.ic nm=0):d.xq nm=(d.E9 nm).1:=by unfold RD.xq;rw[if_pos h]
def fB:List (RD→RD×Int)→RD→RD×Int
 | [],d=>(d,0)
 |f::r,d=>if(f d).2≠0 then f d else fB r (f d).1
def tS(p b:List UInt8)(d:RD):RD×Int:=(d.write p b,d.bX p b)
def mi(d:RD):RD×Int:=(d.sync,d.dM)
def tb(a c:List UInt8)(d:RD):RD×Int:=(d.rename a c,d.cg a c)
def ek:List UInt8:=List.replicate 32 0
def RD.iX(d:RD)(b:List UInt8):RD×Int:=fB [tS (b6 (bL b)) (cr b),mi,tb (b6 (bL b)) (bx (bL b)),mi] d
def RD.put(d:RD)(b:List UInt8):RD×List UInt8×Int:=
 if 4096<b.length then(d,ek,3)
 else if d.ic (bL b)=6 then(d,ek,6)
 else if d.ic (bL b)=0 then(d,bL b,0)
 else((d.iX b).1,if(d.iX b).2=0 then bL b else ek,(d.iX b).2)
end Go.Proofs.YtmibdabdlgmafaaGreatDoor
end
section
set_option maxRecDepth 20000
set_option maxHeartbeats 2000000
namespace Go.Proofs.YtmibdabdlgmafaaGreatDoor
open Go.Eng Go.Hx
theorem je{a b:List UInt8}(h:a.length+b.length≤1000000):(strOf a).size+(strOf b).size≤9223372036854775807:=by rw[cY,cY];omega
theorem xd{nm:List UInt8}(hm:nm.length=32):b7 Tryz.prog 94 [.agg (aW nm).toArray] [] [] (fun v_ X_ S_=>v_=(.string (strOf (bx nm)))∧X_=[]∧S_=[]):=by
 have hhl:(cq nm).length=64:=by rw[dQ,hm]
 have h2:((cq nm).take 2).length=2:=by rw[List.length_take,hhl];rfl
 refine aM (N:=12) Tryz.func94 rfl rfl (by simp) fun b=> ?_
 refine ae<|ai<| ?_
 refine hx (bu rfl (fun g1=> ?_))
 refine aJ (fun w m=>m.bz 0 rfl (show _=aH g1 53 (aW nm)from congrArg (aH _ _) (aT _))) ?_
 refine aG rfl<|ag<|aj (X' :=[_]) (S' :=[]) (fun _ m=>m)<|ab<|ae<|ai<|hy (fun m=>aQ rfl b5 bp (by rw[ax];exact hm) ((m.aU 0 rfl).au))<| ?_
 refine hx (aq rfl Tryz.call104 (CZ hm) [] rfl [] rfl ?_)
 rintro _ _ _ ⟨rfl,rfl,rfl⟩
 refine aG rfl<|ag<|aB [3,2,1,0] rfl<|aj (X' :=[_]) (S' :=[]) (fun _ m=>m)<|ab<|ae<|ai<|aw rfl<|hy (fun _=>yV (th rfl rfl Tryz.underlying9 (show((2:Nat):Int)=2 from rfl) (show 2≤(cq nm).length by omega)) ((rfl:_=Value.string (strOf ((cq nm).take 2)))))<|hy (fun _=>yV (jx rfl rfl (je (a:=[99,47]) (b:=(cq nm).take 2) (by simp[h2]))) ((show Value.string (strOf [99,47]++strOf ((cq nm).take 2))= .string (strOf ([99,47]++(cq nm).take 2))from congrArg Value.string (dC _ _))))<|hy (fun _=>yV (jx rfl rfl (je (a:=[99,47]++(cq nm).take 2) (b:=[47]) (by simp[h2]))) ((show Value.string (strOf ([99,47]++(cq nm).take 2)++strOf [47])= .string (strOf ([99,47]++(cq nm).take 2++[47]))from congrArg Value.string (dC _ _))))<|aw rfl<|hy (fun _=>yV (jx rfl rfl (je (a:=[99,47]++(cq nm).take 2++[47]) (b:=cq nm) (by simp[h2,hhl]))) ((show Value.string (strOf ([99,47]++(cq nm).take 2++[47])++strOf (cq nm))= .string (strOf (bx nm))from congrArg Value.string (dC _ _))))<|aG rfl<|ag<|aB [2,3,1,0] rfl<|ab<|aV<| ?_
 exact bc trivial rfl rfl [] rfl [] rfl ⟨rfl,rfl,rfl⟩
theorem tI{nm:List UInt8}(hm:nm.length=32):b7 Tryz.prog 29 [.agg (aW nm).toArray] [] [] (fun v_ X_ S_=>v_=(.string (strOf (bx nm)))∧X_=[]∧S_=[]):=by
 have hhl:(cq nm).length=64:=by rw[dQ,hm]
 have h2:((cq nm).take 2).length=2:=by rw[List.length_take,hhl];rfl
 refine aM (N:=12) Tryz.func29 rfl rfl (by simp) fun b=> ?_
 refine ae<|ai<| ?_
 refine hx (bu rfl (fun g1=> ?_))
 refine aJ (fun w m=>m.bz 0 rfl (show _=aH g1 53 (aW nm)from congrArg (aH _ _) (aT _))) ?_
 refine aG rfl<|ag<|aj (X' :=[_]) (S' :=[]) (fun _ m=>m)<|ab<|ae<|ai<|hy (fun m=>aQ rfl b5 bp (by rw[ax];exact hm) ((m.aU 0 rfl).au))<| ?_
 refine hx (aq rfl Tryz.call111 (yj hm) [] rfl [] rfl ?_)
 rintro _ _ _ ⟨rfl,rfl,rfl⟩
 refine aG rfl<|ag<|aB [3,2,1,0] rfl<|aj (X' :=[_]) (S' :=[]) (fun _ m=>m)<|ab<|ae<|ai<|aw rfl<|hy (fun _=>yV (th rfl rfl Tryz.underlying9 (show((2:Nat):Int)=2 from rfl) (show 2≤(cq nm).length by omega)) ((rfl:_=Value.string (strOf ((cq nm).take 2)))))<|hy (fun _=>yV (jx rfl rfl (je (a:=[99,47]) (b:=(cq nm).take 2) (by simp[h2]))) ((show Value.string (strOf [99,47]++strOf ((cq nm).take 2))= .string (strOf ([99,47]++(cq nm).take 2))from congrArg Value.string (dC _ _))))<|hy (fun _=>yV (jx rfl rfl (je (a:=[99,47]++(cq nm).take 2) (b:=[47]) (by simp[h2]))) ((show Value.string (strOf ([99,47]++(cq nm).take 2)++strOf [47])= .string (strOf ([99,47]++(cq nm).take 2++[47]))from congrArg Value.string (dC _ _))))<|aw rfl<|hy (fun _=>yV (jx rfl rfl (je (a:=[99,47]++(cq nm).take 2++[47]) (b:=cq nm) (by simp[h2,hhl]))) ((show Value.string (strOf ([99,47]++(cq nm).take 2++[47])++strOf (cq nm))= .string (strOf (bx nm))from congrArg Value.string (dC _ _))))<|aG rfl<|ag<|aB [2,3,1,0] rfl<|ab<|aV<| ?_
 exact bc trivial rfl rfl [] rfl [] rfl ⟨rfl,rfl,rfl⟩
end Go.Proofs.YtmibdabdlgmafaaGreatDoor
end
section
set_option maxRecDepth 20000
namespace Go.Proofs.YtmibdabdlgmafaaGreatDoor
open Go.Eng Go.Hx
theorem F2{g:Nat}{st:da}{d:RD}{kk:Nat}{p:List UInt8}(hD:DS st d kk):b7 Tryz.prog 90 [.pointer (some ⟨g,0,none⟩),.string (strOf p)] [bF g st] [] (fun v_ X_ S_=>∃v,v_=(.tuple #[v,.int .i64 (d.dO p)])∧X_=[bF g st,aK 5 1 v (d.cS p).length (aW (d.cS p))]∧S_=[]):=by
 rw[hD.dO,hD.cS]
 exact JD hD.ok.sm
theorem EW{g:Nat}{st:da}{d:RD}{kk:Nat}{p:List UInt8}{A:Option Addr}{n c:Nat}{l:List UInt8}(hD:DS st d kk)(hkk:kk≤99000)(hl:l.length=n)(hn:n≤1048576):b7 Tryz.prog 33 [.pointer (some ⟨g,0,none⟩),.string (strOf p),.slice A n c] [bF g st] [cL 1 A n (aW l)] (fun v_ X_ S_=>∃st1,v_=(.int .i64 (d.bX p l))∧X_=[bF g st1]∧S_=[]∧(DS st1 (d.write p l) (kk+1))):=by
 exact b7.mono (F8 hD.ok (by omega) hn) (fun v X S h=>by
  obtain⟨st1,B,c1,A1,c2,h1,h2,h3,hw⟩:=h
  have hW:=hD.write hl hn hw
  exact⟨st1,by rw[hW.2];exact h1,h2,h3,hW.1⟩)
theorem GX{g:Nat}{st:da}{d:RD}{kk:Nat}(hD:DS st d kk):b7 Tryz.prog 110 [.pointer (some ⟨g,0,none⟩)] [bF g st] [] (fun v_ X_ S_=>∃st1,v_=(.int .i64 d.dM)∧X_=[bF g st1]∧S_=[]∧(DS st1 d.sync kk)):=by
 exact b7.mono (I7 hD.ok) (fun v X S h=>by
  obtain⟨st1,gl,h1,h2,h3,hw⟩:=h
  have hW:=hD.sync hw
  exact⟨st1,by rw[hW.2];exact h1,h2,h3,hW.1⟩)
theorem CB{g:Nat}{st:da}{d:RD}{kk:Nat}{a c:List UInt8}(hD:DS st d kk)(hkk:kk≤99000):b7 Tryz.prog 108 [.pointer (some ⟨g,0,none⟩),.string (strOf a),.string (strOf c)] [bF g st] [] (fun v_ X_ S_=>∃st1,v_=(.int .i64 (d.cg a c))∧X_=[bF g st1]∧S_=[]∧(DS st1 (d.rename a c) (kk+1))):=by
 exact b7.mono (DA hD.ok (by omega)) (fun v X S h=>by
  obtain⟨st1,A,j,h1,h2,h3,hw⟩:=h
  have hW:=hD.rename hw
  exact⟨st1,by rw[hW.2];exact h1,h2,h3,hW.1⟩)
theorem DS.wi{st:da}{d:RD}{kk:Nat}(h:DS st d kk)(p:List UInt8):(d.cS p).length≤1048576:=by
 rw[h.cS]
 by_cases he:eJ st p=0
 ·obtain⟨r,hr⟩:=vf he
  rw[vb he hr]
  have h1:=h.ok.small r (List.mem_append_left _ (List.mem_append_left _ (List.mem_map.2 ⟨_,jR hr,rfl⟩)))
  have h2:r.n=r.l.length:=h.pJ.files.len _ (jR hr)
  omega
 ·rw[vN he];exact Nat.zero_le _
end Go.Proofs.YtmibdabdlgmafaaGreatDoor
end
section
set_option maxRecDepth 20000
namespace Go.Proofs.YtmibdabdlgmafaaGreatDoor
open Go.Eng Go.Hx
theorem Rd.part{w:World}{a:Addr}{n k m:Nat}{B:List UInt8}(h:Rd w 1 (some a) n (aW B)):∀(j:Nat) (u:Value),(aW ((B.drop k).take m))[j]? =some u→w.cell? ((a.add k).add j)=some u:=by
 intro j u hu
 rw[add_add]
 refine h.cell ?_
 unfold aW at hu ⊢
 rw[List.getElem?_map,List.getElem?_take]at hu
 rw[List.getElem?_map]
 split at hu
 ·rw[List.getElem?_drop]at hu;exact hu
 ·simp at hu
end Go.Proofs.YtmibdabdlgmafaaGreatDoor
end
section
namespace Go.Eng
open Go.RowKit
abbrev Ij(v:Value):List PanicEntry:=[{v,recovered:=false}]
def RE(b:ct)(R Rp:Value→List bl→List bl→Prop):Ending→World→Prop:=fun e w' =>
 (∃v X' S',e= .returned v∧R v X' S' ∧Mem b X' S' w')∨(∃v X' S',e= .panicked (Ij v)∧Rp v X' S' ∧Mem b X' S' w')
def F7(P:Program)(f:Nat)(args:List Value)(X0 S0:List bl)(R Rp:Value→List bl→List bl→Prop):Prop:=
 ∀w,Mem ⟨w,dp X0,dp S0⟩ X0 S0 w→Calls P f args.toArray w (RE ⟨w,dp X0,dp S0⟩ R Rp)
section
variable{P:Program}{Q:Exit→Act→World→Prop}{N:Nat}{D:List Deferred}{ρ:Env}{b:ct}{X X' X0 Xr S S' S0:List bl}{ty:TypeId}{x:Operand}{K:Value→List bl→List bl→Prop}
theorem Dn{w:World}{K:Value→World→Prop}{f:Nat}{l:List Operand}{vs:List Value}{tys:Array TypeId}{R:Ending→World→Prop}(hv:oe ρ l=some vs)(hf:∀args w,(callFunc f args).run P w= .ok (.enter f args) w)
  (hc:Calls P f vs.toArray w R) (hR:∀e w',R e w' →(∃v,e= .returned v∧K v w')∨∃c,e= .panicked c∧WQ Q N D (.panic c) ρ w'):XW P Q N D ρ w (.call ⟨.value (.func f),l.toArray,tys⟩) ty K:=by
 intro a dst pos af g ha
 unfold Oper.wp
 have:(execOp a.eval ⟨dst,.call ⟨.value (.func f),l.toArray,tys⟩,ty,pos,af,g⟩).run P w= .ok (.enter f vs.toArray) w:=by
  simp[execOp,resolve,Deferred.ofValue,Act.eval,invoke,ha.ik hv,hf]
 rw[this]
 refine Calls.mono hc ?_
 intro e w' he
 rcases hR e w' he with⟨v,rfl,hk⟩|⟨c,rfl,hk⟩
 ·exact⟨v,rfl,hk⟩
 ·exact hk a ha
theorem gZ{f:Nat}{l:List Operand}{vs:List Value}{tys:Array TypeId}{R Rp:Value→List bl→List bl→Prop}(hv:oe ρ l=some vs)(hf:∀args w,(callFunc f args).run P w= .ok (.enter f args) w)
  (hc:F7 P f vs X0 S0 R Rp) (is:List Nat) (hX:bT is X=some (X0,Xr)) (js:List Nat) (hS:dy js S=some S0)
  (kp:∀v X' S',Rp v X' S' →HQ Q N D (.panic (Ij v)) ρ b (X' ++Xr) (S' ++S)) (k:∀v X' S',R v X' S' →K v (X' ++Xr) (S' ++S)):XH P Q N D ρ b X S (.call ⟨.value (.func f),l.toArray,tys⟩) ty K:=fun w m=>by
 have m1:=m.perm (ar _ _ _ _ hX)
 refine Dn hv hf (hc w (m1.part (cm _ _ _ hS))) ?_
 rintro e w' (⟨v,X',S',rfl,hR,m'⟩|⟨v,X',S',rfl,hR,m'⟩)
 ·exact .inl ⟨v,rfl,_,_,m1.frame (cm _ _ _ hS) m',k v X' S' hR⟩
 ·exact .inr ⟨_,rfl,kp v X' S' hR w' (m1.frame (cm _ _ _ hS) m')⟩
theorem eA{K:Act→World→Prop}{c:List PanicEntry}(h:HQ Q N D (.panic c) ρ b X S):HQ (Exit.then K Q) N D (.panic c) ρ b X S:=h
end
theorem D8{P:Program}{f:Nat}{fn:Func}{c:Code}{vs:List Value}{R Rp:Value→List bl→List bl→Prop}{N:Nat}{X0 S0:List bl}(hf:P.funcs[f]? =some fn)(hb:fn.body=some c)(hN:fn.ntmps=N)(hl:vs.length≤N)
  (h:∀b,HC P (bodyPost P fn (RE b R Rp)) N [] c (gh vs 0) b X0 S0):F7 P f vs X0 S0 R Rp:=fun w m=>enter hf hb hN hl (h _ w m)
section
variable{P:Program}{fn:Func}{R Rp:Value→List bl→List bl→Prop}{N:Nat}{D:List Deferred}{ρ:Env}{b:ct}{X X' Xz Xr X0 S S' S0:List bl}{e:Exit}{u:FrameMode}
theorem rD{R1 R2:Ending→World→Prop}(h:∀e w,R1 e w→R2 e w):∀e a w,bodyPost P fn R1 e a w→bodyPost P fn R2 e a w
 | .normal,a,w,⟨h1,v,h2,h3⟩=>⟨h1,v,h2,h _ _ h3⟩
 | .ret,a,w,⟨h1,v,h2,h3⟩=>⟨h1,v,h2,h _ _ h3⟩
 | .panic c,a,w,⟨h1,h2⟩=>⟨h1,h _ _ h2⟩
 | .outgrown,a,w,h1=>h _ _ h1
 | .exit _,a,w,h1=>h1.elim
 | .goto _,a,w,h1=>h1.elim
theorem IF(h:HQ (bodyPost P fn (RB b R)) N D e ρ b X S):HQ (bodyPost P fn (RE b R Rp)) N D e ρ b X S:=fun w m a ha=>
 rD (fun e w h=>by obtain⟨v,X',S',h1,h2,h3⟩:=h;exact .inl ⟨v,X',S',h1,h2,h3⟩) _ _ _ (h w m a ha)
theorem IW{v:Value}(is:List Nat)(hX:bT is X=some (X',Xz))(js:List Nat)(hS:dy js S=some S')(hR:Rp v X' S'):HQ (bodyPost P fn (RE b R Rp)) N [] (.panic (Ij v)) ρ b X S:=fun w m a ha=>
 ⟨ha.df,.inr ⟨v,X',S',rfl,hR,m.out is hX js hS⟩⟩
theorem yr{t t' t'' sz:Nat}{ty:TypeId}{p:Addr}{cs:List Value}{v' v'' :Value}(he:Leaves e)(hr:fn.results= #[.cell t ty,.tmp t',.tmp t''])(hv:get ρ t=some (.pointer (some p)))(hv' :get ρ t' =some v')(hv'' :get ρ t'' =some v'')(ha:c7 P ty=some true)(hs:fo P ty=some sz)(hl:cs.length=sz)
  (hc:∀{w},Mem b X S w→∀j u,cs[j]? =some u→w.cell? (p.add j)=some u) (is:List Nat) (hX:bT is X=some (X',Xz)) (js:List Nat) (hS:dy js S=some S') (hR:R (.tuple #[.agg cs.toArray,v',v'']) X' S'):HQ (bodyPost P fn (RB b R)) N [] e ρ b X S:=
 fun w m=>gW he (fun a hA=>by have h1:=hA.getD hv;have h2:=hA.getD hv';have h3:=hA.getD hv'';simp at h1 h2 h3;simp[results,hr,h1,h2,h3,asAddr,jN ha hs hl (hc m)]) ⟨_,_,_,rfl,hR,m.out is hX js hS⟩
def Hs(P:Program)(fn:Func)(b:ct)(R:Value→List bl→List bl→Prop)(N:Nat)(D:List Deferred)(ρ:Env)(X S:List bl)(u:FrameMode):Prop:=∀w,Mem b X S w→∀tmps:Array Value,(∀t v,get ρ t=some v→tmps[t]? =some v)→Go.Leaves P fn tmps (RB b R) D u w
theorem yc(he:Leaves e)(h:Hs P fn b R N D ρ X S .returning):HQ (bodyPostD P fn (RB b R)) N D e ρ b X S:=A6 he h
theorem jc{c:List PanicEntry}(h:Hs P fn b R N D ρ X S (.panicking c)):HQ (bodyPostD P fn (RB b R)) N D (.panic c) ρ b X S:=fun w m a ha=>by
 have:=h w m a.tmps ha.gt
 show Go.Leaves P fn a.tmps (RB b R) a.defers (.panicking c) w
 rw[ha.df]
 exact this
def Dc(P:Program)(f:Nat)(args:List Value)(u:FrameMode)(X0 S0:List bl)(R:FrameMode→List bl→List bl→Prop):Prop:=
 ∀w,Mem ⟨w,dp X0,dp S0⟩ X0 S0 w→CallsD P f args.toArray u w fun e u' w' =>e= .returned (.tuple #[])∧∃X' S',R (settle u') X' S' ∧Mem ⟨w,dp X0,dp S0⟩ X' S' w'
theorem mR{f:Nat}{vs cap:List Value}{Rd:FrameMode→List bl→List bl→Prop}(hu:u≠ .run)(hcall:∀args w,(callFunc f args).run P w= .ok (.enter f args) w)(hc:Dc P f (vs++cap) u X0 S0 Rd)(is:List Nat)(hX:bT is X=some (X0,Xr))(js:List Nat)(hS:dy js S=some S0)
  (k:∀u' X' S',Rd u' X' S' →Hs P fn b R N D ρ (X' ++Xr) (S' ++S) u'):Hs P fn b R N (⟨.fn (.func f) cap.toArray,vs.toArray⟩::D) ρ X S u:=fun w m tmps ht=>by
 have m1:=m.perm (ar _ _ _ _ hX)
 refine leaves_cons (f:=f) (args:=(vs++cap).toArray) hu ?_ ?_
 ·simp[invoke,hcall]
 ·refine CallsD.mono (hc w (m1.part (cm _ _ _ hS))) ?_
  rintro e u' w' ⟨rfl,X',S',hR,m'⟩
  exact k _ _ _ hR w' (m1.frame (cm _ _ _ hS) m') tmps ht
end
section
variable{P:Program}{ops:Array Oper}{fn:Func}{N:Nat}{D:List Deferred}{ρ ρ' :Env}{w:World}{c₀:Frame}{cs:List Frame}{R:Ending→FrameMode→World→Prop}{Q:Exit→Act→List Frame→World→Prop}{op:Op}{ty:TypeId}{pos:String}{af:Array Edge}{d:Nat}{v:Value}{rest:List Nat}{u:FrameMode}
def SL(P:Program)(ops:Array Oper)(Q:Exit→Act→List Frame→World→Prop)(N:Nat)(D:List Deferred)(l:List Nat)(ρ:Env)(cs:List Frame)(w:World):Prop:=∀a,Ag N D ρ a→wpOpsS P ops Q l a cs w
theorem JO{i:Nat}(ho:ops[i]? =some ⟨some d,op,ty,pos,af,none⟩)(h:Yl P N D ρ w op ty v)(k:SL P ops Q N D rest ((d,v)::ρ) cs w)(hd:d<N:=by decide):SL P ops Q N D (i::rest) ρ cs w:=fun a ha=>by
 simp only[wpOpsS,ho]
 rw[if_pos (by simp[Region.wanted]),h a (some d) pos af none ha]
 exact k _ (ha.put hd)
theorem GG{i:Nat}{tys:Array TypeId}{pv:Value}{older:List PanicEntry}(ho:ops[i]? =some ⟨some d,.call ⟨.builtin .recover, #[],tys⟩,ty,pos,af,none⟩)(hu:c₀.mode= .panicking ({v:=pv,recovered:=false}::older))
  (k:SL P ops Q N D rest ((d,pv)::ρ) ({c₀ with mode:=.panicking ({v:=pv,recovered:=true}::older)}::cs) w) (hd:d<N:=by decide):SL P ops Q N D (i::rest) ρ (c₀::cs) w:=fun a ha=>by
 have hr:(execOp a.eval ⟨some d,.call ⟨.builtin .recover, #[],tys⟩,ty,pos,af,none⟩).run P w= .ok .recover w:=by
  simp[execOp,resolve,invoke,builtin]
 have h2:recoverD (c₀::cs)=some (pv,{c₀ with mode:=.panicking ({v:=pv,recovered:=true}::older)}::cs):=by simp[recoverD,hu]
 simp only[wpOpsS,ho]
 rw[if_pos (by simp[Region.wanted]),hr]
 simp only[h2]
 exact k _ (ha.put hd)
theorem DI{i:Nat}{tys:Array TypeId}(ho:ops[i]? =some ⟨some d,.call ⟨.builtin .recover, #[],tys⟩,ty,pos,af,none⟩)(hu:c₀.mode= .returning)
  (k:SL P ops Q N D rest ((d,.nilIface)::ρ) (c₀::cs) w) (hd:d<N:=by decide):SL P ops Q N D (i::rest) ρ (c₀::cs) w:=fun a ha=>by
 have hr:(execOp a.eval ⟨some d,.call ⟨.builtin .recover, #[],tys⟩,ty,pos,af,none⟩).run P w= .ok .recover w:=by
  simp[execOp,resolve,invoke,builtin]
 have h2:recoverD (c₀::cs)=none:=by simp[recoverD,hu]
 simp only[wpOpsS,ho]
 rw[if_pos (by simp[Region.wanted]),hr]
 simp only[h2]
 exact k _ (ha.put hd)
theorem Gp{c:Code}{a:Act}{b:ct}{X S:List bl}{R0:Ending→World→Prop}(m:Mem b X S w)(h:HC P (bodyPost P fn R0) N [] c ρ b X S)(ha:Ag N [] ρ a)(hR:∀e w',R0 e w' →∃v,e= .returned v∧R (.returned v) u w'):c.wpS P (bodyPostS P fn c₀ cs R) a ({c₀ with mode:=u}::cs) w:=by
 refine wpS_of_wp (wp_mono (h w m a ha) ?_)
 intro e a' w' hb
 cases e with
 |normal=>
  obtain⟨h1,v,h2,h3⟩:=hb
  obtain⟨v',hv,h4⟩:=hR _ _ h3
  cases hv
  exact⟨h1,u,rfl,v,h2,h4⟩
 |ret=>
  obtain⟨h1,v,h2,h3⟩:=hb
  obtain⟨v',hv,h4⟩:=hR _ _ h3
  cases hv
  exact⟨h1,u,rfl,v,h2,h4⟩
 |panic c=>
  obtain⟨h1,h2⟩:=hb
  obtain⟨v',hv,h4⟩:=hR _ _ h2
  cases hv
 |outgrown=>
  obtain⟨v',hv,h4⟩:=hR _ _ hb
  cases hv
 |exit id=>exact hb.elim
 |goto l=>exact hb.elim
end
end Go.Eng
end
section
namespace Go.Eng
open Go.RowKit
def rO(ds:List Nat)(a a' :Act):Prop:=a'.defers=a.defers∧a'.tmps.size=a.tmps.size∧∀t:Nat,t∉ds→a'.tmps[t]? =a.tmps[t]?
theorem rO.refl(ds:List Nat)(a:Act):rO ds a a:=⟨rfl,rfl,fun _ _=>rfl⟩
theorem rO.put{ds:List Nat}{a a' :Act}{d:Nat}{v:Value}(hd:d∈ds)(h:rO ds a a'):rO ds (a.put (some d) v) a' :=by
 obtain⟨h1,h2,h3⟩:=h
 refine⟨h1,by rw[h2];simp[Act.put],fun t ht=> ?_⟩
 rw[h3 t ht]
 have hne:d≠t:=fun e=>ht (e▸hd)
 simp only[Act.put]
 rw[Array.getElem?_setIfInBounds_ne hne]
def Ch(ds:List Nat)(Q:Exit→Act→World→Prop):Exit→Act→World→Prop
 | .panic c,a,w=>∀a',rO ds a a' →Q (.panic c) a' w
 | .outgrown,_,_=>False
 |e,a,w=>Q e a w
section
variable{P:Program}{ops:Array Oper}{Q:Exit→Act→World→Prop}
theorem jh{T:Nat→World→Prop}{X:List Nat}(hs:Region.noSelect ops=true)(hQ:∀(i:Nat) (o:Oper),ops[i]? =some o→∀c a v w,Q (.panic c) (a.put o.dst v) w→Q (.panic c) a w):∀(L:List (Nat×Option Nat)) (sq:List (Option Nat×Oper)) (l:Array Bool) (a:Act) (w:World) (n k:Nat),
  iG ops L=some sq→eM ops X L l=true→L.length≤n→Kept ops l→jw X l=k→T k w→fF P ops Q T k sq a w→DT P ops Q (fun l w=>T (jw X l) w) n l a w
 | [],sq,l,a,w,n,k,hp,hk,_,_,_,_,h=>by
  simp only[iG,Option.some.injEq]at hp
  subst hp
  have hr:Region.ready .any ops l=[]:=by simpa[eM]using hk
  cases n with
  |zero=>exact⟨hr,h⟩
  |succ n=>exact⟨fun _=>h,by rw[hr];simp⟩
 |(i,x)::r,sq,l,a,w,0,k,hp,hk,hf,_,_,_,h=>by simp at hf
 |(i,x)::r,sq,l,a,w,n+1,k,hp,hk,hf,hK,hc,hT,h=>by
  unfold iG at hp
  split at hp
  ·rename_i o l' ho hl'
   cases hp
   have hf' :r.length≤n:=by simp at hf;omega
   cases x with
   |none=>
    simp only[eM,Bool.and_eq_true,beq_iff_eq]at hk
    obtain⟨⟨hrd,hct⟩,hk⟩:=hk
    have hmem:i∈Region.ready .any ops l:=by rw[hrd];simp
    have hcs:jw X (l.setIfInBounds i true)=k+1:=by rw[sR (mem_ready.1 hmem).1,hct,hc]
    have hK' :=hK.set hmem
    refine⟨fun h0=>(by rw[h0]at hmem;cases hmem),fun j hj=> ?_⟩
    have hji:j=i:=by rw[hrd]at hj;simpa using hj
    subst hji
    unfold wpOp
    simp only[ho]
    simp only[fF]at h
    split at h
    ·rename_i hw
     rw[if_pos hw]
     refine .inl (Oper.wp_mono ?_ h)
     rintro a' w' ⟨hS',h'⟩
     exact⟨by rw[hcs];exact hS',jh hs hQ r l' _ a' w' n (k+1) hl' hk hf' hK' hcs hS' h'⟩
    ·rename_i hw
     rw[if_neg hw]
     exact⟨by rw[hcs];exact h.1,jh hs hQ r l' _ _ w n (k+1) hl' hk hf' hK' hcs h.1 h.2⟩
   |some m=>
    simp only[eM,Bool.and_eq_true,Bool.not_eq_true']at hk
    obtain⟨⟨⟨⟨hfree,hcon⟩,hX⟩,hcap⟩,hk⟩:=hk
    obtain⟨v,hy,h'⟩:=h
    have hmem:i∈Region.ready .any ops l:=by simpa using hcon
    have hcs:jw X (l.setIfInBounds i true)=k:=by rw[oE hX,hc]
    refine oM ho (Region.noSelect_spec hs) (fun c a w=>hQ i o ho c a _ w) (fun l' =>Kept ops l' ∧∀q,l.getD q false=true→l'.getD q false=true) (fun l' j hR hj=>⟨hR.1.set hj,fun q hq=>getD_set_true (hR.2 q hq)⟩)
     (fun l' w' =>by rw[oE hX]) n l a w (Region.free_spec ho hfree) hmem ?_ ⟨hK,fun q hq=>hq⟩ (by rw[hc];exact hT) (jh hs hQ r l' _ _ w n k hl' hk hf' (hK.set hmem) hcs hT h')
    rcases hy with⟨hw,hv⟩|hy
    ·refine .inl ⟨hw,fun w' hw' =>hv w' ?_⟩
     obtain⟨l2,⟨hK2,kE⟩,hun,hT2⟩:=hw'
     exact⟨jw X l2,by rw[←hc];exact rn kE,tV hK2 hun hcap,hT2⟩
    ·exact .inr hy
  ·cases hp
theorem rl{T:Nat→World→Prop}{X ds:List Nat}{id:Nat}{a:Act}{w:World}{sq:List (Option Nat×Oper)}(L:List (Nat×Option Nat))(hds:ops.all (fun o=>match o.dst with|some d=>ds.contains d|none=>true)=true)(hm:P.follows .mixedOrders=true)(hs:Region.noSelect ops=true)(hk:eM ops X L (Array.replicate ops.size false)=true)(hn:L.length≤ops.size)
  (hp:iG ops L=some sq) (hT:T 0 w.drew) (h:fF P ops (Ch ds Q) T 0 sq a w.drew):(Code.region id ops true).wp P Q a w:=by
 refine Code.wp_mono (Q:=Ch ds Q) (fun e a w q=>by cases e <;> first|exact q|exact q.elim|exact q a (.refl _ _)) ?_
 refine wp_region_any hm (fb _ _ _ _ (jh (X:=X) hs (fun i o ho c a v w q a' ha' => ?_) L sq _ a _ _ 0 hp hk hn ?_ ?_ hT h))
 ·have hmem:o∈ops:=by
   obtain⟨hi,he⟩:=Array.getElem?_eq_some_iff.1 ho
   exact he▸Array.getElem_mem hi
  have:=Array.all_eq_true_iff_forall_mem.1 hds o hmem
  cases hd:o.dst with
  |none=>rw[hd]at q;exact q a' ha'
  |some d=>
   rw[hd]at this q
   exact q a' (ha'.put (by simpa using this))
 ·intro j hj
  simp[Array.getElem?_replicate]at hj
  split at hj <;> cases hj
 ·unfold jw
  rw[List.countP_eq_zero]
  intro x _
  simp[Array.getElem?_replicate]
  split <;> rfl
end
def ES(ds:List Nat)(ρ:Env):Env:=ρ.filter fun p=> !ds.contains p.1
theorem qX{ds:List Nat}:∀{ρ:Env} {t:Nat} {v:Value},get (ES ds ρ) t=some v→t∉ds∧get ρ t=some v
 | [],t,v,h=>by simp[ES,get]at h
 |(t0,v0)::ρ,t,v,h=>by
  unfold ES at h
  rw[List.filter_cons]at h
  by_cases hc:ds.contains t0=true
  ·rw[if_neg (by simpa using hc)]at h
   obtain⟨h1,h2⟩:=qX (ρ:=ρ) h
   refine⟨h1, ?_⟩
   have hne:t0≠t:=fun e=>h1 (by rw[←e];simpa using hc)
   simp only[get]
   have hbf:Nat.beq t0 t=false:=by
    cases hb:Nat.beq t0 t with
    |true=>exact absurd (Nat.eq_of_beq_eq_true hb) hne
    |false=>rfl
   rw[hbf]
   exact h2
  ·rw[if_pos (by simpa using hc)]at h
   simp only[get]at h ⊢
   cases hb:Nat.beq t0 t with
   |true=>
    rw[hb]at h
    have:t0=t:=Nat.eq_of_beq_eq_true hb
    subst this
    exact⟨by simpa using hc,h⟩
   |false=>
    rw[hb]at h
    exact qX (ρ:=ρ) h
section
variable{P:Program}{ops:Array Oper}{Q:Exit→Act→World→Prop}{N:Nat}{D:List Deferred}{ρ ρ' :Env}{b:ct}{X X' X0 Xr S S' S0 X1 S1:List bl}{k c:Nat}{ds:List Nat}
theorem CQ{id:Nat}{l:List (Option Nat×Oper)}(ds:List Nat)(is js:List Nat)(hX:bT is X=some (X1,Xr))(hS:dy js S=some S1)(Xs:List Nat)(L:List (Nat×Option Nat))(hm:P.follows .mixedOrders=true)
  (hk:(Region.noSelect ops && eM ops Xs L (Array.replicate ops.size false) && decide (L.length≤ops.size))=true) (hds:ops.all (fun o=>match o.dst with|some d=>ds.contains d|none=>true)=true)
  (hp:iG ops L=some l) (c:Nat) (h:HT P ops (Ch ds Q) (TT b X1 S1 c) N D 0 l ρ b X S):HC P Q N D (.region id ops true) ρ b X S:=fun w m a ha=>by
 simp only[Bool.and_eq_true,decide_eq_true_eq]at hk
 exact rl (X:=Xs) L hds hm hk.1.1 hk.1.2 hk.2 hp (fun _=>(wk is js hX hS).mem (m.lift (Fr.drew w))) (h _ (m.lift (Fr.drew w)) a ha)
theorem CK{T:Nat→World→Prop}(h:HQ Q N D .normal ρ b X S):HT P ops (Ch ds Q) T N D k [] ρ b X S:=fun w m a ha=>h w m a ha
theorem FE{e:List PanicEntry}(h:HQ Q N D (.panic e) (ES ds ρ) b X S):HQ (Ch ds Q) N D (.panic e) ρ b X S:=fun w m a ha a' hag=>by
 obtain⟨h1,h2,h3⟩:=hag
 refine h w m a' ⟨by rw[h2];exact ha.sz,by rw[h1];exact ha.df,fun t v ht=> ?_⟩
 obtain⟨h4,h5⟩:=qX ht
 rw[h3 t h4]
 exact ha.gt t v h5
end
section
variable{P:Program}{ops:Array Oper}{fn:Func}{Q:Exit→Act→List Frame→World→Prop}{N:Nat}{D:List Deferred}{ρ:Env}{b:ct}{X X' S S' :List bl}{cs:List Frame}{c₀:Frame}{rest:List Nat}{op:Op}{ty:TypeId}{pos:String}{af:Array Edge}{d i:Nat}{v:Value}
def v8(P:Program)(ops:Array Oper)(Q:Exit→Act→List Frame→World→Prop)(N:Nat)(D:List Deferred)(l:List Nat)(ρ:Env)(cs:List Frame)(b:ct)(X S:List bl):Prop:=∀w,Mem b X S w→SL P ops Q N D l ρ cs w
theorem oQ{o:Oper}{a:Act}{w:World}(ho:ops[i]? =some o)(hw:Region.wanted o (yielded ops a.tmps)=true)(h:o.wp P a w (fun a' w' =>wpOpsS P ops Q rest a' cs w') (fun e a' w' =>Q e a' cs w')):wpOpsS P ops Q (i::rest) a cs w:=by
 simp only[wpOpsS,ho]
 rw[if_pos hw]
 unfold Oper.wp at h
 split
 ·rename_i w' hr
  rw[hr]at h
  exact h.elim
 ·exact h
theorem lZ(ho:ops[i]? =some ⟨some d,op,ty,pos,af,none⟩)(h:∀{w},Mem b X S w→Yl P N D ρ w op ty v)(k:v8 P ops Q N D rest ((d,v)::ρ) cs b X S)(hd:d<N:=by decide):v8 P ops Q N D (i::rest) ρ cs b X S:=fun w m=>JO ho (h m) (k w m) hd
theorem FD(ho:ops[i]? =some ⟨some d,op,ty,pos,af,none⟩)(h:XH P (fun e a w=>Q e a cs w) N D ρ b X S op ty fun v X' S' =>v8 P ops Q N D rest ((d,v)::ρ) cs b X' S')(hd:d<N:=by decide):v8 P ops Q N D (i::rest) ρ cs b X S:=fun w m a ha=>by
 refine oQ ho (by simp[Region.wanted]) (Oper.wp_mono ?_ (h w m a (some d) pos af none ha))
 rintro a' w' ⟨v,rfl,X',S',m',hk⟩
 exact hk w' m' _ (ha.put hd)
theorem BQ(ho:ops[i]? =some ⟨none,op,ty,pos,af,none⟩)(h:XH P (fun e a w=>Q e a cs w) N D ρ b X S op ty fun _ X' S' =>v8 P ops Q N D rest ρ cs b X' S'):v8 P ops Q N D (i::rest) ρ cs b X S:=fun w m a ha=>by
 refine oQ ho (by simp[Region.wanted]) (Oper.wp_mono ?_ (h w m a none pos af none ha))
 rintro a' w' ⟨v,rfl,X',S',m',hk⟩
 exact hk w' m' _ ha
theorem EZ{tys:Array TypeId}{pv:Value}{older:List PanicEntry}(ho:ops[i]? =some ⟨some d,.call ⟨.builtin .recover, #[],tys⟩,ty,pos,af,none⟩)(hu:c₀.mode= .panicking ({v:=pv,recovered:=false}::older))
  (k:v8 P ops Q N D rest ((d,pv)::ρ) ({c₀ with mode:=.panicking ({v:=pv,recovered:=true}::older)}::cs) b X S) (hd:d<N:=by decide):v8 P ops Q N D (i::rest) ρ (c₀::cs) b X S:=fun w m=>GG ho hu (k w m) hd
theorem BV{tys:Array TypeId}(ho:ops[i]? =some ⟨some d,.call ⟨.builtin .recover, #[],tys⟩,ty,pos,af,none⟩)(hu:c₀.mode= .returning)(k:v8 P ops Q N D rest ((d,.nilIface)::ρ) ({c₀ with mode:=.returning}::cs) b X S)(hd:d<N:=by decide):v8 P ops Q N D (i::rest) ρ (c₀::cs) b X S:=fun w m=>
 DI ho hu (by have:=k w m;rwa [show({c₀ with mode:=FrameMode.returning}:Frame)=c₀ by cases c₀;simp_all]at this) hd
theorem HG{l:List Nat}(h:∀w,Mem b X S w→Mem b X' S' w)(k:v8 P ops Q N D l ρ cs b X' S'):v8 P ops Q N D l ρ cs b X S:=fun w m=>k w (h w m)
def Kv(b:ct)(R:FrameMode→List bl→List bl→Prop):Ending→FrameMode→World→Prop:=fun e u' w' =>e= .returned (.tuple #[])∧∃X' S',R (settle u') X' S' ∧Mem b X' S' w'
def QD(P:Program)(fn:Func)(c₀:Frame)(cs:List Frame)(b:ct)(R:FrameMode→List bl→List bl→Prop)(c2:Code):Exit→Act→List Frame→World→Prop:=Exit.thenS (fun a cs' w=>c2.wpS P (bodyPostS P fn c₀ cs (Kv b R)) a cs' w) (bodyPostS P fn c₀ cs (Kv b R))
theorem vZ{R:FrameMode→List bl→List bl→Prop}{c2:Code}{u2:FrameMode}(h:HC P (bodyPost P fn (RB b fun v X S=>v= .tuple #[]∧R (settle u2) X S)) N [] c2 ρ b X S):v8 P ops (QD P fn c₀ cs b R c2) N [] [] ρ ({c₀ with mode:=u2}::cs) b X S:=fun w m a ha=>by
 refine Gp m h ha ?_
 rintro e w' ⟨v,X',S',rfl,⟨rfl,hR⟩,m'⟩
 exact⟨_,rfl,rfl,X',S',hR,m'⟩
end
theorem xM{P:Program}{f:Nat}{fn:Func}{id:Nat}{ops:Array Oper}{c2:Code}{vs:List Value}{u:FrameMode}{N:Nat}{X0 S0:List bl}{R:FrameMode→List bl→List bl→Prop}(hf:P.funcs[f]? =some fn)(hb:fn.body=some (.seq (.region id ops false) c2))(hN:fn.ntmps=N)(hl:vs.length≤N)
  (h:∀(b:ct) (c₀:Frame) (cs:List Frame),c₀.mode=u→v8 P ops (QD P fn c₀ cs b R c2) N [] (List.range ops.size) (gh vs 0) (c₀::cs) b X0 S0):Dc P f vs u X0 S0 R:=fun w m=>by
 refine callsD_of_wpS hf hb fun c₀ cs hu=> ?_
 refine wpS_seq (wpS_region ?_)
 refine h _ c₀ cs hu w m _ ⟨?_,rfl,fun t v ht=> ?_⟩
 ·simp[hN];omega
 ·obtain⟨_,h2⟩:=gY vs 0 t v ht
  have hlt:=(List.getElem?_eq_some_iff.1 h2).1
  rw[Array.getElem?_append_left (by simpa using hlt)]
  simpa using h2
section
variable{P:Program}{Q:Exit→Act→World→Prop}{N:Nat}{D:List Deferred}{ρ:Env}{b:ct}{X S:List bl}{ty t:TypeId}{x:Operand}{v:Value}{K:Value→List bl→List bl→Prop}
theorem Aa(hx:ev ρ x=some (.iface t v))(h:HQ Q N D (.panic (Ij (.iface t v))) ρ b X S):XH P Q N D ρ b X S (.panic x) ty K:=fun w m a dst pos af g ha=>by
 unfold Oper.wp
 have:(execOp a.eval ⟨dst,.panic x,ty,pos,af,g⟩).run P w= .halt (.panic (.iface t v)) w:=by
  simp[execOp,ha.eval hx,Instr.panic,goPanic]
 rw[this]
 exact h w m a ha
theorem Cx{fs:Array Field}{xT:TypeId}{w:World}(ht:P.underlying t=some (.struct fs)):(Instr.typeAssert (.iface t v) xT t true).run P w= .ok (.tuple #[v,.bool true]) w:=by
 simp[Instr.typeAssert,run_underlying ht]
theorem B7{fs:Array Field}{xT:TypeId}{w:World}{z:Value}{sz bytes:Nat}(ht:P.underlying t=some (.struct fs))(hT:TI P t z sz bytes):(Instr.typeAssert .nilIface xT t true).run P w= .ok (.tuple #[z,.bool false]) w:=by
 simp[Instr.typeAssert,run_underlying ht,q6 hT]
end
section
variable{P:Program}{fn:Func}{R:Value→List bl→List bl→Prop}{N:Nat}{ρ:Env}{b:ct}{X X' Xz S S' :List bl}{w:World}
theorem rN{t:TypeId}{p:Addr}{v:Value}(ha:c7 P t=some false)(hc:w.cell? p=some v):(loadVar t p).run P w= .ok v w:=by
 simp[loadVar,jP ha,hc]
theorem ir{t t' :Nat}{ty ty' :TypeId}{p p' :Addr}{v v' :Value}(hr:fn.results= #[.cell t ty,.cell t' ty'])(hv:get ρ t=some (.pointer (some p)))(hv' :get ρ t' =some (.pointer (some p')))(ha:c7 P ty=some false)(ha' :c7 P ty' =some false)
  (hc:∀{w},Mem b X S w→w.cell? p=some v) (hc' :∀{w},Mem b X S w→w.cell? p' =some v') (is:List Nat) (hX:bT is X=some (X',Xz)) (js:List Nat) (hS:dy js S=some S') (hR:R (.tuple #[v,v']) X' S'):Hs P fn b R N [] ρ X S .returning:=fun w m tmps h=>
 ⟨.tuple #[v,v'],by have h1:=sH h hv;have h2:=sH h hv';simp at h1 h2;simp[results,hr,h1,h2,asAddr,rN ha (hc m),rN ha' (hc' m)],_,_,_,rfl,hR,m.out is hX js hS⟩
theorem Ce{e:Exit}{t1 t2 t3 t4:Nat}{v1 v2 v3 v4:Value}(he:Leaves e)(hr:fn.results= #[.tmp t1,.tmp t2,.tmp t3,.tmp t4])(h1:get ρ t1=some v1)(h2:get ρ t2=some v2)(h3:get ρ t3=some v3)(h4:get ρ t4=some v4)(is:List Nat)(hX:bT is X=some (X',Xz))(js:List Nat)(hS:dy js S=some S')(hR:R (.tuple #[v1,v2,v3,v4]) X' S'):HQ (bodyPost P fn (RB b R)) N [] e ρ b X S:=
 fun w m=>gW he (fun a hA=>by have g1:=hA.getD h1;have g2:=hA.getD h2;have g3:=hA.getD h3;have g4:=hA.getD h4;simp at g1 g2 g3 g4;simp[results,hr,g1,g2,g3,g4]) ⟨_,_,_,rfl,hR,m.out is hX js hS⟩
theorem qE{u:FrameMode}{D:List Deferred}(h:∀w,Mem b X S w→Mem b X' S' w)(k:Hs P fn b R N D ρ X' S' u):Hs P fn b R N D ρ X S u:=fun w m=>k w (h w m)
end
end Go.Eng
end
section
namespace Go.Eng
open Go.RowKit
section
variable{P:Program}{Q:Exit→Act→World→Prop}{N:Nat}{D:List Deferred}{c:Code}{ρ:Env}{b:ct}{X S:List bl}
theorem BJ{α β:Type}(R:α→β→Env)(X1 S1:α→β→List bl)(I:α→β→Prop)(ρk:Env)(hk:eD ρk ρ)(is:List Nat){Xt Xr:List bl}(hX:bT is X=some (Xt,Xr))
  (h:HC P (yQ N D (fun i:α×β=>R i.1 i.2++ρk) fun i w=>Mem b (X1 i.1 i.2++Xr) (S1 i.1 i.2++S) w∧I i.1 i.2) N D c ρ b X S) (k:∀x y,I x y→HQ Q N D .normal (R x y++ρk) b (X1 x y++Xr) (S1 x y++S)):HC P Q N D c ρ b X S:=
 xr (fun i:α×β=>R i.1 i.2++ρk) (fun i=>X1 i.1 i.2++Xr) (fun i=>S1 i.1 i.2++S) (fun i=>I i.1 i.2) h fun i hi=>k (i.1) (i.2) hi
theorem mT{α β:Type}{R:α→β→Env}{X1 S1:α→β→List bl}{I:α→β→Prop}{ρ0:Env}{Xr Sr:List bl}(x:α)(y:β)(hs:eD (R x y++ρ0) ρ)(is:List Nat){Xz:List bl}(hX:bT is X=some (X1 x y++Xr,Xz))(js:List Nat)(hS:dy js S=some (S1 x y++Sr))(hI:I x y):
  HQ (yQ N D (fun i:α×β=>R i.1 i.2++ρ0) fun i w=>Mem b (X1 i.1 i.2++Xr) (S1 i.1 i.2++Sr) w∧I i.1 i.2) N D .normal ρ b X S:=
 HY (i:=(x,y)) hs is hX js hS hI
end
end Go.Eng
end
section
namespace Go.Eng
open Go.RowKit
open Go.ChangeMaps (setBlock)
section
variable{b:ct}{X S Xp Xq:List bl}{w:World}{r:bl}
theorem Mem.nw(m:Mem b (eY Xp::X) S w)(h:Xp.Perm Xq):Mem b (eY Xq::X) S w:=((m.unpack).perm (h.append_right X)).pack
theorem Mem.vp(m:Mem b (eY Xp::X) S w)(i:Nat)(h:Xp[i]? =some r):Mem b (r::eY (Xp.eraseIdx i)::X) S w:=by
 obtain⟨hlt,rfl⟩:=List.getElem?_eq_some_iff.1 h
 have m1:=(m.nw (gQ Xp i hlt).symm).unpack
 rw[List.cons_append]at m1
 have m2:Mem b (Xp.eraseIdx i++(Xp[i]::X)) S w:=m1.perm (List.perm_middle.symm)
 exact(m2.pack).perm (List.Perm.swap ..)
theorem Mem.tg(m:Mem b (r::eY Xp::X) S w):Mem b (eY (r::Xp)::X) S w:=by
 have m1:Mem b (eY Xp::r::X) S w:=m.perm (List.Perm.swap ..)
 have m2:=m1.unpack
 have m3:Mem b ((r::Xp)++X) S w:=m2.perm (List.perm_middle)
 exact m3.pack
theorem Mem.En(m:Mem b X S w):Mem b (eY []::X) S w:=Mem.pack (Xp:=[]) m
end
abbrev Bn(n:Nat):={l:List UInt8//l.length=n}
def KN{n:Nat}(d:Bn n):Value:=DV d.1
theorem AX{P:Program}{kt e:TypeId}{n:Nat}(ht:P.underlying kt=some (.array n e))(he:P.underlying e=some (.int .u8))(hs:P.cellsOf kt=n)(hse:P.cellsOf e=1)(hk:P.keyTypeAt 2 kt=true):pH P kt (KN (n:=n))where
 inj a b h:=Subtype.ext (tp h)
 check w em d:=by
  have h1:(KN d).formed P kt=true:=by simp[Value.formed,KN,DV,ht,ax,d.2,hs]
  have h2:=fE (P:=P) (D:=0) (l:=d.1) ht he hs hse d.2
  exact run_checkKey_deep em 9998 2 kt hk w 2 (KN d) _ h1 (by simpa[KN,DV,Value.cells]using h2)
 find w k es h:=by
  have hag:c7 P kt=some true:=by simp[c7,ht]
  have heq:∀q:Bn n,(Op.equal kt (KN k) (KN q)).run P w= .ok (decide (k=q)) w:=fun q=>by
   have h2:=fE (P:=P) (D:=0) (l:=k.1) ht he hs hse k.2
   have h3:=fE (P:=P) (D:=0) (l:=q.1) ht he hs hse q.2
   exact nO (m:=2) (p:=k=q) (by decide) hk hag (by rw[ax,hs];exact k.2) (by rw[ax,hs];exact q.2) h2 h3 (by rw[jf];exact⟨fun e=>Subtype.ext e,fun e=>by rw[e]⟩)
  have hnow:∀(es:List MapEntry) (i:Nat),es≠ []→Instr.findNow (.array n e) (KN k) es i=none:=fun es i hne=>by
   cases es with
   |nil=>exact absurd rfl hne
   |cons x r=>rfl
  have hask:∀(es:List MapEntry) (i:Nat),(∀x∈es,∃q:Bn n,x.key=KN q)→(∃j x,es[j]? =some x∧x.key=KN k∧(Instr.findAsking kt (KN k) es i).run P w= .ok (some (i+j,x.val)) w)∨((∀x∈es,x.key≠KN k)∧(Instr.findAsking kt (KN k) es i).run P w= .ok none w):=by
   intro es
   induction es with
   |nil=>intro i _;exact .inr ⟨by simp,rfl⟩
   |cons x r ih=>
    intro i h
    obtain⟨q,hq⟩:=h x (by simp)
    have hx:=heq q
    rw[←hq]at hx
    by_cases hkq:k=q
    ·rw[decide_eq_true hkq]at hx
     exact .inl ⟨0,x,rfl,by rw[hq,hkq],by simp[Instr.findAsking,hx]⟩
    ·rw[decide_eq_false hkq]at hx
     rcases ih (i+1) (fun y hy=>h y (by simp[hy]))with⟨j,y,hj,hy,hf⟩|⟨hall,hf⟩
     ·refine .inl ⟨j+1,y,by simpa using hj,hy, ?_⟩
      simp[Instr.findAsking,hx,hf]
      omega
     ·refine .inr ⟨fun y hy=> ?_,by simp[Instr.findAsking,hx,hf]⟩
      rcases List.mem_cons.1 hy with rfl|hy
      ·rw[hq];exact fun e=>hkq (Subtype.ext (tp e)).symm
      ·exact hall y hy
  cases es with
  |nil=>exact .inr ⟨by simp,by simp[Instr.findKey,run_underlying ht,Instr.findNow]⟩
  |cons x r=>
   have h0:=hnow (x::r) 0 (by simp)
   rcases hask (x::r) 0 h with⟨j,y,hj,hy,hf⟩|⟨hall,hf⟩
   ·refine .inl ⟨j,y,hj,hy, ?_⟩
    simp[Instr.findKey,run_underlying ht,h0,hf]
   ·exact .inr ⟨hall,by simp[Instr.findKey,run_underlying ht,h0,hf]⟩
 stays w k:=by
  have:Instr.sameBits 10000 (KN k) (KN k)=true:=by
   show((aW k.1).toArray.size == (aW k.1).toArray.size && ((aW k.1).toArray.toList.zip (aW k.1).toArray.toList).all fun(x,y)=>Instr.sameBits 9999 x y)=true
   simp only[beq_self_eq_true,Bool.true_and]
   exact rf 9999 k.1
  simp[Instr.keyThatStays,this]
section
variable{κ:Type}[DecidableEq κ]{enc:κ→Value}
def xv(enc:κ→Value)(w:World)(b:Nat)(l:List (κ×Value))(k:κ)(st:Nat):Prop:=
 ∃es clock,w.heap[b]? =some (.map es clock)∧es.toList.map (fun e=>(e.key,e.val))=l.map (fun p=>(enc p.1,p.2))∧(cA l).Nodup∧(∀e∈es.toList,e.born<clock)∧(es.toList.map (·.born)).Nodup∧∃(i:Nat) (x:MapEntry) (u:Value),es.toList[i]? =some x∧x.born=st∧l[i]? =some (k,u)
def D6(enc:κ→Value)(b:Nat)(l:List (κ×Value))(k:κ)(st:Nat):bl where
 dA i:=i=b
 holds w:=xv enc w b l k st
 iw f h m:=by
  obtain⟨es,clock,hb,rest⟩:=m
  exact⟨es,clock,(f.block b (di hb) (h b rfl)).trans hb,rest⟩
 low m hk:=by
  obtain⟨es,clock,hb,rest⟩:=m
  exact hk▸di hb
theorem sJ{l:List (κ×Value)}{k:κ}{u v:Value}:cP (cP l k u) k v=cP l k v:=by
 induction l with
 |nil=>simp[cP]
 |cons p r ih=>
  obtain⟨q,x⟩:=p
  by_cases h:q=k
  ·simp[cP,h]
  ·simp[cP,h,ih]
theorem wb{P:Program}{w:World}{t kt et:TypeId}{b:Nat}{l:List (κ×Value)}{z:Value}{sz bytes:Nat}(ht:P.underlying t=some (.map kt et))(hT:TI P et z sz bytes)(K:pH P kt enc)(h:gU enc w b l)(k:κ):
  ∃(st:Nat) (w' :World),(Instr.mapEntry t (.map (some b)) (enc k)).run P w= .ok (.tuple #[(bO l k).getD z,.int .i64 (st:Nat)]) w' ∧xv enc w' b (cP l k ((bO l k).getD z)) k st∧Fr (fun i=>i=b) w w' :=by
 have hn:=h.keys
 obtain⟨es,clock,hb,hl,hborn,hnb,hf⟩:=h.found K k
 have hg:(getObj b).run P w= .ok (.map es clock) w:=by simp[getObj,Sem.run,hb]
 have hc:=K.check w false k
 rcases hf with⟨i,x,hi,hp,ha,hx,hf⟩|⟨ha,hf⟩
 ·have hst:=K.stays w k
  have hxi:es[i]? =some x:=by simpa using hi
  have hsame:es.modify i (fun e=>{e with key:=enc k})=es:=by
   apply Array.ext'
   apply List.ext_getElem?
   intro j
   rw[Array.toList_modify,List.getElem?_modify]
   by_cases hij:i=j
   ·subst hij
    rw[hi]
    show some (if i=i then({x with key:=enc k}:MapEntry)else x)=some x
    rw[if_pos rfl,←hx]
   ·simp[hij]
  refine⟨x.born,setBlock w b (.map es clock), ?_,⟨es,clock,eB hb, ?_,gI hn,hborn,hnb,i,x,x.val,hi,rfl, ?_⟩,ei⟩
  ·rw[ha]
   simp[Instr.mapEntry,run_underlying ht,hg,hc,hf,hxi,hx,hst,hsame,eW hb,goInt]
  ·rw[ha,pN hn hp,hl]
   congr 1
   apply List.ext_getElem?
   intro j
   rw[List.getElem?_set]
   by_cases hij:i=j
   ·subst hij
    rw[if_pos rfl,if_pos (List.getElem?_eq_some_iff.1 hp).1,hp]
    rfl
   ·rw[if_neg hij]
  ·rw[ha,pN hn hp,List.getElem?_set,if_pos rfl,if_pos (List.getElem?_eq_some_iff.1 hp).1]
   rfl
 ·have hlen:es.toList.length=l.length:=by have:=congrArg List.length hl;simpa using this
  refine⟨clock,setBlock w b (.map (es.push {key:=enc k,val:=z,born:=clock}) (clock+1)), ?_,⟨_,_,eB hb, ?_,gI hn, ?_, ?_,es.toList.length,{key:=enc k,val:=z,born:=clock},z,by simp,rfl, ?_⟩,ei⟩
  ·rw[ha]
   simp[Instr.mapEntry,run_underlying ht,hg,hc,hf,q6 hT,eW hb,goInt]
  ·rw[ha,qi ha,Array.toList_push,List.map_append,hl]
   simp
  ·intro e he
   rw[Array.toList_push]at he
   rcases List.mem_append.1 he with he|he
   ·have:=hborn e he;omega
   ·rcases List.mem_singleton.1 he with rfl
    exact Nat.lt_succ_self _
  ·rw[Array.toList_push,List.map_append]
   refine ml hnb (fun hm=> ?_)
   obtain⟨e,he,hk⟩:=List.mem_map.1 hm
   have:=hborn e he
   simp only at hk
   omega
  ·rw[ha,qi ha,hlen]
   simp
theorem u9{P:Program}{w:World}{t:TypeId}{b:Nat}{l:List (κ×Value)}{k:κ}{st:Nat}(h:xv enc w b l k st)(v:Value):
  ∃w',(Instr.entryStore t (.map (some b)) (.int .i64 (st:Nat)) v).run P w= .ok () w' ∧gU enc w' b (cP l k v)∧Fr (fun i=>i=b) w w' :=by
 obtain⟨es,clock,hb,hl,hn,hborn,hnb,i,x,u,hi,rfl,hp⟩:=h
 have hg:(getObj b).run P w= .ok (.map es clock) w:=by simp[getObj,Sem.run,hb]
 have hidx:es.findIdx? (fun e=>((e.born:Nat):Int) == ((x.born:Nat):Int))=some i:=by
  rw[WideElems.findIdx_arr]
  exact WideElems.findIdx_born hnb hi
 refine⟨setBlock w b (.map (es.modify i fun e=>{e with val:=v}) clock), ?_,⟨_,clock,eB hb, ?_,gI hn, ?_, ?_⟩,ei⟩
 ·simp[Instr.entryStore,hg,asInt,asIntOf,hidx,eW hb]
 ·rw[pN hn hp,Array.toList_modify]
  apply List.ext_getElem?
  intro j
  have hj:=congrArg (fun q:List (Value×Value)=>q[j]?) hl
  simp only[List.getElem?_map]at hj
  simp only[List.getElem?_map,List.getElem?_modify,List.getElem?_set]
  by_cases hij:i=j
  ·subst hij
   have hlt:=(List.getElem?_eq_some_iff.1 hp).1
   rw[hi,hp]at hj
   simp only[Option.map_some,Option.some.injEq,Prod.mk.injEq]at hj
   simp[hi,hlt,hj.1]
  ·simp only[hij,if_false]
   simpa using hj
 ·intro e he
  rw[Array.toList_modify]at he
  obtain⟨j,hj⟩:=List.mem_iff_getElem?.1 he
  rw[List.getElem?_modify]at hj
  cases hej:es.toList[j]? with
  |none=>rw[hej]at hj;simp at hj
  |some e0=>
   have:=hborn e0 (List.mem_of_getElem? hej)
   rw[hej]at hj
   simp only[Option.map_eq_map,Option.map_some,Option.some.injEq]at hj
   subst hj
   split <;> exact this
 ·have:(es.modify i fun e=>{e with val:=v}).toList.map (·.born)=es.toList.map (·.born):=by
   apply List.ext_getElem?
   intro j
   rw[Array.toList_modify]
   simp only[List.getElem?_map,List.getElem?_modify]
   cases es.toList[j]? with
   |none=>rfl
   |some e0=>simp only[Option.map_eq_map,Option.map_some];split <;> rfl
  rw[this]
  exact hnb
section
variable{P:Program}{Q:Exit→Act→World→Prop}{N:Nat}{D:List Deferred}{ρ:Env}{b:ct}{X S:List bl}{ty t kt et:TypeId}{x y q:Operand}{K:Value→List bl→List bl→Prop}{g:Nat}{l:List (κ×Value)}
theorem CO{k:κ}{z:Value}{sz bytes:Nat}(i:Nat)(hi:X[i]? =some (dV enc g l))(hx:ev ρ x=some (.map (some g)))(hy:ev ρ y=some (enc k))(ht:P.underlying t=some (.map kt et))(hT:TI P et z sz bytes)(hK:pH P kt enc)
  (kk:∀st:Nat,K (.tuple #[(bO l k).getD z,.int .i64 (st:Nat)]) (D6 enc g (cP l k ((bO l k).getD z)) k st::X.eraseIdx i) S):XH P Q N D ρ b X S (.mapEntry t x y) ty K:=fun w m=>by
 obtain⟨st,w',hrun,hE,hf⟩:=wb ht hT hK (m.lS i hi) k
 refine dk (v' :=.tuple #[(bO l k).getD z,.int .i64 (st:Nat)]) (w' :=w') (fun a _ _ _ _ ha=>by simp[execOp,ha.eval hx,ha.eval hy,hrun]) ⟨_,_, ?_,kk st⟩
 have m' :=m.perm (ar [i] X [dV enc g l] (X.eraseIdx i) (by simp[bT,hi]))
 exact m'.change (r' :=D6 enc g (cP l k ((bO l k).getD z)) k st) hf hE (fun k hk=>.inl hk)
theorem rZ{k:κ}{st:Nat}{v:Value}(i:Nat)(hi:X[i]? =some (D6 enc g l k st))(hx:ev ρ x=some (.map (some g)))(hy:ev ρ y=some (.int .i64 (st:Nat)))(hq:ev ρ q=some v)
  (kk:K undef (dV enc g (cP l k v)::X.eraseIdx i) S):XH P Q N D ρ b X S (.entryStore t x y q) ty K:=fun w m=>by
 have hE:xv enc w g l k st:=m.hx _ (List.mem_of_getElem? hi)
 obtain⟨w',hrun,hM,hf⟩:=u9 (P:=P) (t:=t) hE v
 refine kn (w' :=w') (fun a _ _ _ _ ha=>by simp[execOp,ha.eval hx,ha.eval hy,ha.eval hq,hrun]) ⟨_,_, ?_,kk⟩
 have m' :=m.perm (ar [i] X [D6 enc g l k st] (X.eraseIdx i) (by simp[bT,hi]))
 exact m'.change (r' :=dV enc g (cP l k v)) hf hM (fun k hk=>.inl hk)
end
end
end Go.Eng
end
