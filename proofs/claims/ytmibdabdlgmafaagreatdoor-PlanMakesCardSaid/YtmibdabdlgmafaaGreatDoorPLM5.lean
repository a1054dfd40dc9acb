/- Part. -/
import Derived.Test.YtmibdabdlgmafaaGreatDoorPLM4
import Derived.OrdersIn
import Derived.Sort.Grow
import Derived.Shelf.SlSortCmp.NoneTotal
import Derived.Ground.SlsfProg
import Derived.Test.YtmibdabdlgmafaaGreatDoorProg
set_option linter.all false
section
set_option maxRecDepth 20000
set_option maxHeartbeats 4000000
namespace Go.Proofs.YtmibdabdlgmafaaGreatDoor
open Go.Eng Go.Hx
def xL(f:List UInt8):Int:=match gS f with|none=>-1|some k=>(k:Nat)
theorem kc{f:List UInt8}(h:gS f=none):xL f=-1:=by unfold xL;rw[h]
theorem qb{f:List UInt8}{k:Nat}(h:gS f=some k):xL f=(k:Nat):=by unfold xL;rw[h]
theorem FL{A:Option Addr}{n c:Nat}{f:List UInt8}(hl:f.length=n)(hn:n≤10000000):b6 Tryz.prog 216 [.slice A n c] [] [cr 1 A n (aP f)] (fun v_ X_ S_=>v_=(.int .i64 (xL f))∧X_=[]∧S_=[]):=by
 have hv:nX (f.drop 2)=(f.getD 2 0).toNat+256*(f.getD 3 0).toNat+65536*(f.getD 4 0).toNat+16777216*(f.getD 5 0).toNat:=by simp[nX,List.getD]
 have b0:=(f.getD 2 0).toNat_lt
 have b1:=(f.getD 3 0).toNat_lt
 have b2:=(f.getD 4 0).toNat_lt
 have b3:=(f.getD 5 0).toNat_lt
 have h76:(((f.getD 0 0).toNat:Int)≠76)↔f.getD 0 0≠76:=by
  constructor
  ·intro h e;rw[e]at h;exact h rfl
  ·intro h e;exact h (UInt8.toNat_inj.1 (by rw[show(76:UInt8).toNat=76 from rfl];omega))
 refine aJ (N:=40) Tryz.func216 rfl rfl (by simp) fun b=> ?_
 refine aS (fun m=>dZ (m.rd 0 rfl)) ?_
 rintro⟨hl_r,hA_r⟩
 by_cases h1:f.length<10
 ·rw[kc (if_pos (.inl h1))]
  refine ah<|aj<|hy (fun _=>ab rfl)<|ai<|ae<|ah<|ah<|aj<|hy (fun _=>aa rfl)<|hy (fun _=>aW rfl Tryz.underlying27)<|hy (fun _=>yT (bu rfl rfl) ((decide_eq_true (by omega))))<|hy (fun _=>aa rfl)<|ba rfl rfl rfl (by decide)<|ba rfl rfl rfl (by decide)<|ba rfl rfl rfl (by decide)<|ba rfl rfl rfl (by decide)<|hy (fun _=>bT rfl rfl)<|hy (fun _=>aa rfl)<|ba rfl rfl rfl (by decide)<|ba rfl rfl rfl (by decide)<|ba rfl rfl rfl (by decide)<|ba rfl rfl rfl (by decide)<|hy (fun _=>bT rfl rfl)<|ai<|al (ρ' :=[(17,_),(2,_),(0,_)]) ⟨rfl,rfl,rfl,trivial⟩<|ae<| ?_
  refine gj rfl (rfl) ?_
  refine ah<|aj<|hy (fun _=>ab rfl)<|ai<|ae<|aU<|ay<| ?_
  exact aZ trivial rfl rfl [] rfl [] rfl ⟨rfl,rfl,rfl⟩
 ·by_cases h2:f.getD 0 0≠76
  ·rw[kc (if_pos (.inr (.inl h2)))]
   refine ah<|aj<|hy (fun _=>ab rfl)<|ai<|ae<|ah<|ah<|aj<|hy (fun _=>aa rfl)<|hy (fun _=>aW rfl Tryz.underlying27)<|hy (fun _=>yF (bu rfl rfl) ((decide_eq_false (by omega))))<|hy (fun _=>aa rfl)<|cm (o:=_) rfl rfl rfl (fun _=>aa rfl)<|cm (o:=_) rfl rfl rfl (fun _=>aO rfl rfl Tryz.underlying27 dF hA_r (show((0:Nat):Int)=0 from rfl) (by omega))<|cm (o:=_) rfl rfl rfl (fun m=>aq rfl iL ((m.rd 0 rfl).cell (bE (by omega))))<|cm (o:=_) rfl rfl rfl (fun _=>yT (dx rfl rfl) ((decide_eq_true (h76.2 h2))))<|hy (fun _=>bo rfl rfl)<|hy (fun _=>aa rfl)<|ba rfl rfl rfl (by decide)<|ba rfl rfl rfl (by decide)<|ba rfl rfl rfl (by decide)<|ba rfl rfl rfl (by decide)<|hy (fun _=>bT rfl rfl)<|ai<|al (ρ' :=[(17,_),(2,_),(0,_)]) ⟨rfl,rfl,rfl,trivial⟩<|ae<| ?_
   refine gj rfl (rfl) ?_
   refine ah<|aj<|hy (fun _=>ab rfl)<|ai<|ae<|aU<|ay<| ?_
   exact aZ trivial rfl rfl [] rfl [] rfl ⟨rfl,rfl,rfl⟩
  ·by_cases h3:1<(f.getD 1 0).toNat
   ·rw[kc (if_pos (.inr (.inr h3)))]
    refine ah<|aj<|hy (fun _=>ab rfl)<|ai<|ae<|ah<|ah<|aj<|hy (fun _=>aa rfl)<|hy (fun _=>aW rfl Tryz.underlying27)<|hy (fun _=>yF (bu rfl rfl) ((decide_eq_false (by omega))))<|hy (fun _=>aa rfl)<|cm (o:=_) rfl rfl rfl (fun _=>aa rfl)<|cm (o:=_) rfl rfl rfl (fun _=>aO rfl rfl Tryz.underlying27 dF hA_r (show((0:Nat):Int)=0 from rfl) (by omega))<|cm (o:=_) rfl rfl rfl (fun m=>aq rfl iL ((m.rd 0 rfl).cell (bE (by omega))))<|cm (o:=_) rfl rfl rfl (fun _=>yF (dx rfl rfl) ((decide_eq_false (fun q=>h2 (h76.1 q)))))<|hy (fun _=>bo rfl rfl)<|hy (fun _=>aa rfl)<|cm (o:=_) rfl rfl rfl (fun _=>aa rfl)<|cm (o:=_) rfl rfl rfl (fun _=>aO rfl rfl Tryz.underlying27 dF hA_r (show((1:Nat):Int)=1 from rfl) (by omega))<|cm (o:=_) rfl rfl rfl (fun m=>aq rfl iL ((m.rd 0 rfl).cell (bE (by omega))))<|cm (o:=_) rfl rfl rfl (fun _=>yT (cG rfl rfl) ((decide_eq_true (by omega))))<|hy (fun _=>bo rfl rfl)<|ai<|al (ρ' :=[(17,_),(2,_),(0,_)]) ⟨rfl,rfl,rfl,trivial⟩<|ae<| ?_
    refine gj rfl (rfl) ?_
    refine ah<|aj<|hy (fun _=>ab rfl)<|ai<|ae<|aU<|ay<| ?_
    exact aZ trivial rfl rfl [] rfl [] rfl ⟨rfl,rfl,rfl⟩
   ·refine ah<|aj<|hy (fun _=>ab rfl)<|ai<|ae<|ah<|ah<|aj<|hy (fun _=>aa rfl)<|hy (fun _=>aW rfl Tryz.underlying27)<|hy (fun _=>yF (bu rfl rfl) ((decide_eq_false (by omega))))<|hy (fun _=>aa rfl)<|cm (o:=_) rfl rfl rfl (fun _=>aa rfl)<|cm (o:=_) rfl rfl rfl (fun _=>aO rfl rfl Tryz.underlying27 dF hA_r (show((0:Nat):Int)=0 from rfl) (by omega))<|cm (o:=_) rfl rfl rfl (fun m=>aq rfl iL ((m.rd 0 rfl).cell (bE (by omega))))<|cm (o:=_) rfl rfl rfl (fun _=>yF (dx rfl rfl) ((decide_eq_false (fun q=>h2 (h76.1 q)))))<|hy (fun _=>bo rfl rfl)<|hy (fun _=>aa rfl)<|cm (o:=_) rfl rfl rfl (fun _=>aa rfl)<|cm (o:=_) rfl rfl rfl (fun _=>aO rfl rfl Tryz.underlying27 dF hA_r (show((1:Nat):Int)=1 from rfl) (by omega))<|cm (o:=_) rfl rfl rfl (fun m=>aq rfl iL ((m.rd 0 rfl).cell (bE (by omega))))<|cm (o:=_) rfl rfl rfl (fun _=>yF (cG rfl rfl) ((decide_eq_false (by omega))))<|hy (fun _=>bo rfl rfl)<|ai<|al (ρ' :=[(17,_),(2,_),(0,_)]) ⟨rfl,rfl,rfl,trivial⟩<|ae<| ?_
    refine cZ rfl (rfl) ?_
    have hL:gS f=some (nX (f.drop 2)):=if_neg (fun q=>q.elim h1 (fun q=>q.elim h2 h3))
    rw[qb hL]
    refine aA<|ae<|ah<|cq [] [(0,some 0),(1,some 0),(2,some 0),(3,some 0),(4,some 0),(5,some 0),(6,some 0),(7,some 0),(8,some 0),(9,some 0),(10,some 0),(11,some 0),(12,some 0),(13,some 0),(14,some 0),(15,some 0),(16,some 0),(17,some 0),(18,some 0),(19,some 0),(20,some 0),(21,some 0),(22,some 0)] (by kernel_rfl) (by kernel_rfl) rfl 99<|an (aa rfl)<|an (aO rfl rfl Tryz.underlying27 dF hA_r (show((2:Nat):Int)=2 from rfl) (by omega))<|bY (fun m=>aq rfl iL ((m.rd 0 rfl).cell (bE (by omega))))<|an (bU rfl Tryz.underlying5 Tryz.underlying3 (AE _))<|an (aa rfl)<|an (aO rfl rfl Tryz.underlying27 dF hA_r (show((3:Nat):Int)=3 from rfl) (by omega))<|bY (fun m=>aq rfl iL ((m.rd 0 rfl).cell (bE (by omega))))<|an (bU rfl Tryz.underlying5 Tryz.underlying3 (AE _))<|an (fU rfl rfl (bs (by omega) (by omega)))<|an (aK rfl rfl (bs (by omega) (by omega)))<|an (aa rfl)<|an (aO rfl rfl Tryz.underlying27 dF hA_r (show((4:Nat):Int)=4 from rfl) (by omega))<|bY (fun m=>aq rfl iL ((m.rd 0 rfl).cell (bE (by omega))))<|an (bU rfl Tryz.underlying5 Tryz.underlying3 (AE _))<|an (fU rfl rfl (bs (by omega) (by omega)))<|an (aK rfl rfl (bs (by omega) (by omega)))<|an (aa rfl)<|an (aO rfl rfl Tryz.underlying27 dF hA_r (show((5:Nat):Int)=5 from rfl) (by omega))<|bY (fun m=>aq rfl iL ((m.rd 0 rfl).cell (bE (by omega))))<|an (bU rfl Tryz.underlying5 Tryz.underlying3 (AE _))<|an (fU rfl rfl (bs (by omega) (by omega)))<|an (yV (aK rfl rfl (bs (by omega) (by omega))) ((show Value.int .i64 (((f.getD 2 0).toNat:Int)+256*((f.getD 3 0).toNat:Int)+65536*((f.getD 4 0).toNat:Int)+16777216*((f.getD 5 0).toNat:Int))= .int .i64 (nX (f.drop 2):Nat) by rw[hv];congr 1)))<|an (ab rfl)<|bk<|al (ρ' :=[(2,_),(17,_),(0,_)]) ⟨rfl,rfl,rfl,trivial⟩<|ae<|aU<| ?_
    exact aZ trivial rfl rfl [] rfl [] rfl ⟨rfl,rfl,rfl⟩
theorem lH{f u:List UInt8}{k:Nat}(h:xz f k=(u,0)):fO f k=if u.length≠k then([],2)else if jb (c6 u)≠f.drop (f.length-4)then([],7)else(u,0):=by
 unfold fO
 rw[h]
 exact if_neg (by simp)
theorem yL{f:List UInt8}{k:Nat}(h:(xz f k).2≠0):fO f k=([],2):=by
 unfold fO
 exact if_pos h
theorem EG{A:Option Addr}{n c:Nat}{f:List UInt8}{most:Int}(hc:n≤c)(hl:f.length=n)(hn:n≤10000000)(hm:most≤1000000):b6 Tryz.prog 156 [.slice A n c,.int .i64 most] [] [cr 1 A n (aP f)] (fun v_ X_ S_=>∃A1 c1,v_=(.tuple #[.slice A1 (cP f most).1.length c1,.int .i64 (cP f most).2])∧X_=[]∧S_=[cr 1 A1 (cP f most).1.length (aP (cP f most).1)]∧((cP f most).1.length≤c1)):=by
 refine aJ (N:=48) Tryz.func156 rfl rfl (by simp) fun b=> ?_
 refine aS (fun m=>dZ (m.rd 0 rfl)) ?_
 rintro⟨hl_r,hA_r⟩
 refine ah<|aj<|hy (fun _=>ab rfl)<|hy (fun _=>ab rfl)<|ai<|ae<|ah<|aj<|hy (fun _=>aa rfl)<| ?_
 refine hx (au rfl Tryz.call216 (FL hl hn) [] rfl [0] rfl ?_)
 rintro _ _ _ ⟨rfl,rfl,rfl⟩
 refine hy (fun _=>ab rfl)<|ai<|al (ρ' :=[(6,_),(5,_),(4,_),(0,_),(1,_)]) ⟨rfl,rfl,rfl,rfl,rfl,trivial⟩<|ak (X' :=[]) (S' :=[_]) (fun _ m=>m)<|ae<|ah<|ah<|aj<|hy (fun _=>aa rfl)<|hy (fun _=>bu rfl rfl)<|ai<|al (ρ' :=[(12,_),(6,_),(5,_),(4,_),(0,_),(1,_)]) ⟨rfl,rfl,rfl,rfl,rfl,rfl,trivial⟩<|ae<| ?_
 rcases hL:gS f with _|k
 ·refine gj rfl ((decide_eq_true (by rw[kc hL];decide))) ?_
  rw[(pB hL)]
  refine ah<|aj<|hy (fun _=>ab rfl)<|hy (fun _=>ab rfl)<|ai<|ae<|aU<|ay<| ?_
  refine ak (fun w m=>m.pF (r' :=cr 1 none 0 []) (.refl _ _) (Rd.nil _ _ _) (fun k hk=>absurd rfl hk.1)) ?_
  have hA_z:0<0→(none:Option Addr)≠none:=fun h=>absurd h (by decide)
  exact dh trivial rfl rfl rfl [] rfl [0] rfl ⟨none,0,rfl,rfl,rfl,(Nat.le_refl _)⟩
 ·rw[qb hL]
  refine cZ rfl ((decide_eq_false (by omega))) ?_
  refine aA<|ae<|ah<|ah<|aj<|hy (fun _=>aa rfl)<|hy (fun _=>aa rfl)<|hy (fun _=>cG rfl rfl)<|ai<|al (ρ' :=[(15,_),(12,_),(6,_),(5,_),(4,_),(0,_),(1,_)]) ⟨rfl,rfl,rfl,rfl,rfl,rfl,rfl,trivial⟩<|ae<| ?_
  refine cj rfl (fun hfar=> ?_) (fun hfar=> ?_)
  ·rw[(qi hL (by omega))]
   refine ah<|aj<|hy (fun _=>ab rfl)<|hy (fun _=>ab rfl)<|ai<|ae<|aU<|ay<| ?_
   refine ak (fun w m=>m.pF (r' :=cr 1 none 0 []) (.refl _ _) (Rd.nil _ _ _) (fun k hk=>absurd rfl hk.1)) ?_
   have hA_z:0<0→(none:Option Addr)≠none:=fun h=>absurd h (by decide)
   exact dh trivial rfl rfl rfl [] rfl [0] rfl ⟨none,0,rfl,rfl,rfl,(Nat.le_refl _)⟩
  ·obtain⟨h10,hk32⟩:=ti hL
   have hopen:=tr hL (by omega)
   refine bg (fun w m=>m.fh 0 rfl (View.sub (n:=n) (c:=c) (k:=6) (m:=n-4-6) (by omega) (by omega))) ?_
   refine aS (fun m=>dZ (m.rd 0 rfl)) ?_
   rintro⟨hl_p,hA_p⟩
   have hbl:n-4-6=(dk f).length:=by unfold dk;rw[List.length_take,List.length_drop];omega
   have hb2:(f.drop 6).take (n-4-6)=dk f:=by unfold dk;rw[show n-4-6=f.length-10 by omega]
   rw[hb2]
   refine aA<|ae<|ah<|aj<|hy (fun _=>aa rfl)<|hy (fun _=>aa rfl)<|hy (fun _=>aW rfl Tryz.underlying27)<|hy (fun _=>cd rfl rfl (bs (by omega) (by omega)))<|hy (fun _=>ew rfl rfl rfl Tryz.underlying27 dF (show((6:Nat):Int)=6 from rfl) (show((n-4:Nat):Int)=_ by omega) (by omega) (by omega))<|hy (fun _=>ab rfl)<|ai<|al (ρ' :=[(7,_),(15,_),(12,_),(6,_),(5,_),(4,_),(0,_),(1,_)]) ⟨rfl,rfl,rfl,rfl,rfl,rfl,rfl,rfl,trivial⟩<|ae<|ah<|ah<|aj<|hy (fun _=>aa rfl)<|hy (fun _=>aO rfl rfl Tryz.underlying27 dF hA_r (show((1:Nat):Int)=1 from rfl) (by omega))<|hy (fun m=>aq rfl iL ((m.rd 1 rfl).cell (bE (by omega))))<|hy (fun _=>cn rfl rfl)<|ai<|al (ρ' :=[(24,_),(7,_),(15,_),(12,_),(6,_),(5,_),(4,_),(0,_),(1,_)]) ⟨rfl,rfl,rfl,rfl,rfl,rfl,rfl,rfl,rfl,trivial⟩<|ae<| ?_
   refine cj rfl (fun h1=> ?_) (fun h1=> ?_)
   ·have hf1:f.getD 1 0=1:=UInt8.toNat_inj.1 (by rw[show(1:UInt8).toNat=1 from rfl];omega)
    have hun:xz f k=kx k (dk f) []:=if_pos hf1
    refine ah<|aj<|hy (fun _=>aa rfl)<|hy (fun _=>aa rfl)<| ?_
    refine hx (au rfl Tryz.call217 (Ar (show n-4-6≤c-6 by omega) (by omega) hbl.symm (show(k:Int)≤10000000 by omega) (l:=(dk f))) [] rfl [0] rfl ?_)
    rintro _ _ _ ⟨v,nn,rfl,rfl,rfl⟩
    refine aB (fun m=>(m.own 0 rfl).slice) ?_
    rintro⟨A_x,c_x,rfl,hc_x⟩
    refine aB (fun m=>(m.ord 0 rfl).2.1) fun hA_x=> ?_
    refine hx (bf nO (fun g8=> ?_))
    refine cB (a6 0 rfl rfl rfl iX rfl jD rfl ?_)
    refine ai<|al (ρ' :=[(8,_),(24,_),(7,_),(15,_),(12,_),(6,_),(5,_),(4,_),(0,_),(1,_)]) ⟨rfl,rfl,rfl,rfl,rfl,rfl,rfl,rfl,rfl,rfl,trivial⟩<|ak (X' :=[_,_]) (S' :=[_,_]) (fun _ m=>m)<|ae<|ah<|ah<|aj<|hy (fun _=>aD rfl BF (by decide))<|hy (fun m=>aq rfl kD (ax (m.aN 0 rfl) (i:=2) rfl))<|hy (fun _=>dx rfl rfl)<|ai<|al (ρ' :=[(30,_),(8,_),(24,_),(7,_),(15,_),(12,_),(6,_),(5,_),(4,_),(0,_),(1,_)]) ⟨rfl,rfl,rfl,rfl,rfl,rfl,rfl,rfl,rfl,rfl,rfl,trivial⟩<|ae<| ?_
    refine cj rfl (fun he=> ?_) (fun he=> ?_)
    ·have hz:cP f most=([],2):=by rw[hopen,yL (by rw[hun];exact he)]
     rw[hz]
     refine ah<|aj<|hy (fun _=>ab rfl)<|hy (fun _=>ab rfl)<|ai<|ae<|aU<|ay<|ay<| ?_
     refine ak (fun w m=>m.pF (r' :=cr 1 none 0 []) (.refl _ _) (Rd.nil _ _ _) (fun k hk=>absurd rfl hk.1)) ?_
     have hA_z:0<0→(none:Option Addr)≠none:=fun h=>absurd h (by decide)
     exact dh trivial rfl rfl rfl [] rfl [0] rfl ⟨none,0,rfl,rfl,rfl,(Nat.le_refl _)⟩
    ·have he:=Decidable.not_not.1 he
     have hun2:xz f k=((kx k (dk f) []).1,0):=by rw[hun];exact Prod.ext rfl he
     refine bg (fun w m=>(m.perm (ar [1] _ [_] _ rfl)).freeze) ?_
     refine bg (fun w m=>m.fh 0 rfl .own) ?_
     generalize(kx k (dk f) []).1=u at hc_x hA_x hun2 ⊢
     refine aA<|ae<|aj<|hy (fun _=>aD rfl Bq (by decide))<|hy (fun m=>aq rfl c7 (ax (m.aN 0 rfl) (i:=0) rfl))<|hy (fun _=>ab rfl)<|ai<|al (ρ' :=[(7,_),(30,_),(8,_),(24,_),(15,_),(12,_),(6,_),(5,_),(4,_),(0,_),(1,_)]) ⟨rfl,rfl,rfl,rfl,rfl,rfl,rfl,rfl,rfl,rfl,rfl,trivial⟩<|ae<|ah<|ah<|aj<|hy (fun _=>aa rfl)<|hy (fun _=>aW rfl Tryz.underlying27)<|hy (fun _=>aa rfl)<|hy (fun _=>dx rfl rfl)<|ai<|al (ρ' :=[(36,_),(7,_),(30,_),(8,_),(24,_),(15,_),(12,_),(6,_),(5,_),(4,_),(0,_),(1,_)]) ⟨rfl,rfl,rfl,rfl,rfl,rfl,rfl,rfl,rfl,rfl,rfl,rfl,trivial⟩<|ae<| ?_
     refine cj rfl (fun h36=> ?_) (fun h36=> ?_)
     ·have hz:cP f most=([],2):=by rw[hopen,lH hun2];exact if_pos (by omega)
      rw[hz]
      refine ah<|aj<|hy (fun _=>ab rfl)<|hy (fun _=>ab rfl)<|ai<|ae<|aU<|ay<| ?_
      refine ak (fun w m=>m.pF (r' :=cr 1 none 0 []) (.refl _ _) (Rd.nil _ _ _) (fun k hk=>absurd rfl hk.1)) ?_
      have hA_z:0<0→(none:Option Addr)≠none:=fun h=>absurd h (by decide)
      exact dh trivial rfl rfl rfl [] rfl [0] rfl ⟨none,0,rfl,rfl,rfl,(Nat.le_refl _)⟩
     ·have hlu:(u).length=k:=by omega
      have hgo:cP f most=if jb (c6 u)≠f.drop (f.length-4)then([],7)else(u,0):=by rw[hopen,lH hun2];exact if_neg (fun q=>q hlu)
      refine bg (fun w m=>m.fh 3 rfl (View.drop (n:=n) (c:=c) (k:=n-4) (by omega) (by omega))) ?_
      refine aS (fun m=>dZ (m.rd 0 rfl)) ?_
      rintro⟨hl_e4,hA_e4⟩
      refine aA<|ae<|ah<|ah<|cq [1,2] [(0,some 0),(3,some 2),(4,some 2),(5,some 2),(6,some 2),(7,some 2),(8,some 2),(1,none),(2,none),(9,some 2)] (by kernel_rfl) (by kernel_rfl) rfl 99<|an (aa rfl)<|an (aa rfl)<|an (aa rfl)<|an (aW rfl Tryz.underlying27)<|an (cd rfl rfl (bs (by omega) (by omega)))<|an (dX rfl rfl Tryz.underlying27 dF (show((n-4:Nat):Int)=_ by omega) (by omega))<|bY (fun m=>lT rfl Tryz.underlying27 Tryz.underlying5 Tryz.underlying9 (m.rd 0 rfl))<| ?_
      refine dq (au rfl Tryz.call161 (vO hc_x (by omega) rfl (l:=u)) [] rfl [1] rfl ?_)
      rintro _ _ _ ⟨v2,rfl,rfl,rfl⟩
      refine⟨(fun _=>wk [1] [0,1,2,3,4] rfl rfl), ?_⟩
      refine b7 (fun m=>(m.own 0 rfl).slice) ?_
      rintro⟨A_x2,c_x2,rfl,hc_x2⟩
      refine b7 (fun m=>(m.ord 0 rfl).2.1) fun hA_x2=> ?_
      refine Cc (fun _=>wk [1] [0,1,2,3,4] rfl rfl) (fun m=>lT rfl Tryz.underlying27 Tryz.underlying5 Tryz.underlying9 (m.ord 0 rfl))<|an (oU rfl rfl)<|bk<|al (ρ' :=[(46,_),(36,_),(7,_),(30,_),(8,_),(24,_),(15,_),(12,_),(6,_),(5,_),(4,_),(0,_),(1,_)]) ⟨rfl,rfl,rfl,rfl,rfl,rfl,rfl,rfl,rfl,rfl,rfl,rfl,rfl,trivial⟩<|ak (X' :=[_,_]) (S' :=[_,_,_,_,_]) (fun _ m=>m)<|ae<| ?_
      refine cj rfl (fun h46=> ?_) (fun h46=> ?_)
      ·have hz:cP f most=([],7):=by rw[hgo];exact if_pos (fun e=>h46 (by rw[e,hl]))
       rw[hz]
       refine ah<|aj<|hy (fun _=>ab rfl)<|hy (fun _=>ab rfl)<|ai<|ae<|aU<|ay<| ?_
       refine ak (fun w m=>m.pF (r' :=cr 1 none 0 []) (.refl _ _) (Rd.nil _ _ _) (fun k hk=>absurd rfl hk.1)) ?_
       have hA_z:0<0→(none:Option Addr)≠none:=fun h=>absurd h (by decide)
       exact dh trivial rfl rfl rfl [] rfl [0] rfl ⟨none,0,rfl,rfl,rfl,(Nat.le_refl _)⟩
      ·have h46:=cF.1 (Decidable.not_not.1 h46)
       have hz:cP f most=(u,0):=by rw[hgo];exact if_neg (fun q=>q (by rw[h46,hl]))
       rw[hz]
       refine aA<|ae<|ah<|aj<|hy (fun _=>aa rfl)<|hy (fun _=>ab rfl)<|hy (fun _=>ab rfl)<|ai<|al (ρ' :=[(5,_),(4,_),(46,_),(36,_),(7,_),(30,_),(8,_),(24,_),(15,_),(12,_),(6,_),(0,_),(1,_)]) ⟨rfl,rfl,rfl,rfl,rfl,rfl,rfl,rfl,rfl,rfl,rfl,rfl,rfl,trivial⟩<|ae<|aU<| ?_
       exact dh trivial rfl rfl rfl [] rfl [1] rfl ⟨_,_,rfl,rfl,rfl,hc_x⟩
   ·have hf1:¬f.getD 1 0=1:=fun q=>h1 (by rw[q];rfl)
    have hun:xz f k=(dk f,0):=if_neg hf1
    rw[hbl]
    refine aA<|ae<|ah<|ah<|aj<|hy (fun _=>aa rfl)<|hy (fun _=>aW rfl Tryz.underlying27)<|hy (fun _=>aa rfl)<|hy (fun _=>dx rfl rfl)<|ai<|al (ρ' :=[(36,_),(24,_),(7,_),(15,_),(12,_),(6,_),(5,_),(4,_),(0,_),(1,_)]) ⟨rfl,rfl,rfl,rfl,rfl,rfl,rfl,rfl,rfl,rfl,trivial⟩<|ae<| ?_
    refine cj rfl (fun h36=> ?_) (fun h36=> ?_)
    ·have hz:cP f most=([],2):=by rw[hopen,lH hun];exact if_pos (by omega)
     rw[hz]
     refine ah<|aj<|hy (fun _=>ab rfl)<|hy (fun _=>ab rfl)<|ai<|ae<|aU<|ay<| ?_
     refine ak (fun w m=>m.pF (r' :=cr 1 none 0 []) (.refl _ _) (Rd.nil _ _ _) (fun k hk=>absurd rfl hk.1)) ?_
     have hA_z:0<0→(none:Option Addr)≠none:=fun h=>absurd h (by decide)
     exact dh trivial rfl rfl rfl [] rfl [0] rfl ⟨none,0,rfl,rfl,rfl,(Nat.le_refl _)⟩
    ·have hlu:((dk f)).length=k:=by omega
     have hgo:cP f most=if jb (c6 (dk f))≠f.drop (f.length-4)then([],7)else((dk f),0):=by rw[hopen,lH hun];exact if_neg (fun q=>q hlu)
     refine bg (fun w m=>m.fh 1 rfl (View.drop (n:=n) (c:=c) (k:=n-4) (by omega) (by omega))) ?_
     refine aS (fun m=>dZ (m.rd 0 rfl)) ?_
     rintro⟨hl_e4,hA_e4⟩
     refine aA<|ae<|ah<|ah<|cq [1,2] [(0,some 0),(3,some 2),(4,some 2),(5,some 2),(6,some 2),(7,some 2),(8,some 2),(1,none),(2,none),(9,some 2)] (by kernel_rfl) (by kernel_rfl) rfl 99<|an (aa rfl)<|an (aa rfl)<|an (aa rfl)<|an (aW rfl Tryz.underlying27)<|an (cd rfl rfl (bs (by omega) (by omega)))<|an (dX rfl rfl Tryz.underlying27 dF (show((n-4:Nat):Int)=_ by omega) (by omega))<|bY (fun m=>lT rfl Tryz.underlying27 Tryz.underlying5 Tryz.underlying9 (m.rd 0 rfl))<| ?_
     refine dq (au rfl Tryz.call161 (vO (show(dk f).length≤c-6 by omega) (by omega) rfl (l:=(dk f))) [] rfl [1] rfl ?_)
     rintro _ _ _ ⟨v,rfl,rfl,rfl⟩
     refine⟨(fun _=>wk [] [0,1,2] rfl rfl), ?_⟩
     refine b7 (fun m=>(m.own 0 rfl).slice) ?_
     rintro⟨A_x,c_x,rfl,hc_x⟩
     refine b7 (fun m=>(m.ord 0 rfl).2.1) fun hA_x=> ?_
     refine Cc (fun _=>wk [] [0,1,2] rfl rfl) (fun m=>lT rfl Tryz.underlying27 Tryz.underlying5 Tryz.underlying9 (m.ord 0 rfl))<|an (oU rfl rfl)<|bk<|al (ρ' :=[(46,_),(36,_),(24,_),(7,_),(15,_),(12,_),(6,_),(5,_),(4,_),(0,_),(1,_)]) ⟨rfl,rfl,rfl,rfl,rfl,rfl,rfl,rfl,rfl,rfl,rfl,trivial⟩<|ak (X' :=[_]) (S' :=[_,_,_]) (fun _ m=>m)<|ae<| ?_
     refine cj rfl (fun h46=> ?_) (fun h46=> ?_)
     ·have hz:cP f most=([],7):=by rw[hgo];exact if_pos (fun e=>h46 (by rw[e,hl]))
      rw[hz]
      refine ah<|aj<|hy (fun _=>ab rfl)<|hy (fun _=>ab rfl)<|ai<|ae<|aU<|ay<| ?_
      refine ak (fun w m=>m.pF (r' :=cr 1 none 0 []) (.refl _ _) (Rd.nil _ _ _) (fun k hk=>absurd rfl hk.1)) ?_
      have hA_z:0<0→(none:Option Addr)≠none:=fun h=>absurd h (by decide)
      exact dh trivial rfl rfl rfl [] rfl [0] rfl ⟨none,0,rfl,rfl,rfl,(Nat.le_refl _)⟩
     ·have h46:=cF.1 (Decidable.not_not.1 h46)
      have hz:cP f most=((dk f),0):=by rw[hgo];exact if_neg (fun q=>q (by rw[h46,hl]))
      rw[hz]
      refine aA<|ae<|ah<|aj<|hy (fun _=>aa rfl)<|hy (fun _=>ab rfl)<|hy (fun _=>ab rfl)<|ai<|al (ρ' :=[(5,_),(4,_),(46,_),(36,_),(24,_),(7,_),(15,_),(12,_),(6,_),(0,_),(1,_)]) ⟨rfl,rfl,rfl,rfl,rfl,rfl,rfl,rfl,rfl,rfl,rfl,trivial⟩<|ae<|aU<| ?_
      exact dh trivial rfl rfl rfl [] rfl [1] rfl ⟨_,_,rfl,rfl,rfl,(show(dk f).length≤c-6 by omega)⟩
end Go.Proofs.YtmibdabdlgmafaaGreatDoor
end
section
set_option maxRecDepth 20000
namespace Go.Proofs.YtmibdabdlgmafaaGreatDoor
open Go.Eng Go.Hx
theorem iz{x:UInt32}{n:Nat}(hn:n≤32):b6 Tryz.prog 204 [Wd x,.int .i64 (n:Int)] [] [] (fun v_ X_ S_=>v_=(Wd (gX n x))∧X_=[]∧S_=[]):=by
 refine aJ (N:=18) Tryz.func204 rfl rfl (by simp) fun b=> ?_
 refine ah<|aj<|hy (fun _=>ab rfl)<|ai<|ae<|ah<|ah<|aj<|hy (fun _=>ab rfl)<|ai<|ae<|aI<| ?_
 refine jU (fun i y=>n-i) (fun i y=>[(0,Wd y),(5,.int .i64 (i:Nat))]) (fun i y=>[]) (fun i y=>[]) (fun i y=>i≤n∧y=gX i x) 0 x [(4,_),(1,_)] ⟨rfl,rfl,trivial⟩ [] rfl [] rfl (⟨Nat.zero_le _,(xu x).symm⟩) ⟨rfl,rfl,trivial⟩ (fun i y ⟨hin,hyv⟩=> ?_)
 refine ah<|ah<|aj<|hy (fun _=>aa rfl)<|hy (fun _=>aa rfl)<|hy (fun _=>bu rfl rfl)<|ai<|al (ρ' :=[(8,_),(0,_),(5,_),(4,_),(1,_)]) ⟨rfl,rfl,rfl,rfl,rfl,trivial⟩<|ae<| ?_
 refine cj rfl (fun h=> ?_) (fun h=> ?_)
 ·refine aA<|ae<|ah<|aI<|aj<|hy (fun _=>aa rfl)<|hy (fun _=>mK (b:=2) (by decide) rfl rfl)<|hy (fun _=>aa rfl)<|hy (fun _=>uz (b:=2) (by decide) rfl rfl)<|hy (fun _=>kW (b:=2147483648) rfl rfl)<|hy (fun _=>yV (cS rfl rfl) ((rfl:_=Wd (s5 y))))<|hy (fun _=>ab rfl)<|ai<|al (ρ' :=[(0,_),(8,_),(5,_),(4,_),(1,_)]) ⟨rfl,rfl,rfl,rfl,rfl,trivial⟩<|aM<|ae<|aj<|hy (fun _=>aa rfl)<|hy (fun _=>aK rfl rfl (bs (by omega) (by omega)))<|hy (fun _=>ab rfl)<|ai<|al (ρ' :=[(5,_),(0,_),(8,_),(4,_),(1,_)]) ⟨rfl,rfl,rfl,rfl,rfl,trivial⟩<| ?_
  refine gk (i+1) (s5 y) ⟨rfl,rfl,rfl,rfl,trivial⟩ [] rfl [] rfl (⟨by omega,by rw[hyv,xw (by omega)]⟩) (by omega)
 ·obtain rfl:i=n:=by omega
  subst hyv
  refine bA<|ao<|ao<|aC<|ae<|ah<|aj<|hy (fun _=>aa rfl)<|hy (fun _=>ab rfl)<|ai<|al (ρ' :=[(4,_),(8,_),(0,_),(5,_),(1,_)]) ⟨rfl,rfl,rfl,rfl,rfl,trivial⟩<|ae<|aU<| ?_
  exact aZ trivial rfl rfl [] rfl [] rfl ⟨rfl,rfl,rfl⟩
theorem DU{A:Option Addr}{n c:Nat}{l:List UInt8}{i:Nat}(hi:i+4≤n)(hn:n≤1000000000000):b6 Tryz.prog 203 [.slice A n c,.int .i64 (i:Int)] [] [cr 1 A n (aP l)] (fun v_ X_ S_=>v_=(Wd (j2 l i))∧X_=[]∧S_=[]):=by
 refine aJ (N:=34) Tryz.func203 rfl rfl (by simp) fun b=> ?_
 refine aS (fun m=>dZ (m.rd 0 rfl)) ?_
 rintro⟨hl_r,hA_r⟩
 have hl:l.length=n:=hl_r
 refine ah<|aj<|hy (fun _=>ab rfl)<|ai<|ae<|ah<|cq [] [(0,some 0),(1,some 0),(2,some 0),(3,some 0),(4,some 0),(5,some 0),(6,some 0),(7,some 0),(8,some 0),(9,some 0),(10,some 0),(11,some 0),(12,some 0),(13,some 0),(14,some 0),(15,some 0),(16,some 0),(17,some 0),(18,some 0),(19,some 0),(20,some 0),(21,some 0),(22,some 0),(23,some 0),(24,some 0),(25,some 0),(26,some 0),(27,some 0),(28,some 0),(29,some 0)] (by kernel_rfl) (by kernel_rfl) rfl 99<|an (aa rfl)<|an (aa rfl)<|an (aO rfl rfl Tryz.underlying27 dF hA_r rfl (by omega))<|bY (fun m=>aq rfl iL ((m.rd 0 rfl).cell (bE (by omega))))<|an (xJ rfl Tryz.underlying5 Tryz.underlying166)<|an (kW (b:=16777216) rfl rfl)<|an (aa rfl)<|an (aa rfl)<|an (aK rfl rfl (bs (by omega) (by omega)))<|an (aO rfl rfl Tryz.underlying27 dF hA_r (show((i+1:Nat):Int)=_ by omega) (by omega))<|bY (fun m=>aq rfl iL ((m.rd 0 rfl).cell (bE (by omega))))<|an (xJ rfl Tryz.underlying5 Tryz.underlying166)<|an (kW (b:=65536) rfl rfl)<|an (cS rfl rfl)<|an (aa rfl)<|an (aa rfl)<|an (aK rfl rfl (bs (by omega) (by omega)))<|an (aO rfl rfl Tryz.underlying27 dF hA_r (show((i+2:Nat):Int)=_ by omega) (by omega))<|bY (fun m=>aq rfl iL ((m.rd 0 rfl).cell (bE (by omega))))<|an (xJ rfl Tryz.underlying5 Tryz.underlying166)<|an (kW (b:=256) rfl rfl)<|an (cS rfl rfl)<|an (aa rfl)<|an (aa rfl)<|an (aK rfl rfl (bs (by omega) (by omega)))<|an (aO rfl rfl Tryz.underlying27 dF hA_r (show((i+3:Nat):Int)=_ by omega) (by omega))<|bY (fun m=>aq rfl iL ((m.rd 0 rfl).cell (bE (by omega))))<|an (xJ rfl Tryz.underlying5 Tryz.underlying166)<|an (yV (cS rfl rfl) ((show Wd ((l.getD i 0).toUInt32*16777216+(l.getD (i+1) 0).toUInt32*65536+(l.getD (i+2) 0).toUInt32*256+(l.getD (i+3) 0).toUInt32)=Wd (j2 l i) by rw[wV])))<|an (ab rfl)<|bk<|al (ρ' :=[(4,_),(0,_),(1,_)]) ⟨rfl,rfl,rfl,trivial⟩<|ae<|aU<| ?_
 exact aZ trivial rfl rfl [] rfl [] rfl ⟨rfl,rfl,rfl⟩
theorem A5:b6 Tryz.prog 202 [] [] [] (fun v_ X_ S_=>∃v,v_=v∧X_=[aG 166 1 v 64 (dD ff)]∧S_=[]):=by
 refine aJ (N:=2) Tryz.func202 rfl rfl (by simp) fun b=> ?_
 refine ah<|aj<|hy (fun _=>ab rfl)<|ai<|ae<|ah<|aj<| ?_
 refine hx (bJ Tryz.underlying215 kM rfl rfl rfl (by decide) (by decide) (by decide) (fun g1=> ?_))
 have hA_b1:0<64→(some (⟨g1,0,none⟩:Addr))≠none:=fun _ h=>by cases h
 refine hy (fun _=>ab rfl)<|ai<|al (ρ' :=[(0,_)]) ⟨rfl,trivial⟩<|ak (X' :=[_]) (S' :=[]) (fun _ m=>m)<|ae<|aU<| ?_
 refine ak (fun w m=>m.bq 0 rfl (show _=aG 166 1 (.slice (some ⟨g1,0,none⟩) 64 64) 64 (dD ff)from rfl)) ?_
 exact aZ trivial rfl rfl [0] rfl [] rfl ⟨_,rfl,rfl,rfl⟩
theorem A6{H:Option Addr}{hc:Nat}{A:Option Addr}{c:Nat}{l:List UInt8}{h:List UInt32}(hcc:64≤c)(hh:h.length=8):b6 Tryz.prog 142 [.slice H 8 hc,.slice A 64 c] [] [cr 1 H 8 (dD h),cr 1 A 64 (aP l)] (fun v_ X_ S_=>∃u,v_=u∧X_=[aG 166 1 u 8 (dD (dT h l))]∧S_=[]):=by
 refine aJ (N:=230) Tryz.func142 rfl rfl (by simp) fun b=> ?_
 refine aS (fun m=>fv (m.rd 0 rfl)) ?_
 rintro⟨hl_q,hA_q⟩
 refine aS (fun m=>dZ (m.rd 1 rfl)) ?_
 rintro⟨hl_r,hA_r⟩
 have hl:l.length=64:=hl_r
 refine ah<|aj<|hy (fun _=>ab rfl)<|ai<|ae<|ah<|aj<| ?_
 refine hx (au rfl Tryz.call202 (A5) [] rfl [] rfl ?_)
 rintro _ _ _ ⟨v,rfl,rfl,rfl⟩
 refine aB (fun m=>(m.own 0 rfl).slice) ?_
 rintro⟨A_x,c_x,rfl,hc_x⟩
 refine aB (fun m=>(m.ord 0 rfl).2.1) fun hA_x=> ?_
 refine hy (fun _=>ab rfl)<|ai<|al (ρ' :=[(5,_),(4,_),(0,_),(1,_)]) ⟨rfl,rfl,rfl,rfl,trivial⟩<|ak (X' :=[_]) (S' :=[_,_]) (fun _ m=>m)<|ae<|ah<|aj<|hy (fun _=>ab rfl)<|ai<|ae<|ah<|ah<|aj<|hy (fun _=>ab rfl)<|ai<|ae<|aI<| ?_
 refine bg (fun w m=>m.cI (r' :=aG 166 1 (.slice none 0 0) 0 []) (.refl _ _) (Own.nil _ _ _ _) (fun k hk=>hk.elim)) ?_
 refine bg (fun w m=>m.bq 0 rfl (show _=aG 166 1 (.slice none 0 0) 0 (dD (wl l 0))from rfl)) ?_
 refine gg (fun i A1 c1=>16-i) (fun i A1 c1=>[(6,.slice A1 i c1),(7,.int .i64 (i:Nat))]) (fun i A1 c1=>[aG 166 1 (.slice A1 i c1) i (dD (wl l i))]) (fun i A1 c1=>[]) (fun i A1 c1=>i≤16) 0 none 0 [(5,_),(4,_),(0,_),(1,_)] ⟨rfl,rfl,rfl,rfl,trivial⟩ [0] rfl [] rfl (Nat.zero_le _) ⟨rfl,rfl,trivial⟩ (fun i A1 c1 hI=> ?_)
 refine ah<|ah<|aj<|hy (fun _=>aa rfl)<|hy (fun _=>bu rfl rfl)<|ai<|al (ρ' :=[(21,_),(6,_),(7,_),(5,_),(4,_),(0,_),(1,_)]) ⟨rfl,rfl,rfl,rfl,rfl,rfl,rfl,trivial⟩<|ae<| ?_
 refine cj rfl (fun hlt=> ?_) (fun hlt=> ?_)
 ·have hws:wl l (i+1)=wl l i++[j2 l (4*i)]:=by rw[wl,if_pos (by omega)]
  refine aA<|ae<|ah<|aI<|aj<|hy (fun _=>aa rfl)<|hy (fun _=>aa rfl)<|hy (fun _=>aa rfl)<|hy (fun _=>fU rfl rfl (bs (by omega) (by omega)))<| ?_
  rw[show(4:Int)*(i:Int)=((4*i:Nat):Int) by omega]
  refine hx (au rfl Tryz.call203 (DU (by omega) (by omega) (i:=4*i)) [] rfl [1] rfl ?_)
  rintro _ _ _ ⟨rfl,rfl,rfl⟩
  refine hx (bJ Tryz.underlying215 kM rfl rfl rfl (by simp[Value.cells,B8]) (by decide) (by decide) (fun g29=> ?_))
  have hA_b29:0<1→(some (⟨g29,0,none⟩:Addr))≠none:=fun _ h=>by cases h
  refine aF (fun w m=>m.bq 0 rfl (show _=aG 166 1 (.slice (some ⟨g29,0,none⟩) 1 1) 1 (dD [j2 l (4*i)])from rfl)) ?_
  refine hx (bp 1 rfl rfl rfl Tryz.underlying215 Tryz.underlying215 (by exact .inl rfl) kM rfl (fun m=>Src.bS (m.ord 0 rfl)) fK (by unfold maxLen;omega) (by omega) (fun u=> ?_))
  refine aB (fun m=>(m.own 0 rfl).slice) ?_
  rintro⟨A_o,c_o,rfl,hc_o⟩
  refine aB (fun m=>(m.ord 0 rfl).2.1) fun hA_o=> ?_
  refine aF (fun w m=>m.bq 0 rfl (show _=aG 166 1 (.slice A_o (i+1) c_o) (i+1) (dD (wl l (i+1)))from by rw[hws,k0])) ?_
  refine hy (fun _=>ab rfl)<|ai<|al (ρ' :=[(6,_),(21,_),(7,_),(5,_),(4,_),(0,_),(1,_)]) ⟨rfl,rfl,rfl,rfl,rfl,rfl,rfl,trivial⟩<|ak (X' :=[_,_,_]) (S' :=[_,_]) (fun _ m=>m)<|aM<|ae<|aj<|hy (fun _=>aa rfl)<|hy (fun _=>aK rfl rfl (bs (by omega) (by omega)))<|hy (fun _=>ab rfl)<|ai<|al (ρ' :=[(7,_),(6,_),(21,_),(5,_),(4,_),(0,_),(1,_)]) ⟨rfl,rfl,rfl,rfl,rfl,rfl,rfl,trivial⟩<| ?_
  refine gv (i+1) A_o c_o ⟨rfl,rfl,rfl,rfl,rfl,rfl,trivial⟩ [0,1] rfl [0,1] rfl (by omega) (by omega)
 ·obtain rfl:i=16:=by omega
  refine bA<|ao<|ao<|aC<|ae<|ah<|ah<|aj<|hy (fun _=>ab rfl)<|ai<|ae<|aI<| ?_
  refine gg (fun i A1 c1=>64-i) (fun i A1 c1=>[(6,.slice A1 i c1),(8,.int .i64 (i:Nat))]) (fun i A1 c1=>[aG 166 1 (.slice A1 i c1) i (dD (wl l i))]) (fun i A1 c1=>[]) (fun i A1 c1=>16≤i∧i≤64) 16 A1 c1 [(21,_),(7,_),(5,_),(4,_),(0,_),(1,_)] ⟨rfl,rfl,rfl,rfl,rfl,rfl,trivial⟩ [0] rfl [] rfl (⟨Nat.le_refl _,by decide⟩) ⟨rfl,rfl,trivial⟩ (fun i A1 c1 ⟨hi16,hi64⟩=> ?_)
  have hwl:=eX l i
  refine aS (fun m=>(m.ord 0 rfl).2.1) fun hA_o=> ?_
  refine ah<|ah<|aj<|hy (fun _=>aa rfl)<|hy (fun _=>bu rfl rfl)<|ai<|al (ρ' :=[(32,_),(6,_),(8,_),(21,_),(7,_),(5,_),(4,_),(0,_),(1,_)]) ⟨rfl,rfl,rfl,rfl,rfl,rfl,rfl,rfl,rfl,trivial⟩<|ae<| ?_
  refine cj rfl (fun hlt=> ?_) (fun hlt=> ?_)
  ·have hws:wl l (i+1)=wl l i++[lF (wl l i) i]:=by rw[wl,if_neg (by omega)]
   refine aA<|ae<|ah<|aI<|ah<|cq [5,11] [(0,some 0),(1,some 2),(2,some 0),(3,some 0),(4,some 0),(6,some 1),(7,some 1),(8,some 1),(9,some 1),(10,some 1),(13,some 2),(14,some 2),(15,some 2),(16,some 2),(17,some 2),(18,some 2),(5,none),(11,none),(12,some 2),(19,some 2),(20,some 2)] (by kernel_rfl) (by kernel_rfl) rfl 99<|an (aa rfl)<|an (aa rfl)<|an (cd rfl rfl (bs (by omega) (by omega)))<|an (aO rfl rfl Tryz.underlying215 br hA_o (show((i-15:Nat):Int)=_ by omega) (by omega))<|bY (fun m=>aq rfl bC ((m.ord 0 rfl).cell (j:=i-15) (bj (by omega))))<|an (aa rfl)<|an (aa rfl)<|an (cd rfl rfl (bs (by omega) (by omega)))<|an (aO rfl rfl Tryz.underlying215 br hA_o (show((i-15:Nat):Int)=_ by omega) (by omega))<|bY (fun m=>aq rfl bC ((m.ord 0 rfl).cell (j:=i-15) (bj (by omega))))<|an (aa rfl)<|an (aa rfl)<|an (cd rfl rfl (bs (by omega) (by omega)))<|an (aO rfl rfl Tryz.underlying215 br hA_o (show((i-15:Nat):Int)=_ by omega) (by omega))<|bY (fun m=>aq rfl bC ((m.ord 0 rfl).cell (j:=i-15) (bj (by omega))))<|an (mK (b:=8) (by decide) rfl rfl)<| ?_
   refine dq (au rfl Tryz.call204 (iz (by omega) (n:=7)) [] rfl [] rfl ?_)
   rintro _ _ _ ⟨rfl,rfl,rfl⟩
   refine⟨(fun _=>wk [0,0] [0,1] rfl rfl), ?_⟩
   refine dq (au rfl Tryz.call204 (iz (by omega) (n:=18)) [] rfl [] rfl ?_)
   rintro _ _ _ ⟨rfl,rfl,rfl⟩
   refine⟨(fun _=>wk [0,0] [0,1] rfl rfl), ?_⟩
   refine an (cL rfl rfl)<|an (cL rfl rfl)<|an (ab rfl)<|bk<|al (ρ' :=[(9,_),(32,_),(6,_),(8,_),(21,_),(7,_),(5,_),(4,_),(0,_),(1,_)]) ⟨rfl,rfl,rfl,rfl,rfl,rfl,rfl,rfl,rfl,rfl,trivial⟩<|ak (X' :=[_,_]) (S' :=[_,_]) (fun _ m=>m)<|ae<|ah<|cq [5,11] [(0,some 0),(1,some 2),(2,some 0),(3,some 0),(4,some 0),(6,some 1),(7,some 1),(8,some 1),(9,some 1),(10,some 1),(13,some 2),(14,some 2),(15,some 2),(16,some 2),(17,some 2),(18,some 2),(5,none),(11,none),(12,some 2),(19,some 2),(20,some 2)] (by kernel_rfl) (by kernel_rfl) rfl 99<|an (aa rfl)<|an (aa rfl)<|an (cd rfl rfl (bs (by omega) (by omega)))<|an (aO rfl rfl Tryz.underlying215 br hA_o (show((i-2:Nat):Int)=_ by omega) (by omega))<|bY (fun m=>aq rfl bC ((m.ord 0 rfl).cell (j:=i-2) (bj (by omega))))<|an (aa rfl)<|an (aa rfl)<|an (cd rfl rfl (bs (by omega) (by omega)))<|an (aO rfl rfl Tryz.underlying215 br hA_o (show((i-2:Nat):Int)=_ by omega) (by omega))<|bY (fun m=>aq rfl bC ((m.ord 0 rfl).cell (j:=i-2) (bj (by omega))))<|an (aa rfl)<|an (aa rfl)<|an (cd rfl rfl (bs (by omega) (by omega)))<|an (aO rfl rfl Tryz.underlying215 br hA_o (show((i-2:Nat):Int)=_ by omega) (by omega))<|bY (fun m=>aq rfl bC ((m.ord 0 rfl).cell (j:=i-2) (bj (by omega))))<|an (mK (b:=1024) (by decide) rfl rfl)<| ?_
   refine dq (au rfl Tryz.call204 (iz (by omega) (n:=17)) [] rfl [] rfl ?_)
   rintro _ _ _ ⟨rfl,rfl,rfl⟩
   refine⟨(fun _=>wk [0,0] [0,1] rfl rfl), ?_⟩
   refine dq (au rfl Tryz.call204 (iz (by omega) (n:=19)) [] rfl [] rfl ?_)
   rintro _ _ _ ⟨rfl,rfl,rfl⟩
   refine⟨(fun _=>wk [0,0] [0,1] rfl rfl), ?_⟩
   refine an (cL rfl rfl)<|an (cL rfl rfl)<|an (ab rfl)<|bk<|al (ρ' :=[(10,_),(9,_),(32,_),(6,_),(8,_),(21,_),(7,_),(5,_),(4,_),(0,_),(1,_)]) ⟨rfl,rfl,rfl,rfl,rfl,rfl,rfl,rfl,rfl,rfl,rfl,trivial⟩<|ak (X' :=[_,_]) (S' :=[_,_]) (fun _ m=>m)<|ae<|cq [5,16,17] [(0,some 2),(1,some 3),(2,some 3),(3,some 3),(4,some 3),(6,some 3),(8,some 3),(9,some 3),(10,some 3),(11,some 3),(12,some 1),(14,some 1),(5,none),(7,some 1),(13,some 1),(15,some 1),(16,none),(17,none),(18,some 3)] (by kernel_rfl) (by kernel_rfl) rfl 2<|an (aa rfl)<|an (aa rfl)<|an (aa rfl)<|an (cd rfl rfl (bs (by omega) (by omega)))<|an (aO rfl rfl Tryz.underlying215 br hA_o (show((i-16:Nat):Int)=_ by omega) (by omega))<|an (aa rfl)<|an (aa rfl)<|an (aa rfl)<|an (cd rfl rfl (bs (by omega) (by omega)))<|an (aO rfl rfl Tryz.underlying215 br hA_o (show((i-7:Nat):Int)=_ by omega) (by omega))<|bY (fun m=>aq rfl bC ((m.ord 0 rfl).cell (j:=i-7) (bj (by omega))))<|an (aa rfl)<|Cc (fun _=>wk [0,0] [0,1] rfl rfl) (fun m=>aq rfl bC ((m.ord 0 rfl).cell (j:=i-16) (bj (by omega))))<|an (cS rfl rfl)<|an (cS rfl rfl)<|an (yV (cS rfl rfl) ((rfl:_=Wd (lF (wl l i) i))))<| ?_
   refine dq (bJ Tryz.underlying215 kM rfl rfl rfl (by exact sU (l:=[_])) (by decide) (by decide) (fun g91=>⟨(fun _=>wk [1,1] [0,1] rfl rfl), ?_⟩))
   have hA_b91:0<1→(some (⟨g91,0,none⟩:Addr))≠none:=fun _ h=>by cases h
   refine dQ (fun w m=>m.bq 0 rfl (show _=aG 166 1 (.slice (some ⟨g91,0,none⟩) 1 1) 1 (dD [lF (wl l i) i])from rfl)) ?_
   refine dq (bp 1 rfl rfl rfl Tryz.underlying215 Tryz.underlying215 (by exact .inl rfl) kM rfl (fun m=>Src.bS (m.ord 0 rfl)) fK (by unfold maxLen;omega) (by omega) (fun u=>⟨(fun h=>absurd h (by decide)), ?_⟩))
   refine b7 (fun m=>(m.own 0 rfl).slice) ?_
   rintro⟨A_o,c_o,rfl,hc_o⟩
   refine b7 (fun m=>(m.ord 0 rfl).2.1) fun hA_o=> ?_
   refine dQ (fun w m=>m.bq 0 rfl (show _=aG 166 1 (.slice A_o (i+1) c_o) (i+1) (dD (wl l (i+1)))from by rw[hws,k0])) ?_
   refine an (ab rfl)<|bk<|al (ρ' :=[(6,_),(10,_),(9,_),(32,_),(8,_),(21,_),(7,_),(5,_),(4,_),(0,_),(1,_)]) ⟨rfl,rfl,rfl,rfl,rfl,rfl,rfl,rfl,rfl,rfl,rfl,trivial⟩<|ak (X' :=[_,_,_]) (S' :=[_,_]) (fun _ m=>m)<|aM<|ae<|aj<|hy (fun _=>aa rfl)<|hy (fun _=>aK rfl rfl (bs (by omega) (by omega)))<|hy (fun _=>ab rfl)<|ai<|al (ρ' :=[(8,_),(6,_),(10,_),(9,_),(32,_),(21,_),(7,_),(5,_),(4,_),(0,_),(1,_)]) ⟨rfl,rfl,rfl,rfl,rfl,rfl,rfl,rfl,rfl,rfl,rfl,trivial⟩<| ?_
   refine gv (i+1) A_o c_o ⟨rfl,rfl,rfl,rfl,rfl,rfl,rfl,rfl,trivial⟩ [0,1] rfl [0,1] rfl (⟨by omega,by omega⟩) (by omega)
  ·obtain rfl:i=64:=by omega
   obtain⟨W,hW⟩:∃W,wl l 64=W:=⟨_,rfl⟩
   have hw64:W.length=64:=by rw[←hW];exact eX l 64
   rw[hW]
   refine bA<|ao<|ao<|aC<|ae<|ah<|aj<|hy (fun _=>ab rfl)<|ai<|ae<|ah<|aj<|hy (fun _=>aa rfl)<|hy (fun _=>aa rfl)<| ?_
   refine aF (fun w m=>m.cI (r' :=aG 166 1 (.slice none 0 0) 0 []) (.refl _ _) (Own.nil _ _ _ _) (fun k hk=>hk.elim)) ?_
   refine hx (bp 0 rfl rfl rfl Tryz.underlying215 Tryz.underlying215 (by exact .inl rfl) kM rfl (fun m=>Src.bS (m.rd 0 rfl)) fK (by unfold maxLen;omega) (by omega) (fun u=> ?_))
   refine aB (fun m=>(m.own 0 rfl).slice) ?_
   rintro⟨A_v,c_v,rfl,hc_v⟩
   refine aB (fun m=>(m.ord 0 rfl).2.1) fun hA_v=> ?_
   refine aF (fun w m=>m.bq 0 rfl (show _=aG 166 1 (.slice A_v 8 c_v) 8 (dD (jJ W h 0))from rfl)) ?_
   refine hy (fun _=>ab rfl)<|ai<|al (ρ' :=[(11,_),(32,_),(6,_),(8,_),(21,_),(7,_),(5,_),(4,_),(0,_),(1,_)]) ⟨rfl,rfl,rfl,rfl,rfl,rfl,rfl,rfl,rfl,rfl,trivial⟩<|ak (X' :=[_,_,_]) (S' :=[_,_]) (fun _ m=>m)<|ae<|ah<|ah<|aj<|hy (fun _=>ab rfl)<|ai<|ae<|aI<| ?_
   refine gg (fun i A2 c2=>64-i) (fun i A2 c2=>[(11,.slice A2 8 c2),(12,.int .i64 (i:Nat))]) (fun i A2 c2=>[aG 166 1 (.slice A2 8 c2) 8 (dD (jJ W h i))]) (fun i A2 c2=>[]) (fun i A2 c2=>i≤64) 0 A_v c_v [(32,_),(6,_),(8,_),(21,_),(7,_),(5,_),(4,_),(0,_),(1,_)] ⟨rfl,rfl,rfl,rfl,rfl,rfl,rfl,rfl,rfl,trivial⟩ [0] rfl [] rfl (Nat.zero_le _) ⟨rfl,rfl,trivial⟩ (fun i A2 c2 hi64=> ?_)
   have hv:=jL (w:=W) hh i
   have hro:ff.length=64:=rfl
   refine aS (fun m=>(m.ord 0 rfl).2.1) fun hA_v=> ?_
   refine aS (fun m=>(m.ord 2 rfl).2.1) fun hA_x=> ?_
   refine aS (fun m=>(m.ord 1 rfl).2.1) fun hA_o=> ?_
   refine ah<|ah<|aj<|hy (fun _=>aa rfl)<|hy (fun _=>bu rfl rfl)<|ai<|al (ρ' :=[(97,_),(11,_),(12,_),(32,_),(6,_),(8,_),(21,_),(7,_),(5,_),(4,_),(0,_),(1,_)]) ⟨rfl,rfl,rfl,rfl,rfl,rfl,rfl,rfl,rfl,rfl,rfl,rfl,trivial⟩<|ae<| ?_
   refine cj rfl (fun hlt=> ?_) (fun hlt=> ?_)
   ·generalize hvd:jJ W h i=v at hv ⊢
    refine aA<|ae<|ah<|aI<|ah<|cq [3,7,12] [(0,some 3),(1,some 0),(2,some 0),(4,some 1),(5,some 1),(6,some 1),(9,some 2),(10,some 2),(11,some 2),(3,none),(7,none),(8,some 3),(12,none),(13,some 3),(14,some 3)] (by kernel_rfl) (by kernel_rfl) rfl 99<|an (aa rfl)<|an (aO rfl rfl Tryz.underlying215 br hA_v (show((4:Nat):Int)=4 from rfl) (by omega))<|bY (fun m=>aq rfl bC ((m.ord 0 rfl).cell (j:=4) (bj (by omega))))<|an (aa rfl)<|an (aO rfl rfl Tryz.underlying215 br hA_v (show((4:Nat):Int)=4 from rfl) (by omega))<|bY (fun m=>aq rfl bC ((m.ord 0 rfl).cell (j:=4) (bj (by omega))))<|an (aa rfl)<|an (aO rfl rfl Tryz.underlying215 br hA_v (show((4:Nat):Int)=4 from rfl) (by omega))<|bY (fun m=>aq rfl bC ((m.ord 0 rfl).cell (j:=4) (bj (by omega))))<| ?_
    refine dq (au rfl Tryz.call204 (iz (by omega) (n:=6)) [] rfl [] rfl ?_)
    rintro _ _ _ ⟨rfl,rfl,rfl⟩
    refine⟨(fun _=>wk [0,0,0] [0,1] rfl rfl), ?_⟩
    refine dq (au rfl Tryz.call204 (iz (by omega) (n:=11)) [] rfl [] rfl ?_)
    rintro _ _ _ ⟨rfl,rfl,rfl⟩
    refine⟨(fun _=>wk [0,0,0] [0,1] rfl rfl), ?_⟩
    refine an (cL rfl rfl)<| ?_
    refine dq (au rfl Tryz.call204 (iz (by omega) (n:=25)) [] rfl [] rfl ?_)
    rintro _ _ _ ⟨rfl,rfl,rfl⟩
    refine⟨(fun _=>wk [0,0,0] [0,1] rfl rfl), ?_⟩
    refine an (yV (cL rfl rfl) ((rfl:_=Wd (turns 6 11 25 (v_ v 4)))))<|an (ab rfl)<|bk<|al (ρ' :=[(13,_),(97,_),(11,_),(12,_),(32,_),(6,_),(8,_),(21,_),(7,_),(5,_),(4,_),(0,_),(1,_)]) ⟨rfl,rfl,rfl,rfl,rfl,rfl,rfl,rfl,rfl,rfl,rfl,rfl,rfl,trivial⟩<|ak (X' :=[_,_,_]) (S' :=[_,_]) (fun _ m=>m)<|ae<|ah<|cq [] [(0,some 0),(1,some 0),(2,some 0),(3,some 0),(4,some 0),(5,some 0),(6,some 0),(7,some 0),(8,some 0),(9,some 0),(10,some 0),(11,some 0),(12,some 0),(13,some 0),(14,some 0),(15,some 0),(16,some 0)] (by kernel_rfl) (by kernel_rfl) rfl 99<|an (aa rfl)<|an (aO rfl rfl Tryz.underlying215 br hA_v (show((4:Nat):Int)=4 from rfl) (by omega))<|bY (fun m=>aq rfl bC ((m.ord 0 rfl).cell (j:=4) (bj (by omega))))<|an (aa rfl)<|an (aO rfl rfl Tryz.underlying215 br hA_v (show((5:Nat):Int)=5 from rfl) (by omega))<|bY (fun m=>aq rfl bC ((m.ord 0 rfl).cell (j:=5) (bj (by omega))))<|an (gW rfl rfl)<|an (aa rfl)<|an (aO rfl rfl Tryz.underlying215 br hA_v (show((4:Nat):Int)=4 from rfl) (by omega))<|bY (fun m=>aq rfl bC ((m.ord 0 rfl).cell (j:=4) (bj (by omega))))<|an (Bd rfl rfl)<|an (aa rfl)<|an (aO rfl rfl Tryz.underlying215 br hA_v (show((6:Nat):Int)=6 from rfl) (by omega))<|bY (fun m=>aq rfl bC ((m.ord 0 rfl).cell (j:=6) (bj (by omega))))<|an (gW rfl rfl)<|an (cL rfl rfl)<|an (ab rfl)<|bk<|al (ρ' :=[(14,_),(13,_),(97,_),(11,_),(12,_),(32,_),(6,_),(8,_),(21,_),(7,_),(5,_),(4,_),(0,_),(1,_)]) ⟨rfl,rfl,rfl,rfl,rfl,rfl,rfl,rfl,rfl,rfl,rfl,rfl,rfl,rfl,trivial⟩<|ae<|ah<|cq [] [(0,some 0),(1,some 0),(2,some 0),(3,some 0),(4,some 0),(5,some 0),(6,some 0),(7,some 0),(8,some 0),(9,some 0),(10,some 0),(11,some 0),(12,some 0),(13,some 0),(14,some 0),(15,some 0),(16,some 0),(17,some 0)] (by kernel_rfl) (by kernel_rfl) rfl 99<|an (aa rfl)<|an (aO rfl rfl Tryz.underlying215 br hA_v (show((7:Nat):Int)=7 from rfl) (by omega))<|bY (fun m=>aq rfl bC ((m.ord 0 rfl).cell (j:=7) (bj (by omega))))<|an (aa rfl)<|an (cS rfl rfl)<|an (aa rfl)<|an (cS rfl rfl)<|an (aa rfl)<|an (aa rfl)<|an (aO rfl rfl Tryz.underlying215 br hA_x rfl (by omega))<|bY (fun m=>aq rfl bC ((m.ord 2 rfl).cell (j:=i) (bj (by omega))))<| ?_
    generalize hk:ff.getD i 0=k
    refine an (cS rfl rfl)<|an (aa rfl)<|an (aa rfl)<|an (aO rfl rfl Tryz.underlying215 br hA_o rfl (by omega))<|bY (fun m=>aq rfl bC ((m.ord 1 rfl).cell (j:=i) (bj (by omega))))<|an (yV (cS rfl rfl) ((rfl:_=Wd (rt v k (W.getD i 0)))))<|an (ab rfl)<|bk<|al (ρ' :=[(15,_),(14,_),(13,_),(97,_),(11,_),(12,_),(32,_),(6,_),(8,_),(21,_),(7,_),(5,_),(4,_),(0,_),(1,_)]) ⟨rfl,rfl,rfl,rfl,rfl,rfl,rfl,rfl,rfl,rfl,rfl,rfl,rfl,rfl,rfl,trivial⟩<|ae<|ah<|cq [3,7,12] [(0,some 3),(1,some 0),(2,some 0),(4,some 1),(5,some 1),(6,some 1),(9,some 2),(10,some 2),(11,some 2),(3,none),(7,none),(8,some 3),(12,none),(13,some 3),(14,some 3)] (by kernel_rfl) (by kernel_rfl) rfl 99<|an (aa rfl)<|an (aO rfl rfl Tryz.underlying215 br hA_v (show((0:Nat):Int)=0 from rfl) (by omega))<|bY (fun m=>aq rfl bC ((m.ord 0 rfl).cell (j:=0) (bj (by omega))))<|an (aa rfl)<|an (aO rfl rfl Tryz.underlying215 br hA_v (show((0:Nat):Int)=0 from rfl) (by omega))<|bY (fun m=>aq rfl bC ((m.ord 0 rfl).cell (j:=0) (bj (by omega))))<|an (aa rfl)<|an (aO rfl rfl Tryz.underlying215 br hA_v (show((0:Nat):Int)=0 from rfl) (by omega))<|bY (fun m=>aq rfl bC ((m.ord 0 rfl).cell (j:=0) (bj (by omega))))<| ?_
    refine dq (au rfl Tryz.call204 (iz (by omega) (n:=2)) [] rfl [] rfl ?_)
    rintro _ _ _ ⟨rfl,rfl,rfl⟩
    refine⟨(fun _=>wk [0,0,0] [0,1] rfl rfl), ?_⟩
    refine dq (au rfl Tryz.call204 (iz (by omega) (n:=13)) [] rfl [] rfl ?_)
    rintro _ _ _ ⟨rfl,rfl,rfl⟩
    refine⟨(fun _=>wk [0,0,0] [0,1] rfl rfl), ?_⟩
    refine an (cL rfl rfl)<| ?_
    refine dq (au rfl Tryz.call204 (iz (by omega) (n:=22)) [] rfl [] rfl ?_)
    rintro _ _ _ ⟨rfl,rfl,rfl⟩
    refine⟨(fun _=>wk [0,0,0] [0,1] rfl rfl), ?_⟩
    refine an (yV (cL rfl rfl) ((rfl:_=Wd (turns 2 13 22 (v_ v 0)))))<|an (ab rfl)<|bk<|al (ρ' :=[(16,_),(15,_),(14,_),(13,_),(97,_),(11,_),(12,_),(32,_),(6,_),(8,_),(21,_),(7,_),(5,_),(4,_),(0,_),(1,_)]) ⟨rfl,rfl,rfl,rfl,rfl,rfl,rfl,rfl,rfl,rfl,rfl,rfl,rfl,rfl,rfl,rfl,trivial⟩<|ak (X' :=[_,_,_]) (S' :=[_,_]) (fun _ m=>m)<|ae<|ah<|cq [] [(0,some 0),(1,some 0),(2,some 0),(3,some 0),(4,some 0),(5,some 0),(6,some 0),(7,some 0),(8,some 0),(9,some 0),(10,some 0),(11,some 0),(12,some 0),(13,some 0),(14,some 0),(15,some 0),(16,some 0),(17,some 0),(18,some 0),(19,some 0),(20,some 0),(21,some 0),(22,some 0),(23,some 0)] (by kernel_rfl) (by kernel_rfl) rfl 99<|an (aa rfl)<|an (aO rfl rfl Tryz.underlying215 br hA_v (show((0:Nat):Int)=0 from rfl) (by omega))<|bY (fun m=>aq rfl bC ((m.ord 0 rfl).cell (j:=0) (bj (by omega))))<|an (aa rfl)<|an (aO rfl rfl Tryz.underlying215 br hA_v (show((1:Nat):Int)=1 from rfl) (by omega))<|bY (fun m=>aq rfl bC ((m.ord 0 rfl).cell (j:=1) (bj (by omega))))<|an (gW rfl rfl)<|an (aa rfl)<|an (aO rfl rfl Tryz.underlying215 br hA_v (show((0:Nat):Int)=0 from rfl) (by omega))<|bY (fun m=>aq rfl bC ((m.ord 0 rfl).cell (j:=0) (bj (by omega))))<|an (aa rfl)<|an (aO rfl rfl Tryz.underlying215 br hA_v (show((2:Nat):Int)=2 from rfl) (by omega))<|bY (fun m=>aq rfl bC ((m.ord 0 rfl).cell (j:=2) (bj (by omega))))<|an (gW rfl rfl)<|an (cL rfl rfl)<|an (aa rfl)<|an (aO rfl rfl Tryz.underlying215 br hA_v (show((1:Nat):Int)=1 from rfl) (by omega))<|bY (fun m=>aq rfl bC ((m.ord 0 rfl).cell (j:=1) (bj (by omega))))<|an (aa rfl)<|an (aO rfl rfl Tryz.underlying215 br hA_v (show((2:Nat):Int)=2 from rfl) (by omega))<|bY (fun m=>aq rfl bC ((m.ord 0 rfl).cell (j:=2) (bj (by omega))))<|an (gW rfl rfl)<|an (cL rfl rfl)<|an (ab rfl)<|bk<|al (ρ' :=[(17,_),(16,_),(15,_),(14,_),(13,_),(97,_),(11,_),(12,_),(32,_),(6,_),(8,_),(21,_),(7,_),(5,_),(4,_),(0,_),(1,_)]) ⟨rfl,rfl,rfl,rfl,rfl,rfl,rfl,rfl,rfl,rfl,rfl,rfl,rfl,rfl,rfl,rfl,rfl,trivial⟩<|ae<|cq [28] [(0,some 0),(1,some 0),(2,some 0),(3,some 0),(4,some 0),(5,some 0),(6,some 0),(7,some 0),(8,some 0),(9,some 0),(10,some 0),(11,some 0),(12,some 0),(13,some 0),(14,some 0),(15,some 0),(16,some 0),(17,some 0),(18,some 0),(19,some 0),(20,some 0),(21,some 0),(22,some 0),(23,some 0),(24,some 0),(25,some 0),(26,some 0),(27,some 0),(28,none),(29,some 1)] (by kernel_rfl) (by kernel_rfl) rfl 99<|an (aa rfl)<|an (aa rfl)<|an (cS rfl rfl)<|an (aa rfl)<|an (yV (cS rfl rfl) ((show Wd (rt v k (W.getD i 0)+turns 2 13 22 (v_ v 0)+((v_ v 0 &&& v_ v 1) ^^^ (v_ v 0 &&& v_ v 2) ^^^ (v_ v 1 &&& v_ v 2)))=Wd (rt v k (W.getD i 0)+ru v) by rw[UInt32.add_assoc];rfl)))<|an (aa rfl)<|an (aO rfl rfl Tryz.underlying215 br hA_v (show((0:Nat):Int)=0 from rfl) (by omega))<|bY (fun m=>aq rfl bC ((m.ord 0 rfl).cell (j:=0) (bj (by omega))))<|an (aa rfl)<|an (aO rfl rfl Tryz.underlying215 br hA_v (show((1:Nat):Int)=1 from rfl) (by omega))<|bY (fun m=>aq rfl bC ((m.ord 0 rfl).cell (j:=1) (bj (by omega))))<|an (aa rfl)<|an (aO rfl rfl Tryz.underlying215 br hA_v (show((2:Nat):Int)=2 from rfl) (by omega))<|bY (fun m=>aq rfl bC ((m.ord 0 rfl).cell (j:=2) (bj (by omega))))<|an (aa rfl)<|an (aO rfl rfl Tryz.underlying215 br hA_v (show((3:Nat):Int)=3 from rfl) (by omega))<|bY (fun m=>aq rfl bC ((m.ord 0 rfl).cell (j:=3) (bj (by omega))))<|an (aa rfl)<|an (cS rfl rfl)<|an (aa rfl)<|an (aO rfl rfl Tryz.underlying215 br hA_v (show((4:Nat):Int)=4 from rfl) (by omega))<|bY (fun m=>aq rfl bC ((m.ord 0 rfl).cell (j:=4) (bj (by omega))))<|an (aa rfl)<|an (aO rfl rfl Tryz.underlying215 br hA_v (show((5:Nat):Int)=5 from rfl) (by omega))<|bY (fun m=>aq rfl bC ((m.ord 0 rfl).cell (j:=5) (bj (by omega))))<|an (aa rfl)<|an (aO rfl rfl Tryz.underlying215 br hA_v (show((6:Nat):Int)=6 from rfl) (by omega))<|bY (fun m=>aq rfl bC ((m.ord 0 rfl).cell (j:=6) (bj (by omega))))<| ?_
    refine dq (bJ Tryz.underlying215 kM rfl rfl rfl (by exact sU (l:=[_,_,_,_,_,_,_,_])) (by decide) (by decide) (fun g212=>⟨(fun _=>wk [1,1,1] [0,1] rfl rfl), ?_⟩))
    have hA_b212:0<8→(some (⟨g212,0,none⟩:Addr))≠none:=fun _ h=>by cases h
    refine an (ab rfl)<|bk<|al (ρ' :=[(11,_),(17,_),(16,_),(15,_),(14,_),(13,_),(97,_),(12,_),(32,_),(6,_),(8,_),(21,_),(7,_),(5,_),(4,_),(0,_),(1,_)]) ⟨rfl,rfl,rfl,rfl,rfl,rfl,rfl,rfl,rfl,rfl,rfl,rfl,rfl,rfl,rfl,rfl,rfl,trivial⟩<|ak (X' :=[_,_,_,_]) (S' :=[_,_]) (fun _ m=>m)<|aM<|ae<|aj<|hy (fun _=>aa rfl)<|hy (fun _=>aK rfl rfl (bs (by omega) (by omega)))<|hy (fun _=>ab rfl)<|ai<|al (ρ' :=[(12,_),(11,_),(17,_),(16,_),(15,_),(14,_),(13,_),(97,_),(32,_),(6,_),(8,_),(21,_),(7,_),(5,_),(4,_),(0,_),(1,_)]) ⟨rfl,rfl,rfl,rfl,rfl,rfl,rfl,rfl,rfl,rfl,rfl,rfl,rfl,rfl,rfl,rfl,rfl,trivial⟩<| ?_
    refine ak (fun w m=>m.bq 0 rfl (show _=aG 166 1 (.slice (some ⟨g212,0,none⟩) 8 8) 8 (dD (jJ W h (i+1)))from by rw[jJ,hvd,hk];rfl)) ?_
    refine gv (i+1) (some ⟨g212,0,none⟩) 8 ⟨rfl,rfl,rfl,rfl,rfl,rfl,rfl,rfl,rfl,rfl,rfl,trivial⟩ [0,1,1] rfl [0,1] rfl (by omega) (by omega)
   ·obtain rfl:i=64:=by omega
    generalize hvv:jJ W h 64=v at hv ⊢
    refine bg (fun w m=>m.bq 0 rfl (show _=aG 166 1 (.slice A2 8 c2) 8 (dD (fl v h 0))from by rw[qs])) ?_
    refine bA<|ao<|ao<|aC<|ae<|ah<|ah<|aj<|hy (fun _=>ab rfl)<|ai<|ae<|aI<| ?_
    refine cW (fun j=>8-j) (fun j=>[(18,.int .i64 (j:Nat))]) (fun j=>[aG 166 1 (.slice A2 8 c2) 8 (dD (fl v h j))]) (fun j=>[]) (fun j=>j≤8) 0 [(97,_),(11,_),(12,_),(32,_),(6,_),(8,_),(21,_),(7,_),(5,_),(4,_),(0,_),(1,_)] ⟨rfl,rfl,rfl,rfl,rfl,rfl,rfl,rfl,rfl,rfl,rfl,rfl,trivial⟩ [0] rfl [] rfl (Nat.zero_le _) ⟨rfl,trivial⟩ (fun j hj8=> ?_)
    have hsl:(fl v h j).length=v.length:=by simp[fl]
    refine ah<|ah<|aj<|hy (fun _=>aa rfl)<|hy (fun _=>bu rfl rfl)<|ai<|al (ρ' :=[(214,_),(18,_),(97,_),(11,_),(12,_),(32,_),(6,_),(8,_),(21,_),(7,_),(5,_),(4,_),(0,_),(1,_)]) ⟨rfl,rfl,rfl,rfl,rfl,rfl,rfl,rfl,rfl,rfl,rfl,rfl,rfl,rfl,trivial⟩<|ae<| ?_
    refine cj rfl (fun hj=> ?_) (fun hj=> ?_)
    ·refine aA<|ae<|ah<|aI<|cq [12] [(0,some 0),(1,some 0),(2,some 0),(3,some 0),(4,some 0),(5,some 0),(6,some 0),(7,some 0),(8,some 0),(9,some 0),(10,some 0),(11,some 0),(12,none)] (by kernel_rfl) (by kernel_rfl) rfl 0<|an (aa rfl)<|an (aa rfl)<|an (aa rfl)<|an (aa rfl)<|an (aO rfl rfl Tryz.underlying215 br hA_v rfl (by omega))<|bY (fun m=>aq rfl bC ((m.ord 0 rfl).cell (j:=j) (bj (by omega))))<|an (aa rfl)<|an (aa rfl)<|an (aO rfl rfl Tryz.underlying215 br hA_q rfl (by omega))<|bY (fun m=>aq rfl bC ((m.rd 0 rfl).cell (j:=j) (bj (by omega))))<|an (yV (cS rfl rfl) ((rfl:_=Wd (v_ (fl v h j) j+v_ h j))))<|an (aO rfl rfl Tryz.underlying215 br hA_v rfl (by omega))<| ?_
     refine fS (zb 0 rfl rfl rfl br rfl (by omega) ⟨(fun h=>absurd h (by decide)), ?_⟩)
     refine bk<|al (ρ' :=[(214,_),(18,_),(97,_),(11,_),(12,_),(32,_),(6,_),(8,_),(21,_),(7,_),(5,_),(4,_),(0,_),(1,_)]) ⟨rfl,rfl,rfl,rfl,rfl,rfl,rfl,rfl,rfl,rfl,rfl,rfl,rfl,rfl,trivial⟩<|ak (X' :=[_,_,_]) (S' :=[_,_]) (fun _ m=>m)<|aM<|ae<|aj<|hy (fun _=>aa rfl)<|hy (fun _=>aK rfl rfl (bs (by omega) (by omega)))<|hy (fun _=>ab rfl)<|ai<|al (ρ' :=[(18,_),(214,_),(97,_),(11,_),(12,_),(32,_),(6,_),(8,_),(21,_),(7,_),(5,_),(4,_),(0,_),(1,_)]) ⟨rfl,rfl,rfl,rfl,rfl,rfl,rfl,rfl,rfl,rfl,rfl,rfl,rfl,rfl,trivial⟩<| ?_
     refine ak (fun w m=>m.bq 0 rfl (show _=aG 166 1 (.slice A2 8 c2) 8 (dD (fl v h (j+1)))from by rw[qR,pU (by omega)])) ?_
     refine ct (j+1) ⟨rfl,rfl,rfl,rfl,rfl,rfl,rfl,rfl,rfl,rfl,rfl,rfl,rfl,trivial⟩ [0,0,0] rfl [0,1] rfl (by omega) (by omega)
    ·obtain rfl:j=8:=by omega
     have hB:fl v h 8=dT h l:=by rw[dT,hW,hvv]
     rw[hB]
     refine bA<|ao<|ao<|aC<|ae<|ah<|aj<|hy (fun _=>aa rfl)<|hy (fun _=>ab rfl)<|ai<|al (ρ' :=[(4,_),(214,_),(18,_),(97,_),(11,_),(12,_),(32,_),(6,_),(8,_),(21,_),(7,_),(5,_),(0,_),(1,_)]) ⟨rfl,rfl,rfl,rfl,rfl,rfl,rfl,rfl,rfl,rfl,rfl,rfl,rfl,rfl,trivial⟩<|ae<|aU<| ?_
     exact aZ trivial rfl rfl [0] rfl [] rfl ⟨_,rfl,rfl,rfl⟩
end Go.Proofs.YtmibdabdlgmafaaGreatDoor
end
section
set_option maxRecDepth 20000
namespace Go.Proofs.YtmibdabdlgmafaaGreatDoor
open Go.Eng Go.Hx
def kV(n:Nat):Nat→Nat
 |0=>n
 |i+1=>kV n i/256
theorem py(n:Nat):∀i,kV n i=n/256 ^ i
 |0=>by simp[kV]
 |i+1=>by rw[kV,py n i,Nat.div_div_eq_div_mul,Nat.pow_succ]
def oD(n i:Nat):List UInt8:=List.replicate (8-i) 0++(sa n).drop (8-i)
theorem ki(n:Nat):(sa n).length=8:=by simp[sa]
theorem zt(n i:Nat)(h:i≤8):(oD n i).length=8:=by
 rw[oD,List.length_append,List.length_replicate,List.length_drop,ki];omega
theorem xy{n i:Nat}(hi:i<8):(oD n i).set (7-i) (UInt8.ofNat (kV n i % 256))=oD n (i+1):=by
 have e:UInt8.ofNat (kV n i % 256)=UInt8.ofNat (n/256 ^ i):=by
  rw[py];apply UInt8.toNat_inj.1;simp
 rw[e]
 obtain⟨k,hk⟩:∃k,8-i=k+1:=⟨7-i,by omega⟩
 have h7:7-i=k:=by omega
 have hd:(sa n).drop k=UInt8.ofNat (n/256 ^ i)::(sa n).drop (k+1):=by
  rw[List.drop_eq_getElem_cons (by rw[ki];omega)]
  congr 1
  simp only[sa,List.getElem_map,List.getElem_range]
  congr 3;omega
 rw[oD,oD,hk,h7,show 8-(i+1)=k by omega,hd,List.replicate_succ',List.append_assoc,List.set_append_right _ _ (by simp)]
 simp
theorem AU{A:Option Addr}{n c:Nat}{l:List UInt8}(hn:n≤140737488351232):b6 Tryz.prog 141 [.slice A n c] [] [cr 1 A n (aP l)] (fun v_ X_ S_=>∃v,v_=v∧X_=[aG 5 1 v (iG l).length (aP (iG l))]∧S_=[]):=by
 have hz64:gY n<64:=Nat.mod_lt _ (by decide)
 have hzp:(n+(1+gY n)) % 64=56:=by unfold gY;omega
 have hzm:∀j,j<gY n→(n+(1+j)) % 64≠56:=fun j hj=>by unfold gY at hj;omega
 refine aJ (N:=39) Tryz.func141 rfl rfl (by simp) fun b=> ?_
 refine aS (fun m=>dZ (m.rd 0 rfl)) ?_
 rintro⟨hl_r,hA_r⟩
 have hl:l.length=n:=hl_r
 refine ah<|aj<|hy (fun _=>ab rfl)<|ai<|ae<|ah<|aj<|hy (fun _=>ab rfl)<|ai<|ae<|ah<|aj<|hy (fun _=>aa rfl)<|hy (fun _=>aa rfl)<| ?_
 refine aF (fun w m=>m.cI (r' :=aG 5 1 (.slice none 0 0) 0 []) (.refl _ _) (Own.nil _ _ _ _) (fun k hk=>hk.elim)) ?_
 refine hx (bp 0 rfl rfl rfl Tryz.underlying27 Tryz.underlying27 (by exact .inl rfl) eT rfl (fun m=>Src.bS (m.rd 0 rfl)) bh (by unfold maxLen;omega) (by omega) (fun u=> ?_))
 refine aB (fun m=>(m.own 0 rfl).slice) ?_
 rintro⟨A_o,c_o,rfl,hc_o⟩
 refine aB (fun m=>(m.ord 0 rfl).2.1) fun hA_o=> ?_
 rw[Nat.zero_add]
 refine hy (fun _=>ab rfl)<|ai<|al (ρ' :=[(3,_),(2,_),(0,_)]) ⟨rfl,rfl,rfl,trivial⟩<|ak (X' :=[_]) (S' :=[_]) (fun _ m=>m)<|ae<|ah<|aj<|hy (fun _=>aa rfl)<| ?_
 refine hx (bJ Tryz.underlying27 eT rfl rfl rfl (by simp[Value.cells,B8]) (by decide) (by decide) (fun g11=> ?_))
 have hA_b11:0<1→(some (⟨g11,0,none⟩:Addr))≠none:=fun _ h=>by cases h
 refine aF (fun w m=>m.bq 0 rfl (show _=aG 5 1 (.slice (some ⟨g11,0,none⟩) 1 1) 1 (aP [128])from rfl)) ?_
 refine hx (bp 1 rfl rfl rfl Tryz.underlying27 Tryz.underlying27 (by exact .inl rfl) eT rfl (fun m=>Src.bS (m.ord 0 rfl)) bh (by unfold maxLen;omega) (by omega) (fun u2=> ?_))
 refine aB (fun m=>(m.own 0 rfl).slice) ?_
 rintro⟨A_o2,c_o2,rfl,hc_o⟩
 refine aB (fun m=>(m.ord 0 rfl).2.1) fun hA_o=> ?_
 refine aF (fun w m=>m.bq 0 rfl (show _=aG 5 1 (.slice A_o2 (n+1+0) c_o2) (n+1+0) (aP (l++128::List.replicate 0 0))from by simp[aP])) ?_
 refine hy (fun _=>ab rfl)<|ai<|al (ρ' :=[(3,_),(2,_),(0,_)]) ⟨rfl,rfl,rfl,trivial⟩<|ak (X' :=[_,_]) (S' :=[_]) (fun _ m=>m)<|ae<|ah<|aI<| ?_
 refine gg (fun j A1 cc=>gY n-j) (fun j A1 cc=>[(3,.slice A1 (n+1+j) cc)]) (fun j A1 cc=>[aG 5 1 (.slice A1 (n+1+j) cc) (n+1+j) (aP (l++128::List.replicate j 0))]) (fun j A1 cc=>[]) (fun j A1 cc=>j≤gY n) 0 A_o2 c_o2 [(2,_),(0,_)] ⟨rfl,rfl,trivial⟩ [0] rfl [] rfl (Nat.zero_le _) ⟨rfl,trivial⟩ (fun j A1 cc hjz=> ?_)
 refine ah<|ah<|aj<|hy (fun _=>aa rfl)<|hy (fun _=>aW rfl Tryz.underlying27)<|hy (fun _=>gK rfl rfl (by omega) (by omega))<|hy (fun _=>dx rfl rfl)<|ai<|al (ρ' :=[(16,_),(3,_),(2,_),(0,_)]) ⟨rfl,rfl,rfl,rfl,trivial⟩<|ae<| ?_
 refine cj rfl (fun hne=> ?_) (fun hne=> ?_)
 ·have hj:j<gY n:=by
   rcases Nat.lt_or_eq_of_le hjz with h|h
   ·exact h
   ·rw[←h]at hzp;omega
  refine aA<|ae<|aI<|aj<|hy (fun _=>aa rfl)<| ?_
  refine hx (bJ Tryz.underlying27 eT rfl rfl rfl (by simp[Value.cells,B8]) (by decide) (by decide) (fun g18=> ?_))
  have hA_b18:0<1→(some (⟨g18,0,none⟩:Addr))≠none:=fun _ h=>by cases h
  refine aF (fun w m=>m.bq 0 rfl (show _=aG 5 1 (.slice (some ⟨g18,0,none⟩) 1 1) 1 (aP [0])from rfl)) ?_
  refine hx (bp 1 rfl rfl rfl Tryz.underlying27 Tryz.underlying27 (by exact .inl rfl) eT rfl (fun m=>Src.bS (m.ord 0 rfl)) bh (by unfold maxLen;omega) (by omega) (fun u3=> ?_))
  refine aB (fun m=>(m.own 0 rfl).slice) ?_
  rintro⟨A_o3,c_o3,rfl,hc_o⟩
  refine aB (fun m=>(m.ord 0 rfl).2.1) fun hA_o=> ?_
  refine hy (fun _=>ab rfl)<|ai<|al (ρ' :=[(3,_),(16,_),(2,_),(0,_)]) ⟨rfl,rfl,rfl,rfl,trivial⟩<|ak (X' :=[_,_,_]) (S' :=[_]) (fun _ m=>m)<|aM<| ?_
  refine ak (fun w m=>m.bq 0 rfl (show _=aG 5 1 (.slice A_o3 (n+1+(j+1)) c_o3) (n+1+(j+1)) (aP (l++128::List.replicate (j+1) 0))from by rw[List.replicate_succ'];simp[aP,Nat.add_assoc])) ?_
  refine gv (j+1) A_o3 c_o3 ⟨rfl,rfl,rfl,trivial⟩ [0,1] rfl [0] rfl (by omega) (by omega)
 ·have hj:j=gY n:=by
   refine Decidable.byContradiction fun hn=> ?_
   have:=hzm j (by omega)
   omega
  subst hj
  refine bA<|ao<|ao<|aC<|ae<|ah<|aj<|hy (fun _=>aa rfl)<|hy (fun _=>aW rfl Tryz.underlying27)<|hy (fun _=>yV (fU rfl rfl (bs (by omega) (by omega))) ((show Value.int .i64 (8*(n:Int))= .int .i64 ((kV (8*n) 0:Nat):Int) by rw[kV];congr 1)))<|hy (fun _=>ab rfl)<|ai<|al (ρ' :=[(4,_),(16,_),(3,_),(2,_),(0,_)]) ⟨rfl,rfl,rfl,rfl,rfl,trivial⟩<|ae<|ah<|aj<| ?_
  refine hx (Ce (n:=8) Tryz.underlying27 eT rfl rfl rfl (by decide) (by decide) (fun g23=> ?_))
  have hA_b23:∀{n:Nat},0<n→(some (⟨g23,0,none⟩:Addr))≠none:=fun _ h=>by cases h
  refine hy (fun _=>ab rfl)<|ai<|al (ρ' :=[(5,_),(4,_),(16,_),(3,_),(2,_),(0,_)]) ⟨rfl,rfl,rfl,rfl,rfl,rfl,trivial⟩<|ak (X' :=[_,_,_]) (S' :=[_]) (fun _ m=>m)<|ae<|ah<|ah<|aj<| ?_
  refine aF (fun w m=>m.bq 0 rfl (show _=aE g23 5 (aP (oD (8*n) 0))from by rw[oD,List.drop_of_length_le (by rw[ki];decide),List.append_nil];rfl)) ?_
  refine hy (fun _=>ab rfl)<|ai<|ae<|aI<| ?_
  refine cW (fun i=>8-i) (fun i=>[(4,.int .i64 ((kV (8*n) i:Nat):Int)),(6,.int .i64 (7-(i:Int)))]) (fun i=>[aE g23 5 (aP (oD (8*n) i))]) (fun i=>[]) (fun i=>i≤8) 0 [(5,_),(16,_),(3,_),(2,_),(0,_)] ⟨rfl,rfl,rfl,rfl,rfl,trivial⟩ [0] rfl [] rfl (Nat.zero_le _) ⟨rfl,rfl,trivial⟩ (fun i hi8=> ?_)
  have hq:kV (8*n) i≤8*n:=by rw[py];exact Nat.div_le_self ..
  have hbl:=zt (8*n) i hi8
  refine ah<|ah<|aj<|hy (fun _=>aa rfl)<|hy (fun _=>ee rfl rfl)<|ai<|al (ρ' :=[(25,_),(4,_),(6,_),(5,_),(16,_),(3,_),(2,_),(0,_)]) ⟨rfl,rfl,rfl,rfl,rfl,rfl,rfl,rfl,trivial⟩<|ae<| ?_
  refine cj rfl (fun hi=> ?_) (fun hi=> ?_)
  ·refine aA<|ae<|ah<|aI<|ah<|aj<|hy (fun _=>aa rfl)<|hy (fun _=>aa rfl)<|hy (fun _=>aa rfl)<|hy (fun _=>gK rfl rfl (by omega) (by omega))<|hy (fun _=>bU rfl Tryz.underlying3 Tryz.underlying5 (show IntKind.u8.wrap (((kV (8*n) i:Nat):Int) % 256)=((UInt8.ofNat (kV (8*n) i % 256)).toNat:Int)from ir (kV (8*n) i % 256)))<|hy (fun _=>aO rfl rfl Tryz.underlying27 dF hA_b23 (show((7-i:Nat):Int)=_ by omega) (by omega))<| ?_
   refine cB (bX 0 rfl rfl rfl dF rfl (by rw[az,hbl];omega) ?_)
   refine ai<|al (ρ' :=[(25,_),(4,_),(6,_),(5,_),(16,_),(3,_),(2,_),(0,_)]) ⟨rfl,rfl,rfl,rfl,rfl,rfl,rfl,rfl,trivial⟩<|ak (X' :=[_,_,_]) (S' :=[_]) (fun _ m=>m)<|ae<|aj<|hy (fun _=>aa rfl)<|hy (fun _=>yV (j0 rfl rfl (by omega) (by omega) (bs (by omega) (by omega))) ((show Value.int .i64 (((kV (8*n) i:Nat):Int)/256)= .int .i64 ((kV (8*n) (i+1):Nat):Int)from rfl)))<|hy (fun _=>ab rfl)<|ai<|al (ρ' :=[(4,_),(25,_),(6,_),(5,_),(16,_),(3,_),(2,_),(0,_)]) ⟨rfl,rfl,rfl,rfl,rfl,rfl,rfl,rfl,trivial⟩<|aM<|ae<|aj<|hy (fun _=>aa rfl)<|hy (fun _=>yV (cd rfl rfl (bs (by omega) (by omega))) ((show Value.int .i64 (7-(i:Int)-1)= .int .i64 (7-((i+1:Nat):Int))from congrArg (Value.int .i64) (by omega))))<|hy (fun _=>ab rfl)<|ai<|al (ρ' :=[(6,_),(4,_),(25,_),(5,_),(16,_),(3,_),(2,_),(0,_)]) ⟨rfl,rfl,rfl,rfl,rfl,rfl,rfl,rfl,trivial⟩<| ?_
   refine ak (fun w m=>m.bq 0 rfl (show _=aE g23 5 (aP (oD (8*n) (i+1)))from by rw[Nat.zero_add,←xy (by omega),Ba];rfl)) ?_
   refine ct (i+1) ⟨rfl,rfl,rfl,rfl,rfl,rfl,rfl,trivial⟩ [0,0,0] rfl [0] rfl (by omega) (by omega)
  ·obtain rfl:i=8:=by omega
   have hpl:(iG l).length=n+1+gY n+8:=by
    simp only[iG,List.length_append,List.length_cons,List.length_replicate,ki,hl];omega
   refine bg (fun w m=>m.bq 0 rfl (show _=aE g23 5 (aP (sa (8*n)))from by simp[oD])) ?_
   refine bA<|ao<|ao<|aC<|ae<|ah<|aj<|hy (fun _=>aa rfl)<|hy (fun _=>aa rfl)<| ?_
   refine hx (bp 1 rfl rfl rfl Tryz.underlying27 Tryz.underlying27 (by exact .inl rfl) eT rfl (fun m=>Src.bS (Rd.lh (m.aN 0 rfl) (by rw[az,ki]))) bh (by unfold maxLen;omega) (by omega) (fun u3=> ?_))
   refine aB (fun m=>(m.own 0 rfl).slice) ?_
   rintro⟨A_o3,c_o3,rfl,hc_o⟩
   refine aB (fun m=>(m.ord 0 rfl).2.1) fun hA_o=> ?_
   refine aF (fun w m=>m.bq 0 rfl (show _=aG 5 1 (.slice A_o3 (iG l).length c_o3) (iG l).length (aP (iG l))from by rw[hpl,iG,hl];simp[aP])) ?_
   refine hy (fun _=>ab rfl)<|ai<|al (ρ' :=[(2,_),(25,_),(4,_),(6,_),(5,_),(16,_),(3,_),(0,_)]) ⟨rfl,rfl,rfl,rfl,rfl,rfl,rfl,rfl,trivial⟩<|ak (X' :=[_,_,_]) (S' :=[_]) (fun _ m=>m)<|ae<|aU<| ?_
   exact aZ trivial rfl rfl [0] rfl [] rfl ⟨_,(by rw[hpl]),rfl,rfl⟩
theorem x1{p r:List UInt8}{k:Nat}{a x:UInt8}(hp:p.length=k):(aP (p++x::r)).set k (B8 a)=aP (p++[a]++r):=by
 subst hp
 simp[aP,List.set_append]
def qw(x:UInt32):Nat→UInt32
 |0=>x
 |j+1=>qw x j/256
theorem sf(x:UInt32):∀j,(qw x j).toNat=x.toNat/256 ^ j
 |0=>by simp[qw]
 |j+1=>by
  rw[qw,UInt32.toNat_div,sf x j,Nat.pow_succ,←Nat.div_div_eq_div_mul];rfl
theorem De(x:UInt32){r:Nat}(hr:r<4):(Az x)[r]? =some (UInt8.ofNat (qw x (3-r) % 256).toNat):=by
 have h256:(256:UInt32).toNat=256:=rfl
 have e:∀k,UInt8.ofNat ((qw x k % 256).toNat)=UInt8.ofNat (x.toNat/256 ^ k):=fun k=>by
  rw[UInt32.toNat_mod,sf,h256]
  apply UInt8.toNat_inj.1;simp
 rw[e]
 match r,hr with
 |0,_=>simp[Az,UInt32.toNat_div]
 |1,_=>simp[Az,UInt32.toNat_div]
 |2,_=>simp[Az,UInt32.toNat_div]
 |3,_=>simp[Az]
theorem pV:∀(h:List UInt32) (q r:Nat),q<h.length→r<4→(en h)[4*q+r]? =(Az (h.getD q 0))[r]?
 |a::t,0,r,hq,hr=>by
  rw[en,List.flatMap_cons,List.getElem?_append_left (by show 4*0+r<4;omega)]
  simp
 |a::t,q+1,r,hq,hr=>by
  rw[en,List.flatMap_cons,List.getElem?_append_right (by show 4≤_;omega),show 4*(q+1)+r-(Az a).length=4*q+r by show 4*(q+1)+r-4=_;omega]
  have:=pV t q r (by simpa using hq) hr
  simpa[en]using this
theorem jV{A:Option Addr}{n c:Nat}{l:List UInt8}(hn:n≤140737488351232):b6 Tryz.prog 56 [.slice A n c] [] [cr 1 A n (aP l)] (fun v_ X_ S_=>v_=(.agg (aP (bw l)).toArray)∧X_=[]∧S_=[]):=by
 refine aJ (N:=49) Tryz.func56 rfl rfl (by simp) fun b=> ?_
 refine aS (fun m=>dZ (m.rd 0 rfl)) ?_
 rintro⟨hl_r,hA_r⟩
 refine ah<|aj<| ?_
 refine hx (bf fC (fun g2=> ?_))
 refine ai<|ak (X' :=[_]) (S' :=[_]) (fun _ m=>m)<|ae<|ah<|aj<| ?_
 refine hx (bJ Tryz.underlying215 kM rfl rfl rfl (by decide) (by decide) (by decide) (fun g10=> ?_))
 have hA_b10:0<8→(some (⟨g10,0,none⟩:Addr))≠none:=fun _ h=>by cases h
 refine aF (fun w m=>m.bq 0 rfl (show _=aG 166 1 (.slice (some ⟨g10,0,none⟩) 8 8) 8 (dD (eV lq ((iG l).take (64*0))))from by rw[Nat.mul_zero,List.take_zero];rfl)) ?_
 refine hy (fun _=>ab rfl)<|ai<|al (ρ' :=[(3,_),(2,_),(0,_)]) ⟨rfl,rfl,rfl,trivial⟩<|ak (X' :=[_,_]) (S' :=[_]) (fun _ m=>m)<|ae<|ah<|aj<|hy (fun _=>aa rfl)<| ?_
 refine hx (au rfl Tryz.call141 (AU (by omega)) [] rfl [0] rfl ?_)
 rintro _ _ _ ⟨v,rfl,rfl,rfl⟩
 refine aB (fun m=>(m.own 0 rfl).slice) ?_
 rintro⟨A_x,c_x,rfl,hc_x⟩
 refine aB (fun m=>(m.ord 0 rfl).2.1) fun hA_x=> ?_
 refine hy (fun _=>ab rfl)<|ai<|al (ρ' :=[(4,_),(3,_),(2,_),(0,_)]) ⟨rfl,rfl,rfl,rfl,trivial⟩<|ak (X' :=[_,_,_]) (S' :=[_]) (fun _ m=>m)<|ae<|ah<|ah<|aj<|hy (fun _=>ab rfl)<|ai<|ae<|aI<| ?_
 have hpl:=nu l
 have hpb:(iG l).length≤140737488352000:=by
  have:l.length=n:=hl_r
  have hz:gY l.length<64:=Nat.mod_lt _ (by decide)
  simp only[iG,List.length_append,List.length_cons,List.length_replicate,ki];omega
 obtain⟨K,hK⟩:∃K,(iG l).length=64*K:=⟨(iG l).length/64,by omega⟩
 generalize hP:iG l=P at hpl hpb hK hc_x hA_x ⊢
 refine bg (fun w m=>(m.perm (ar [0] _ [_] _ rfl)).freeze) ?_
 refine bg (fun w m=>m.fh 0 rfl .own) ?_
 refine aS (fun m=>dZ (m.rd 0 rfl)) ?_
 rintro⟨hl_xr,hA_xr⟩
 refine gg (fun k H hc=>K-k) (fun k H hc=>[(3,.slice H 8 hc),(5,.int .i64 ((64*k:Nat):Int))]) (fun k H hc=>[aG 166 1 (.slice H 8 hc) 8 (dD (eV lq (P.take (64*k))))]) (fun k H hc=>[]) (fun k H hc=>k≤K) 0 (some ⟨g10,0,none⟩) 8 [(4,_),(2,_),(0,_)] ⟨rfl,rfl,rfl,trivial⟩ [0] rfl [] rfl (Nat.zero_le _) ⟨rfl,rfl,trivial⟩ (fun k H hc hkK=> ?_)
 have hh:=lA (h:=lq) (P.take (64*k)) rfl
 refine ah<|ah<|aj<|hy (fun _=>aa rfl)<|hy (fun _=>aa rfl)<|hy (fun _=>aW rfl Tryz.underlying27)<|hy (fun _=>bu rfl rfl)<|ai<|al (ρ' :=[(16,_),(3,_),(5,_),(4,_),(2,_),(0,_)]) ⟨rfl,rfl,rfl,rfl,rfl,rfl,trivial⟩<|ae<| ?_
 refine cj rfl (fun hlt=> ?_) (fun hlt=> ?_)
 ·have hk:k<K:=by omega
  refine bg (fun w m=>m.fh 0 rfl (View.sub (k:=64*k) (m:=64) hc_x (by omega))) ?_
  refine aS (fun m=>dZ (m.rd 0 rfl)) ?_
  rintro⟨hl_r64,hA_r64⟩
  refine aA<|ae<|ah<|aI<|aj<|hy (fun _=>aa rfl)<|hy (fun _=>aa rfl)<|hy (fun _=>aa rfl)<|hy (fun _=>aa rfl)<|hy (fun _=>aK rfl rfl (bs (by omega) (by omega)))<|hy (fun _=>yV (ew rfl rfl rfl Tryz.underlying27 dF (show((64*k:Nat):Int)=_ by omega) (show((64*k+64:Nat):Int)=_ by omega) (by omega) (by omega)) ((show Value.slice (if c_x=64*k then A_x else A_x.map (·.add (64*k*1))) (64*k+64-64*k) (c_x-64*k)= .slice (if c_x=64*k then A_x else A_x.map (·.add (64*k*1))) 64 (c_x-64*k) by rw[Nat.add_sub_cancel_left])))<| ?_
  refine hx (cY rfl Tryz.call142 (A6 (by omega) hh (h:=(eV lq (P.take (64*k))))) [] rfl (.x 0 rfl .own (.s 0 rfl .nil)) ?_)
  rintro _ _ _ ⟨u,rfl,rfl,rfl⟩
  refine⟨rfl, ?_⟩
  refine aB (fun m=>(m.own 0 rfl).slice) ?_
  rintro⟨A_y,c_y,rfl,hc_y⟩
  refine aB (fun m=>(m.ord 0 rfl).2.1) fun hA_y=> ?_
  refine hy (fun _=>ab rfl)<|ai<|al (ρ' :=[(3,_),(16,_),(5,_),(4,_),(2,_),(0,_)]) ⟨rfl,rfl,rfl,rfl,rfl,rfl,trivial⟩<|ak (X' :=[_,_,_]) (S' :=[_,_,_,_]) (fun _ m=>m)<|aM<|ae<|aj<|hy (fun _=>aa rfl)<|hy (fun _=>yV (aK rfl rfl (bs (by omega) (by omega))) ((show Value.int .i64 (((64*k:Nat):Int)+64)= .int .i64 ((64*(k+1):Nat):Int)from congrArg (Value.int .i64) (by omega))))<|hy (fun _=>ab rfl)<|ai<|al (ρ' :=[(5,_),(3,_),(16,_),(4,_),(2,_),(0,_)]) ⟨rfl,rfl,rfl,rfl,rfl,rfl,trivial⟩<| ?_
  have hfs:dT (eV lq (P.take (64*k))) ((P.drop (64*k)).take 64)=eV lq (P.take (64*(k+1))):=by
   rw[←pb (by rw[List.length_take];omega) (by rw[List.length_take,List.length_drop];omega),←List.take_add]
   rfl
  rw[hfs]
  refine gv (k+1) A_y c_y ⟨rfl,rfl,rfl,rfl,rfl,trivial⟩ [0,1] rfl [1,2,3] rfl (by omega) (by omega)
 ·obtain rfl:k=K:=by omega
  have hfl:eV lq (P.take (64*k))=eV lq P:=by rw[List.take_of_length_le (by omega)]
  rw[hfl]at hh ⊢
  have hsha:bw l=en (eV lq P):=by rw[bw,hP]
  have hdl:=lU hh
  generalize eV lq P=F at hh hsha hdl ⊢
  refine aS (fun m=>(m.ord 0 rfl).2.1) fun hA_b10=> ?_
  refine bA<|ao<|ao<|aC<|ae<|ah<|aj<| ?_
  refine hx (bf fC (fun g6=> ?_))
  refine ai<|ak (X' :=[_,_,_]) (S' :=[_,_,_]) (fun _ m=>m)<|ae<|ah<|ah<|aj<|hy (fun _=>ab rfl)<|ai<|ae<|aI<| ?_
  refine bg (fun w m=>m.bq 0 rfl (show _=aE g6 53 (aP ((en F).take 0++List.replicate (32-0) 0))from rfl)) ?_
  refine cW (fun i=>32-i) (fun i=>[(7,.int .i64 (i:Nat))]) (fun i=>[aE g6 53 (aP ((en F).take i++List.replicate (32-i) 0))]) (fun i=>[]) (fun i=>i≤32) 0 [(6,_),(16,_),(3,_),(5,_),(4,_),(2,_),(0,_)] ⟨rfl,rfl,rfl,rfl,rfl,rfl,rfl,trivial⟩ [0] rfl [] rfl (Nat.zero_le _) ⟨rfl,trivial⟩ (fun i hi32=> ?_)
  refine ah<|ah<|aj<|hy (fun _=>aa rfl)<|hy (fun _=>bu rfl rfl)<|ai<|al (ρ' :=[(27,_),(7,_),(6,_),(16,_),(3,_),(5,_),(4,_),(2,_),(0,_)]) ⟨rfl,rfl,rfl,rfl,rfl,rfl,rfl,rfl,rfl,trivial⟩<|ae<| ?_
  refine cj rfl (fun hi=> ?_) (fun hi=> ?_)
  ·refine aA<|ae<|ah<|aI<|ah<|aj<|hy (fun _=>aa rfl)<|hy (fun _=>aa rfl)<|hy (fun _=>j0 rfl rfl (by omega) (by omega) (bs (by omega) (by omega)))<|hy (fun _=>aO rfl rfl Tryz.underlying215 br hA_b10 (show((i/4:Nat):Int)=_ by omega) (by omega))<|hy (fun m=>yV (aq rfl bC ((m.ord 1 rfl).cell (j:=i/4) (bj (by omega)))) ((rfl:_=Wd (qw (F.getD (i/4) 0) 0))))<|hy (fun _=>ab rfl)<|ai<|al (ρ' :=[(8,_),(27,_),(7,_),(6,_),(16,_),(3,_),(5,_),(4,_),(2,_),(0,_)]) ⟨rfl,rfl,rfl,rfl,rfl,rfl,rfl,rfl,rfl,rfl,trivial⟩<|ae<|ah<|ah<|aj<|hy (fun _=>aa rfl)<|hy (fun _=>yV (gK rfl rfl (by omega) (by omega)) ((show Value.int .i64 ((i:Int) % 4)= .int .i64 (((i % 4+0:Nat)):Int)from congrArg (Value.int .i64) (by omega))))<|hy (fun _=>ab rfl)<|ai<|al (ρ' :=[(9,_),(8,_),(27,_),(7,_),(6,_),(16,_),(3,_),(5,_),(4,_),(2,_),(0,_)]) ⟨rfl,rfl,rfl,rfl,rfl,rfl,rfl,rfl,rfl,rfl,rfl,trivial⟩<|ae<|aI<| ?_
   refine cW (fun j=>3-j) (fun j=>[(8,Wd (qw (F.getD (i/4) 0) j)),(9,.int .i64 ((i % 4+j:Nat):Int))]) (fun j=>[]) (fun j=>[]) (fun j=>i % 4+j≤3) 0 [(27,_),(7,_),(6,_),(16,_),(3,_),(5,_),(4,_),(2,_),(0,_)] ⟨rfl,rfl,rfl,rfl,rfl,rfl,rfl,rfl,rfl,trivial⟩ [] rfl [] rfl ((by omega)) ⟨rfl,rfl,trivial⟩ (fun j hj3=> ?_)
   refine ah<|ah<|aj<|hy (fun _=>aa rfl)<|hy (fun _=>bu rfl rfl)<|ai<|al (ρ' :=[(38,_),(8,_),(9,_),(27,_),(7,_),(6,_),(16,_),(3,_),(5,_),(4,_),(2,_),(0,_)]) ⟨rfl,rfl,rfl,rfl,rfl,rfl,rfl,rfl,rfl,rfl,rfl,rfl,trivial⟩<|ae<| ?_
   refine cj rfl (fun hj=> ?_) (fun hj=> ?_)
   ·refine aA<|ae<|ah<|aI<|aj<|hy (fun _=>aa rfl)<|hy (fun _=>yV (mK (b:=256) (by decide) rfl rfl) ((rfl:_=Wd (qw (F.getD (i/4) 0) (j+1)))))<|hy (fun _=>ab rfl)<|ai<|al (ρ' :=[(8,_),(38,_),(9,_),(27,_),(7,_),(6,_),(16,_),(3,_),(5,_),(4,_),(2,_),(0,_)]) ⟨rfl,rfl,rfl,rfl,rfl,rfl,rfl,rfl,rfl,rfl,rfl,rfl,trivial⟩<|aM<|ae<|aj<|hy (fun _=>aa rfl)<|hy (fun _=>yV (aK rfl rfl (bs (by omega) (by omega))) ((show Value.int .i64 (((i % 4+j:Nat):Int)+1)= .int .i64 ((i % 4+(j+1):Nat):Int)from congrArg (Value.int .i64) (by omega))))<|hy (fun _=>ab rfl)<|ai<|al (ρ' :=[(9,_),(8,_),(38,_),(27,_),(7,_),(6,_),(16,_),(3,_),(5,_),(4,_),(2,_),(0,_)]) ⟨rfl,rfl,rfl,rfl,rfl,rfl,rfl,rfl,rfl,rfl,rfl,rfl,trivial⟩<| ?_
    refine ct (j+1) ⟨rfl,rfl,rfl,rfl,rfl,rfl,rfl,rfl,rfl,rfl,rfl,trivial⟩ [0,0,0] rfl [0,1,2] rfl (by omega) (by omega)
   ·have hj:j=3-i % 4:=by omega
    subst hj
    have hbyte:(en F)[i]? =some (UInt8.ofNat (qw (F.getD (i/4) 0) (3-i % 4) % 256).toNat):=by
     rw[←De _ (by omega),←pV F (i/4) (i % 4) (by omega) (by omega)]
     congr 1;omega
    have hri:List.replicate (32-i) (0:UInt8)=0::List.replicate (32-(i+1)) 0:=by rw[show 32-i=(32-(i+1))+1 by omega];rfl
    have hti:(en F).take (i+1)=(en F).take i++[UInt8.ofNat (qw (F.getD (i/4) 0) (3-i % 4) % 256).toNat]:=by
     rw[List.take_add_one,hbyte];rfl
    refine bA<|ao<|ao<|aC<|ae<|aj<|hy (fun _=>aa rfl)<|hy (fun _=>aa rfl)<|hy (fun _=>uz (b:=256) (by decide) rfl rfl)<|hy (fun _=>ye rfl Tryz.underlying166 Tryz.underlying5)<|hy (fun _=>bR rfl rfl Tryz.underlying53 dF rfl (by omega))<| ?_
    refine cB (bX 0 rfl rfl rfl dF rfl (by rw[az,List.length_append,List.length_take,List.length_replicate];omega) ?_)
    refine ai<|al (ρ' :=[(38,_),(8,_),(9,_),(27,_),(7,_),(6,_),(16,_),(3,_),(5,_),(4,_),(2,_),(0,_)]) ⟨rfl,rfl,rfl,rfl,rfl,rfl,rfl,rfl,rfl,rfl,rfl,rfl,trivial⟩<|ak (X' :=[_,_,_]) (S' :=[_,_,_]) (fun _ m=>m)<|aM<|ae<|aj<|hy (fun _=>aa rfl)<|hy (fun _=>aK rfl rfl (bs (by omega) (by omega)))<|hy (fun _=>ab rfl)<|ai<|al (ρ' :=[(7,_),(38,_),(8,_),(9,_),(27,_),(6,_),(16,_),(3,_),(5,_),(4,_),(2,_),(0,_)]) ⟨rfl,rfl,rfl,rfl,rfl,rfl,rfl,rfl,rfl,rfl,rfl,rfl,trivial⟩<| ?_
    refine ak (fun w m=>m.bq 0 rfl (show _=aE g6 53 (aP ((en F).take (i+1)++List.replicate (32-(i+1)) 0))from by rw[hri,Nat.zero_add,hti];exact congrArg (aE _ _) (x1 (by rw[List.length_take];omega)))) ?_
    refine ct (i+1) ⟨rfl,rfl,rfl,rfl,rfl,rfl,rfl,rfl,trivial⟩ [0,0,0] rfl [0,1,2] rfl (by omega) (by omega)
  ·obtain rfl:i=32:=by omega
   refine bg (fun w m=>m.bq 0 rfl (show _=aE g6 53 (aP (bw l))from by rw[List.take_of_length_le (by omega),←hsha];simp)) ?_
   refine bA<|ao<|ao<|aC<|ae<|ah<|aj<|hy (fun m=>yV (aQ rfl cf bL (by rw[az,bx]) ((m.aN 0 rfl).aw)) ((rfl:_=Value.agg (aP (bw l)).toArray)))<| ?_
   refine cB (a6 2 rfl rfl rfl bL (by rw[az,bx]) bh rfl ?_)
   refine ai<|al (ρ' :=[(27,_),(7,_),(6,_),(16,_),(3,_),(5,_),(4,_),(2,_),(0,_)]) ⟨rfl,rfl,rfl,rfl,rfl,rfl,rfl,rfl,rfl,trivial⟩<|ak (X' :=[_,_,_]) (S' :=[_,_,_]) (fun _ m=>m)<|ae<|aU<| ?_
   exact ep trivial rfl rfl cf bL (by rw[az,bx]) (fun m=>(m.aN 0 rfl).aw) [] rfl [] rfl ⟨rfl,rfl,rfl⟩
end Go.Proofs.YtmibdabdlgmafaaGreatDoor
end
section
set_option maxRecDepth 20000
set_option maxHeartbeats 4000000
namespace Go.Proofs.YtmibdabdlgmafaaGreatDoor
open Go.Eng Go.Hx
theorem vW{nm:List UInt8}(hm:nm.length=32):b6 Tryz.prog 98 [.agg (aP nm).toArray] [] [] (fun v_ X_ S_=>v_=(.string (strOf (bM nm)))∧X_=[]∧S_=[]):=by
 have hhl:(cx nm).length=64:=by rw[dN,hm]
 refine aJ (N:=6) Tryz.func98 rfl rfl (by simp) fun b=> ?_
 refine ah<|aj<| ?_
 refine hx (bn rfl (fun g1=> ?_))
 refine aF (fun w m=>m.bq 0 rfl (show _=aE g1 53 (aP nm)from congrArg (aE _ _) (aR _))) ?_
 refine hy (fun _=>ab rfl)<|ai<|ak (X' :=[_]) (S' :=[]) (fun _ m=>m)<|ae<|ah<|aj<|hy (fun m=>aQ rfl cf bL (by rw[az];exact hm) ((m.aN 0 rfl).aw))<| ?_
 refine hx (au rfl Tryz.call111 (vp hm) [] rfl [] rfl ?_)
 rintro _ _ _ ⟨rfl,rfl,rfl⟩
 refine hy (fun _=>yV (iH rfl rfl (ia (a:=[116,47]) (b:=cx nm) (by simp[hhl]))) ((show Value.string (strOf [116,47]++strOf (cx nm))= .string (strOf (bM nm))from congrArg Value.string (cV _ _))))<|hy (fun _=>ab rfl)<|ai<|al (ρ' :=[(2,_),(1,_),(0,_)]) ⟨rfl,rfl,rfl,trivial⟩<|ak (X' :=[_]) (S' :=[]) (fun _ m=>m)<|ae<|aU<| ?_
 exact aZ trivial rfl rfl [] rfl [] rfl ⟨rfl,rfl,rfl⟩
theorem yB{x:RX}{kk:Nat}{nm:List UInt8}(ok:zQ x.d kk)(hkk:kk≤100000)(hm:nm.length=32)(hrd:(x.d.cA (bH nm)).length≤10000000):b6 Tryz.prog 74 [.agg x.cs.toArray,.agg (aP nm).toArray] [] [fG x,dI] (fun v_ X_ S_=>v_=(.tuple #[.string (strOf (x.d.uI nm)),.int .i64 (x.d.gu nm)])∧X_=[]∧S_=[]):=by
 have h32:(aP nm).length=32:=by rw[az,hm]
 refine aJ (N:=34) Tryz.func74 rfl rfl (by simp) fun b=> ?_
 refine ah<|aj<| ?_
 refine hx (bn rfl (fun g2=> ?_))
 refine aF (fun w m=>m.bq 0 rfl (show _=aE g2 39 x.cs from congrArg (aE _ _) (aR _))) ?_
 refine hx (bn rfl (fun g3=> ?_))
 refine aF (fun w m=>m.bq 0 rfl (show _=aE g3 53 (aP nm)from congrArg (aE _ _) (aR _))) ?_
 refine hy (fun _=>ab rfl)<|hy (fun _=>ab rfl)<|ai<|ak (X' :=[_,_]) (S' :=[_,_]) (fun _ m=>m)<|ae<|ah<|cq [2,3] [(0,some 1),(1,some 0),(2,none),(3,none),(4,some 2),(5,some 2),(6,some 2),(7,some 2),(8,some 2)] (by kernel_rfl) (by kernel_rfl) rfl 99<|bY (fun m=>yV (aQ rfl cC bV rfl ((m.aN 1 rfl).aw)) ((rfl:_=Value.agg x.cs.toArray)))<|bY (fun m=>aQ rfl cf bL h32 ((m.aN 0 rfl).aw))<| ?_
 refine dq (au rfl Tryz.call29 (vI hm) [] rfl [] rfl ?_)
 rintro _ _ _ ⟨rfl,rfl,rfl⟩
 refine⟨(fun _=>wk [0,0] [0,1] rfl rfl), ?_⟩
 refine dq (au rfl Tryz.call91 (Ac ok hkk (p:=(bH nm))) [] rfl [0] rfl ?_)
 rintro _ _ _ ⟨rfl,rfl,rfl⟩
 refine⟨(fun _=>wk [0,0] [0,1] rfl rfl), ?_⟩
 refine an (aa rfl)<|an (aH rfl rfl)<|an (aH rfl rfl)<|an (ab rfl)<|an (ab rfl)<|bk<|al (ρ' :=[(7,_),(6,_),(5,_),(4,_),(3,_),(2,_),(0,_),(1,_)]) ⟨rfl,rfl,rfl,rfl,rfl,rfl,rfl,rfl,trivial⟩<|ak (X' :=[_,_]) (S' :=[_,_]) (fun _ m=>m)<|ae<|ah<|ah<|aj<|hy (fun _=>aa rfl)<|hy (fun _=>dx rfl rfl)<|ai<|al (ρ' :=[(18,_),(7,_),(6,_),(5,_),(4,_),(3,_),(2,_),(0,_),(1,_)]) ⟨rfl,rfl,rfl,rfl,rfl,rfl,rfl,rfl,rfl,trivial⟩<|ae<| ?_
 refine cj rfl (fun h=> ?_) (fun h=> ?_)
 ·rw[iP h,kn (by rw[iP h];exact h)]
  refine ah<|aj<|hy (fun _=>aa rfl)<|hy (fun _=>ab rfl)<|hy (fun _=>ab rfl)<|ai<|al (ρ' :=[(5,_),(4,_),(18,_),(7,_),(6,_),(3,_),(2,_),(0,_),(1,_)]) ⟨rfl,rfl,rfl,rfl,rfl,rfl,rfl,rfl,rfl,trivial⟩<|ae<|aU<|ay<| ?_
  exact dh trivial rfl rfl rfl [] rfl [] rfl ⟨rfl,rfl,rfl⟩
 ·have h1:=Decidable.not_not.1 h
  have hbs:(bytesOf (strOf (x.d.cA (bH nm)))).length=(x.d.cA (bH nm)).length:=rfl
  have hol:=pP (f:=x.d.cA (bH nm)) (most:=4096) (by decide)
  refine aA<|ae<|ah<|aj<|hy (fun _=>aa rfl)<| ?_
  refine hx (DJ rfl Tryz.underlying9 Tryz.underlying27 Tryz.underlying5 (show(x.d.cA (bH nm)).length≤maxLen by unfold maxLen;omega) (fun v22=> ?_))
  refine aB (fun m=>(m.own 0 rfl).slice) ?_
  rintro⟨A_b22,c_b22,rfl,hc_b22⟩
  refine aB (fun m=>(m.ord 0 rfl).2.1) fun hA_b22=> ?_
  refine aF (fun w m=>m.bq 0 rfl (show _=aG 5 1 (.slice A_b22 (x.d.cA (bH nm)).length c_b22) (x.d.cA (bH nm)).length (aP (x.d.cA (bH nm)))from rfl)) ?_
  refine aF (fun w m=>(m.perm (ar [0] _ [_] _ rfl)).freeze) ?_
  refine aF (fun w m=>m.fh 0 rfl .own) ?_
  refine hx (au rfl Tryz.call156 (EG hc_b22 rfl hrd (show(4096:Int)≤1000000 by decide) (f:=(x.d.cA (bH nm)))) [] rfl [0] rfl ?_)
  rintro _ _ _ ⟨A1,c1,rfl,rfl,rfl,hp⟩
  refine aB (fun m=>dZ (m.rd 0 rfl)) ?_
  rintro⟨hl_q,hA_q⟩
  refine hy (fun _=>aa rfl)<|hy (fun _=>aH rfl rfl)<|hy (fun _=>aH rfl rfl)<|hy (fun _=>ab rfl)<|hy (fun _=>ab rfl)<|ai<|al (ρ' :=[(9,_),(8,_),(18,_),(7,_),(6,_),(5,_),(4,_),(3,_),(2,_),(0,_),(1,_)]) ⟨rfl,rfl,rfl,rfl,rfl,rfl,rfl,rfl,rfl,rfl,rfl,trivial⟩<|ak (X' :=[_,_]) (S' :=[_,_,_,_,_]) (fun _ m=>m)<|ae<|ah<|ah<|aj<|hy (fun _=>aa rfl)<|hy (fun _=>dx rfl rfl)<|ai<|al (ρ' :=[(27,_),(9,_),(8,_),(18,_),(7,_),(6,_),(5,_),(4,_),(3,_),(2,_),(0,_),(1,_)]) ⟨rfl,rfl,rfl,rfl,rfl,rfl,rfl,rfl,rfl,rfl,rfl,rfl,trivial⟩<|ae<| ?_
  refine cj rfl (fun h2=> ?_) (fun h2=> ?_)
  ·have hE:=ml (d:=x.d) (nm:=nm) h1 (.inl h2)
   rw[hE,kn (by rw[hE];decide)]
   refine ah<|aj<|hy (fun _=>ab rfl)<|hy (fun _=>ab rfl)<|ai<|ae<|aU<|ay<| ?_
   exact dh trivial rfl rfl rfl [] rfl [] rfl ⟨rfl,rfl,rfl⟩
  ·have h2:=Decidable.not_not.1 h2
   refine aA<|ae<|ah<|ah<|cq [1] [(0,some 0),(2,some 1),(1,none),(3,some 1)] (by kernel_rfl) (by kernel_rfl) rfl 99<|an (aa rfl)<|bY (fun m=>aQ rfl cf bL h32 ((m.aN 0 rfl).aw))<| ?_
   refine dq (au rfl Tryz.call56 (jV (by omega)) [] rfl [0] rfl ?_)
   rintro _ _ _ ⟨rfl,rfl,rfl⟩
   refine⟨(fun _=>wk [0,0] [0,1,2,3,4] rfl rfl), ?_⟩
   refine an (rC rfl rfl (bx _) hm)<|bk<|al (ρ' :=[(31,_),(27,_),(9,_),(8,_),(18,_),(7,_),(6,_),(5,_),(4,_),(3,_),(2,_),(0,_),(1,_)]) ⟨rfl,rfl,rfl,rfl,rfl,rfl,rfl,rfl,rfl,rfl,rfl,rfl,rfl,trivial⟩<|ak (X' :=[_,_]) (S' :=[_,_,_,_,_]) (fun _ m=>m)<|ae<| ?_
   refine cj rfl (fun h3=> ?_) (fun h3=> ?_)
   ·have hE:=ml (d:=x.d) (nm:=nm) h1 (.inr h3)
    rw[hE,kn (by rw[hE];decide)]
    refine ah<|aj<|hy (fun _=>ab rfl)<|hy (fun _=>ab rfl)<|ai<|ae<|aU<|ay<| ?_
    exact dh trivial rfl rfl rfl [] rfl [] rfl ⟨rfl,rfl,rfl⟩
   ·have hE:=vt (d:=x.d) (nm:=nm) h1 (fun q=>q.elim (fun q=>q h2) h3)
    rw[hE,vY hE]
    refine aA<|ae<|ah<|aj<|hy (fun _=>aa rfl)<|hy (fun m=>lT rfl Tryz.underlying27 Tryz.underlying5 Tryz.underlying9 (m.rd 0 rfl))<|hy (fun _=>ab rfl)<|hy (fun _=>ab rfl)<|ai<|al (ρ' :=[(5,_),(4,_),(31,_),(27,_),(9,_),(8,_),(18,_),(7,_),(6,_),(3,_),(2,_),(0,_),(1,_)]) ⟨rfl,rfl,rfl,rfl,rfl,rfl,rfl,rfl,rfl,rfl,rfl,rfl,rfl,trivial⟩<|ae<|aU<| ?_
    exact dh trivial rfl rfl rfl [] rfl [] rfl ⟨rfl,rfl,rfl⟩
theorem D6{d:RD}{bb:List UInt8}(h:d.bG (bM (bw bb)) (b8 bb)≠0):d.iJ bb=(d.write (bM (bw bb)) (b8 bb),d.bG (bM (bw bb)) (b8 bb)):=by
 unfold RD.iJ
 rw[gA]
 exact if_pos h
theorem Ds{d:RD}{bb:List UInt8}(h:d.bG (bM (bw bb)) (b8 bb)=0)(h2:(d.write (bM (bw bb)) (b8 bb)).di≠0):d.iJ bb=((d.write (bM (bw bb)) (b8 bb)).sync,(d.write (bM (bw bb)) (b8 bb)).di):=by
 unfold RD.iJ
 rw[gA,if_neg (by show¬d.bG _ _≠0;rw[h];decide),gA]
 exact if_pos h2
theorem Dc{d:RD}{bb:List UInt8}(h:d.bG (bM (bw bb)) (b8 bb)=0)(h2:(d.write (bM (bw bb)) (b8 bb)).di=0)(h3:(d.write (bM (bw bb)) (b8 bb)).sync.bW (bM (bw bb)) (bH (bw bb))≠0):d.iJ bb=((d.write (bM (bw bb)) (b8 bb)).sync.rename (bM (bw bb)) (bH (bw bb)),(d.write (bM (bw bb)) (b8 bb)).sync.bW (bM (bw bb)) (bH (bw bb))):=by
 unfold RD.iJ
 rw[gA,if_neg (by show¬d.bG _ _≠0;rw[h];decide),gA,if_neg (by show¬(d.write _ _).di≠0;rw[h2];decide),gA]
 exact if_pos h3
theorem Dp{d:RD}{bb:List UInt8}(h:d.bG (bM (bw bb)) (b8 bb)=0)(h2:(d.write (bM (bw bb)) (b8 bb)).di=0)(h3:(d.write (bM (bw bb)) (b8 bb)).sync.bW (bM (bw bb)) (bH (bw bb))=0):d.iJ bb=(((d.write (bM (bw bb)) (b8 bb)).sync.rename (bM (bw bb)) (bH (bw bb))).sync,((d.write (bM (bw bb)) (b8 bb)).sync.rename (bM (bw bb)) (bH (bw bb))).di):=by
 unfold RD.iJ
 rw[gA,if_neg (by show¬d.bG _ _≠0;rw[h];decide),gA,if_neg (by show¬(d.write _ _).di≠0;rw[h2];decide),gA,if_neg (by show¬((d.write _ _).sync).bW _ _≠0;rw[h3];decide),gA]
 by_cases h4:(lg (qI (bM (bw bb)) (bH (bw bb)) (lg (rl (bM (bw bb)) (b8 bb) d).1).1).1).2=0
 ·rw[if_neg (fun q=>q h4)]
  exact Prod.ext rfl h4.symm
 ·rw[if_pos h4];rfl
theorem lu{d:RD}{bb:List UInt8}(hn:¬4096<bb.length)(h6:d.gu (bw bb)≠6)(h0:d.gu (bw bb)≠0){d' :RD}{e:Int}(h:d.iJ bb=(d',e)):d.put bb=(d',if e=0 then bw bb else dJ,e):=by
 unfold RD.put;rw[if_neg hn,if_neg h6,if_neg h0,h]
theorem FC{x:RX}{kk:Nat}{A:Option Addr}{n c:Nat}{bb:List UInt8}(hD:x.d.ok kk)(hkk:kk≤90000)(hc:n≤c)(hl:bb.length=n)(hn:n≤100000):b6 Tryz.prog 26 [.agg x.cs.toArray,.slice A n c] [] [fG x,cr 1 A n (aP bb),dI] (fun v_ X_ S_=>∃y,v_=(.tuple #[.agg y.cs.toArray,.agg (aP (x.d.put bb).2.1).toArray,.int .i64 (x.d.put bb).2.2])∧X_=[]∧S_=[fG y]∧(y.d=(x.d.put bb).1)):=by
 have hm:=bx bb
 have h32:(aP (bw bb)).length=32:=by rw[az,hm]
 have z32:(aP dJ).length=32:=by rw[az,eL]
 obtain⟨s0,s1⟩:=o8 bb
 have hrd:(x.d.cA (bH (bw bb))).length≤10000000:=by
  obtain⟨st,hst⟩:=hD
  have:=hst.uH (bH (bw bb))
  omega
 have ok1:=hD.write (p:=bM (bw bb)) (l:=b8 bb) (by omega)
 have okr:=hD.Ez
 have okr1:=ok1.Ez
 have okr2:=ok1.sync.Ez
 have okr3:=ok1.sync.rename (a:=bM (bw bb)) (c:=bH (bw bb))|>.Ez
 refine aJ (N:=74) Tryz.func26 rfl rfl (by simp) fun b=> ?_
 refine aS (fun m=>dZ (m.rd 1 rfl)) ?_
 rintro⟨hl_rb,hA_rb⟩
 refine ah<|aj<| ?_
 refine hx (bn rfl (fun g2=> ?_))
 refine aF (fun w m=>m.bq 0 rfl (show _=aE g2 39 x.cs from congrArg (aE _ _) (aR _))) ?_
 refine hx (bf sG (fun g4=> ?_))
 refine hx (bf fC (fun g5=> ?_))
 refine hy (fun _=>ab rfl)<|ai<|ak (X' :=[_,_,_]) (S' :=[_,_,_]) (fun _ m=>m)<|ae<|ah<|ah<|aj<|hy (fun _=>aa rfl)<|hy (fun _=>aW rfl Tryz.underlying27)<|hy (fun _=>cG rfl rfl)<|ai<|al (ρ' :=[(12,_),(6,_),(5,_),(4,_),(2,_),(0,_),(1,_)]) ⟨rfl,rfl,rfl,rfl,rfl,rfl,rfl,trivial⟩<|ae<| ?_
 refine cj rfl (fun hbig=> ?_) (fun hbig=> ?_)
 ·have e0:x.d.put bb=(x.d,dJ,3):=vv (by omega)
  rw[e0]
  refine ah<|aj<|hy (fun m=>yV (aQ rfl cC bV rfl ((m.aN 2 rfl).aw)) ((rfl:_=Value.agg x.cs.toArray)))<|hy (fun _=>yV (dV fC rfl (by kernel_rfl)) ((rfl:_=Value.agg (aP dJ).toArray)))<| ?_
  refine cB (a6 1 rfl rfl rfl bV rfl cT rfl ?_)
  refine cB (a6 1 rfl rfl rfl bL z32 bh rfl ?_)
  refine hy (fun _=>ab rfl)<|ai<|al (ρ' :=[(6,_),(12,_),(5,_),(4,_),(2,_),(0,_),(1,_)]) ⟨rfl,rfl,rfl,rfl,rfl,rfl,rfl,trivial⟩<|ak (X' :=[_,_,_]) (S' :=[_,_,_]) (fun _ m=>m)<|ae<|aU<|ay<| ?_
  exact eO trivial rfl rfl rfl rfl cC bV rfl (fun m=>(m.aN 1 rfl).aw) cf bL z32 (fun m=>(m.aN 0 rfl).aw) [] rfl [0] rfl ⟨x,rfl,rfl,rfl,rfl⟩
 ·have hbg:¬4096<bb.length:=by omega
  refine aA<|ae<|ah<|aj<|hy (fun _=>aa rfl)<| ?_
  refine hx (au rfl Tryz.call56 (jV (by omega)) [] rfl [1] rfl ?_)
  rintro _ _ _ ⟨rfl,rfl,rfl⟩
  refine hx (bf fC (fun g7=> ?_))
  refine cB (a6 0 rfl rfl rfl bL h32 bh rfl ?_)
  refine ai<|al (ρ' :=[(7,_),(12,_),(6,_),(5,_),(4,_),(2,_),(0,_),(1,_)]) ⟨rfl,rfl,rfl,rfl,rfl,rfl,rfl,rfl,trivial⟩<|ak (X' :=[_,_,_,_]) (S' :=[_,_,_]) (fun _ m=>m)<|ae<|ah<|aj<|hy (fun m=>yV (aQ rfl cC bV rfl ((m.aN 3 rfl).aw)) ((rfl:_=Value.agg x.cs.toArray)))<|hy (fun m=>aQ rfl cf bL h32 ((m.aN 0 rfl).aw))<| ?_
  refine hx (au rfl Tryz.call74 (yB okr (by omega) hm hrd) [] rfl [0,2] rfl ?_)
  rintro _ _ _ ⟨rfl,rfl,rfl⟩
  refine hy (fun _=>aa rfl)<|hy (fun _=>aH rfl rfl)<|hy (fun _=>aH rfl rfl)<|hy (fun _=>ab rfl)<|hy (fun _=>ab rfl)<|ai<|al (ρ' :=[(9,_),(7,_),(12,_),(6,_),(5,_),(4,_),(2,_),(0,_),(1,_)]) ⟨rfl,rfl,rfl,rfl,rfl,rfl,rfl,rfl,rfl,trivial⟩<|ak (X' :=[_,_,_,_]) (S' :=[_,_,_]) (fun _ m=>m)<|ae<|ah<|ah<|aj<|hy (fun _=>aa rfl)<|hy (fun _=>cn rfl rfl)<|ai<|al (ρ' :=[(24,_),(9,_),(7,_),(12,_),(6,_),(5,_),(4,_),(2,_),(0,_),(1,_)]) ⟨rfl,rfl,rfl,rfl,rfl,rfl,rfl,rfl,rfl,rfl,trivial⟩<|ae<| ?_
  refine cj rfl (fun h0=> ?_) (fun h0=> ?_)
  ·have e0:x.d.put bb=(x.d,bw bb,0):=by unfold RD.put;rw[if_neg hbg,if_neg (by rw[h0];decide),if_pos h0]
   rw[e0]
   refine ah<|Cy [0,1,2,3] (.alt 0 (.alt 1 (.alt 2 (.alt 3 (.take 4 4<|.done) (.stop)) (.stop)) (.alt 2 (.alt 1 (.alt 3 (.take 4 4<|.done) (.stop)) (.stop)) (.stop))) (.alt 1 (.alt 0 (.alt 2 (.alt 3 (.take 4 4<|.done) (.stop)) (.stop)) (.stop)) (.stop))) (by kernel_rfl) (by kernel_rfl) rfl 1<| ?_
   refine rm ?_ ?_
   ·refine AD<|oK (fun m=>yV (aQ rfl cC bV rfl ((m.aN 3 rfl).aw)) ((rfl:_=Value.agg x.cs.toArray)))<|And.intro (fun _=>wk [0,0,0,0] [0,1,2] rfl rfl)<| ?_
    refine rm ?_ ?_
    ·refine AD<|oK (fun m=>aQ rfl cf bL h32 ((m.aN 0 rfl).aw))<|And.intro (fun h=>absurd h (by decide))<| ?_
     refine n4 (a6 2 rfl rfl rfl bV rfl cT rfl ⟨(fun h=>absurd h (by decide)), ?_⟩)
     refine n4 (a6 2 rfl rfl rfl bL h32 bh rfl ⟨(fun h=>absurd h (by decide)), ?_⟩)
     refine wJ (ab rfl)<|pY<|al (ρ' :=[(6,_),(24,_),(9,_),(7,_),(12,_),(5,_),(4,_),(2,_),(0,_),(1,_)]) ⟨rfl,rfl,rfl,rfl,rfl,rfl,rfl,rfl,rfl,rfl,trivial⟩<|ak (X' :=[_,_,_,_]) (S' :=[_,_,_]) (fun _ m=>m)<|ae<|aU<|ay<| ?_
     exact eO trivial rfl rfl rfl rfl cC bV rfl (fun m=>(m.aN 1 rfl).aw) cf bL h32 (fun m=>(m.aN 0 rfl).aw) [] rfl [0] rfl ⟨x,rfl,rfl,rfl,rfl⟩
    ·refine n4 (a6 2 rfl rfl rfl bV rfl cT rfl ⟨(fun h=>absurd h (by decide)), ?_⟩)
     refine AD<|oK (fun m=>aQ rfl cf bL h32 ((m.aN 1 rfl).aw))<|And.intro (fun h=>absurd h (by decide))<| ?_
     refine n4 (a6 2 rfl rfl rfl bL h32 bh rfl ⟨(fun h=>absurd h (by decide)), ?_⟩)
     refine wJ (ab rfl)<|pY<|al (ρ' :=[(6,_),(24,_),(9,_),(7,_),(12,_),(5,_),(4,_),(2,_),(0,_),(1,_)]) ⟨rfl,rfl,rfl,rfl,rfl,rfl,rfl,rfl,rfl,rfl,trivial⟩<|ak (X' :=[_,_,_,_]) (S' :=[_,_,_]) (fun _ m=>m)<|ae<|aU<|ay<| ?_
     exact eO trivial rfl rfl rfl rfl cC bV rfl (fun m=>(m.aN 1 rfl).aw) cf bL h32 (fun m=>(m.aN 0 rfl).aw) [] rfl [0] rfl ⟨x,rfl,rfl,rfl,rfl⟩
   ·refine AD<|oK (fun m=>aQ rfl cf bL h32 ((m.aN 0 rfl).aw))<|And.intro (fun _=>wk [0,0,0,0] [0,1,2] rfl rfl)<|AD<|oK (fun m=>yV (aQ rfl cC bV rfl ((m.aN 3 rfl).aw)) ((rfl:_=Value.agg x.cs.toArray)))<|And.intro (fun h=>absurd h (by decide))<| ?_
    refine n4 (a6 2 rfl rfl rfl bV rfl cT rfl ⟨(fun h=>absurd h (by decide)), ?_⟩)
    refine n4 (a6 2 rfl rfl rfl bL h32 bh rfl ⟨(fun h=>absurd h (by decide)), ?_⟩)
    refine wJ (ab rfl)<|pY<|al (ρ' :=[(6,_),(24,_),(9,_),(7,_),(12,_),(5,_),(4,_),(2,_),(0,_),(1,_)]) ⟨rfl,rfl,rfl,rfl,rfl,rfl,rfl,rfl,rfl,rfl,trivial⟩<|ak (X' :=[_,_,_,_]) (S' :=[_,_,_]) (fun _ m=>m)<|ae<|aU<|ay<| ?_
    exact eO trivial rfl rfl rfl rfl cC bV rfl (fun m=>(m.aN 1 rfl).aw) cf bL h32 (fun m=>(m.aN 0 rfl).aw) [] rfl [0] rfl ⟨x,rfl,rfl,rfl,rfl⟩
  ·refine aA<|ae<|ah<|ah<|aj<|hy (fun _=>aa rfl)<|hy (fun _=>cn rfl rfl)<|ai<|al (ρ' :=[(28,_),(24,_),(9,_),(7,_),(12,_),(6,_),(5,_),(4,_),(2,_),(0,_),(1,_)]) ⟨rfl,rfl,rfl,rfl,rfl,rfl,rfl,rfl,rfl,rfl,rfl,trivial⟩<|ae<| ?_
   refine cj rfl (fun h6=> ?_) (fun h6=> ?_)
   ·have e0:x.d.put bb=(x.d,dJ,6):=by unfold RD.put;rw[if_neg hbg,if_pos h6]
    rw[e0,h6]
    refine ah<|aj<|hy (fun m=>yV (aQ rfl cC bV rfl ((m.aN 3 rfl).aw)) ((rfl:_=Value.agg x.cs.toArray)))<|hy (fun _=>yV (dV fC rfl (by kernel_rfl)) ((rfl:_=Value.agg (aP dJ).toArray)))<|hy (fun _=>aa rfl)<| ?_
    refine cB (a6 2 rfl rfl rfl bV rfl cT rfl ?_)
    refine cB (a6 2 rfl rfl rfl bL z32 bh rfl ?_)
    refine hy (fun _=>ab rfl)<|ai<|al (ρ' :=[(6,_),(28,_),(24,_),(9,_),(7,_),(12,_),(5,_),(4,_),(2,_),(0,_),(1,_)]) ⟨rfl,rfl,rfl,rfl,rfl,rfl,rfl,rfl,rfl,rfl,rfl,trivial⟩<|ak (X' :=[_,_,_,_]) (S' :=[_,_,_]) (fun _ m=>m)<|ae<|aU<|ay<| ?_
    exact eO trivial rfl rfl rfl rfl cC bV rfl (fun m=>(m.aN 1 rfl).aw) cf bL z32 (fun m=>(m.aN 0 rfl).aw) [] rfl [0] rfl ⟨x,rfl,rfl,rfl,rfl⟩
   ·refine aA<|ae<|ah<|cq [2,4,5,6,10] [(0,some 3),(1,some 0),(3,some 1),(2,none),(4,none),(5,none),(6,none),(7,some 4),(8,some 4),(9,some 5),(10,none),(11,some 5)] (by kernel_rfl) (by kernel_rfl) rfl 4<|bY (fun m=>yV (aQ rfl cC bV rfl ((m.aN 3 rfl).aw)) ((rfl:_=Value.agg x.cs.toArray)))<|bY (fun m=>aQ rfl cf bL h32 ((m.aN 0 rfl).aw))<|an (aa rfl)<| ?_
    refine dq (au rfl Tryz.call98 (vW hm) [] rfl [] rfl ?_)
    rintro _ _ _ ⟨rfl,rfl,rfl⟩
    refine⟨(fun _=>wk [0,0,0,0] [0,1,2] rfl rfl), ?_⟩
    refine dq (au rfl Tryz.call81 (EF hc (by omega) hl) [] rfl [1] rfl ?_)
    rintro _ _ _ ⟨v,rfl,rfl,rfl⟩
    refine⟨(fun _=>wk [1,1,1,1] [0,1,2] rfl rfl), ?_⟩
    refine b7 (fun m=>(m.own 0 rfl).slice) ?_
    rintro⟨A_x,c_x,rfl,hc_x⟩
    refine b7 (fun m=>(m.ord 0 rfl).2.1) fun hA_x=> ?_
    refine Cc (fun _=>wk [1,1,1,1] [0,1,2] rfl rfl) (fun m=>lT rfl Tryz.underlying27 Tryz.underlying5 Tryz.underlying9 (m.ord 0 rfl))<| ?_
    refine dq (au rfl Tryz.call31 (Co okr (by omega) (by rw[kQ hm];decide) (by omega) (p:=(bM (bw bb))) (bb:=(b8 bb))) [] rfl [0] rfl ?_)
    rintro _ _ _ ⟨y,rfl,rfl,rfl,hd1⟩
    refine⟨(fun _=>wk [1,1,1,1] [1,2,3] rfl rfl), ?_⟩
    refine an (aa rfl)<|an (aH rfl rfl)<|an (aH rfl rfl)<| ?_
    refine fS (a6 4 rfl rfl rfl bV rfl cT rfl ⟨(fun h=>absurd h (by decide)), ?_⟩)
    refine an (ab rfl)<|bk<|al (ρ' :=[(9,_),(28,_),(24,_),(7,_),(12,_),(6,_),(5,_),(4,_),(2,_),(0,_),(1,_)]) ⟨rfl,rfl,rfl,rfl,rfl,rfl,rfl,rfl,rfl,rfl,rfl,trivial⟩<|ak (X' :=[_,_,_,_,_]) (S' :=[_,_,_,_]) (fun _ m=>m)<|ae<|ah<|ah<|aj<|hy (fun _=>aa rfl)<|hy (fun _=>cn rfl rfl)<|ai<|al (ρ' :=[(43,_),(9,_),(28,_),(24,_),(7,_),(12,_),(6,_),(5,_),(4,_),(2,_),(0,_),(1,_)]) ⟨rfl,rfl,rfl,rfl,rfl,rfl,rfl,rfl,rfl,rfl,rfl,rfl,trivial⟩<|ae<| ?_
    refine cj rfl (fun h1=> ?_) (fun h1=> ?_)
    ·refine aj<|hy (fun m=>yV (aQ rfl cC bV rfl ((m.aN 0 rfl).aw)) ((rfl:_=Value.agg y.cs.toArray)))<| ?_
     refine hx (au rfl Tryz.call99 (yp (by rw[hd1];exact okr1)) [] rfl [0] rfl ?_)
     rintro _ _ _ ⟨y2,rfl,rfl,rfl,hd2⟩
     refine hy (fun _=>aa rfl)<|hy (fun _=>aH rfl rfl)<|hy (fun _=>aH rfl rfl)<| ?_
     refine cB (a6 0 rfl rfl rfl bV rfl cT rfl ?_)
     refine hy (fun _=>ab rfl)<|ai<|al (ρ' :=[(9,_),(43,_),(28,_),(24,_),(7,_),(12,_),(6,_),(5,_),(4,_),(2,_),(0,_),(1,_)]) ⟨rfl,rfl,rfl,rfl,rfl,rfl,rfl,rfl,rfl,rfl,rfl,rfl,trivial⟩<|ak (X' :=[_,_,_,_,_]) (S' :=[_,_,_,_,_]) (fun _ m=>m)<|ae<|ah<|ah<|aj<|hy (fun _=>aa rfl)<|hy (fun _=>cn rfl rfl)<|ai<|al (ρ' :=[(50,_),(9,_),(43,_),(28,_),(24,_),(7,_),(12,_),(6,_),(5,_),(4,_),(2,_),(0,_),(1,_)]) ⟨rfl,rfl,rfl,rfl,rfl,rfl,rfl,rfl,rfl,rfl,rfl,rfl,rfl,trivial⟩<|ae<| ?_
     refine cj rfl (fun h2=> ?_) (fun h2=> ?_)
     ·refine cq [2,4,5,9] [(0,some 2),(1,some 0),(3,some 1),(2,none),(4,none),(5,none),(6,some 3),(7,some 3),(8,some 4),(9,none),(10,some 4)] (by kernel_rfl) (by kernel_rfl) rfl 3<|bY (fun m=>yV (aQ rfl cC bV rfl ((m.aN 0 rfl).aw)) ((rfl:_=Value.agg y2.cs.toArray)))<|bY (fun m=>aQ rfl cf bL h32 ((m.aN 2 rfl).aw))<|bY (fun m=>aQ rfl cf bL h32 ((m.aN 2 rfl).aw))<| ?_
      refine dq (au rfl Tryz.call98 (vW hm) [] rfl [] rfl ?_)
      rintro _ _ _ ⟨rfl,rfl,rfl⟩
      refine⟨(fun _=>wk [0,0,0,0,0] [0,1,2,3,4] rfl rfl), ?_⟩
      refine dq (au rfl Tryz.call29 (vI hm) [] rfl [] rfl ?_)
      rintro _ _ _ ⟨rfl,rfl,rfl⟩
      refine⟨(fun _=>wk [0,0,0,0,0] [0,1,2,3,4] rfl rfl), ?_⟩
      refine dq (au rfl Tryz.call100 (Aa (by rw[hd2,hd1];exact okr2) (show kk+1≤100000 by omega) (by rw[kF hm];decide) (a:=(bM (bw bb))) (c:=(bH (bw bb)))) [] rfl [0] rfl ?_)
      rintro _ _ _ ⟨y3,rfl,rfl,rfl,hd3⟩
      refine⟨(fun _=>wk [0,0,0,0,0] [1,2,3,4,5] rfl rfl), ?_⟩
      refine an (aa rfl)<|an (aH rfl rfl)<|an (aH rfl rfl)<| ?_
      refine fS (a6 0 rfl rfl rfl bV rfl cT rfl ⟨(fun h=>absurd h (by decide)), ?_⟩)
      refine an (ab rfl)<|bk<|al (ρ' :=[(9,_),(50,_),(43,_),(28,_),(24,_),(7,_),(12,_),(6,_),(5,_),(4,_),(2,_),(0,_),(1,_)]) ⟨rfl,rfl,rfl,rfl,rfl,rfl,rfl,rfl,rfl,rfl,rfl,rfl,rfl,trivial⟩<|ak (X' :=[_,_,_,_,_]) (S' :=[_,_,_,_,_,_]) (fun _ m=>m)<|ae<|ah<|ah<|aj<|hy (fun _=>aa rfl)<|hy (fun _=>cn rfl rfl)<|ai<|al (ρ' :=[(61,_),(9,_),(50,_),(43,_),(28,_),(24,_),(7,_),(12,_),(6,_),(5,_),(4,_),(2,_),(0,_),(1,_)]) ⟨rfl,rfl,rfl,rfl,rfl,rfl,rfl,rfl,rfl,rfl,rfl,rfl,rfl,rfl,trivial⟩<|ae<| ?_
      refine cj rfl (fun h3=> ?_) (fun h3=> ?_)
      ·have hP:=Dp (d:=x.d) (bb:=bb) h1 (by rw[←hd1];exact h2) (by rw[←hd1,←hd2];exact h3)
       rw[←hd1,←hd2,←hd3]at hP
       have e0:=lu hbg h6 h0 hP
       refine aj<|hy (fun m=>yV (aQ rfl cC bV rfl ((m.aN 0 rfl).aw)) ((rfl:_=Value.agg y3.cs.toArray)))<| ?_
       refine hx (au rfl Tryz.call99 (yp (by rw[hd3,hd2,hd1];exact okr3)) [] rfl [0] rfl ?_)
       rintro _ _ _ ⟨y4,rfl,rfl,rfl,hd4⟩
       refine hy (fun _=>aa rfl)<|hy (fun _=>aH rfl rfl)<|hy (fun _=>aH rfl rfl)<| ?_
       refine cB (a6 0 rfl rfl rfl bV rfl cT rfl ?_)
       refine hy (fun _=>ab rfl)<|ai<|al (ρ' :=[(9,_),(61,_),(50,_),(43,_),(28,_),(24,_),(7,_),(12,_),(6,_),(5,_),(4,_),(2,_),(0,_),(1,_)]) ⟨rfl,rfl,rfl,rfl,rfl,rfl,rfl,rfl,rfl,rfl,rfl,rfl,rfl,rfl,trivial⟩<|ak (X' :=[_,_,_,_,_]) (S' :=[_,_,_,_,_,_,_]) (fun _ m=>m)<|ae<|ah<|ah<|aj<|hy (fun _=>aa rfl)<|hy (fun _=>dx rfl rfl)<|ai<|al (ρ' :=[(68,_),(9,_),(61,_),(50,_),(43,_),(28,_),(24,_),(7,_),(12,_),(6,_),(5,_),(4,_),(2,_),(0,_),(1,_)]) ⟨rfl,rfl,rfl,rfl,rfl,rfl,rfl,rfl,rfl,rfl,rfl,rfl,rfl,rfl,rfl,trivial⟩<|ae<| ?_
       rw[←hd4]at e0
       refine cj rfl (fun h4=> ?_) (fun h4=> ?_)
       ·rw[if_neg h4]at e0
        rw[e0]
        refine ah<|aj<|hy (fun m=>yV (aQ rfl cC bV rfl ((m.aN 0 rfl).aw)) ((rfl:_=Value.agg y4.cs.toArray)))<|hy (fun _=>yV (dV fC rfl (by kernel_rfl)) ((rfl:_=Value.agg (aP dJ).toArray)))<|hy (fun _=>aa rfl)<| ?_
        refine cB (a6 4 rfl rfl rfl bV rfl cT rfl ?_)
        refine cB (a6 4 rfl rfl rfl bL z32 bh rfl ?_)
        refine hy (fun _=>ab rfl)<|ai<|al (ρ' :=[(6,_),(68,_),(9,_),(61,_),(50,_),(43,_),(28,_),(24,_),(7,_),(12,_),(5,_),(4,_),(2,_),(0,_),(1,_)]) ⟨rfl,rfl,rfl,rfl,rfl,rfl,rfl,rfl,rfl,rfl,rfl,rfl,rfl,rfl,rfl,trivial⟩<|ak (X' :=[_,_,_,_,_]) (S' :=[_,_,_,_,_,_,_]) (fun _ m=>m)<|ae<|aU<|ay<| ?_
        exact eO trivial rfl rfl rfl rfl cC bV rfl (fun m=>(m.aN 1 rfl).aw) cf bL z32 (fun m=>(m.aN 0 rfl).aw) [] rfl [0] rfl ⟨y4,rfl,rfl,rfl,rfl⟩
       ·have h4:=Decidable.not_not.1 h4
        rw[if_pos h4,h4]at e0
        rw[e0]
        refine aA<|ae<|ah<|Cy [0,1,2,3] (.alt 0 (.alt 1 (.alt 2 (.alt 3 (.take 4 4<|.done) (.stop)) (.stop)) (.alt 2 (.alt 1 (.alt 3 (.take 4 4<|.done) (.stop)) (.stop)) (.stop))) (.alt 1 (.alt 0 (.alt 2 (.alt 3 (.take 4 4<|.done) (.stop)) (.stop)) (.stop)) (.stop))) (by kernel_rfl) (by kernel_rfl) rfl 1<| ?_
        refine rm ?_ ?_
        ·refine AD<|oK (fun m=>yV (aQ rfl cC bV rfl ((m.aN 0 rfl).aw)) ((rfl:_=Value.agg y4.cs.toArray)))<|And.intro (fun _=>wk [0,0,0,0,0] [0,1,2,3,4,5,6] rfl rfl)<| ?_
         refine rm ?_ ?_
         ·refine AD<|oK (fun m=>aQ rfl cf bL h32 ((m.aN 2 rfl).aw))<|And.intro (fun h=>absurd h (by decide))<| ?_
          refine n4 (a6 4 rfl rfl rfl bV rfl cT rfl ⟨(fun h=>absurd h (by decide)), ?_⟩)
          refine n4 (a6 4 rfl rfl rfl bL h32 bh rfl ⟨(fun h=>absurd h (by decide)), ?_⟩)
          refine wJ (ab rfl)<|pY<|al (ρ' :=[(6,_),(68,_),(9,_),(61,_),(50,_),(43,_),(28,_),(24,_),(7,_),(12,_),(5,_),(4,_),(2,_),(0,_),(1,_)]) ⟨rfl,rfl,rfl,rfl,rfl,rfl,rfl,rfl,rfl,rfl,rfl,rfl,rfl,rfl,rfl,trivial⟩<|ak (X' :=[_,_,_,_,_]) (S' :=[_,_,_,_,_,_,_]) (fun _ m=>m)<|ae<|aU<| ?_
          exact eO trivial rfl rfl rfl rfl cC bV rfl (fun m=>(m.aN 1 rfl).aw) cf bL h32 (fun m=>(m.aN 0 rfl).aw) [] rfl [0] rfl ⟨y4,rfl,rfl,rfl,rfl⟩
         ·refine n4 (a6 4 rfl rfl rfl bV rfl cT rfl ⟨(fun h=>absurd h (by decide)), ?_⟩)
          refine AD<|oK (fun m=>aQ rfl cf bL h32 ((m.aN 3 rfl).aw))<|And.intro (fun h=>absurd h (by decide))<| ?_
          refine n4 (a6 4 rfl rfl rfl bL h32 bh rfl ⟨(fun h=>absurd h (by decide)), ?_⟩)
          refine wJ (ab rfl)<|pY<|al (ρ' :=[(6,_),(68,_),(9,_),(61,_),(50,_),(43,_),(28,_),(24,_),(7,_),(12,_),(5,_),(4,_),(2,_),(0,_),(1,_)]) ⟨rfl,rfl,rfl,rfl,rfl,rfl,rfl,rfl,rfl,rfl,rfl,rfl,rfl,rfl,rfl,trivial⟩<|ak (X' :=[_,_,_,_,_]) (S' :=[_,_,_,_,_,_,_]) (fun _ m=>m)<|ae<|aU<| ?_
          exact eO trivial rfl rfl rfl rfl cC bV rfl (fun m=>(m.aN 1 rfl).aw) cf bL h32 (fun m=>(m.aN 0 rfl).aw) [] rfl [0] rfl ⟨y4,rfl,rfl,rfl,rfl⟩
        ·refine AD<|oK (fun m=>aQ rfl cf bL h32 ((m.aN 2 rfl).aw))<|And.intro (fun _=>wk [0,0,0,0,0] [0,1,2,3,4,5,6] rfl rfl)<|AD<|oK (fun m=>yV (aQ rfl cC bV rfl ((m.aN 0 rfl).aw)) ((rfl:_=Value.agg y4.cs.toArray)))<|And.intro (fun h=>absurd h (by decide))<| ?_
         refine n4 (a6 4 rfl rfl rfl bV rfl cT rfl ⟨(fun h=>absurd h (by decide)), ?_⟩)
         refine n4 (a6 4 rfl rfl rfl bL h32 bh rfl ⟨(fun h=>absurd h (by decide)), ?_⟩)
         refine wJ (ab rfl)<|pY<|al (ρ' :=[(6,_),(68,_),(9,_),(61,_),(50,_),(43,_),(28,_),(24,_),(7,_),(12,_),(5,_),(4,_),(2,_),(0,_),(1,_)]) ⟨rfl,rfl,rfl,rfl,rfl,rfl,rfl,rfl,rfl,rfl,rfl,rfl,rfl,rfl,rfl,trivial⟩<|ak (X' :=[_,_,_,_,_]) (S' :=[_,_,_,_,_,_,_]) (fun _ m=>m)<|ae<|aU<| ?_
         exact eO trivial rfl rfl rfl rfl cC bV rfl (fun m=>(m.aN 1 rfl).aw) cf bL h32 (fun m=>(m.aN 0 rfl).aw) [] rfl [0] rfl ⟨y4,rfl,rfl,rfl,rfl⟩
      ·have hP:=Dc (d:=x.d) (bb:=bb) h1 (by rw[←hd1];exact h2) (by rw[←hd1,←hd2];exact h3)
       rw[←hd1,←hd2,←hd3]at hP
       have e0:=lu hbg h6 h0 hP
       rw[if_neg h3]at e0
       rw[e0]
       refine aA<|ae<|ah<|ah<|aj<|hy (fun _=>aa rfl)<|hy (fun _=>dx rfl rfl)<|ai<|al (ρ' :=[(68,_),(61,_),(9,_),(50,_),(43,_),(28,_),(24,_),(7,_),(12,_),(6,_),(5,_),(4,_),(2,_),(0,_),(1,_)]) ⟨rfl,rfl,rfl,rfl,rfl,rfl,rfl,rfl,rfl,rfl,rfl,rfl,rfl,rfl,rfl,trivial⟩<|ae<| ?_
       refine gj rfl ((decide_eq_true h3)) ?_
       refine ah<|aj<|hy (fun m=>yV (aQ rfl cC bV rfl ((m.aN 0 rfl).aw)) ((rfl:_=Value.agg y3.cs.toArray)))<|hy (fun _=>yV (dV fC rfl (by kernel_rfl)) ((rfl:_=Value.agg (aP dJ).toArray)))<|hy (fun _=>aa rfl)<| ?_
       refine cB (a6 4 rfl rfl rfl bV rfl cT rfl ?_)
       refine cB (a6 4 rfl rfl rfl bL z32 bh rfl ?_)
       refine hy (fun _=>ab rfl)<|ai<|al (ρ' :=[(6,_),(68,_),(61,_),(9,_),(50,_),(43,_),(28,_),(24,_),(7,_),(12,_),(5,_),(4,_),(2,_),(0,_),(1,_)]) ⟨rfl,rfl,rfl,rfl,rfl,rfl,rfl,rfl,rfl,rfl,rfl,rfl,rfl,rfl,rfl,trivial⟩<|ak (X' :=[_,_,_,_,_]) (S' :=[_,_,_,_,_,_]) (fun _ m=>m)<|ae<|aU<|ay<| ?_
       exact eO trivial rfl rfl rfl rfl cC bV rfl (fun m=>(m.aN 1 rfl).aw) cf bL z32 (fun m=>(m.aN 0 rfl).aw) [] rfl [0] rfl ⟨y3,rfl,rfl,rfl,rfl⟩
     ·have hP:=Ds (d:=x.d) (bb:=bb) h1 (by rw[←hd1];exact h2)
      rw[←hd1,←hd2]at hP
      have e0:=lu hbg h6 h0 hP
      rw[if_neg h2]at e0
      rw[e0]
      refine aA<|ae<|ah<|ah<|aj<|hy (fun _=>aa rfl)<|hy (fun _=>cn rfl rfl)<|ai<|al (ρ' :=[(61,_),(50,_),(9,_),(43,_),(28,_),(24,_),(7,_),(12,_),(6,_),(5,_),(4,_),(2,_),(0,_),(1,_)]) ⟨rfl,rfl,rfl,rfl,rfl,rfl,rfl,rfl,rfl,rfl,rfl,rfl,rfl,rfl,trivial⟩<|ae<| ?_
      refine cZ rfl ((decide_eq_false h2)) ?_
      refine aA<|ae<|ah<|ah<|aj<|hy (fun _=>aa rfl)<|hy (fun _=>dx rfl rfl)<|ai<|al (ρ' :=[(68,_),(61,_),(50,_),(9,_),(43,_),(28,_),(24,_),(7,_),(12,_),(6,_),(5,_),(4,_),(2,_),(0,_),(1,_)]) ⟨rfl,rfl,rfl,rfl,rfl,rfl,rfl,rfl,rfl,rfl,rfl,rfl,rfl,rfl,rfl,trivial⟩<|ae<| ?_
      refine gj rfl ((decide_eq_true h2)) ?_
      refine ah<|aj<|hy (fun m=>yV (aQ rfl cC bV rfl ((m.aN 0 rfl).aw)) ((rfl:_=Value.agg y2.cs.toArray)))<|hy (fun _=>yV (dV fC rfl (by kernel_rfl)) ((rfl:_=Value.agg (aP dJ).toArray)))<|hy (fun _=>aa rfl)<| ?_
      refine cB (a6 4 rfl rfl rfl bV rfl cT rfl ?_)
      refine cB (a6 4 rfl rfl rfl bL z32 bh rfl ?_)
      refine hy (fun _=>ab rfl)<|ai<|al (ρ' :=[(6,_),(68,_),(61,_),(50,_),(9,_),(43,_),(28,_),(24,_),(7,_),(12,_),(5,_),(4,_),(2,_),(0,_),(1,_)]) ⟨rfl,rfl,rfl,rfl,rfl,rfl,rfl,rfl,rfl,rfl,rfl,rfl,rfl,rfl,rfl,trivial⟩<|ak (X' :=[_,_,_,_,_]) (S' :=[_,_,_,_,_]) (fun _ m=>m)<|ae<|aU<|ay<| ?_
      exact eO trivial rfl rfl rfl rfl cC bV rfl (fun m=>(m.aN 1 rfl).aw) cf bL z32 (fun m=>(m.aN 0 rfl).aw) [] rfl [0] rfl ⟨y2,rfl,rfl,rfl,rfl⟩
    ·have hP:=D6 (d:=x.d) (bb:=bb) h1
     have e0:=lu hbg h6 h0 hP
     rw[if_neg h1]at e0
     rw[e0,←hd1]
     refine aA<|ae<|ah<|ah<|aj<|hy (fun _=>aa rfl)<|hy (fun _=>cn rfl rfl)<|ai<|al (ρ' :=[(50,_),(43,_),(9,_),(28,_),(24,_),(7,_),(12,_),(6,_),(5,_),(4,_),(2,_),(0,_),(1,_)]) ⟨rfl,rfl,rfl,rfl,rfl,rfl,rfl,rfl,rfl,rfl,rfl,rfl,rfl,trivial⟩<|ae<| ?_
     refine cZ rfl ((decide_eq_false h1)) ?_
     refine aA<|ae<|ah<|ah<|aj<|hy (fun _=>aa rfl)<|hy (fun _=>cn rfl rfl)<|ai<|al (ρ' :=[(61,_),(50,_),(43,_),(9,_),(28,_),(24,_),(7,_),(12,_),(6,_),(5,_),(4,_),(2,_),(0,_),(1,_)]) ⟨rfl,rfl,rfl,rfl,rfl,rfl,rfl,rfl,rfl,rfl,rfl,rfl,rfl,rfl,trivial⟩<|ae<| ?_
     refine cZ rfl ((decide_eq_false h1)) ?_
     refine aA<|ae<|ah<|ah<|aj<|hy (fun _=>aa rfl)<|hy (fun _=>dx rfl rfl)<|ai<|al (ρ' :=[(68,_),(61,_),(50,_),(43,_),(9,_),(28,_),(24,_),(7,_),(12,_),(6,_),(5,_),(4,_),(2,_),(0,_),(1,_)]) ⟨rfl,rfl,rfl,rfl,rfl,rfl,rfl,rfl,rfl,rfl,rfl,rfl,rfl,rfl,rfl,trivial⟩<|ae<| ?_
     refine gj rfl ((decide_eq_true h1)) ?_
     refine ah<|aj<|hy (fun m=>yV (aQ rfl cC bV rfl ((m.aN 0 rfl).aw)) ((rfl:_=Value.agg y.cs.toArray)))<|hy (fun _=>yV (dV fC rfl (by kernel_rfl)) ((rfl:_=Value.agg (aP dJ).toArray)))<|hy (fun _=>aa rfl)<| ?_
     refine cB (a6 4 rfl rfl rfl bV rfl cT rfl ?_)
     refine cB (a6 4 rfl rfl rfl bL z32 bh rfl ?_)
     refine hy (fun _=>ab rfl)<|ai<|al (ρ' :=[(6,_),(68,_),(61,_),(50,_),(43,_),(9,_),(28,_),(24,_),(7,_),(12,_),(5,_),(4,_),(2,_),(0,_),(1,_)]) ⟨rfl,rfl,rfl,rfl,rfl,rfl,rfl,rfl,rfl,rfl,rfl,rfl,rfl,rfl,rfl,trivial⟩<|ak (X' :=[_,_,_,_,_]) (S' :=[_,_,_,_]) (fun _ m=>m)<|ae<|aU<|ay<| ?_
     exact eO trivial rfl rfl rfl rfl cC bV rfl (fun m=>(m.aN 1 rfl).aw) cf bL z32 (fun m=>(m.aN 0 rfl).aw) [] rfl [0] rfl ⟨y,rfl,rfl,rfl,rfl⟩
end Go.Proofs.YtmibdabdlgmafaaGreatDoor
end
section
set_option maxRecDepth 20000
set_option maxHeartbeats 4000000
namespace Go.Proofs.YtmibdabdlgmafaaGreatDoor
open Go.Eng Go.Hx
theorem uA{A B:Option Addr}{n c m:Nat}{ds:List (List UInt8)}(hD:C7 ds)(hn:n≤1000000):b6 Tryz.prog 19 [.slice A n c,.slice B n m] [] [cr 32 A n (dc ds),cr 32 B n (dc ds)] (fun v_ X_ S_=>v_=(.bool true)∧X_=[]∧S_=[]):=by
 refine aJ (N:=26) Tryz.func19 rfl rfl (by simp) fun b=> ?_
 refine aS (fun m=>fv (m.rd 0 rfl)) ?_
 rintro⟨hl_r,hA_r⟩
 refine aS (fun m=>fv (m.rd 1 rfl)) ?_
 rintro⟨hl_q,hA_q⟩
 refine aS (fun m=>DR (m.rd 0 rfl) hD) fun hln=> ?_
 refine ah<|aj<|hy (fun _=>ab rfl)<|ai<|ae<|ah<|ah<|aj<|hy (fun _=>aa rfl)<|hy (fun _=>aW rfl Tryz.underlying33)<|hy (fun _=>aa rfl)<|hy (fun _=>aW rfl Tryz.underlying33)<|hy (fun _=>dx rfl rfl)<|ai<|al (ρ' :=[(10,_),(4,_),(0,_),(1,_)]) ⟨rfl,rfl,rfl,rfl,trivial⟩<|ae<| ?_
 refine cZ rfl ((decide_eq_false (by simp))) ?_
 refine aA<|ae<|ah<|ah<|aj<|hy (fun _=>ab rfl)<|ai<|ae<|aI<| ?_
 refine cW (fun i=>n-i) (fun i=>[(5,.int .i64 (i:Nat))]) (fun i=>[]) (fun i=>[]) (fun i=>i≤n) 0 [(10,_),(0,_),(1,_)] ⟨rfl,rfl,rfl,trivial⟩ [] rfl [] rfl (Nat.zero_le _) ⟨rfl,trivial⟩ (fun i hi=> ?_)
 refine ah<|ah<|aj<|hy (fun _=>aa rfl)<|hy (fun _=>aa rfl)<|hy (fun _=>aW rfl Tryz.underlying33)<|hy (fun _=>bu rfl rfl)<|ai<|al (ρ' :=[(14,_),(5,_),(10,_),(0,_),(1,_)]) ⟨rfl,rfl,rfl,rfl,rfl,trivial⟩<|ae<| ?_
 refine cj rfl (fun hlt=> ?_) (fun hlt=> ?_)
 ·have hi2:i<ds.length:=by omega
  have hdk:=vS hD hi2
  have h32:(aP (ds.getD i [])).length=32:=by rw[az,hdk]
  refine aA<|ae<|ah<|aI<|ah<|cq [] [(0,some 0),(1,some 0),(2,some 0),(3,some 0),(4,some 0),(5,some 0),(6,some 0),(7,some 0),(8,some 0)] (by kernel_rfl) (by kernel_rfl) rfl 99<|an (aa rfl)<|an (aa rfl)<|an (cy rfl rfl Tryz.underlying33 bL hA_r rfl (by omega))<|bY (fun m=>aQ rfl cf bL h32 ((m.rd 0 rfl).BY hD hi2))<|an (aa rfl)<|an (aa rfl)<|an (cy rfl rfl Tryz.underlying33 bL hA_q rfl (by omega))<|bY (fun m=>aQ rfl cf bL h32 ((m.rd 1 rfl).BY hD hi2))<|an (yF (rC rfl rfl hdk hdk) ((decide_eq_false (by simp))))<|bk<|al (ρ' :=[(25,_),(14,_),(5,_),(10,_),(0,_),(1,_)]) ⟨rfl,rfl,rfl,rfl,rfl,rfl,trivial⟩<|ae<| ?_
  refine cZ rfl (rfl) ?_
  refine aA<|aM<|ae<|aj<|hy (fun _=>aa rfl)<|hy (fun _=>aK rfl rfl (bs (by omega) (by omega)))<|hy (fun _=>ab rfl)<|ai<|al (ρ' :=[(5,_),(25,_),(14,_),(10,_),(0,_),(1,_)]) ⟨rfl,rfl,rfl,rfl,rfl,rfl,trivial⟩<| ?_
  refine ct (i+1) ⟨rfl,rfl,rfl,rfl,trivial⟩ [] rfl [0,1] rfl ((by omega)) (by omega)
 ·refine bA<|ao<|ao<|aC<|ae<|ah<|aj<|hy (fun _=>ab rfl)<|ai<|ae<|aU<| ?_
  exact aZ trivial rfl rfl [] rfl [] rfl ⟨rfl,rfl,rfl⟩
end Go.Proofs.YtmibdabdlgmafaaGreatDoor
end
section
set_option maxRecDepth 100000
namespace Go.Hx
def Ff(b:List UInt8)(w:List UInt32):Bool:=(List.range 64).all fun i=>w.getD i 0 == (if i<16 then j2 b (4*i)else lF w i)
theorem vk{b:List UInt8}{w:List UInt32}(hl:w.length=64)(h:Ff b w=true):∀n,n≤64→wl b n=w.take n
 |0,_=>by simp[wl]
 |n+1,hn=>by
  have ih:=vk hl h n (by omega)
  have hc:w.getD n 0=(if n<16 then j2 b (4*n)else lF w n):=by
   have:=List.all_eq_true.1 h n (List.mem_range.2 (by omega))
   exact eq_of_beq this
  have hg:∀j,j<n→(w.take n).getD j 0=w.getD j 0:=fun j hj=>by simp only[List.getD,List.getElem?_take,if_pos hj]
  have hw:w.take (n+1)=w.take n++[w.getD n 0]:=by
   rw[List.take_add_one,List.getElem?_eq_getElem (by omega)]
   simp[List.getD,List.getElem?_eq_getElem (show n<w.length by omega)]
  rw[wl,ih,hw,hc]
  congr 2
  split
  ·rfl
  ·unfold lF
   rw[hg _ (by omega),hg _ (by omega),hg _ (by omega),hg _ (by omega)]
def Bi(w v:List UInt32):List (List UInt32)→List UInt32→List UInt32→Bool
 | [],_,_=>true
 |y::r,k,u=>y == G5 v (k.getD 0 0) (u.getD 0 0) && Bi w y r k.tail u.tail
theorem sC{w v:List UInt32}:∀(t:List (List UInt32)) (n:Nat) (s:List UInt32),jJ w v n=s→Bi w s t (ff.drop n) (w.drop n)=true→jJ w v (n+t.length)=(s::t).getLastD []
 | [],n,s,hs,_=>by simpa using hs
 |y::r,n,s,hs,h=>by
  simp only[Bi,Bool.and_eq_true]at h
  have e:jJ w v (n+1)=y:=by
   rw[eq_of_beq h.1,jJ,hs]
   simp only[List.getD,List.getElem?_drop,Nat.add_zero]
  have:=sC r (n+1) y e (by rw[←List.tail_drop,←List.tail_drop];exact h.2)
  rw[List.length_cons,show n+(r.length+1)=n+1+r.length by omega,this]
  rfl
theorem rN{b m:List UInt8}{w:List UInt32}{t:List (List UInt32)}(hp:iG b=m)(hm:m.length=64)(hw:w.length=64)(ht:t.length=64)(h1:Ff m w=true)(h2:Bi w lq t ff w=true):
  bw b=en (fl ((lq::t).getLastD []) lq 8):=by
 have e1:eV lq m=dT lq m:=by
  unfold eV
  rw[hm]
  show nH 0 (dT lq (m.take 64)) (m.drop 64)=_
  rw[List.take_of_length_le (by omega)]
  rfl
 have e2:wl m 64=w:=by rw[vk hw h1 64 (Nat.le_refl _),List.take_of_length_le (by omega)]
 have e3:=sC (w:=w) (v:=lq) t 0 lq rfl (by simpa using h2)
 rw[Nat.zero_add,ht]at e3
 unfold bw
 rw[hp,e1,dT,e2,e3]
end Go.Hx
end
section
set_option maxRecDepth 20000
namespace Go.Proofs.YtmibdabdlgmafaaGreatDoor
open Go.Eng Go.Hx
structure Pm where
 mn:Int
 av:Int
 mx:Int
def Pm.cs(p:Pm):List Value:=[.int .i64 p.mn,.int .i64 p.av,.int .i64 p.mx]
theorem Pm.one{p:Pm}:∀u∈p.cs,u.oneCell' =true:=by
 intro u hu
 simp only[Pm.cs,List.mem_cons,List.not_mem_nil,or_false]at hu
 rcases hu with rfl|rfl|rfl <;> rfl
def Pm.may(p:Pm):Prop:=0<p.mn∧p.mn≤p.av∧p.av≤p.mx∧p.mx<4097
instance(p:Pm):Decidable p.may:=by unfold Pm.may;infer_instance
structure Pn where
 a:Nat
 b:Nat
 m:Nat
def Pn.p(q:Pn):Pm:=⟨q.a,q.b,q.m⟩
structure Pn.ok(q:Pn):Prop where
 h1:1≤q.a
 h2:q.a≤q.b
 h3:q.b≤q.m
 h4:q.m≤4096
def fo(p:Pm):Pn:=⟨(1+c5 p.mn 12).toNat,(1+c5 p.mn 12+c5 p.av 20).toNat,(1+c5 p.mn 12+c5 p.av 20+c5 p.mx 40).toNat⟩
theorem zF(p:Pm):(fo p).p=⟨1+c5 p.mn 12,1+c5 p.mn 12+c5 p.av 20,1+c5 p.mn 12+c5 p.av 20+c5 p.mx 40⟩:=by
 have h1:=dK p.mn 12 (by decide)
 have h2:=dK p.av 20 (by decide)
 have h3:=dK p.mx 40 (by decide)
 unfold fo Pn.p
 simp only[Pm.mk.injEq]
 omega
theorem tA(p:Pm):(fo p).ok∧(fo p).m≤70:=by
 have h1:=dK p.mn 12 (by decide)
 have h2:=dK p.av 20 (by decide)
 have h3:=dK p.mx 40 (by decide)
 refine⟨⟨?_, ?_, ?_, ?_⟩, ?_⟩ <;> simp only[fo] <;> omega
def jq(n:Nat):Nat:=2 ^ Nat.log2 n
theorem s8(n:Nat):0<jq n:=Nat.two_pow_pos _
theorem BP{n j:Nat}(h1:2 ^ j≤n)(h2:n<2*2 ^ j):jq n=2 ^ j:=by
 have hn:n≠0:=fun e=>by rw[e]at h1;exact absurd h1 (Nat.not_le.2 (Nat.two_pow_pos _))
 unfold jq
 congr 1
 have a:=(Nat.le_log2 hn).2 h1
 have b:=(Nat.log2_lt (k:=j+1) hn).2 (by rw[Nat.pow_succ];omega)
 omega
theorem wF{n:Nat}(h1:1≤n)(h2:n≤1000000):b6 Tryz.prog 200 [.int .i64 (n:Int)] [] [] (fun v_ X_ S_=>v_=(.int .i64 (jq n:Nat))∧X_=[]∧S_=[]):=by
 refine aJ (N:=11) Tryz.func200 rfl rfl (by simp) fun b=> ?_
 refine ah<|aj<|hy (fun _=>ab rfl)<|ai<|ae<|ah<|aj<|hy (fun _=>ab rfl)<|ai<|ae<|ah<|aI<| ?_
 refine cW (fun j=>n-j) (fun j=>[(3,.int .i64 ((2 ^ j:Nat):Int))]) (fun j=>[]) (fun j=>[]) (fun j=>2 ^ j≤n) 0 [(2,_),(0,_)] ⟨rfl,rfl,trivial⟩ [] rfl [] rfl (h1) ⟨rfl,trivial⟩ (fun j hj=> ?_)
 have hpos:(0:Int)≤((2 ^ j:Nat):Int):=Int.natCast_nonneg _
 have hjn:j<n:=Nat.lt_of_lt_of_le Nat.lt_two_pow_self hj
 refine ah<|ah<|aj<|hy (fun _=>aa rfl)<|hy (fun _=>yV (fU rfl rfl (bs (by omega) (by omega))) ((show Value.int .i64 (2*((2 ^ j:Nat):Int))= .int .i64 ((2 ^ (j+1):Nat):Int)from by rw[Nat.pow_succ];congr 1;omega)))<|hy (fun _=>aa rfl)<|hy (fun _=>pA rfl rfl)<|ai<|al (ρ' :=[(7,_),(3,_),(2,_),(0,_)]) ⟨rfl,rfl,rfl,rfl,trivial⟩<|ae<| ?_
 refine cj rfl (fun hle=> ?_) (fun hle=> ?_)
 ·have hle2:2 ^ (j+1)≤n:=by omega
  refine aA<|ae<|aI<|aj<|hy (fun _=>aa rfl)<|hy (fun _=>yV (fU rfl rfl (bs (by omega) (by omega))) ((show Value.int .i64 (2*((2 ^ j:Nat):Int))= .int .i64 ((2 ^ (j+1):Nat):Int)from by rw[Nat.pow_succ];congr 1;omega)))<|hy (fun _=>ab rfl)<|ai<|al (ρ' :=[(3,_),(7,_),(2,_),(0,_)]) ⟨rfl,rfl,rfl,rfl,trivial⟩<|aM<| ?_
  refine ct (j+1) ⟨rfl,rfl,rfl,trivial⟩ [] rfl [] rfl (hle2) (by omega)
 ·have hp:jq n=2 ^ j:=BP hj (by rw[←Nat.mul_comm,←Nat.pow_succ];omega)
  rw[hp]
  refine bA<|ao<|ao<|aC<|ae<|ah<|aj<|hy (fun _=>aa rfl)<|hy (fun _=>ab rfl)<|ai<|al (ρ' :=[(2,_),(7,_),(3,_),(0,_)]) ⟨rfl,rfl,rfl,rfl,trivial⟩<|ae<|aU<| ?_
  exact aZ trivial rfl rfl [] rfl [] rfl ⟨rfl,rfl,rfl⟩
theorem FX{p:Pm}(h1:-9223372036854775808≤p.mn∧p.mn≤9223372036854775807)(h2:-9223372036854775808≤p.av∧p.av≤9223372036854775807)(h3:-9223372036854775808≤p.mx∧p.mx≤9223372036854775807):b6 Tryz.prog 125 [.agg p.cs.toArray] [] [] (fun v_ X_ S_=>v_=(.agg (fo p).p.cs.toArray)∧X_=[]∧S_=[]):=by
 have a1:=dK p.mn 12 (by decide)
 have a2:=dK p.av 20 (by decide)
 have a3:=dK p.mx 40 (by decide)
 rw[zF]
 refine aJ (N:=22) Tryz.func125 rfl rfl (by simp) fun b=> ?_
 refine ah<|aj<| ?_
 refine hx (bn rfl (fun g1=> ?_))
 refine aF (fun w m=>m.bq 0 rfl (show _=aE g1 75 p.cs from congrArg (aE _ _) (aR _))) ?_
 refine hx (bf yy (fun g2=> ?_))
 refine ai<|ak (X' :=[_,_]) (S' :=[]) (fun _ m=>m)<|ae<|ah<|aj<|hy (fun _=>aD rfl gZ (by decide))<|hy (fun m=>aq rfl dr (ax (m.aN 1 rfl) (i:=0) rfl))<| ?_
 refine hx (au rfl Tryz.call16 (l6 h1.1 h1.2 (by decide) (n:=p.mn) (m:=12)) [] rfl [] rfl ?_)
 rintro _ _ _ ⟨rfl,rfl,rfl⟩
 refine hy (fun _=>aK rfl rfl (bs (by omega) (by omega)))<|hy (fun _=>ab rfl)<|ai<|al (ρ' :=[(3,_),(2,_),(1,_),(0,_)]) ⟨rfl,rfl,rfl,rfl,trivial⟩<|ak (X' :=[_,_]) (S' :=[]) (fun _ m=>m)<|ae<|ah<|aj<|hy (fun _=>aa rfl)<|hy (fun _=>aD rfl jZ (by decide))<|hy (fun m=>aq rfl dr (ax (m.aN 1 rfl) (i:=1) rfl))<| ?_
 refine hx (au rfl Tryz.call16 (l6 h2.1 h2.2 (by decide) (n:=p.av) (m:=20)) [] rfl [] rfl ?_)
 rintro _ _ _ ⟨rfl,rfl,rfl⟩
 refine hy (fun _=>aK rfl rfl (bs (by omega) (by omega)))<|hy (fun _=>ab rfl)<|ai<|al (ρ' :=[(4,_),(3,_),(2,_),(1,_),(0,_)]) ⟨rfl,rfl,rfl,rfl,rfl,trivial⟩<|ak (X' :=[_,_]) (S' :=[]) (fun _ m=>m)<|ae<|ah<|aj<|hy (fun _=>aa rfl)<|hy (fun _=>aa rfl)<|hy (fun _=>aa rfl)<|hy (fun _=>aD rfl jl (by decide))<|hy (fun m=>aq rfl dr (ax (m.aN 1 rfl) (i:=2) rfl))<| ?_
 refine hx (au rfl Tryz.call16 (l6 h3.1 h3.2 (by decide) (n:=p.mx) (m:=40)) [] rfl [] rfl ?_)
 rintro _ _ _ ⟨rfl,rfl,rfl⟩
 refine hy (fun _=>aK rfl rfl (bs (by omega) (by omega)))<|hy (fun _=>bD yy rfl rfl (by kernel_rfl) (.cons (o:=0) (sz:=1) (by kernel_rfl) rfl rfl (Nat.le_of_ble_eq_true rfl) (.cons (o:=1) (sz:=1) (by kernel_rfl) rfl rfl (Nat.le_of_ble_eq_true rfl) (.cons (o:=2) (sz:=1) (by kernel_rfl) rfl rfl (Nat.le_of_ble_eq_true rfl) .nil))))<| ?_
 refine cB (a6 0 rfl rfl rfl fX rfl (Pm.one (p:=⟨_,_,_⟩)) rfl ?_)
 refine ai<|al (ρ' :=[(4,_),(3,_),(2,_),(1,_),(0,_)]) ⟨rfl,rfl,rfl,rfl,rfl,trivial⟩<|ak (X' :=[_,_]) (S' :=[]) (fun _ m=>m)<|ae<|aU<| ?_
 exact ep trivial rfl rfl gC fX rfl (fun m=>(m.aN 0 rfl).aw) [] rfl [] rfl ⟨rfl,rfl,rfl⟩
end Go.Proofs.YtmibdabdlgmafaaGreatDoor
end
section
set_option maxRecDepth 20000
namespace Go.Proofs.YtmibdabdlgmafaaGreatDoor
open Go.Eng Go.Hx
def nA(w:List UInt32)(b:List UInt8)(q:Pn)(k:Nat):Prop:=k=q.m∨dU w (b.take k) % UInt32.ofNat (jq q.b)=0
instance(w:List UInt32)(b:List UInt8)(q:Pn)(k:Nat):Decidable (nA w b q k):=by unfold nA;infer_instance
def eF(w:List UInt32)(b:List UInt8)(q:Pn):Nat→Nat→Nat
 |_,0=>b.length
 |k,f+1=>if k<b.length then(if nA w b q k then k else eF w b q (k+1) f)else b.length
def gT(w:List UInt32)(b:List UInt8)(q:Pn):Nat:=eF w b q q.a (b.length+1)
theorem qa(w:List UInt32)(b:List UInt8)(q:Pn):∀(f k:Nat),eF w b q k f≤b.length
 |0,_=>Nat.le_refl _
 |f+1,k=>by
  rw[eF]
  split
  ·split
   ·omega
   ·exact qa w b q f (k+1)
  ·exact Nat.le_refl _
theorem oS{w:List UInt32}{b:List UInt8}{q:Pn}:∀(f k:Nat),1≤k→1≤b.length→1≤eF w b q k f
 |0,_,_,h=>h
 |f+1,k,hk,h=>by
  rw[eF]
  split
  ·split
   ·exact hk
   ·exact oS f (k+1) (by omega) h
  ·exact h
theorem qh(w:List UInt32)(b:List UInt8)(q:Pn):gT w b q≤b.length:=qa ..
theorem jx{w:List UInt32}{b:List UInt8}{q:Pn}(hq:q.ok)(h:1≤b.length):1≤gT w b q:=oS _ _ hq.h1 h
theorem AK(n:Nat):Value.int .u32 (IntKind.u32.wrap (n:Int))=Wd (UInt32.ofNat n):=by
 rw[wrap32];rfl
theorem EO{A B:Option Addr}{c n k:Nat}{w:List UInt32}{l:List UInt8}{q:Pn}(hq:q.ok)(hw:w.length=256)(hl:l.length=n)(hn:n≤1000000)(hk:n≤k):b6 Tryz.prog 137 [.slice A 256 c,.slice B n k,.agg q.p.cs.toArray] [] [cr 1 A 256 (dD w),cr 1 B n (aP l)] (fun v_ X_ S_=>v_=(.int .i64 (gT w l q:Nat))∧X_=[]∧S_=[]):=by
 have q1:=hq.h1
 have q2:=hq.h2
 have q3:=hq.h3
 have q4:=hq.h4
 refine aJ (N:=38) Tryz.func137 rfl rfl (by simp) fun b=> ?_
 refine aS (fun m=>fv (m.rd 0 rfl)) ?_
 rintro⟨hl_rw,hA_rw⟩
 refine aS (fun m=>dZ (m.rd 1 rfl)) ?_
 rintro⟨hl_rb,hA_rb⟩
 refine ah<|aj<| ?_
 refine hx (bn rfl (fun g5=> ?_))
 refine aF (fun w m=>m.bq 0 rfl (show _=aE g5 75 q.p.cs from congrArg (aE _ _) (aR _))) ?_
 refine hy (fun _=>ab rfl)<|ai<|ak (X' :=[_]) (S' :=[_,_]) (fun _ m=>m)<|ae<|ah<|aj<|hy (fun _=>aD rfl jZ (by decide))<|hy (fun m=>aq rfl dr (ax (m.aN 0 rfl) (i:=1) (show q.p.cs[1]? =some (Value.int .i64 (q.b:Nat))from rfl)))<| ?_
 refine hx (au rfl Tryz.call200 (wF (by omega) (by omega) (n:=q.b)) [] rfl [] rfl ?_)
 rintro _ _ _ ⟨rfl,rfl,rfl⟩
 refine hy (fun _=>yV (bU rfl Tryz.underlying3 Tryz.underlying166 rfl) ((AK (jq q.b))))<|hy (fun _=>ab rfl)<|ai<|al (ρ' :=[(7,_),(6,_),(5,_),(0,_),(1,_),(2,_)]) ⟨rfl,rfl,rfl,rfl,rfl,rfl,trivial⟩<|ak (X' :=[_]) (S' :=[_,_]) (fun _ m=>m)<|ae<|ah<|ah<|aj<|hy (fun _=>aD rfl gZ (by decide))<|hy (fun m=>aq rfl dr (ax (m.aN 0 rfl) (i:=0) (show q.p.cs[0]? =some (Value.int .i64 (q.a:Nat))from rfl)))<|hy (fun _=>ab rfl)<|ai<|al (ρ' :=[(8,_),(7,_),(6,_),(5,_),(0,_),(1,_),(2,_)]) ⟨rfl,rfl,rfl,rfl,rfl,rfl,rfl,trivial⟩<|ae<|aI<| ?_
 have hm0:(UInt32.ofNat (jq q.b)).toNat≠0:=by
  have h1:=s8 q.b
  have h2:jq q.b≤q.b:=Nat.log2_self_le (by omega)
  rw[UInt32.toNat_ofNat',Nat.mod_eq_of_lt (by omega)]
  omega
 refine jU (fun k2 f=>n-k2) (fun k2 f=>[(8,.int .i64 (k2:Nat))]) (fun k2 f=>[]) (fun k2 f=>[]) (fun k2 f=>eF w l q k2 f=gT w l q∧n<k2+f) q.a (l.length+1) [(7,_),(5,_),(0,_),(1,_),(2,_)] ⟨rfl,rfl,rfl,rfl,rfl,trivial⟩ [] rfl [] rfl (⟨rfl,by omega⟩) ⟨rfl,trivial⟩ (fun k2 f ⟨hf,hnf⟩=> ?_)
 refine ah<|ah<|aj<|hy (fun _=>aa rfl)<|hy (fun _=>aa rfl)<|hy (fun _=>aW rfl Tryz.underlying27)<|hy (fun _=>bu rfl rfl)<|ai<|al (ρ' :=[(18,_),(8,_),(7,_),(5,_),(0,_),(1,_),(2,_)]) ⟨rfl,rfl,rfl,rfl,rfl,rfl,rfl,trivial⟩<|ae<| ?_
 refine cj rfl (fun hlt=> ?_) (fun hlt=> ?_)
 ·obtain⟨f,rfl⟩:∃f',f=f' +1:=⟨f-1,by omega⟩
  rw[eF,if_pos (by omega)]at hf
  by_cases h1:k2=q.m
  ·rw[if_pos (.inl h1)]at hf
   rw[←hf]
   refine aA<|ae<|ah<|aI<|ah<|aj<|hy (fun _=>aa rfl)<|hy (fun _=>aD rfl jl (by decide))<|hy (fun m=>aq rfl dr (ax (m.aN 0 rfl) (i:=2) (show q.p.cs[2]? =some (Value.int .i64 (q.m:Nat))from rfl)))<|hy (fun _=>yT (cn rfl rfl) ((decide_eq_true (by rw[h1]))))<|hy (fun _=>aa rfl)<|ba rfl rfl rfl (by decide)<|ba rfl rfl rfl (by decide)<|ba rfl rfl rfl (by decide)<|ba rfl rfl rfl (by decide)<|ba rfl rfl rfl (by decide)<|ba rfl rfl rfl (by decide)<|ba rfl rfl rfl (by decide)<|ba rfl rfl rfl (by decide)<|hy (fun _=>bT rfl rfl)<|ai<|al (ρ' :=[(34,_),(18,_),(8,_),(7,_),(5,_),(0,_),(1,_),(2,_)]) ⟨rfl,rfl,rfl,rfl,rfl,rfl,rfl,rfl,trivial⟩<|ae<| ?_
   refine gj rfl (rfl) ?_
   refine ah<|aj<|hy (fun _=>aa rfl)<|hy (fun _=>ab rfl)<|ai<|al (ρ' :=[(6,_),(34,_),(18,_),(8,_),(7,_),(5,_),(0,_),(1,_),(2,_)]) ⟨rfl,rfl,rfl,rfl,rfl,rfl,rfl,rfl,rfl,trivial⟩<|ae<|aU<|a8<|ay<|ay<|a8<|ay<| ?_
   exact aZ trivial rfl rfl [] rfl [] rfl ⟨rfl,rfl,rfl⟩
  ·refine bg (fun w m=>m.fh 1 rfl (View.take (k:=k2) (by omega))) ?_
   refine aS (fun m=>dZ (m.rd 0 rfl)) ?_
   rintro⟨hl_rt,hA_rt⟩
   refine aA<|ae<|ah<|aI<|ah<|aj<|hy (fun _=>aa rfl)<|hy (fun _=>aD rfl jl (by decide))<|hy (fun m=>aq rfl dr (ax (m.aN 0 rfl) (i:=2) (show q.p.cs[2]? =some (Value.int .i64 (q.m:Nat))from rfl)))<|hy (fun _=>yF (cn rfl rfl) ((decide_eq_false (by omega))))<|hy (fun _=>aa rfl)<|cm (o:=_) rfl rfl rfl (fun _=>aa rfl)<|cm (o:=_) rfl rfl rfl (fun _=>aa rfl)<|cm (o:=_) rfl rfl rfl (fun _=>aa rfl)<|cm (o:=_) rfl rfl rfl (fun _=>pd rfl rfl Tryz.underlying27 dF rfl (by omega))<| ?_
   refine C8 (o:=_) rfl rfl rfl (au rfl Tryz.call201 (wQ hw (by rw[List.length_take];omega) (by omega)) [] rfl [1,0] rfl ?_)
   rintro _ _ _ ⟨rfl,rfl,rfl⟩
   refine cm (o:=_) rfl rfl rfl (fun _=>aa rfl)<| ?_
   refine cm (o:=_) rfl rfl rfl (fun m=>uz hm0 rfl rfl) ?_
   refine cm (o:=_) rfl rfl rfl (fun _=>cn rfl rfl)<|hy (fun _=>bo rfl rfl)<|ai<|al (ρ' :=[(34,_),(18,_),(8,_),(7,_),(5,_),(0,_),(1,_),(2,_)]) ⟨rfl,rfl,rfl,rfl,rfl,rfl,rfl,rfl,trivial⟩<|ak (X' :=[_]) (S' :=[_,_,_]) (fun _ m=>m)<|ae<| ?_
   refine cj rfl (fun hz=> ?_) (fun hz=> ?_)
   ·have hz2:dU w (l.take k2) % UInt32.ofNat (jq q.b)=0:=UInt32.toNat_inj.1 (by show _=0;have:=hz;omega)
    rw[if_pos (.inr hz2)]at hf
    rw[←hf]
    refine ah<|aj<|hy (fun _=>aa rfl)<|hy (fun _=>ab rfl)<|ai<|al (ρ' :=[(6,_),(34,_),(18,_),(8,_),(7,_),(5,_),(0,_),(1,_),(2,_)]) ⟨rfl,rfl,rfl,rfl,rfl,rfl,rfl,rfl,rfl,trivial⟩<|ae<|aU<|a8<|ay<|ay<|a8<|ay<| ?_
    exact aZ trivial rfl rfl [] rfl [] rfl ⟨rfl,rfl,rfl⟩
   ·have hz2:¬nA w l q k2:=fun h=>h.elim h1 (fun h=>hz (by rw[h];rfl))
    rw[if_neg hz2]at hf
    refine aA<|aM<|ae<|aj<|hy (fun _=>aa rfl)<|hy (fun _=>aK rfl rfl (bs (by omega) (by omega)))<|hy (fun _=>ab rfl)<|ai<|al (ρ' :=[(8,_),(34,_),(18,_),(7,_),(5,_),(0,_),(1,_),(2,_)]) ⟨rfl,rfl,rfl,rfl,rfl,rfl,rfl,rfl,trivial⟩<| ?_
    refine gk (k2+1) f ⟨rfl,rfl,rfl,rfl,rfl,rfl,trivial⟩ [0] rfl [1,2] rfl (⟨hf,by omega⟩) (by omega)
 ·have hf:l.length=gT w l q:=by
   rw[←hf]
   cases f with
   |zero=>rfl
   |succ f=>rw[eF,if_neg (by omega)]
  rw[hl]at hf
  rw[←hf]
  refine bA<|ao<|ao<|aC<|ae<|ah<|aj<|hy (fun _=>aa rfl)<|hy (fun _=>aW rfl Tryz.underlying27)<|hy (fun _=>ab rfl)<|ai<|al (ρ' :=[(6,_),(18,_),(8,_),(7,_),(5,_),(0,_),(1,_),(2,_)]) ⟨rfl,rfl,rfl,rfl,rfl,rfl,rfl,rfl,trivial⟩<|ae<|aU<| ?_
  exact aZ trivial rfl rfl [] rfl [] rfl ⟨rfl,rfl,rfl⟩
end Go.Proofs.YtmibdabdlgmafaaGreatDoor
end
section
set_option maxRecDepth 20000
set_option maxHeartbeats 2000000
namespace Go.Proofs.YtmibdabdlgmafaaGreatDoor
open Go.Eng Go.Hx
def iE(w:List UInt32)(q:Pn):Nat→List UInt8→List (List UInt8)
 |0,_=>[]
 |f+1,b=>if b=[]then []else b.take (gT w b q)::iE w q f (b.drop (gT w b q))
def eo(b:List UInt8)(q:Pn):List (List UInt8):=iE bm q b.length b
theorem tw{w:List UInt32}{q:Pn}:∀{f:Nat},iE w q f []=[]
 |0=>rfl
 |f+1=>by rw[iE,if_pos rfl]
theorem View.y6:View (fz []) (dp []):=.of (fun w h r hr=>absurd hr List.not_mem_nil) (fun k hk=>by obtain⟨r,hr,_⟩:=hk;exact absurd hr List.not_mem_nil)
theorem View.jO{rs:List aX}{r:aX}(hc:r.n≤r.c):View (fz [dp rs,cr 1 r.A r.n (aP r.l)]) (dp (rs++[r])):=.of (fun w h x hx=>by
  rcases List.mem_append.1 hx with hx|hx
  ·exact h (dp rs) (List.mem_cons_self ..) x hx
  ·rw[List.mem_singleton.1 hx];exact⟨h (cr 1 r.A r.n (aP r.l)) (List.mem_cons_of_mem _ (List.mem_cons_self ..)),hc⟩) (fun k hk=>by
  obtain⟨x,hx,hf⟩:=hk
  rcases List.mem_append.1 hx with hx|hx
  ·exact⟨dp rs,List.mem_cons_self ..,x,hx,hf⟩
  ·rw[List.mem_singleton.1 hx]at hf;exact⟨cr 1 r.A r.n (aP r.l),List.mem_cons_of_mem _ (List.mem_cons_self ..),hf⟩)
def j6(rs:List aX):List Value:=rs.map aX.val
theorem oe{rs:List aX}:∀u∈j6 rs,u.oneCell' =true:=by
 intro u hu
 obtain⟨r,_,rfl⟩:=List.mem_map.1 hu
 rfl
theorem jz(a b:List aX):j6 (a++b)=j6 a++j6 b:=by simp[j6]
theorem sj{B:Option Addr}{n k:Nat}{l:List UInt8}{q:Pn}(hq:q.ok)(hl:l.length=n)(hn:n≤1000000)(hk:n≤k):b6 Tryz.prog 50 [.slice B n k,.agg q.p.cs.toArray] [] [cr 1 B n (aP l)] (fun v_ X_ S_=>∃A1 c1 rs,v_=(.slice A1 (List.length rs) c1)∧X_=[aG 27 1 (.slice A1 (List.length rs) c1) (List.length rs) (j6 rs)]∧S_=[dp rs]∧(rs.map aX.l=eo l q∧∀r∈rs,r.n=r.l.length)):=by
 refine aJ (N:=26) Tryz.func50 rfl rfl (by simp) fun b=> ?_
 refine aS (fun m=>dZ (m.rd 0 rfl)) ?_
 rintro⟨hl_rb,hA_rb⟩
 refine ah<|aj<| ?_
 refine hx (bn rfl (fun g3=> ?_))
 refine aF (fun w m=>m.bq 0 rfl (show _=aE g3 75 q.p.cs from congrArg (aE _ _) (aR _))) ?_
 refine hy (fun _=>ab rfl)<|ai<|ak (X' :=[_]) (S' :=[_]) (fun _ m=>m)<|ae<|ah<|aj<| ?_
 refine hx (au rfl Tryz.call136 (Cs) [] rfl [] rfl ?_)
 rintro _ _ _ ⟨A,c,rfl,rfl,rfl⟩
 refine aF (fun w m=>(m.perm (ar [0] _ [_] _ rfl)).freeze) ?_
 refine aF (fun w m=>m.fh 0 rfl .own) ?_
 refine aB (fun m=>fv (m.rd 0 rfl)) ?_
 rintro⟨hl_or,hA_or⟩
 refine aF (fun w m=>m.cI (r' :=aG 27 1 (.slice none 0 0) 0 []) (.refl _ _) (Own.nil _ _ _ _) (fun k hk=>hk.elim)) ?_
 refine aF (S' :=fz []::_) (fun w m=>m.oQ [] rfl) ?_
 refine aF (fun w m=>m.fh 0 rfl View.y6) ?_
 refine hy (fun _=>ab rfl)<|ai<|al (ρ' :=[(5,_),(4,_),(3,_),(0,_),(1,_)]) ⟨rfl,rfl,rfl,rfl,rfl,trivial⟩<|ak (X' :=[_,_]) (S' :=[_,_,_,_,_]) (fun _ m=>m)<|ae<|ah<|aj<|hy (fun _=>ab rfl)<|ai<|ae<|ah<|aI<| ?_
 refine rY (fun s f rs A1 c1=>f) (fun s f rs A1 c1=>[(0,.slice (aX.A s) (aX.n s) (aX.c s)),(6,.slice A1 (List.length rs) c1)]) (fun s f rs A1 c1=>[aG 27 1 (.slice A1 (List.length rs) c1) (List.length rs) (j6 rs)]) (fun s f rs A1 c1=>[cr 1 (aX.A s) (aX.n s) (aP (aX.l s)),dp rs]) (fun s f rs A1 c1=>aX.n s=(aX.l s).length∧aX.n s≤aX.c s∧aX.n s≤f∧rs.map aX.l++iE bm q f (aX.l s)=eo l q∧(∀r∈rs,r.n=r.l.length)∧List.length rs+aX.n s≤n) ⟨B,n,k,l⟩ n [] none 0 [(5,_),(4,_),(3,_),(1,_)] ⟨rfl,rfl,rfl,rfl,trivial⟩ [0] rfl [4,0] rfl (⟨hl.symm,hk,Nat.le_refl _,by rw[←hl];rfl,fun r h=>absurd h List.not_mem_nil,by simp⟩) ⟨rfl,rfl,trivial⟩ (fun s f rs A1 c1 ⟨hsl,hsc,hsf,tT,hrs,hrn⟩=> ?_)
 refine ah<|ah<|aj<|hy (fun _=>aa rfl)<|hy (fun _=>aW rfl Tryz.underlying27)<|hy (fun _=>cG rfl rfl)<|ai<|al (ρ' :=[(11,_),(0,_),(6,_),(5,_),(4,_),(3,_),(1,_)]) ⟨rfl,rfl,rfl,rfl,rfl,rfl,rfl,trivial⟩<|ae<| ?_
 refine cj rfl (fun h0=> ?_) (fun h0=> ?_)
 ·have hpos:1≤(aX.l s).length:=by omega
  obtain⟨f,rfl⟩:∃f',f=f' +1:=⟨f-1,by omega⟩
  rw[iE,if_neg (fun e=>by rw[e]at hpos;exact absurd hpos (by decide))]at tT
  have k1:=jx (w:=bm) hq hpos
  have k2:=qh bm (aX.l s) q
  obtain⟨kf,hkf⟩:∃kf,kf=gT bm (aX.l s) q:=⟨_,rfl⟩
  refine aA<|ae<|aI<|ah<|aj<|hy (fun _=>aa rfl)<|hy (fun _=>aa rfl)<|hy (fun m=>yV (aQ rfl gC fX rfl ((m.aN 1 rfl).aw)) ((rfl:_=Value.agg q.p.cs.toArray)))<| ?_
  refine hx (au rfl Tryz.call137 (EO hq bl hsl.symm (by omega) hsc) [] rfl [4,0] rfl ?_)
  rintro _ _ _ ⟨rfl,rfl,rfl⟩
  rw[←hkf]at tT k1 k2
  rw[←hkf]
  refine aF (fun w m=>m.fh 0 rfl (View.take (k:=kf) (by omega))) ?_
  refine aB (fun m=>dZ (m.rd 0 rfl)) ?_
  rintro⟨hl_rt,hA_rt⟩
  refine aF (fun w m=>m.fh 1 rfl (View.drop (k:=kf) hsc (by omega))) ?_
  refine aB (fun m=>dZ (m.rd 0 rfl)) ?_
  rintro⟨hl_rd,hA_rd⟩
  obtain⟨r,hr⟩:∃r:aX,r=⟨aX.A s,kf,aX.c s,(aX.l s).take kf⟩:=⟨_,rfl⟩
  refine aF (S' :=fz [dp rs,cr 1 (aX.A s) kf (aP ((aX.l s).take kf))]::_) (fun w m=>m.oQ [3,1] rfl) ?_
  refine aF (fun w m=>m.fh 0 rfl (View.jO (rs:=rs) (r:=⟨aX.A s,kf,aX.c s,(aX.l s).take kf⟩) (by show kf≤aX.c s;omega))) ?_
  rw[←hr]
  refine hy (fun _=>ab rfl)<|ai<|al (ρ' :=[(7,_),(11,_),(0,_),(6,_),(5,_),(4,_),(3,_),(1,_)]) ⟨rfl,rfl,rfl,rfl,rfl,rfl,rfl,rfl,trivial⟩<|ak (X' :=[_,_]) (S' :=[_,_,_,_,_,_,_,_,_,_,_]) (fun _ m=>m)<|ae<|ah<|aj<|hy (fun _=>aa rfl)<|hy (fun _=>aa rfl)<|hy (fun _=>aa rfl)<|hy (fun _=>pd rfl rfl Tryz.underlying27 dF rfl (by omega))<| ?_
  refine hx (bJ Tryz.underlying84 jT rfl rfl rfl (by simp[Value.cells,B8]) (by decide) (by decide) (fun g20=> ?_))
  have hA_b20:0<1→(some (⟨g20,0,none⟩:Addr))≠none:=fun _ h=>by cases h
  have hlr:(rs++[r]).length=rs.length+1:=by simp
  have hcut2:(rs++[r]).map aX.l++iE bm q f ((aX.l s).drop kf)=eo l q:=by rw[←tT,List.map_append,hr];simp
  have hrs2:∀x∈rs++[r],aX.n x=(aX.l x).length:=fun x hx=>by
   rcases List.mem_append.1 hx with hx|hx
   ·exact hrs x hx
   ·rw[List.mem_singleton.1 hx,hr]
    show kf=((aX.l s).take kf).length
    rw[List.length_take]
    omega
  refine aF (fun w m=>m.bq 0 rfl (show _=aG 27 1 (.slice (some ⟨g20,0,none⟩) 1 1) 1 (j6 [r])from(by rw[hr];rfl))) ?_
  refine hx (bp 1 rfl rfl rfl Tryz.underlying84 Tryz.underlying84 (by exact .inl rfl) jT rfl (fun m=>Src.bS (m.ord 0 rfl)) oe (by unfold maxLen;omega) (by omega) (fun u=> ?_))
  refine aB (fun m=>(m.own 0 rfl).slice) ?_
  rintro⟨A_z,c_z,rfl,hc_z⟩
  refine aB (fun m=>(m.ord 0 rfl).2.1) fun hA_z=> ?_
  refine aF (fun w m=>m.bq 0 rfl (show _=aG 27 1 (.slice A_z (List.length rs+1) c_z) (List.length rs+1) (j6 (rs++[r]))from congrArg (aG _ _ _ _) (by rw[jz]))) ?_
  rw[←hlr]
  refine hy (fun _=>ab rfl)<|ai<|al (ρ' :=[(6,_),(7,_),(11,_),(0,_),(5,_),(4,_),(3,_),(1,_)]) ⟨rfl,rfl,rfl,rfl,rfl,rfl,rfl,rfl,trivial⟩<|ak (X' :=[_,_,_]) (S' :=[_,_,_,_,_,_,_,_,_,_,_]) (fun _ m=>m)<|ae<|aj<|hy (fun _=>aa rfl)<|hy (fun _=>aa rfl)<|hy (fun _=>dX rfl rfl Tryz.underlying27 dF rfl (by omega))<|hy (fun _=>ab rfl)<|ai<|al (ρ' :=[(0,_),(6,_),(7,_),(11,_),(5,_),(4,_),(3,_),(1,_)]) ⟨rfl,rfl,rfl,rfl,rfl,rfl,rfl,rfl,trivial⟩<|aM<| ?_
  refine mX ⟨(if aX.c s=kf then aX.A s else(aX.A s).map (·.add (kf*1))),aX.n s-kf,aX.c s-kf,(aX.l s).drop kf⟩ f (rs++[r]) A_z c_z ⟨rfl,rfl,rfl,rfl,rfl,rfl,trivial⟩ [0,1] rfl [2,0,6,7,8,9,10] rfl (⟨by show aX.n s-kf=_;rw[List.length_drop];omega,by show aX.n s-kf≤aX.c s-kf;omega,by show aX.n s-kf≤f;omega,hcut2,hrs2,by rw[hlr];show _+(aX.n s-kf)≤n;omega⟩) (by omega)
 ·have hnil:aX.l s=[]:=List.length_eq_zero_iff.1 (by omega)
  rw[hnil,tw,List.append_nil]at tT
  refine bA<|ao<|ao<|aC<|ae<|ah<|aj<|hy (fun _=>aa rfl)<|hy (fun _=>ab rfl)<|ai<|al (ρ' :=[(4,_),(11,_),(0,_),(6,_),(5,_),(3,_),(1,_)]) ⟨rfl,rfl,rfl,rfl,rfl,rfl,rfl,trivial⟩<|ae<|aU<| ?_
  exact aZ trivial rfl rfl [0] rfl [1] rfl ⟨A1,c1,rs,rfl,rfl,rfl,⟨tT,hrs⟩⟩
end Go.Proofs.YtmibdabdlgmafaaGreatDoor
end
section
set_option maxRecDepth 20000
namespace Go.Proofs.YtmibdabdlgmafaaGreatDoor
open Go.Eng Go.Hx
theorem ov{p:Pm}:b6 Tryz.prog 192 [.agg p.cs.toArray] [] [] (fun v_ X_ S_=>v_=(.bool (decide p.may))∧X_=[]∧S_=[]):=by
 refine aJ (N:=25) Tryz.func192 rfl rfl (by simp) fun b=> ?_
 refine ah<|aj<| ?_
 refine hx (bn rfl (fun g1=> ?_))
 refine aF (fun w m=>m.bq 0 rfl (show _=aE g1 75 p.cs from congrArg (aE _ _) (aR _))) ?_
 by_cases h0:p.mn≥1
 ·by_cases h1:p.av≥p.mn
  ·by_cases h2:p.mx≥p.av
   ·rw[show decide p.may=decide (p.mx≤4096)from decide_eq_decide.2 ⟨fun h=>by have:=h.2.2.2;omega,fun h=>⟨by omega,h1,h2,by omega⟩⟩]
    refine hy (fun _=>ab rfl)<|ai<|ak (X' :=[_]) (S' :=[]) (fun _ m=>m)<|ae<|ah<|aj<|hy (fun _=>aD rfl gZ (by decide))<|hy (fun m=>aq rfl dr (ax (m.aN 0 rfl) (i:=0) rfl))<|hy (fun _=>yT (ee rfl rfl) ((decide_eq_true h0)))<|hy (fun _=>aa rfl)<|cm (o:=_) rfl rfl rfl (fun _=>aD rfl jZ (by decide))<|cm (o:=_) rfl rfl rfl (fun m=>aq rfl dr (ax (m.aN 0 rfl) (i:=1) rfl))<|cm (o:=_) rfl rfl rfl (fun _=>aD rfl gZ (by decide))<|cm (o:=_) rfl rfl rfl (fun m=>aq rfl dr (ax (m.aN 0 rfl) (i:=0) rfl))<|cm (o:=_) rfl rfl rfl (fun _=>yT (ee rfl rfl) ((decide_eq_true h1)))<|hy (fun _=>bT rfl rfl)<|hy (fun _=>aa rfl)<|cm (o:=_) rfl rfl rfl (fun _=>aD rfl jl (by decide))<|cm (o:=_) rfl rfl rfl (fun m=>aq rfl dr (ax (m.aN 0 rfl) (i:=2) rfl))<|cm (o:=_) rfl rfl rfl (fun _=>aD rfl jZ (by decide))<|cm (o:=_) rfl rfl rfl (fun m=>aq rfl dr (ax (m.aN 0 rfl) (i:=1) rfl))<|cm (o:=_) rfl rfl rfl (fun _=>yT (ee rfl rfl) ((decide_eq_true h2)))<|hy (fun _=>bT rfl rfl)<|hy (fun _=>aa rfl)<|cm (o:=_) rfl rfl rfl (fun _=>aD rfl jl (by decide))<|cm (o:=_) rfl rfl rfl (fun m=>aq rfl dr (ax (m.aN 0 rfl) (i:=2) rfl))<|cm (o:=_) rfl rfl rfl (fun _=>pA rfl rfl)<|hy (fun _=>bT rfl rfl)<|hy (fun _=>ab rfl)<|ai<|al (ρ' :=[(2,_),(1,_),(0,_)]) ⟨rfl,rfl,rfl,trivial⟩<|ae<|aU<| ?_
    exact aZ trivial rfl rfl [] rfl [] rfl ⟨rfl,rfl,rfl⟩
   ·rw[decide_eq_false (show¬p.may from fun h=>h2 h.2.2.1)]
    refine hy (fun _=>ab rfl)<|ai<|ae<|ah<|aj<|hy (fun _=>aD rfl gZ (by decide))<|hy (fun m=>aq rfl dr (ax (m.aN 0 rfl) rfl))<|hy (fun _=>yT (ee rfl rfl) ((decide_eq_true h0)))<|hy (fun _=>aa rfl)<|cm (o:=_) rfl rfl rfl (fun _=>aD rfl jZ (by decide))<|cm (o:=_) rfl rfl rfl (fun m=>aq rfl dr (ax (m.aN 0 rfl) rfl))<|cm (o:=_) rfl rfl rfl (fun _=>aD rfl gZ (by decide))<|cm (o:=_) rfl rfl rfl (fun m=>aq rfl dr (ax (m.aN 0 rfl) rfl))<|cm (o:=_) rfl rfl rfl (fun _=>yT (ee rfl rfl) ((decide_eq_true h1)))<|hy (fun _=>bT rfl rfl)<|hy (fun _=>aa rfl)<|cm (o:=_) rfl rfl rfl (fun _=>aD rfl jl (by decide))<|cm (o:=_) rfl rfl rfl (fun m=>aq rfl dr (ax (m.aN 0 rfl) rfl))<|cm (o:=_) rfl rfl rfl (fun _=>aD rfl jZ (by decide))<|cm (o:=_) rfl rfl rfl (fun m=>aq rfl dr (ax (m.aN 0 rfl) rfl))<|cm (o:=_) rfl rfl rfl (fun _=>yF (ee rfl rfl) ((decide_eq_false h2)))<|hy (fun _=>bT rfl rfl)<|hy (fun _=>aa rfl)<|ba rfl rfl rfl (by decide)<|ba rfl rfl rfl (by decide)<|ba rfl rfl rfl (by decide)<|hy (fun _=>bo rfl rfl)<|hy (fun _=>ab rfl)<|ai<|al (ρ' :=[(2,_),(1,_),(0,_)]) ⟨rfl,rfl,rfl,trivial⟩<|ae<|aU<| ?_
    exact aZ trivial rfl rfl [] rfl [] rfl ⟨rfl,rfl,rfl⟩
  ·rw[decide_eq_false (show¬p.may from fun h=>h1 h.2.1)]
   refine hy (fun _=>ab rfl)<|ai<|ae<|ah<|aj<|hy (fun _=>aD rfl gZ (by decide))<|hy (fun m=>aq rfl dr (ax (m.aN 0 rfl) rfl))<|hy (fun _=>yT (ee rfl rfl) ((decide_eq_true h0)))<|hy (fun _=>aa rfl)<|cm (o:=_) rfl rfl rfl (fun _=>aD rfl jZ (by decide))<|cm (o:=_) rfl rfl rfl (fun m=>aq rfl dr (ax (m.aN 0 rfl) rfl))<|cm (o:=_) rfl rfl rfl (fun _=>aD rfl gZ (by decide))<|cm (o:=_) rfl rfl rfl (fun m=>aq rfl dr (ax (m.aN 0 rfl) rfl))<|cm (o:=_) rfl rfl rfl (fun _=>yF (ee rfl rfl) ((decide_eq_false h1)))<|hy (fun _=>bT rfl rfl)<|hy (fun _=>aa rfl)<|ba rfl rfl rfl (by decide)<|ba rfl rfl rfl (by decide)<|ba rfl rfl rfl (by decide)<|ba rfl rfl rfl (by decide)<|ba rfl rfl rfl (by decide)<|hy (fun _=>bo rfl rfl)<|hy (fun _=>aa rfl)<|ba rfl rfl rfl (by decide)<|ba rfl rfl rfl (by decide)<|ba rfl rfl rfl (by decide)<|hy (fun _=>bo rfl rfl)<|hy (fun _=>ab rfl)<|ai<|al (ρ' :=[(2,_),(1,_),(0,_)]) ⟨rfl,rfl,rfl,trivial⟩<|ae<|aU<| ?_
   exact aZ trivial rfl rfl [] rfl [] rfl ⟨rfl,rfl,rfl⟩
 ·rw[decide_eq_false (show¬p.may from fun h=>h0 (by have:=h.1;omega))]
  refine hy (fun _=>ab rfl)<|ai<|ae<|ah<|aj<|hy (fun _=>aD rfl gZ (by decide))<|hy (fun m=>aq rfl dr (ax (m.aN 0 rfl) rfl))<|hy (fun _=>yF (ee rfl rfl) ((decide_eq_false h0)))<|hy (fun _=>aa rfl)<|ba rfl rfl rfl (by decide)<|ba rfl rfl rfl (by decide)<|ba rfl rfl rfl (by decide)<|ba rfl rfl rfl (by decide)<|ba rfl rfl rfl (by decide)<|hy (fun _=>bo rfl rfl)<|hy (fun _=>aa rfl)<|ba rfl rfl rfl (by decide)<|ba rfl rfl rfl (by decide)<|ba rfl rfl rfl (by decide)<|ba rfl rfl rfl (by decide)<|ba rfl rfl rfl (by decide)<|hy (fun _=>bo rfl rfl)<|hy (fun _=>aa rfl)<|ba rfl rfl rfl (by decide)<|ba rfl rfl rfl (by decide)<|ba rfl rfl rfl (by decide)<|hy (fun _=>bo rfl rfl)<|hy (fun _=>ab rfl)<|ai<|al (ρ' :=[(2,_),(1,_),(0,_)]) ⟨rfl,rfl,rfl,trivial⟩<|ae<|aU<| ?_
  exact aZ trivial rfl rfl [] rfl [] rfl ⟨rfl,rfl,rfl⟩
theorem Pn.ok.may{q:Pn}(h:q.ok):q.p.may:=by
 have h1:=h.h1;have h2:=h.h2;have h3:=h.h3;have h4:=h.h4
 unfold Pm.may Pn.p
 simp only
 omega
def len8:List UInt8:=(List.range 256).map fun n=>if n=0 then 0 else UInt8.ofNat (Nat.log2 n+1)
theorem len8_get{n:Nat}(h1:1≤n)(hn:n<256):len8[n]? =some (UInt8.ofNat (Nat.log2 n+1)):=by
 unfold len8
 rw[List.getElem?_map,List.getElem?_range hn,Option.map_some,if_neg (by omega)]
theorem s4{n:Nat}(hn:n<256):Nat.log2 n<8:=by
 by_cases h:n=0
 ·subst h;decide
 ·exact(Nat.log2_lt h).2 (by omega)
theorem tX{n:Nat}(h:256≤n):Nat.log2 n=8+Nat.log2 (n/256):=by
 have h0:n/256≠0:=by omega
 have h1:2 ^ Nat.log2 (n/256)≤n/256:=Nat.log2_self_le h0
 have h2:n/256<2 ^ (Nat.log2 (n/256)+1):=(Nat.log2_lt h0).1 (Nat.lt_succ_self _)
 generalize Nat.log2 (n/256)=k at h1 h2 ⊢
 have h3:8+k≤Nat.log2 n:=(Nat.le_log2 (by omega)).2 (by rw[Nat.pow_add];show 256*2 ^ k≤n;omega)
 have h4:Nat.log2 n<8+(k+1):=(Nat.log2_lt (by omega)).2 (by rw[Nat.pow_add];show n<256*2 ^ (k+1);omega)
 omega
theorem zy{n:Nat}(h:n<18446744073709551616):IntKind.u64.wrap (n:Int)=(n:Int):=by
 simp[IntKind.wrap,IntKind.signed,IntKind.bits]
 omega
theorem wa{n:Nat}(h:n<256):IntKind.u8.wrap (n:Int)=(n:Int):=by
 simp[IntKind.wrap,IntKind.signed,IntKind.bits]
 omega
theorem qv{d:Array UInt8}{n:Nat}(hd:d.toList=len8)(h1:1≤n)(hn:n<256):d[n]? =some (UInt8.ofNat (Nat.log2 n+1)):=by
 rw[←Array.getElem?_toList,hd];exact len8_get h1 hn
theorem qo{k:Nat}(hk:k<8):IntKind.i64.wrap (((UInt8.ofNat (k+1)).toNat:Nat):Int)=((k+1:Nat):Int):=by
 have:(UInt8.ofNat (k+1)).toNat=k+1:=by rw[UInt8.toNat_ofNat',Nat.mod_eq_of_lt (by omega)]
 rw[this]
 exact bs (by omega) (by omega)
theorem xF{n:Nat}(h1:1≤n)(hn:n<65536):b6 Tryz.prog 255 [.int .u64 (n:Int)] [] [] (fun v_ X_ S_=>v_=(.int .i64 ((Nat.log2 n+1:Nat):Int))∧X_=[]∧S_=[]):=by
 refine aJ (N:=25) Tryz.func255 rfl rfl (by simp) fun b=> ?_
 refine ah<|aj<|hy (fun _=>ab rfl)<|ai<|ae<|ah<|ah<|aj<|hy (fun _=>aa rfl)<|hy (fun _=>ee rfl rfl)<|ai<|al (ρ' :=[(4,_),(2,_),(0,_)]) ⟨rfl,rfl,rfl,trivial⟩<|ae<| ?_
 refine cZ rfl ((decide_eq_false (by omega))) ?_
 refine aA<|ae<|ah<|ah<|aj<|hy (fun _=>aa rfl)<|hy (fun _=>ee rfl rfl)<|ai<|al (ρ' :=[(8,_),(4,_),(2,_),(0,_)]) ⟨rfl,rfl,rfl,rfl,trivial⟩<|ae<| ?_
 refine cZ rfl ((decide_eq_false (by omega))) ?_
 refine aA<|ae<|ah<|ah<|aj<|hy (fun _=>aa rfl)<|hy (fun _=>ee rfl rfl)<|ai<|al (ρ' :=[(14,_),(8,_),(4,_),(2,_),(0,_)]) ⟨rfl,rfl,rfl,rfl,rfl,trivial⟩<|ae<| ?_
 refine cj rfl (fun h8=> ?_) (fun h8=> ?_)
 ·have hn8:n/256<256:=by omega
  have hk:=s4 hn8
  have hs:=tX (n:=n) (by omega)
  refine ah<|aj<|hy (fun _=>aa rfl)<|hy (fun _=>yV (lr (p:=256) rfl rfl (by decide) (by decide) (by decide)) ((show Value.int .u64 ((n:Int)/256)= .int .u64 ((n/256:Nat):Int)from rfl)))<|hy (fun _=>ab rfl)<|ai<|al (ρ' :=[(0,_),(14,_),(8,_),(4,_),(2,_)]) ⟨rfl,rfl,rfl,rfl,rfl,trivial⟩<|ae<|aj<|hy (fun _=>aa rfl)<|hy (fun _=>aK rfl rfl (bs (by omega) (by omega)))<|hy (fun _=>ab rfl)<|ai<|al (ρ' :=[(2,_),(0,_),(14,_),(8,_),(4,_)]) ⟨rfl,rfl,rfl,rfl,rfl,trivial⟩<|ae<|ah<|aj<|hy (fun _=>aa rfl)<|hy (fun _=>aa rfl)<|hy (fun _=>bU rfl Tryz.underlying310 Tryz.underlying5 (wa hn8))<|hy (fun _=>iR rfl rfl Tryz.underlying9 rfl (qv (by kernel_rfl) (by omega) hn8))<|hy (fun _=>bU rfl Tryz.underlying5 Tryz.underlying3 (qo hk))<|hy (fun _=>yV (aK rfl rfl (bs (by omega) (by omega))) ((show Value.int .i64 (0+8+((Nat.log2 (n/256)+1:Nat):Int))= .int .i64 ((Nat.log2 n+1:Nat):Int) by rw[hs];exact congrArg (Value.int .i64) (by omega))))<|hy (fun _=>ab rfl)<|ai<|al (ρ' :=[(2,_),(0,_),(14,_),(8,_),(4,_)]) ⟨rfl,rfl,rfl,rfl,rfl,trivial⟩<|ae<|aU<| ?_
  exact aZ trivial rfl rfl [] rfl [] rfl ⟨rfl,rfl,rfl⟩
 ·have hn8:n<256:=by omega
  have hk:=s4 hn8
  refine aA<|ae<|ah<|aj<|hy (fun _=>aa rfl)<|hy (fun _=>aa rfl)<|hy (fun _=>bU rfl Tryz.underlying310 Tryz.underlying5 (wa hn8))<|hy (fun _=>iR rfl rfl Tryz.underlying9 rfl (qv (by kernel_rfl) h1 hn8))<|hy (fun _=>bU rfl Tryz.underlying5 Tryz.underlying3 (qo hk))<|hy (fun _=>yV (aK rfl rfl (bs (by omega) (by omega))) ((show Value.int .i64 (0+((Nat.log2 n+1:Nat):Int))= .int .i64 ((Nat.log2 n+1:Nat):Int)from congrArg (Value.int .i64) (by omega))))<|hy (fun _=>ab rfl)<|ai<|al (ρ' :=[(2,_),(14,_),(8,_),(4,_),(0,_)]) ⟨rfl,rfl,rfl,rfl,rfl,trivial⟩<|ae<|aU<| ?_
  exact aZ trivial rfl rfl [] rfl [] rfl ⟨rfl,rfl,rfl⟩
theorem Ea{n:Nat}(h1:1≤n)(hn:n<65536):b6 Tryz.prog 207 [.int .u64 (n:Int)] [] [] (fun v_ X_ S_=>v_=(.int .i64 ((Nat.log2 n+1:Nat):Int))∧X_=[]∧S_=[]):=by
 refine aJ (N:=8) Tryz.func207 rfl rfl (by simp) fun b=> ?_
 refine ah<|aj<|hy (fun _=>ab rfl)<|ai<|ae<|ah<| ?_
 refine cZ rfl (rfl) ?_
 refine aA<|ae<|ah<|aj<|hy (fun _=>aa rfl)<| ?_
 refine hx (au rfl Tryz.call255 (xF h1 hn (n:=n)) [] rfl [] rfl ?_)
 rintro _ _ _ ⟨rfl,rfl,rfl⟩
 refine hy (fun _=>ab rfl)<|ai<|al (ρ' :=[(2,_),(0,_)]) ⟨rfl,rfl,trivial⟩<|ak (X' :=[]) (S' :=[]) (fun _ m=>m)<|ae<|aU<| ?_
 exact aZ trivial rfl rfl [] rfl [] rfl ⟨rfl,rfl,rfl⟩
theorem DB{P:Program}{N:Nat}{D:List Deferred}{ρ:Env}{w:World}{x y:Operand}{ty t t' :TypeId}{a b:UInt32}(hx:ev ρ x=some (Wd a))(hy:ev ρ y=some (Wd b)):Yl P N D ρ w (.binOp .sub t x y t') ty (Wd (a-b)):=cd hx hy (by
 have ha:=a.toNat_lt
 have hb:=b.toNat_lt
 rw[UInt32.toNat_sub]
 simp[IntKind.wrap,IntKind.signed,IntKind.bits]
 omega)
def nU(q:Pn):UInt32:=UInt32.ofNat (jq q.b)-1
theorem zW{q:Pn}(hq:q.ok)(x:UInt32):x &&& nU q=0↔x % UInt32.ofNat (jq q.b)=0:=by
 have h1:=hq.h1;have h2:=hq.h2;have h3:=hq.h3;have h4:=hq.h4
 have hp:jq q.b≤q.b:=Nat.log2_self_le (by omega)
 have hp0:=s8 q.b
 have e1:(UInt32.ofNat (jq q.b)).toNat=jq q.b:=by rw[UInt32.toNat_ofNat',Nat.mod_eq_of_lt (by omega)]
 have e2:(nU q).toNat=jq q.b-1:=by
  unfold nU
  rw[UInt32.toNat_sub,e1]
  show(4294967296-1+jq q.b) % 4294967296=_
  omega
 rw[←UInt32.toNat_inj,←UInt32.toNat_inj,UInt32.toNat_and,UInt32.toNat_mod,e1,e2]
 unfold jq
 rw[Nat.and_two_pow_sub_one_eq_mod]
theorem Gx{q:Pn}(hq:q.ok):b6 Tryz.prog 302 [.agg q.p.cs.toArray] [] [] (fun v_ X_ S_=>v_=(Wd (nU q))∧X_=[]∧S_=[]):=by
 have h1:=hq.h1
 have h2:=hq.h2
 have h3:=hq.h3
 have h4:=hq.h4
 have hl12:Nat.log2 q.b<32:=(Nat.log2_lt (by omega)).2 (by omega)
 refine aJ (N:=13) Tryz.func302 rfl rfl (by simp) fun b=> ?_
 refine ah<|aj<| ?_
 refine hx (bn rfl (fun g1=> ?_))
 refine aF (fun w m=>m.bq 0 rfl (show _=aE g1 75 q.p.cs from congrArg (aE _ _) (aR _))) ?_
 refine hy (fun _=>ab rfl)<|ai<|ak (X' :=[_]) (S' :=[]) (fun _ m=>m)<|ae<|ah<|ah<|aj<|hy (fun m=>yV (aQ rfl gC fX rfl ((m.aN 0 rfl).aw)) ((rfl:_=Value.agg q.p.cs.toArray)))<| ?_
 refine hx (au rfl Tryz.call192 (ov (p:=q.p)) [] rfl [] rfl ?_)
 rintro _ _ _ ⟨rfl,rfl,rfl⟩
 refine hy (fun _=>eE rfl)<|ai<|al (ρ' :=[(5,_),(2,_),(1,_),(0,_)]) ⟨rfl,rfl,rfl,rfl,trivial⟩<|ak (X' :=[_]) (S' :=[]) (fun _ m=>m)<|ae<| ?_
 refine cZ rfl ((decide_eq_false (fun h=>h hq.may))) ?_
 refine aA<|ae<|ah<|aj<|hy (fun _=>aD rfl jZ (by decide))<|hy (fun m=>aq rfl dr (ax (m.aN 0 rfl) (i:=1) (show q.p.cs[1]? =some (Value.int .i64 (q.b:Nat))from rfl)))<|hy (fun _=>bU rfl Tryz.underlying3 Tryz.underlying263 (zy (by omega)))<| ?_
 refine hx (au rfl Tryz.call207 (Ea (by omega) (by omega) (n:=q.b)) [] rfl [] rfl ?_)
 rintro _ _ _ ⟨rfl,rfl,rfl⟩
 refine hy (fun _=>yV (cd rfl rfl (bs (by omega) (by omega))) ((show Value.int .i64 (((Nat.log2 q.b+1:Nat):Int)-1)= .int .i64 ((Nat.log2 q.b:Nat):Int)from congrArg (Value.int .i64) (by omega))))<|hy (fun _=>(r6 (a:=1) (k:=Nat.log2 q.b) hl12 rfl rfl))<|hy (fun _=>yV ((DB (b:=1) rfl rfl)) ((show Wd (UInt32.ofNat ((1:UInt32).toNat*2 ^ Nat.log2 q.b)-1)=Wd (nU q) by unfold nU jq;rw[show(1:UInt32).toNat=1 from rfl,Nat.one_mul])))<|hy (fun _=>ab rfl)<|ai<|al (ρ' :=[(2,_),(5,_),(1,_),(0,_)]) ⟨rfl,rfl,rfl,rfl,trivial⟩<|ak (X' :=[_]) (S' :=[]) (fun _ m=>m)<|ae<|aU<| ?_
 exact aZ trivial rfl rfl [] rfl [] rfl ⟨rfl,rfl,rfl⟩
def AA(q:Pn)(gr:Nat)(A:Option Addr)(n c:Nat):List Value:=[.int .i64 (q.a:Int),.int .i64 (q.b:Int),.int .i64 (q.m:Int),Wd (nU q),.pointer (some ⟨gr,0,none⟩),.slice A n c]
theorem Ft{q:Pn}(hq:q.ok):b6 Tryz.prog 283 [.agg q.p.cs.toArray] [] [] (fun v_ X_ S_=>∃gc gr,v_=(.tuple #[.pointer (some ⟨gc,0,none⟩),.int .i64 0])∧X_=[aE gc 389 (AA q gr none 0 0),jN gr kj []]∧S_=[]):=by
 refine aJ (N:=13) Tryz.func283 rfl rfl (by simp) fun b=> ?_
 refine ah<|aj<| ?_
 refine hx (bn rfl (fun g1=> ?_))
 refine aF (fun w m=>m.bq 0 rfl (show _=aE g1 75 q.p.cs from congrArg (aE _ _) (aR _))) ?_
 refine hy (fun _=>ab rfl)<|hy (fun _=>ab rfl)<|ai<|ak (X' :=[_]) (S' :=[]) (fun _ m=>m)<|ae<|ah<|ah<|aj<|hy (fun m=>yV (aQ rfl gC fX rfl ((m.aN 0 rfl).aw)) ((rfl:_=Value.agg q.p.cs.toArray)))<| ?_
 refine hx (au rfl Tryz.call192 (ov (p:=q.p)) [] rfl [] rfl ?_)
 rintro _ _ _ ⟨rfl,rfl,rfl⟩
 refine hy (fun _=>eE rfl)<|ai<|al (ρ' :=[(6,_),(3,_),(2,_),(1,_),(0,_)]) ⟨rfl,rfl,rfl,rfl,rfl,trivial⟩<|ak (X' :=[_]) (S' :=[]) (fun _ m=>m)<|ae<| ?_
 refine cZ rfl ((decide_eq_false (fun h=>h hq.may))) ?_
 refine aA<|ae<|ah<|cq [2,3,5] [(0,some 2),(1,some 0),(2,none),(3,none),(4,some 2),(5,none),(6,some 3),(7,some 3)] (by kernel_rfl) (by kernel_rfl) rfl 99<|bY (fun m=>yV (aQ rfl gC fX rfl ((m.aN 0 rfl).aw)) ((rfl:_=Value.agg q.p.cs.toArray)))<|bY (fun m=>yV (aQ rfl gC fX rfl ((m.aN 0 rfl).aw)) ((rfl:_=Value.agg q.p.cs.toArray)))<| ?_
 refine dq (au rfl Tryz.call302 (Gx hq (q:=q)) [] rfl [] rfl ?_)
 rintro _ _ _ ⟨rfl,rfl,rfl⟩
 refine⟨(fun _=>wk [0] [] rfl rfl), ?_⟩
 refine dq (au rfl Tryz.call303 (wZ) [] rfl [] rfl ?_)
 rintro _ _ _ ⟨g,rfl,rfl,rfl⟩
 refine⟨(fun _=>wk [1] [] rfl rfl), ?_⟩
 refine an (yV (bD FG rfl rfl (by kernel_rfl) (.cons (o:=0) (sz:=3) (by kernel_rfl) rfl rfl (Nat.le_of_ble_eq_true rfl) (.cons (o:=3) (sz:=1) (by kernel_rfl) rfl rfl (Nat.le_of_ble_eq_true rfl) (.cons (o:=4) (sz:=1) (by kernel_rfl) rfl rfl (Nat.le_of_ble_eq_true rfl) .nil)))) ((rfl:_=Value.agg (AA q g none 0 0).toArray)))<| ?_
 refine dq (bn rfl (fun g12=>⟨(fun _=>wk [2] [] rfl rfl), ?_⟩))
 refine an (ab rfl)<|an (ab rfl)<|bk<|al (ρ' :=[(3,_),(2,_),(6,_),(1,_),(0,_)]) ⟨rfl,rfl,rfl,rfl,rfl,trivial⟩<|ak (X' :=[_,_,_]) (S' :=[]) (fun _ m=>m)<|ae<|aU<| ?_
 refine ak (fun w m=>m.bq 0 rfl (show _=aE g12 389 (AA q g none 0 0)from congrArg (aE _ _) (aR _))) ?_
 exact dh trivial rfl rfl rfl [0,0] rfl [] rfl ⟨g12,g,rfl,rfl,rfl⟩
end Go.Proofs.YtmibdabdlgmafaaGreatDoor
end
section
namespace Go.Proofs.YtmibdabdlgmafaaGreatDoor
open Go.Eng Go.Hx
def fb(q:Pn)(cur:List UInt8):Prop:=cur.length=q.m∨(q.a≤cur.length∧dU bm cur &&& nU q=0)
instance(q:Pn)(cur:List UInt8):Decidable (fb q cur):=by unfold fb;infer_instance
def dL(q:Pn)(st:List (List UInt8)×List UInt8)(x:UInt8):List (List UInt8)×List UInt8:=if fb q (st.2++[x])then(st.1++[st.2++[x]],[])else(st.1,st.2++[x])
def hZ(q:Pn)(l:List UInt8):List (List UInt8)×List UInt8:=l.foldl (dL q) ([],[])
theorem ux(q:Pn)(l:List UInt8)(x:UInt8):hZ q (l++[x])=dL q (hZ q l) x:=by simp[hZ]
theorem eA{l:List UInt8}{i:Nat}(h:i<l.length):l.take (i+1)=l.take i++[l.getD i 0]:=by
 rw[List.take_add_one,List.getD,List.getElem?_eq_getElem h];rfl
theorem nt{w:List UInt32}{b:List UInt8}{q:Pn}:∀(f k:Nat),b.length<k+f→(∀j,k≤j→j<eF w b q k f→¬nA w b q j)∧(eF w b q k f<b.length→nA w b q (eF w b q k f)∧k≤eF w b q k f)
 |0,k,h=>by
  rw[eF]
  exact⟨fun j h1 h2=>by omega,fun h1=>absurd h1 (Nat.lt_irrefl _)⟩
 |f+1,k,h=>by
  rw[eF]
  split
  ·split
   ·next h1 h2=>exact⟨fun j h3 h4=>by omega,fun _=>⟨h2,Nat.le_refl _⟩⟩
   ·next h1 h2=>
    obtain⟨h3,h4⟩:=nt (w:=w) (b:=b) (q:=q) f (k+1) (by omega)
    refine⟨fun j h5 h6=> ?_,fun h5=>⟨(h4 h5).1,by have:=(h4 h5).2;omega⟩⟩
    by_cases e:j=k
    ·rw[e];exact h2
    ·exact h3 j (by omega) h6
  ·exact⟨fun j h1 h2=>by omega,fun h1=>absurd h1 (Nat.lt_irrefl _)⟩
theorem oW{q:Pn}(hq:q.ok){b:List UInt8}{k:Nat}(hk:k≤b.length)(ha:q.a≤k):fb q (b.take k)↔nA bm b q k:=by
 unfold fb nA
 rw[List.length_take,Nat.min_eq_left hk,zW hq]
 exact⟨fun h=>h.imp id (fun h=>h.2),fun h=>h.imp id (fun h=>⟨ha,h⟩)⟩
theorem qK{q:Pn}(hq:q.ok){b:List UInt8}{k:Nat}(hk:k≤b.length)(ha:k<q.a):¬fb q (b.take k):=by
 have h2:=hq.h2;have h3:=hq.h3
 unfold fb
 rw[List.length_take,Nat.min_eq_left hk]
 rintro(h|h) <;> omega
theorem ss{q:Pn}{b:List UInt8}{outs:List (List UInt8)}:∀(j:Nat),j≤b.length→(∀i,1≤i→i≤j→¬fb q (b.take i))→(b.take j).foldl (dL q) (outs,[])=(outs,b.take j)
 |0,_,_=>by simp
 |j+1,hj,h=>by
  have ih:=ss (outs:=outs) j (by omega) (fun i h1 h2=>h i h1 (by omega))
  have hc:=h (j+1) (by omega) (Nat.le_refl _)
  rw[eA (by omega)]at hc ⊢
  rw[List.foldl_append,ih]
  show dL q (outs,b.take j) _=_
  unfold dL
  rw[if_neg hc]
def w6(st:List (List UInt8)×List UInt8):List (List UInt8):=st.1++(if st.2=[]then []else [st.2])
theorem qC{q:Pn}(hq:q.ok):∀(f:Nat) (b:List UInt8) (outs:List (List UInt8)),b.length≤f→w6 (b.foldl (dL q) (outs,[]))=outs++iE bm q f b
 |0,b,outs,h=>by
  obtain rfl:b=[]:=List.eq_nil_of_length_eq_zero (by omega)
  simp[w6,iE]
 |f+1,b,outs,h=>by
  by_cases hb:b=[]
  ·subst hb
   simp[w6,iE]
  ·have hb1:1≤b.length:=by
    have:b.length≠0:=fun e=>hb (List.eq_nil_of_length_eq_zero e)
    omega
   rw[iE,if_neg hb]
   have k1:=jx (w:=bm) hq hb1
   have k2:=qh bm b q
   obtain⟨h3,h4⟩:=nt (w:=bm) (b:=b) (q:=q) (b.length+1) q.a (by omega)
   have hK:eF bm b q q.a (b.length+1)=gT bm b q:=rfl
   rw[hK]at h3 h4
   generalize gT bm b q=K at k1 k2 h3 h4
   have hno:∀i,1≤i→i≤K-1→¬fb q (b.take i):=fun i h1 h2=>by
    by_cases ha:i<q.a
    ·exact qK hq (by omega) ha
    ·rw[oW hq (by omega) (by omega)]
     exact h3 i (by omega) (by omega)
   have hrun:=ss (q:=q) (b:=b) (outs:=outs) (K-1) (by omega) hno
   have lD:(b.take K).foldl (dL q) (outs,[])=if fb q (b.take K)then(outs++[b.take K],[])else(outs,b.take K):=by
    have e:b.take K=b.take (K-1)++[b.getD (K-1) 0]:=by
     have:=eA (l:=b) (i:=K-1) (by omega)
     rwa [show K-1+1=K by omega]at this
    rw[e,List.foldl_append,hrun]
    rfl
   by_cases hlt:K<b.length
   ·obtain⟨h5,h6⟩:=h4 hlt
    rw[if_pos ((oW hq (by omega) h6).2 h5)]at lD
    have ih:=qC hq f (b.drop K) (outs++[b.take K]) (by rw[List.length_drop];omega)
    have e:b.foldl (dL q) (outs,[])=(b.drop K).foldl (dL q) (outs++[b.take K],[]):=by
     have:b=b.take K++b.drop K:=(List.take_append_drop K b).symm
     rw[this,List.foldl_append,←this,lD]
    rw[e,ih,List.append_assoc]
    rfl
   ·have hKl:K=b.length:=by omega
    subst hKl
    rw[List.take_of_length_le (Nat.le_refl _)]at lD ⊢
    rw[List.drop_of_length_le (Nat.le_refl _),tw,lD]
    split
    ·simp[w6]
    ·simp[w6,hb]
theorem uK{q:Pn}(hq:q.ok)(l:List UInt8):w6 (hZ q l)=eo l q:=by
 have:=qC hq l.length l [] (Nat.le_refl _)
 rwa [List.nil_append]at this
end Go.Proofs.YtmibdabdlgmafaaGreatDoor
end
section
namespace Go.Eng
open Go.RowKit
section
variable{P:Program}{Q:Exit→Act→World→Prop}{N:Nat}{D:List Deferred}{ρ:Env}{b:b9}{X Xr S:List bc}{c:Code}
theorem Di{α β γ δ ε ζ η θ:Type}(μ:α→β→γ→δ→ε→ζ→η→θ→Nat)(R:α→β→γ→δ→ε→ζ→η→θ→Env)(X1 S1:α→β→γ→δ→ε→ζ→η→θ→List bc)(I:α→β→γ→δ→ε→ζ→η→θ→Prop)(a0:α)(b_0:β)(c_0:γ)(d_0:δ)(e_0:ε)(f_0:ζ)(g_0:η)(h_0:θ)(ρk:Env)(hk:dW ρk ρ)(is:List Nat)(hX:bI is X=some (X1 a0 b_0 c_0 d_0 e_0 f_0 g_0 h_0,Xr))(js:List Nat)(hS:cU js S=some (S1 a0 b_0 c_0 d_0 e_0 f_0 g_0 h_0))(hI:I a0 b_0 c_0 d_0 e_0 f_0 g_0 h_0)(hs:dW (R a0 b_0 c_0 d_0 e_0 f_0 g_0 h_0) ρ)
  (round:∀a b_ c_ d_ e_ f_ g_ h_,I a b_ c_ d_ e_ f_ g_ h_→HC P (Exit.then (fun a' w' =>∃x y z u v_ t_ s_ r_,Ag N D (R x y z u v_ t_ s_ r_++ρk) a' ∧Mem b (X1 x y z u v_ t_ s_ r_++Xr) (S1 x y z u v_ t_ s_ r_++S) w' ∧I x y z u v_ t_ s_ r_∧μ x y z u v_ t_ s_ r_<μ a b_ c_ d_ e_ f_ g_ h_) Q) N D c (R a b_ c_ d_ e_ f_ g_ h_++ρk) b (X1 a b_ c_ d_ e_ f_ g_ h_++Xr) (S1 a b_ c_ d_ e_ f_ g_ h_++S)):HC P Q N D (.loop c) ρ b X S:=
 nz (ι:=α×β×γ×δ×ε×ζ×η×θ) (fun i=>μ i.1 i.2.1 i.2.2.1 i.2.2.2.1 i.2.2.2.2.1 i.2.2.2.2.2.1 i.2.2.2.2.2.2.1 i.2.2.2.2.2.2.2) (fun i=>R i.1 i.2.1 i.2.2.1 i.2.2.2.1 i.2.2.2.2.1 i.2.2.2.2.2.1 i.2.2.2.2.2.2.1 i.2.2.2.2.2.2.2) (fun i=>X1 i.1 i.2.1 i.2.2.1 i.2.2.2.1 i.2.2.2.2.1 i.2.2.2.2.2.1 i.2.2.2.2.2.2.1 i.2.2.2.2.2.2.2) (fun i=>S1 i.1 i.2.1 i.2.2.1 i.2.2.2.1 i.2.2.2.2.1 i.2.2.2.2.2.1 i.2.2.2.2.2.2.1 i.2.2.2.2.2.2.2) (fun i=>I i.1 i.2.1 i.2.2.1 i.2.2.2.1 i.2.2.2.2.1 i.2.2.2.2.2.1 i.2.2.2.2.2.2.1 i.2.2.2.2.2.2.2) (a0,b_0,c_0,d_0,e_0,f_0,g_0,h_0) ρk hk is hX js hS hI hs fun i hi w m a ha=>Code.wp_mono (fun e a' w' q=>by
  cases e <;> first|exact q|(obtain⟨x,y,z,u,v_,t_,s_,r_,h⟩:=q;exact⟨(x,y,z,u,v_,t_,s_,r_),h⟩)) (round i.1 i.2.1 i.2.2.1 i.2.2.2.1 i.2.2.2.2.1 i.2.2.2.2.2.1 i.2.2.2.2.2.2.1 i.2.2.2.2.2.2.2 hi w m a ha)
theorem r8{α β γ δ ε ζ η θ:Type}{M:Nat}{μ:α→β→γ→δ→ε→ζ→η→θ→Nat}{R:α→β→γ→δ→ε→ζ→η→θ→Env}{X1 S1:α→β→γ→δ→ε→ζ→η→θ→List bc}{Xr Sr:List bc}{ρ0:Env}{I:α→β→γ→δ→ε→ζ→η→θ→Prop}(x:α)(y:β)(z:γ)(u:δ)(v_:ε)(t_:ζ)(s_:η)(r_:θ)(hs:dW (R x y z u v_ t_ s_ r_++ρ0) ρ)(is:List Nat){Xz:List bc}(hX:bI is X=some (X1 x y z u v_ t_ s_ r_++Xr,Xz))(js:List Nat)(hS:cU js S=some (S1 x y z u v_ t_ s_ r_++Sr))(hI:I x y z u v_ t_ s_ r_)(hlt:μ x y z u v_ t_ s_ r_<M):
  HQ (Exit.then (fun a' w' =>∃x y z u v_ t_ s_ r_,Ag N D (R x y z u v_ t_ s_ r_++ρ0) a' ∧Mem b (X1 x y z u v_ t_ s_ r_++Xr) (S1 x y z u v_ t_ s_ r_++Sr) w' ∧I x y z u v_ t_ s_ r_∧μ x y z u v_ t_ s_ r_<M) Q) N D .normal ρ b X S:=
 fun w m a ha=>⟨x,y,z,u,v_,t_,s_,r_,ha.sub hs.sub,((m.perm (ar _ _ _ _ hX)).iZ).iw (b4 _ _ _ hS),hI,hlt⟩
end
end Go.Eng
end
section
set_option maxRecDepth 20000
set_option maxHeartbeats 2000000
namespace Go.Proofs.YtmibdabdlgmafaaGreatDoor
open Go.Eng Go.Hx
theorem Am{g gr:Nat}{q:Pn}{A:Option Addr}{n c:Nat}{s:fg}{l:List UInt8}(hs:s.ok l):b6 Tryz.prog 285 [.pointer (some ⟨g,0,none⟩)] [aE g 389 (AA q gr A n c),jN gr s l] [] (fun v_ X_ S_=>v_=(.slice A n c)∧X_=[aE g 389 (AA q gr none 0 0),jN gr s []]∧S_=[]):=by
 refine aJ (N:=17) Tryz.func285 rfl rfl (by simp) fun b=> ?_
 refine ah<|aj<|hy (fun _=>ab rfl)<|ai<|ae<|ah<|aj<|hy (fun _=>aa rfl)<|hy (fun _=>aL rfl)<|hy (fun _=>aD rfl lQ (by decide))<|hy (fun m=>aq rfl c7 (ax (m.aN 0 rfl) rfl))<|hy (fun _=>ab rfl)<|ai<|al (ρ' :=[(3,_),(2,_),(0,_)]) ⟨rfl,rfl,rfl,trivial⟩<|ae<|ah<|aj<|hy (fun _=>aa rfl)<|hy (fun _=>aL rfl)<|hy (fun _=>aD rfl lQ (by decide))<| ?_
 refine cB (bX 0 rfl rfl rfl iQ rfl (by first|exact Nat.le_of_ble_eq_true rfl|simp) ?_)
 refine aF (fun w m=>m.bq 0 rfl (show _=aE g 389 (AA q gr none 0 0)from rfl)) ?_
 refine ai<|al (ρ' :=[(3,_),(2,_),(0,_)]) ⟨rfl,rfl,rfl,trivial⟩<|ak (X' :=[_,_]) (S' :=[]) (fun _ m=>m)<|ae<|ah<|aj<|hy (fun _=>aa rfl)<|hy (fun _=>aL rfl)<|hy (fun _=>aD rfl vK (by decide))<|hy (fun m=>aq rfl CR (ax (m.aN 0 rfl) rfl))<| ?_
 refine hx (au rfl Tryz.call305 (Bj hs) [1] rfl [] rfl ?_)
 rintro _ _ _ ⟨rfl,rfl,rfl⟩
 refine ai<|al (ρ' :=[(3,_),(2,_),(0,_)]) ⟨rfl,rfl,rfl,trivial⟩<|ak (X' :=[_,_]) (S' :=[]) (fun _ m=>m)<|ae<|ah<|aj<|hy (fun _=>aa rfl)<|hy (fun _=>ab rfl)<|ai<|al (ρ' :=[(2,_),(3,_),(0,_)]) ⟨rfl,rfl,rfl,trivial⟩<|ae<|aU<| ?_
 exact aZ trivial rfl rfl [1,0] rfl [] rfl ⟨rfl,rfl,rfl⟩
theorem B9{g gr:Nat}{q:Pn}{B:Option Addr}{n k:Nat}{s0:fg}{l:List UInt8}(hq:q.ok)(hs0:s0.ok [])(hl:l.length=n)(hn:n≤1000000):b6 Tryz.prog 284 [.pointer (some ⟨g,0,none⟩),.slice B n k] [aE g 389 (AA q gr none 0 0),jN gr s0 []] [cr 1 B n (aP l)] (fun v_ X_ S_=>∃A1 c1 rs A c cur s,v_=(.slice A1 (List.length rs) c1)∧X_=[aG 27 1 (.slice A1 (List.length rs) c1) (List.length rs) (j6 rs),aE g 389 (AA q gr A (List.length cur) c),jN gr s cur,aG 5 1 (.slice A (List.length cur) c) (List.length cur) (aP cur)]∧S_=[dp rs]∧(rs.map aX.l=(hZ q l).1∧cur=(hZ q l).2∧(∀r∈rs,r.n=r.l.length)∧s.ok cur∧rs.length+cur.length≤n)):=by
 have q1:=hq.h1
 have q2:=hq.h2
 have q3:=hq.h3
 have q4:=hq.h4
 refine aJ (N:=72) Tryz.func284 rfl rfl (by simp) fun b=> ?_
 refine aS (fun m=>dZ (m.rd 0 rfl)) ?_
 rintro⟨hl_rb,hA_rb⟩
 refine bg (fun w m=>m.cI (r' :=aG 27 1 (.slice none 0 0) 0 []) (.refl _ _) (Own.nil _ _ _ _) (fun k hk=>hk.elim)) ?_
 refine bg (fun w m=>m.cI (r' :=aG 5 1 (.slice none 0 0) 0 []) (.refl _ _) (Own.nil _ _ _ _) (fun k hk=>hk.elim)) ?_
 refine bg (S' :=fz []::_) (fun w m=>m.oQ [] rfl) ?_
 refine bg (fun w m=>m.fh 0 rfl View.y6) ?_
 refine ah<|aj<|hy (fun _=>ab rfl)<|ai<|ae<|ah<|aj<|hy (fun _=>aa rfl)<|hy (fun _=>aL rfl)<|hy (fun _=>aD rfl vK (by decide))<|hy (fun m=>aq rfl CR (ax (m.aN 2 rfl) rfl))<|hy (fun _=>e8 rfl rfl)<|hy (fun _=>ab rfl)<|ai<|al (ρ' :=[(5,_),(4,_),(0,_),(1,_)]) ⟨rfl,rfl,rfl,rfl,trivial⟩<|ae<|ah<|aj<|hy (fun _=>ab rfl)<|ai<|ae<|ah<|ah<|aj<|hy (fun _=>aa rfl)<|hy (fun _=>aW rfl Tryz.underlying27)<|hy (fun _=>aa rfl)<|ai<|ae<|aI<| ?_
 refine Di (fun i rs A1 c1 A c cur s=>n-i) (fun i rs A1 c1 A c cur s=>[(18,.int .i64 (i:Nat)),(6,.slice A1 (List.length rs) c1)]) (fun i rs A1 c1 A c cur s=>[aG 27 1 (.slice A1 (List.length rs) c1) (List.length rs) (j6 rs),aE g 389 (AA q gr A (List.length cur) c),jN gr s cur,aG 5 1 (.slice A (List.length cur) c) (List.length cur) (aP cur)]) (fun i rs A1 c1 A c cur s=>[dp rs]) (fun i rs A1 c1 A c cur s=>i≤n∧rs.map aX.l=(hZ q (l.take i)).1∧cur=(hZ q (l.take i)).2∧(∀r∈rs,r.n=r.l.length)∧s.ok cur∧rs.length+cur.length≤i) 0 [] none 0 none 0 [] s0 [(17,_),(16,_),(5,_),(4,_),(0,_),(1,_)] ⟨rfl,rfl,rfl,rfl,rfl,rfl,trivial⟩ [1,1,1,0] rfl [0] rfl (⟨Nat.zero_le _,rfl,rfl,fun r h=>absurd h List.not_mem_nil,hs0,Nat.le_refl _⟩) ⟨rfl,rfl,trivial⟩ (fun i rs A1 c1 A c cur s ⟨hi,hrs,hcur,hrn,hs,hlen⟩=> ?_)
 refine ah<|aj<|hy (fun _=>bu rfl rfl)<|ai<|ae<|ah<| ?_
 refine cj rfl (fun hlt=> ?_) (fun hlt=> ?_)
 ·have hil:i<l.length:=by omega
  have hsc:=ux q (l.take i) (l.getD i 0)
  rw[←eA hil]at hsc
  obtain⟨e,he⟩:∃e,e=l.getD i 0:=⟨_,rfl⟩
  have hce:(cur++[e]).length=cur.length+1:=by simp
  rw[←he]at hsc
  refine aA<|ae<|ah<|aI<|ah<|aj<|hy (fun _=>aO rfl rfl Tryz.underlying27 dF hA_rb rfl (by omega))<|hy (fun m=>yV (aq rfl iL ((m.rd 3 rfl).cell (bE (by omega)))) ((show Value.int .u8 (((l.getD i 0).toNat:Nat):Int)=B8 e by rw[he];rfl)))<|hy (fun _=>ab rfl)<|ai<|al (ρ' :=[(8,_),(19,_),(18,_),(6,_),(17,_),(16,_),(5,_),(4,_),(0,_),(1,_)]) ⟨rfl,rfl,rfl,rfl,rfl,rfl,rfl,rfl,rfl,rfl,trivial⟩<|ae<|ah<|aj<|hy (fun _=>aa rfl)<|hy (fun _=>aa rfl)<| ?_
  refine hx (ej rfl rfl Tryz.call304 (Gr hs (by omega) (c:=e) (l:=cur)) [2] rfl [] rfl ?_)
  rintro _ _ _ ⟨s1,rfl,rfl,rfl,hp⟩
  refine hy (fun _=>ab rfl)<|ai<|al (ρ' :=[(9,_),(8,_),(19,_),(18,_),(6,_),(17,_),(16,_),(5,_),(4,_),(0,_),(1,_)]) ⟨rfl,rfl,rfl,rfl,rfl,rfl,rfl,rfl,rfl,rfl,rfl,trivial⟩<|ak (X' :=[_,_,_,_]) (S' :=[_,_,_,_]) (fun _ m=>m)<|ae<|ah<|aj<|hy (fun _=>aa rfl)<|hy (fun _=>aa rfl)<|hy (fun _=>aL rfl)<|hy (fun _=>aD rfl lQ (by decide))<|hy (fun m=>aq rfl c7 (ax (m.aN 2 rfl) rfl))<|hy (fun _=>aa rfl)<| ?_
  refine hx (bJ Tryz.underlying27 eT rfl rfl rfl (by simp[Value.cells,B8]) (by decide) (by decide) (fun g31=> ?_))
  have hA_b31:0<1→(some (⟨g31,0,none⟩:Addr))≠none:=fun _ h=>by cases h
  refine aF (fun w m=>m.bq 0 rfl (show _=aG 5 1 (.slice (some ⟨g31,0,none⟩) 1 1) 1 (aP [e])from rfl)) ?_
  refine hx (bp 4 rfl rfl rfl Tryz.underlying27 Tryz.underlying27 (by exact .inl rfl) eT rfl (fun m=>Src.bS (m.ord 0 rfl)) bh (by unfold maxLen;omega) (by omega) (fun u=> ?_))
  refine aB (fun m=>(m.own 0 rfl).slice) ?_
  rintro⟨A_o,c_o,rfl,hc_o⟩
  refine aB (fun m=>(m.ord 0 rfl).2.1) fun hA_o=> ?_
  refine aF (fun w m=>m.bq 0 rfl (show _=aG 5 1 (.slice A_o (List.length (cur++[e])) c_o) (List.length (cur++[e])) (aP (cur++[e]))from(by rw[hce];simp[aP]))) ?_
  refine hy (fun _=>aL rfl)<|hy (fun _=>aD rfl lQ (by decide))<| ?_
  refine cB (bX 4 rfl rfl rfl iQ rfl (by first|exact Nat.le_of_ble_eq_true rfl|simp) ?_)
  refine aF (fun w m=>m.bq 0 rfl (show _=aE g 389 (AA q gr A_o (List.length (cur++[e])) c_o)from(by rw[hce];rfl))) ?_
  refine ai<|al (ρ' :=[(9,_),(8,_),(19,_),(18,_),(6,_),(17,_),(16,_),(5,_),(4,_),(0,_),(1,_)]) ⟨rfl,rfl,rfl,rfl,rfl,rfl,rfl,rfl,rfl,rfl,rfl,trivial⟩<|ak (X' :=[_,_,_,_,_]) (S' :=[_,_,_,_]) (fun _ m=>m)<|ae<|ah<|aj<|hy (fun _=>aa rfl)<|hy (fun _=>aL rfl)<|hy (fun _=>aD rfl lQ (by decide))<|hy (fun m=>aq rfl c7 (ax (m.aN 0 rfl) rfl))<|hy (fun _=>aW rfl Tryz.underlying27)<|hy (fun _=>ab rfl)<|ai<|al (ρ' :=[(10,_),(9,_),(8,_),(19,_),(18,_),(6,_),(17,_),(16,_),(5,_),(4,_),(0,_),(1,_)]) ⟨rfl,rfl,rfl,rfl,rfl,rfl,rfl,rfl,rfl,rfl,rfl,rfl,trivial⟩<|ae<|ah<| ?_
  by_cases h1:(cur++[e]).length=q.m
  ·refine aj<|hy (fun _=>aa rfl)<|hy (fun _=>aa rfl)<|hy (fun _=>aL rfl)<|hy (fun _=>aD rfl lI (by decide))<|hy (fun _=>aD rfl jl (by decide))<|hy (fun m=>aq rfl dr (ax (m.aN 0 rfl) rfl))<|hy (fun _=>yT (cn rfl rfl) ((decide_eq_true (by rw[h1]))))<|hy (fun _=>aa rfl)<|ba rfl rfl rfl (by decide)<|ba rfl rfl rfl (by decide)<|ba rfl rfl rfl (by decide)<|ba rfl rfl rfl (by decide)<|ba rfl rfl rfl (by decide)<|ba rfl rfl rfl (by decide)<|ba rfl rfl rfl (by decide)<|ba rfl rfl rfl (by decide)<|kU rfl rfl rfl<|kU rfl rfl rfl<|kU rfl rfl rfl<|kU rfl rfl rfl<|kU rfl rfl rfl<|kU rfl rfl rfl<|kU rfl rfl rfl<|ba rfl rfl rfl (by decide)<|hy (fun _=>bT rfl rfl)<|ai<|al (ρ' :=[(64,_),(10,_),(9,_),(8,_),(19,_),(18,_),(6,_),(17,_),(16,_),(5,_),(4,_),(0,_),(1,_)]) ⟨rfl,rfl,rfl,rfl,rfl,rfl,rfl,rfl,rfl,rfl,rfl,rfl,rfl,trivial⟩<|ae<| ?_
   refine gj rfl (rfl) ?_
   have hcn:fb q (cur++[e]):=(.inl h1)
   have hstep:hZ q (l.take (i+1))=(rs.map aX.l++[cur++[e]],[]):=by rw[hsc];unfold dL;rw[←hcur,if_pos hcn,hrs]
   refine aj<|hy (fun _=>aa rfl)<|hy (fun _=>aa rfl)<| ?_
   refine hx (au rfl Tryz.call285 (Am hp (l:=(cur++[e]))) [0,2] rfl [] rfl ?_)
   rintro _ _ _ ⟨rfl,rfl,rfl⟩
   refine aF (fun w m=>(m.perm (ar [2] _ [_] _ rfl)).freeze) ?_
   refine aF (fun w m=>m.fh 0 rfl .own) ?_
   refine aF (S' :=fz [dp rs,cr 1 A_o (List.length (cur++[e])) (aP (cur++[e]))]::_) (fun w m=>m.oQ [2,0] rfl) ?_
   refine aF (fun w m=>m.fh 0 rfl (View.jO (rs:=rs) (r:=⟨A_o,List.length (cur++[e]),c_o,cur++[e]⟩) (by show(cur++[e]).length≤c_o;omega))) ?_
   obtain⟨r,hr⟩:∃r:aX,r=⟨A_o,List.length (cur++[e]),c_o,cur++[e]⟩:=⟨_,rfl⟩
   rw[←hr]
   have hlr:(rs++[r]).length=rs.length+1:=by simp
   refine hx (bJ Tryz.underlying84 jT rfl rfl rfl (by simp[Value.cells,B8]) (by decide) (by decide) (fun g68=> ?_))
   have hA_b68:0<1→(some (⟨g68,0,none⟩:Addr))≠none:=fun _ h=>by cases h
   refine aF (fun w m=>m.bq 0 rfl (show _=aG 27 1 (.slice (some ⟨g68,0,none⟩) 1 1) 1 (j6 [r])from(by rw[hr];rfl))) ?_
   refine hx (bp 4 rfl rfl rfl Tryz.underlying84 Tryz.underlying84 (by exact .inl rfl) jT rfl (fun m=>Src.bS (m.ord 0 rfl)) oe (by unfold maxLen;omega) (by omega) (fun u2=> ?_))
   refine aB (fun m=>(m.own 0 rfl).slice) ?_
   rintro⟨A_z,c_z,rfl,hc_z⟩
   refine aB (fun m=>(m.ord 0 rfl).2.1) fun hA_z=> ?_
   refine aF (fun w m=>m.bq 0 rfl (show _=aG 27 1 (.slice A_z (List.length rs+1) c_z) (List.length rs+1) (j6 (rs++[r]))from congrArg (aG _ _ _ _) (by rw[jz]))) ?_
   rw[←hlr]
   refine aF (fun w m=>m.cI (r' :=aG 5 1 (.slice none 0 0) 0 []) (.refl _ _) (Own.nil _ _ _ _) (fun k hk=>hk.elim)) ?_
   refine hy (fun _=>ab rfl)<|ai<|al (ρ' :=[(6,_),(64,_),(10,_),(9,_),(8,_),(19,_),(18,_),(17,_),(16,_),(5,_),(4,_),(0,_),(1,_)]) ⟨rfl,rfl,rfl,rfl,rfl,rfl,rfl,rfl,rfl,rfl,rfl,rfl,rfl,trivial⟩<|ak (X' :=[_,_,_,_,_,_]) (S' :=[_,_,_,_,_,_,_,_]) (fun _ m=>m)<|aM<|ae<|aj<|hy (fun _=>aK rfl rfl (bs (by omega) (by omega)))<|hy (fun _=>aa rfl)<|ai<|al (ρ' :=[(18,_),(6,_),(64,_),(10,_),(9,_),(8,_),(19,_),(17,_),(16,_),(5,_),(4,_),(0,_),(1,_)]) ⟨rfl,rfl,rfl,rfl,rfl,rfl,rfl,rfl,rfl,rfl,rfl,rfl,rfl,trivial⟩<| ?_
   have hrn2:∀x∈rs++[r],aX.n x=(aX.l x).length:=fun x hx=>by
    rcases List.mem_append.1 hx with hx|hx
    ·exact hrn x hx
    ·rw[List.mem_singleton.1 hx,hr]
   refine r8 (i+1) (rs++[r]) A_z c_z none 0 [] s1 ⟨rfl,rfl,rfl,rfl,rfl,rfl,rfl,rfl,trivial⟩ [1,2,2,0] rfl [0,5,6,7] rfl (⟨by omega,by rw[hstep,List.map_append,hr];rfl,by rw[hstep],hrn2,hp.clear,by rw[hlr];show _+0≤_;omega⟩) (by omega)
  ·by_cases h2:q.a≤(cur++[e]).length
   ·refine aj<|hy (fun _=>aa rfl)<|hy (fun _=>aa rfl)<|hy (fun _=>aL rfl)<|hy (fun _=>aD rfl lI (by decide))<|hy (fun _=>aD rfl jl (by decide))<|hy (fun m=>aq rfl dr (ax (m.aN 0 rfl) rfl))<|hy (fun _=>yF (cn rfl rfl) ((decide_eq_false (by omega))))<|hy (fun _=>aa rfl)<|cm (o:=_) rfl rfl rfl (fun _=>aa rfl)<|cm (o:=_) rfl rfl rfl (fun _=>aa rfl)<|cm (o:=_) rfl rfl rfl (fun _=>aL rfl)<|cm (o:=_) rfl rfl rfl (fun _=>aD rfl lI (by decide))<|cm (o:=_) rfl rfl rfl (fun _=>aD rfl gZ (by decide))<|cm (o:=_) rfl rfl rfl (fun m=>aq rfl dr (ax (m.aN 0 rfl) rfl))<|cm (o:=_) rfl rfl rfl (fun _=>yT (ee rfl rfl) ((decide_eq_true (by omega))))<|cm (o:=_) rfl rfl rfl (fun _=>aa rfl)<|cm (o:=_) rfl rfl rfl (fun _=>aa rfl)<|cm (o:=_) rfl rfl rfl (fun _=>aa rfl)<|cm (o:=_) rfl rfl rfl (fun _=>aL rfl)<|cm (o:=_) rfl rfl rfl (fun _=>aD rfl AS (by decide))<|cm (o:=_) rfl rfl rfl (fun m=>aq rfl bC (ax (m.aN 0 rfl) rfl))<|cm (o:=_) rfl rfl rfl (fun _=>gW rfl rfl)<|cm (o:=_) rfl rfl rfl (fun _=>cn rfl rfl)<|cm (o:=_) rfl rfl rfl (fun _=>bT rfl rfl)<|hy (fun _=>bo rfl rfl)<|ai<|al (ρ' :=[(64,_),(10,_),(9,_),(8,_),(19,_),(18,_),(6,_),(17,_),(16,_),(5,_),(4,_),(0,_),(1,_)]) ⟨rfl,rfl,rfl,rfl,rfl,rfl,rfl,rfl,rfl,rfl,rfl,rfl,rfl,trivial⟩<|ae<| ?_
    refine cj rfl (fun hz=> ?_) (fun hz=> ?_)
    ·have hcn:fb q (cur++[e]):=.inr ⟨h2,UInt32.toNat_inj.1 (by show _=0;have:=hz;omega)⟩
     have hstep:hZ q (l.take (i+1))=(rs.map aX.l++[cur++[e]],[]):=by rw[hsc];unfold dL;rw[←hcur,if_pos hcn,hrs]
     refine aj<|hy (fun _=>aa rfl)<|hy (fun _=>aa rfl)<| ?_
     refine hx (au rfl Tryz.call285 (Am hp (l:=(cur++[e]))) [0,2] rfl [] rfl ?_)
     rintro _ _ _ ⟨rfl,rfl,rfl⟩
     refine aF (fun w m=>(m.perm (ar [2] _ [_] _ rfl)).freeze) ?_
     refine aF (fun w m=>m.fh 0 rfl .own) ?_
     refine aF (S' :=fz [dp rs,cr 1 A_o (List.length (cur++[e])) (aP (cur++[e]))]::_) (fun w m=>m.oQ [2,0] rfl) ?_
     refine aF (fun w m=>m.fh 0 rfl (View.jO (rs:=rs) (r:=⟨A_o,List.length (cur++[e]),c_o,cur++[e]⟩) (by show(cur++[e]).length≤c_o;omega))) ?_
     obtain⟨r,hr⟩:∃r:aX,r=⟨A_o,List.length (cur++[e]),c_o,cur++[e]⟩:=⟨_,rfl⟩
     rw[←hr]
     have hlr:(rs++[r]).length=rs.length+1:=by simp
     refine hx (bJ Tryz.underlying84 jT rfl rfl rfl (by simp[Value.cells,B8]) (by decide) (by decide) (fun g68=> ?_))
     have hA_b68:0<1→(some (⟨g68,0,none⟩:Addr))≠none:=fun _ h=>by cases h
     refine aF (fun w m=>m.bq 0 rfl (show _=aG 27 1 (.slice (some ⟨g68,0,none⟩) 1 1) 1 (j6 [r])from(by rw[hr];rfl))) ?_
     refine hx (bp 4 rfl rfl rfl Tryz.underlying84 Tryz.underlying84 (by exact .inl rfl) jT rfl (fun m=>Src.bS (m.ord 0 rfl)) oe (by unfold maxLen;omega) (by omega) (fun u2=> ?_))
     refine aB (fun m=>(m.own 0 rfl).slice) ?_
     rintro⟨A_z,c_z,rfl,hc_z⟩
     refine aB (fun m=>(m.ord 0 rfl).2.1) fun hA_z=> ?_
     refine aF (fun w m=>m.bq 0 rfl (show _=aG 27 1 (.slice A_z (List.length rs+1) c_z) (List.length rs+1) (j6 (rs++[r]))from congrArg (aG _ _ _ _) (by rw[jz]))) ?_
     rw[←hlr]
     refine aF (fun w m=>m.cI (r' :=aG 5 1 (.slice none 0 0) 0 []) (.refl _ _) (Own.nil _ _ _ _) (fun k hk=>hk.elim)) ?_
     refine hy (fun _=>ab rfl)<|ai<|al (ρ' :=[(6,_),(64,_),(10,_),(9,_),(8,_),(19,_),(18,_),(17,_),(16,_),(5,_),(4,_),(0,_),(1,_)]) ⟨rfl,rfl,rfl,rfl,rfl,rfl,rfl,rfl,rfl,rfl,rfl,rfl,rfl,trivial⟩<|ak (X' :=[_,_,_,_,_,_]) (S' :=[_,_,_,_,_,_,_,_]) (fun _ m=>m)<|aM<|ae<|aj<|hy (fun _=>aK rfl rfl (bs (by omega) (by omega)))<|hy (fun _=>aa rfl)<|ai<|al (ρ' :=[(18,_),(6,_),(64,_),(10,_),(9,_),(8,_),(19,_),(17,_),(16,_),(5,_),(4,_),(0,_),(1,_)]) ⟨rfl,rfl,rfl,rfl,rfl,rfl,rfl,rfl,rfl,rfl,rfl,rfl,rfl,trivial⟩<| ?_
     have hrn2:∀x∈rs++[r],aX.n x=(aX.l x).length:=fun x hx=>by
      rcases List.mem_append.1 hx with hx|hx
      ·exact hrn x hx
      ·rw[List.mem_singleton.1 hx,hr]
     refine r8 (i+1) (rs++[r]) A_z c_z none 0 [] s1 ⟨rfl,rfl,rfl,rfl,rfl,rfl,rfl,rfl,trivial⟩ [1,2,2,0] rfl [0,5,6,7] rfl (⟨by omega,by rw[hstep,List.map_append,hr];rfl,by rw[hstep],hrn2,hp.clear,by rw[hlr];show _+0≤_;omega⟩) (by omega)
    ·have hcn:¬fb q (cur++[e]):=fun h=>h.elim h1 (fun h=>hz (by rw[h.2];rfl))
     have hstep:hZ q (l.take (i+1))=(rs.map aX.l,cur++[e]):=by rw[hsc];unfold dL;rw[←hcur,if_neg hcn,hrs]
     refine aA<|aM<|ae<|aj<|hy (fun _=>aK rfl rfl (bs (by omega) (by omega)))<|hy (fun _=>aa rfl)<|ai<|al (ρ' :=[(18,_),(64,_),(10,_),(9,_),(8,_),(19,_),(6,_),(17,_),(16,_),(5,_),(4,_),(0,_),(1,_)]) ⟨rfl,rfl,rfl,rfl,rfl,rfl,rfl,rfl,rfl,rfl,rfl,rfl,rfl,trivial⟩<| ?_
     refine r8 (i+1) rs A1 c1 A_o c_o (cur++[e]) s1 ⟨rfl,rfl,rfl,rfl,rfl,rfl,rfl,rfl,trivial⟩ [4,0,2,0] rfl [0,1,2,3] rfl (⟨by omega,by rw[hstep],by rw[hstep],hrn,hp,by omega⟩) (by omega)
   ·refine aj<|hy (fun _=>aa rfl)<|hy (fun _=>aa rfl)<|hy (fun _=>aL rfl)<|hy (fun _=>aD rfl lI (by decide))<|hy (fun _=>aD rfl jl (by decide))<|hy (fun m=>aq rfl dr (ax (m.aN 0 rfl) rfl))<|hy (fun _=>yF (cn rfl rfl) ((decide_eq_false (by omega))))<|hy (fun _=>aa rfl)<|cm (o:=_) rfl rfl rfl (fun _=>aa rfl)<|cm (o:=_) rfl rfl rfl (fun _=>aa rfl)<|cm (o:=_) rfl rfl rfl (fun _=>aL rfl)<|cm (o:=_) rfl rfl rfl (fun _=>aD rfl lI (by decide))<|cm (o:=_) rfl rfl rfl (fun _=>aD rfl gZ (by decide))<|cm (o:=_) rfl rfl rfl (fun m=>aq rfl dr (ax (m.aN 0 rfl) rfl))<|cm (o:=_) rfl rfl rfl (fun _=>yF (ee rfl rfl) ((decide_eq_false (by omega))))<|cm (o:=_) rfl rfl rfl (fun _=>aa rfl)<|ba rfl rfl rfl (by decide)<|ba rfl rfl rfl (by decide)<|ba rfl rfl rfl (by decide)<|ba rfl rfl rfl (by decide)<|ba rfl rfl rfl (by decide)<|ba rfl rfl rfl (by decide)<|ba rfl rfl rfl (by decide)<|cm (o:=_) rfl rfl rfl (fun _=>bo rfl rfl)<|hy (fun _=>bo rfl rfl)<|ai<|al (ρ' :=[(64,_),(10,_),(9,_),(8,_),(19,_),(18,_),(6,_),(17,_),(16,_),(5,_),(4,_),(0,_),(1,_)]) ⟨rfl,rfl,rfl,rfl,rfl,rfl,rfl,rfl,rfl,rfl,rfl,rfl,rfl,trivial⟩<|ae<| ?_
    refine cZ rfl (rfl) ?_
    have hcn:¬fb q (cur++[e]):=fun h=>h.elim h1 (fun h=>h2 h.1)
    have hstep:hZ q (l.take (i+1))=(rs.map aX.l,cur++[e]):=by rw[hsc];unfold dL;rw[←hcur,if_neg hcn,hrs]
    refine aA<|aM<|ae<|aj<|hy (fun _=>aK rfl rfl (bs (by omega) (by omega)))<|hy (fun _=>aa rfl)<|ai<|al (ρ' :=[(18,_),(64,_),(10,_),(9,_),(8,_),(19,_),(6,_),(17,_),(16,_),(5,_),(4,_),(0,_),(1,_)]) ⟨rfl,rfl,rfl,rfl,rfl,rfl,rfl,rfl,rfl,rfl,rfl,rfl,rfl,trivial⟩<| ?_
    refine r8 (i+1) rs A1 c1 A_o c_o (cur++[e]) s1 ⟨rfl,rfl,rfl,rfl,rfl,rfl,rfl,rfl,trivial⟩ [4,0,2,0] rfl [0,1,2,3] rfl (⟨by omega,by rw[hstep],by rw[hstep],hrn,hp,by omega⟩) (by omega)
 ·obtain rfl:i=n:=by omega
  rw[List.take_of_length_le (by omega)]at hrs hcur
  refine bA<|ao<|ao<|aC<|ae<|ah<|aj<|hy (fun _=>aa rfl)<|hy (fun _=>ab rfl)<|ai<|al (ρ' :=[(4,_),(19,_),(18,_),(6,_),(17,_),(16,_),(5,_),(0,_),(1,_)]) ⟨rfl,rfl,rfl,rfl,rfl,rfl,rfl,rfl,rfl,trivial⟩<|ae<|aU<| ?_
  exact aZ trivial rfl rfl [0,0,0,0] rfl [0] rfl ⟨A1,c1,rs,A,c,cur,s,rfl,rfl,rfl,⟨hrs,hcur,hrn,hs,hlen⟩⟩
end Go.Proofs.YtmibdabdlgmafaaGreatDoor
end
section
namespace Go.Eng
open Go.RowKit
def ji(l:Nat)(r:Loop):bc where
 cQ k:=k=l
 holds w:=w.heap[l]? =some (.loop r)
 gE:=fun{S w w'} f h e=>by
  have hlt:=(Array.getElem?_eq_some_iff.1 e).1
  exact(f.block l hlt (h l rfl)).trans e
 low:=fun{w k} e hk=>by
  have hk' :k=l:=hk
  rw[hk'];exact(Array.getElem?_eq_some_iff.1 e).1
theorem wT(w:World)(l:Nat)(o:Obj):Fr (fun k=>k=l) w (w.putObj l o):=⟨rfl,rfl,rfl,by simp,fun k _ hk=>World.putObj_heap_other hk⟩
theorem Mem.Es{b:b9}{X S:List bc}{w:World}{l:Nat}{r:Loop}(r' :Loop)(m:Mem b (ji l r::X) S w):Mem b (ji l r' ::X) S (w.putObj l (.loop r')):=by
 have hl:w.heap[l]? =some (.loop r):=m.hx (ji l r) (by simp)
 exact m.change (r' :=ji l r') (wT w l _) (World.putObj_heap_same (Array.getElem?_eq_some_iff.1 hl).1) (fun k hk=>.inl hk)
theorem Mem.Fg{b:b9}{X S L:List bc}{w:World}(m:Mem b X S w)(h:fz L∈S):Mem b X (L++S) w:=
 ⟨m.fr,m.xx,fun x hx s hs k hk hk' =>by
  rcases List.mem_append.1 hs with hs|hs
  ·exact m.xs x hx _ h k hk ⟨s,hs,hk'⟩
  ·exact m.xs x hx s hs k hk hk',m.hx,fun s hs=>by
  rcases List.mem_append.1 hs with hs|hs
  ·exact m.hs _ h s hs
  ·exact m.hs s hs,m.nx,fun s hs k hk=>by
  rcases List.mem_append.1 hs with hs|hs
  ·exact m.ns _ h k ⟨s,hs,hk⟩
  ·exact m.ns s hs k hk⟩
def Yields{α:Type}(P:Program)(l:Nat)(encs:α→List Value)(exs:α→List bc)(ok:List α→α→Prop)(b:b9)(J:List α→bc→Prop)(Sb:List bc):Prop:=
 ∀(pre:List α) (x:α) (Y:bc) (It S:List bc) (W:World),ok pre x→J pre Y→(∀s∈exs x,s∈S)→fz Sb∈S→Mem b (Y::It) S W→
  YieldAt Fence.wide 1 P l (encs x).toArray W fun e W' =>e= .returned (.bool true)∧∃Y',J (pre++[x]) Y' ∧Mem b (Y' ::It) S W'
def zA{α:Type}(P:Program)(g:Nat)(lb:List Value)(S0:List bc)(encs:α→List Value)(exs:α→List bc)(ok:List α→α→Prop)(done:List α→Prop):Prop:=
 ∀(l:Nat) (b:b9) (J:List α→bc→Prop) (Sb:List bc) (Y:bc),Yields P l encs exs ok b J Sb→J [] Y→∀w,Mem b [Y] (fz Sb::S0) w→
  Calls P g (.func (.yield l) #[] #[]::lb).toArray w (RB b fun v X' S' =>∃xs Y',v= .tuple #[]∧X' =[Y']∧S' =[]∧done xs∧J xs Y')
theorem Cd{α:Type}{P:Program}{f:Nat}{fn:Func}{c:Code}{vs:List Value}{N:Nat}{S0:List bc}{encs:α→List Value}{exs:α→List bc}{ok:List α→α→Prop}{done:List α→Prop}(hf:P.funcs[f]? =some fn)(hb:fn.body=some c)(hN:fn.ntmps=N)(hl:vs.length+1≤N)
  (h:∀(l:Nat) (b:b9) (J:List α→bc→Prop) (Sb:List bc) (Y:bc),Yields P l encs exs ok b J Sb→J [] Y→HC P (bodyPost P fn (RB b fun v X' S' =>∃xs Y',v= .tuple #[]∧X' =[Y']∧S' =[]∧done xs∧J xs Y')) N [] c (fe (.func (.yield l) #[] #[]::vs) 0) b [Y] (fz Sb::S0)):
  zA P f vs S0 encs exs ok done:=fun l b J Sb Y hY hJ w m=>enter hf hb hN hl (h l b J Sb Y hY hJ w m)
def HK{σ:Type}(b:b9)(X1:σ→List bc)(S:List bc)(I:σ→Prop):Exit→Act→World→Prop
 | .normal,_,w=>∃s,I s∧Mem b (X1 s) S w
 |_,_,_=>False
theorem Hb{σ:Type}{b:b9}{X1:σ→List bc}{Sb:List bc}{I:σ→Prop}{N:Nat}{D:List Deferred}{ρ:Env}{X S Xz:List bc}(s:σ)(hi:I s)(is:List Nat)(hX:bI is X=some (X1 s,Xz))(js:List Nat)(hS:cU js S=some Sb):
  HQ (HK b X1 Sb I) N D .normal ρ b X S:=fun w m a ha=>⟨s,hi,m.out is hX js hS⟩
section
variable{P:Program}{Q:Exit→Act→World→Prop}{N:Nat}{D:List Deferred}{ρ ρ' :Env}{b:b9}{X X' Xr S S' Sb S0:List bc}
theorem AI{α σ:Type}{g gf id:Nat}{ps:Array Tmp}{assign body:Code}{lb:List Value}(X1:σ→List bc)(s0:σ)(I:List α→σ→Prop)(encs:α→List Value)(exs:α→List bc)(ok:List α→α→Prop)(done:List α→Prop)(ρx:α→Env)(ρk:Env)(hk:dW ρk ρ)
  (hv:get ρ g=some (.func (.func gf) #[] lb.toArray)) (heg:∀args w,(callFunc gf args).run P w= .ok (.enter gf args) w)
  (hit:zA P gf lb S0 encs exs ok done) (ks:List Nat) (hS0:cU ks S=some S0)
  (is:List Nat) (hX:bI is X=some (X1 s0,Xr)) (js:List Nat) (hS:cU js S=some Sb)
  (hps:∀x,(encs x).length=ps.size) (hnd:∀x (a:Act),Ag N D ρ a→Ag N [] (ρ' ++sc ps (encs x)++ρ) {tmps:=(ps.zip (encs x).toArray).foldl (fun t (p,v)=>t.setIfInBounds p v) a.tmps,defers:=[]})
  (hasg:∀(l:Nat) (b' :b9) (s:σ) (x:α) (S' :List bc) (Q' :Exit→Act→World→Prop),HQ Q' N [] .normal (ρx x++ρk) b' (X1 s) S' →r7 l 1 P Q' N [] assign (ρ' ++sc ps (encs x)++ρ) b' (X1 s) S')
  (h0:I [] s0)
  (hbody:∀(l:Nat) (b' :b9) (pre:List α) (s:σ) (x:α),I pre s→ok pre x→r7 l 1 P (HK b' X1 (exs x++Sb) (I (pre++[x]))) N [] body (ρx x++ρk) b' (X1 s) (exs x++Sb))
  (k:∀(Dk:Nat) (s:σ) (xs:List α),done xs→I xs s→HQ Q N (⟨.collected Dk, #[]⟩::D) .normal ρ b (jH Dk::(X1 s++Xr)) S):
  HC P Q N D (.block id (.rangeFunc (.tmp g) ps assign body)) ρ b X S:=by
 intro w m a ha
 have m1:=m.perm (ar _ _ _ _ hX)
 have hSb:=b4 _ _ _ hS
 refine wpIn_wide (n:=3).1 (wpIn_block (wpIn_rangeFunc ?_))
 intro fn hfn
 obtain⟨rec,hrec⟩:∃rec:LoopState→Loop,rec=fun st=>{state:=st,pending:=none,fn,tmps:=a.tmps,params:=ps,assign,body,defers:=w.heap.size}:=⟨_,rfl⟩
 obtain⟨l,hl⟩:∃l,l=w.heap.size+1:=⟨_,rfl⟩
 have hev:a.eval (.tmp g)= .func (.func gf) #[] lb.toArray:=ha.eval hv
 have mA:=m1.cI (r' :=jH w.heap.size) (Fr.alloc w (.deferred (some []))) (World.alloc_heap_new w _) (fun k hk=>by have hk' :k=w.heap.size:=hk;omega)
 have mB:=mA.cI (r' :=ji l (rec .ready)) (Fr.alloc _ (.loop (rec .ready))) (by rw[hl];have:=World.alloc_heap_new (w.alloc (.deferred (some []))) (.loop (rec .ready));rwa [World.size_alloc]at this) (fun k hk=>by have hk' :k=l:=hk;rw[World.size_alloc];omega)
 obtain⟨W1,hW1⟩:∃W1,W1=(w.alloc (.deferred (some []))).alloc (.loop (rec .ready)):=⟨_,rfl⟩
 rw[←hW1]at mB
 refine⟨l,[{target:=.collected w.heap.size,args:= #[]}],W1,{target:=.fn (.func gf) lb.toArray,args:= #[.func (.yield l) #[] #[]]},W1,gf,
  (.func (.yield l) #[] #[]::lb).toArray,W1, ?_, ?_,fun _ _=>trivial, ?_,(fun h=>by simp[Fence.wide]at h), ?_⟩
 ·rw[hW1,hrec,hl];exact run_enterLoop_outer _ _ _ _ _
 ·simp only[resolve,hev]
  simp[go_sem]
 ·simp[invoke,go_sem,heg]
 ·
  have hY:∀b:b9,Yields P l encs exs ok b (fun pre Y=>∃s,I pre s∧Y=eh (X1 s++(ji l (rec .ready)::jH w.heap.size::Xr))) Sb:=by
   rintro b pre x _ It S1 W hok ⟨s,hI,rfl⟩ hex hall mW
   have mU:=(mW.unpack).Fg hall
   have hp:∀(s:σ) (r:Loop),(ji l r::(X1 s++(jH w.heap.size::(Xr++It)))).Perm ((X1 s++(ji l r::jH w.heap.size::Xr))++It):=fun s r=>by
    rw[List.append_assoc];exact List.perm_middle.symm
   have hq:∀(s:σ) (r:Loop),(ji l r::(X1 s++(jH w.heap.size::(Xr++It)))).Perm (X1 s++(ji l r::jH w.heap.size::(Xr++It))):=fun s r=>List.perm_middle.symm
   have hl0:W.heap[l]? =some (.loop (rec .ready)):=mU.hx (ji l (rec .ready)) (by simp)
   have hy:=run_yield (P:=P) (args:=(encs x).toArray) hl0 (by rw[hrec];simpa using hps x)
   rw[hrec]at hy
   refine⟨fn,_,assign,body,hy,roundIn_of_wpIn hfn ?_⟩
   have hS1:∀r∈exs x++Sb,r∈Sb++S1:=fun r hr=>(List.mem_append.1 hr).elim (fun h=>List.mem_append_right _ (hex r h)) (fun h=>List.mem_append_left _ h)
   have m0:=(mU.perm (hp s _).symm).perm (hq s _)
   refine hasg l ⟨W,cN (X1 s),cN (exs x++Sb)⟩ s x (exs x++Sb) _ (fun w1 m1 a1 ha1=> ?_) (fun⟨_,_,h⟩=>h) W (m0.part hS1) _ (hnd x a ha)
   have m2:=(m0.frame hS1 m1).iw (S' :=Sb++S1) (fun r hr=>List.mem_append_right _ hr)
   have hl1:w1.heap[l]? =some (.loop (rec .ready)):=m2.hx (ji l (rec .ready)) (by simp)
   refine⟨_,run_beginRound hl1 (by rw[hrec]), ?_⟩
   have m3:=((m2.perm (hq s _).symm).Es {rec .ready with state:=.busy}).perm (hq s _)
   refine wpIn_mono (hbody l ⟨_,cN (X1 s),cN (exs x++Sb)⟩ pre s x hI hok (fun⟨_,_,h⟩=>h) _ (m3.part hS1) a1 ha1) ?_
   intro e a3 w3 q
   cases e with
   |normal=>
    obtain⟨s',hI',q⟩:=q
    have m4:=(m3.frame hS1 q).iw (S' :=Sb++S1) (fun r hr=>List.mem_append_right _ hr)
    have hl3:w3.heap[l]? =some (.loop {rec .ready with state:=.busy}):=m4.hx (ji l {rec .ready with state:=.busy}) (by simp)
    have hr:=run_endRound (P:=P) none hl3
    have e2:({{rec .ready with state:=.busy}with state:=if(none:Option Code).isNone then .ready else .done,pending:=none}:Loop)=rec .ready:=by rw[hrec];rfl
    rw[e2]at hr
    exact⟨_,_,hr,rfl,_,⟨s',hI',rfl⟩,((((m4.perm (hq s' _).symm).Es (rec .ready)).perm (hp s' _)).pack).iw (fun r hr=>List.mem_append_right _ hr)⟩
   |ret=>exact q.elim
   |exit i=>exact q.elim
   |goto t=>exact q.elim
   |panic c=>exact q.elim
   |outgrown=>exact q.elim
  have mC:Mem b (X1 s0++(ji l (rec .ready)::jH w.heap.size::Xr)) S W1:=mB.perm ((List.Perm.cons _ List.perm_middle.symm).trans List.perm_middle.symm)
  have mD:Mem b ([eh (X1 s0++(ji l (rec .ready)::jH w.heap.size::Xr))]++[]) (fz Sb::S) W1:=(Mem.pack (X:=[]) (by simpa using mC)).oQ js hS
  have al:∀r∈fz Sb::S0,r∈fz Sb::S:=fun r hr=>by
   rcases List.mem_cons.1 hr with rfl|hr
   ·exact List.mem_cons_self ..
   ·exact List.mem_cons_of_mem _ (b4 _ _ _ hS0 r hr)
  refine callsIn_wide.2 (Calls.mono (hit l ⟨W1,cN [eh (X1 s0++(ji l (rec .ready)::jH w.heap.size::Xr))],cN (fz Sb::S0)⟩ _ Sb _ (hY _) ⟨s0,h0,rfl⟩ W1 (mD.part al)) ?_)
  rintro e w2 ⟨v,_,_,rfl,⟨xs,_,rfl,rfl,rfl,hd,s,hI,rfl⟩,m2⟩
  have m3:=((mD.frame al m2).unpack).iw (S' :=S) (fun r hr=>List.mem_append_right _ (List.mem_cons_of_mem _ hr))
  have hl2:w2.heap[l]? =some (.loop (rec .ready)):=m3.hx (ji l (rec .ready)) (by simp)
  have hr:=run_endLoop (P:=P) hl2 (by rw[hrec];simp)
  have e2:(rec .ready).pending=none:=by rw[hrec]
  rw[e2]at hr
  have hp:∀(r:Loop),((X1 s++(ji l r::jH w.heap.size::Xr))++[]).Perm (ji l r::(X1 s++(jH w.heap.size::Xr))):=fun r=>by
   rw[List.append_nil];exact List.perm_middle
  refine⟨none,_,hr, ?_⟩
  refine k w.heap.size s xs hd hI _ ?_ {a with defers:=⟨.collected w.heap.size, #[]⟩::a.defers} ⟨ha.sz,by rw[←ha.df],ha.gt⟩
  exact(Mem.uf (X:=[_]) ((m3.perm (hp _)).Es _)).perm List.perm_middle
theorem Dr{N p:Nat}{D:List Deferred}{ρ:Env}{a:Act}{u:Value}(hp:p<N)(ha:Ag N D ρ a):
  Ag N [] ([]++sc #[p] [u]++ρ) {tmps:=((#[p]:Array Tmp).zip [u].toArray).foldl (fun t (p,v)=>t.setIfInBounds p v) a.tmps,defers:=[]}:=by
 have e:(((#[p]:Array Tmp).zip [u].toArray).foldl (fun t (p,v)=>t.setIfInBounds p v) a.tmps)=a.tmps.setIfInBounds p u:=by simp
 rw[e]
 have hsz:=ha.sz
 refine⟨by simpa using hsz,rfl,fun t z ht=> ?_⟩
 simp only[sc,List.nil_append,List.zip_cons_cons,List.zip_nil_right,List.cons_append,get]at ht
 show(a.tmps.setIfInBounds p u)[t]? =some z
 cases h1:Nat.beq p t with
 |true=>
  rw[h1]at ht
  have h1' :p=t:=Nat.eq_of_beq_eq_true h1
  simp only[cond_true,Option.some.injEq]at ht
  subst h1';subst ht
  rw[Array.getElem?_setIfInBounds_self_of_lt (by omega)]
 |false=>
  rw[h1]at ht
  simp only[cond_false]at ht
  have h1' :p≠t:=Nat.ne_of_beq_eq_false h1
  rw[Array.getElem?_setIfInBounds_ne h1']
  exact ha.gt t z (by simpa using ht)
end
theorem zz{P:Program}{Q:Exit→Act→World→Prop}{a:Act}{w:World}{n:Nat}{o:Oper}{next next' :Act→World→Prop}(h:o.wp P a w next Q)(hd:lK o.op=false)(hn:∀a w,next a w→next' a w):o.wpIn Fence.wide n P a w next' Q:=by
 refine⟨fun _ _=>trivial, ?_⟩
 have e:o.semAt (Fence.wide).round a.eval=execOp a.eval o:=Oper.semAt_eq _ _ _ (fun c hc=>by rw[hc]at hd;cases hd)
 rw[e]
 unfold Oper.wp at h
 generalize(execOp a.eval o).run P w=r at h
 match r,h with
 | .ok (.value v) w',h=>exact hn _ _ h
 | .ok .skip w',h=>exact hn _ _ h
 | .ok (.defer d) w',h=>exact hn _ _ h
 | .ok (.enter f args) w',h=>
  refine⟨fun h=>by simp[Fence.wide]at h,callsIn_wide.2 (Calls.mono h ?_)⟩
  intro e w'' q
  cases e with
  |returned v=>exact hn _ _ q
  |panicked c=>exact q
  |outgrown=>exact q
 | .ok (.row row args) w',h=>exact⟨fun h=>by simp[Fence.wide]at h,fun c cs _=>let⟨v,w'',r,s⟩:=h c cs;⟨v,w'',hn _ _ r,stepsIn_wide.2 s⟩⟩
 | .halt (.panic v) w',h=>exact h
def G3(P:Program)(Q:Exit→Act→World→Prop):List Oper→Act→World→Prop
 | [],a,w=>Q .normal a w
 |o::r,a,w=>o.wpIn Fence.wide 2 P a w (G3 P Q r) Q
theorem q9{P:Program}{Q:Exit→Act→World→Prop}{ops:Array Oper}(hg:ops.toList.all (fun o=>o.guard.isNone)=true):∀(il:List Nat) (a:Act) (w:World),G3 P Q (il.filterMap fun i=>ops[i]?) a w→wpOpsIn Fence.wide 2 P ops Q il a w
 | [],a,w,h=>h
 |i::rest,a,w,h=>by
  unfold wpOpsIn
  cases ho:ops[i]? with
  |none=>rw[List.filterMap_cons,ho]at h;exact q9 hg rest a w h
  |some o=>
   rw[List.filterMap_cons,ho]at h
   have hod:o.guard=none:=by
    have h1:=List.all_eq_true.1 hg o (by obtain⟨hi,he⟩:=Array.getElem?_eq_some_iff.1 ho;rw[←he];exact Array.getElem_mem_toList ..)
    simpa using h1
   show if _ then _ else _
   rw[if_pos (by simp[Region.wanted,hod])]
   exact Oper.wpIn_mono (fun a w h=>q9 hg rest a w h) h
def xB(P:Program)(Q:Exit→Act→World→Prop)(N:Nat)(D:List Deferred)(l:List Oper)(ρ:Env)(b:b9)(X S:List bc):Prop:=∀w,Mem b X S w→∀a,Ag N D ρ a→G3 P Q l a w
section
variable{P:Program}{Q:Exit→Act→World→Prop}{N:Nat}{D:List Deferred}{ρ ρ' :Env}{b:b9}{X X' Xr S S' :List bc}{rest:List Oper}{op:Op}{ty:TypeId}{pos:String}{af:Array Edge}{d:Nat}{v:Value}
theorem CK{id:Nat}{l:List Oper}(h:xB P Q N D l ρ b X S)(hg:l.all (fun o=>o.guard.isNone)=true:=by rfl)(hl:(List.range l.length).filterMap (fun i=>l.toArray[i]?)=l:=by rfl):HC P Q N D (.region id l.toArray false) ρ b X S:=fun w m a ha=>by
 refine wpIn_wide (n:=2).1 (wpIn_region (q9 (by simpa using hg) _ a w ?_))
 rw[show(List.range l.toArray.size).filterMap (fun i=>l.toArray[i]?)=l from hl]
 exact h w m a ha
theorem F4(h:∀{w},Mem b X S w→Yl P N D ρ w op ty v)(k:xB P Q N D rest ((d,v)::ρ) b X S)(hd:d<N:=by decide)(hq:lK op=false:=by rfl):xB P Q N D (⟨some d,op,ty,pos,af,none⟩::rest) ρ b X S:=fun w m a ha=>by
 refine zz (next:=fun a' w' =>a' =a.put (some d) v∧w' =w) ?_ hq ?_
 ·unfold Oper.wp
  rw[h m a (some d) pos af none ha]
  exact⟨rfl,rfl⟩
 ·rintro a' w' ⟨rfl,rfl⟩
  exact k _ m _ (ha.put hd)
theorem HX(h:XH P Q N D ρ b X S op ty fun v X' S' =>xB P Q N D rest ((d,v)::ρ) b X' S')(hd:d<N:=by decide)(hq:lK op=false:=by rfl):xB P Q N D (⟨some d,op,ty,pos,af,none⟩::rest) ρ b X S:=fun w m a ha=>by
 refine zz (h w m a (some d) pos af none ha) hq ?_
 rintro a' w' ⟨v,rfl,X',S',m',hk⟩
 exact hk w' m' _ (ha.put hd)
theorem C4(h:HQ Q N D .normal ρ b X S):xB P Q N D [] ρ b X S:=fun w m a ha=>h w m a ha
theorem yA(h:∀w,Mem b X S w→Mem b X' S' w)(k:xB P Q N D rest ρ b X' S'):xB P Q N D rest ρ b X S:=fun w m=>k w (h w m)
theorem qH{p:Prop}(h:∀{w},Mem b X S w→p)(k:p→xB P Q N D rest ρ b X S):xB P Q N D rest ρ b X S:=fun w m=>k (h m) w m
theorem xH{α:Type}{l:Nat}{encs:α→List Value}{exs:α→List bc}{ok:List α→α→Prop}{J:List α→bc→Prop}{Sb:List bc}{pre:List α}{Y:bc}{f:Operand}{args:List Operand}{tys:Array TypeId}(hY:Yields P l encs exs ok b J Sb)(x:α)(hok:ok pre x)(hJ:J pre Y)(hf:ev ρ f=some (.func (.yield l) #[] #[]))(hv:mo ρ args=some (encs x))
  (i:Nat) (hi:X[i]? =some Y) (hex:∀s∈exs x,s∈S) (hSb:fz Sb∈S) (k:∀Y',J (pre++[x]) Y' →xB P Q N D rest ((d,.bool true)::ρ) b (Y' ::X.eraseIdx i) S) (hd:d<N:=by decide):
  xB P Q N D (⟨some d,.call ⟨.value f,args.toArray,tys⟩,ty,pos,af,none⟩::rest) ρ b X S:=fun w m a ha=>by
 have m1:=m.perm (ar [i] X [Y] (X.eraseIdx i) (by simp[bI,hi]))
 obtain⟨fn,tmps,assign,body,hy,hR⟩:=hY pre x Y (X.eraseIdx i) S w hok hJ hex hSb m1
 have hy' :(execOp a.eval ⟨some d,.call ⟨.value f,args.toArray,tys⟩,ty,pos,af,none⟩).run P w= .ok (.round l fn tmps assign body) w:=by
  have h1:=ha.eval hf
  have h2:=ha.gy hv
  simp[execOp,resolve,Deferred.ofValue,invoke,h1,h2,hy]
 refine⟨fun _ _=>trivial, ?_⟩
 rw[Oper.semAt_eq _ _ _ (fun c hc=>by cases hc),hy',Oper.uponIn_round]
 refine⟨fun h=>by simp[Fence.wide]at h,hR.mono ?_⟩
 rintro e w' ⟨rfl,Y',hJ',m'⟩
 exact k Y' hJ' w' m' _ (ha.put hd)
end
end Go.Eng
end
section
set_option maxRecDepth 20000
namespace Go.Proofs.YtmibdabdlgmafaaGreatDoor
open Go.Eng Go.Hx Go.Sort
structure GL where
 b:List UInt8
 h:b.length=32
instance:Inhabited GL:=⟨⟨List.replicate 32 0,List.length_replicate⟩⟩
end Go.Proofs.YtmibdabdlgmafaaGreatDoor
end
section
set_option maxRecDepth 20000
set_option maxHeartbeats 4000000
namespace Go.Proofs.YtmibdabdlgmafaaGreatDoor
open Go.Eng Go.Hx
abbrev It:=GL×Int
structure IX where
 mn:Int
 av:Int
 mx:Int
 img:GL
 its:List It
 A:Option Addr
 c:Nat
def eS(t:It):List Value:=aP t.1.b++[.int .i64 t.2]
def iM(l:List It):List Value:=l.flatMap eS
theorem bZ(t:It):(eS t).length=33:=by simp[eS,az,t.1.h]
theorem lV(t:It):∀u∈eS t,u.oneCell' =true:=by
 intro u hu
 rcases List.mem_append.1 hu with h|h
 ·exact ic u h
 ·rw[List.mem_singleton.1 h];rfl
theorem eP(a b:List It):iM (a++b)=iM a++iM b:=by simp[iM]
theorem jB{l:List It}:∀u∈iM l,u.oneCell' =true:=by
 intro u hu
 obtain⟨t,_,h⟩:=List.mem_flatMap.1 hu
 exact lV t u h
def IX.cs(x:IX):List Value:=[.int .i64 x.mn,.int .i64 x.av,.int .i64 x.mx]++aP x.img.b++[.slice x.A x.its.length x.c]
theorem IX.fw(x:IX):x.cs.length=36:=by simp[IX.cs,az,x.img.h]
theorem IX.cT(x:IX):∀u∈x.cs,u.oneCell' =true:=by
 intro u hu
 rcases List.mem_append.1 hu with h|h
 ·rcases List.mem_append.1 h with h|h
  ·simp only[List.mem_cons,List.not_mem_nil,or_false]at h
   rcases h with rfl|rfl|rfl <;> rfl
  ·exact ic u h
 ·rw[List.mem_singleton.1 h];rfl
theorem IX.z6(x:IX):x.cs[35]? =some (.slice x.A x.its.length x.c):=by
 have:([Value.int .i64 x.mn,.int .i64 x.av,.int .i64 x.mx]++aP x.img.b).length=35:=by simp[az,x.img.h]
 unfold IX.cs
 rw[List.getElem?_append_right (by omega),this]
 rfl
theorem rj{w:World}{A:Option Addr}{n i:Nat}{l:List It}{t:It}(h:Rd w 33 A n (iM l))(hx:l[i]? =some t):∀(j:Nat) (u:Value),(aP t.1.b)[j]? =some u→w.cell? ((((A.getD d0).add (i*33)).add 0).add j)=some u:=fun j u hu=>by
 have:=dB (f:=eS) bZ h hx j u (by rw[eS,List.getElem?_append_left (List.getElem?_eq_some_iff.1 hu).1];exact hu)
 rw[add_add,Nat.zero_add]
 exact this
end Go.Proofs.YtmibdabdlgmafaaGreatDoor
end
section
set_option maxRecDepth 20000
set_option maxHeartbeats 4000000
namespace Go.Proofs.YtmibdabdlgmafaaGreatDoor
open Go.Eng Go.Hx
def ints(l:List Int):List Value:=l.map (Value.int .i64)
def wG(l:List Int):Prop:=∀z∈l,-9223372036854775808≤z∧z≤9223372036854775807
theorem xQ{l:List Int}{i:Nat}(h:i<l.length):(ints l)[i]? =some (.int .i64 (l.getD i 0)):=by simp[ints,List.getElem?_map,List.getElem?_eq_getElem h,List.getD]
theorem wG.at{l:List Int}(h:wG l){i:Nat}(hi:i<l.length):-9223372036854775808≤l.getD i 0∧l.getD i 0≤9223372036854775807:=by
 rw[List.getD,List.getElem?_eq_getElem hi]
 exact h _ (List.getElem_mem hi)
theorem Cp(d:RD)(bb:List UInt8):(d.put bb).2.1.length=32:=by
 unfold RD.put
 split
 ·exact eL
 ·split
  ·exact eL
  ·split
   ·exact bx _
   ·show(if _ then _ else _:List UInt8).length=32
    split
    ·exact bx _
    ·exact eL
theorem wU{P:Program}{e:TypeId}(he:P.underlying e=some (.int .i64)):∀{n:Nat} {ys:List Cell},ys.length=n→(∀i,i<n→Ty P e ((ys.drop i).take 1))→∃l:List Int,ys.map Cell.val=ints l∧l.length=n∧wG l:=by
 intro n ys hl h
 have hg:∀i,i<n→∃z:Int,ys[i]? =some (.v (.int .i64 z))∧-9223372036854775808≤z∧z≤9223372036854775807:=fun i hi=>by
  obtain⟨z,hz,hb⟩:=rq he (h i hi)
  have h2:((ys.drop i).take 1)[0]? =some (.v (.int .i64 z)):=by rw[hz];rfl
  rw[List.getElem?_take,if_pos (by omega),List.getElem?_drop,Nat.add_zero]at h2
  exact⟨z,h2,hb⟩
 refine⟨ys.map fun y=>match y.val with| .int _ z=>z|_=>0, ?_,by simpa using hl,fun z hz=> ?_⟩
 ·apply List.ext_getElem?
  intro i
  simp only[ints,List.map_map,List.getElem?_map]
  by_cases hi:i<n
  ·obtain⟨z,hz,_⟩:=hg i hi
   rw[hz]
   simp[Cell.val]
  ·rw[List.getElem?_eq_none (by omega)]
   rfl
 ·obtain⟨y,hy,rfl⟩:=List.mem_map.1 hz
  obtain⟨i,hi⟩:=List.mem_iff_getElem?.1 hy
  have hin:i<n:=by rw[←hl];exact(List.getElem?_eq_some_iff.1 hi).1
  obtain⟨z,hz2,hb⟩:=hg i hin
  rw[hi]at hz2
  cases hz2
  exact hb
theorem Cb{xs:List Cell}(h:Ty Tryz.prog 44 xs):∃A n c ys l,xs=[.s 1 A n c ys]∧ys.map Cell.val=ints l∧wG l:=by
 obtain⟨A,n,c,ys,rfl,h1,h2,h3,h4⟩:=so Tryz.underlying44 h
 have c1:Tryz.prog.cellsOf 3=1:=by kernel_rfl
 rw[c1]at h3 h4 ⊢
 obtain⟨l,h5,h6,h7⟩:=wU Tryz.underlying3 (by omega:ys.length=n) (fun i hi=>by have:=h4 i hi;rwa [Nat.mul_one]at this)
 exact⟨A,n,c,ys,l,rfl,h5,h7⟩
end Go.Proofs.YtmibdabdlgmafaaGreatDoor
end
section
set_option maxRecDepth 20000
set_option maxHeartbeats 4000000
namespace Go.Proofs.YtmibdabdlgmafaaGreatDoor
open Go.Eng Go.Hx
theorem mS{l:List Int}{i n:Nat}(h:¬(i<l.length∧i<n))(hi:i≤l.length)(hn:i≤n):l.take i=l.take n:=by
 by_cases h1:i<l.length
 ·have:i=n:=by omega
  rw[this]
 ·rw[List.take_of_length_le (by omega),List.take_of_length_le (by omega)]
end Go.Proofs.YtmibdabdlgmafaaGreatDoor
end
section
set_option maxRecDepth 20000
set_option maxHeartbeats 4000000
namespace Go.Proofs.YtmibdabdlgmafaaGreatDoor
open Go.Eng Go.Hx
def jY:GL:=⟨List.replicate 32 0,List.length_replicate⟩
def GK:IX:=⟨0,0,0,jY,[],none,0⟩
theorem FD{P:Program}{pl:Nat→Option (Nat×Nat)}{x:IX}(h0:pl 0=some (0,3))(h1:pl 1=some (3,32))(h2:pl 2=some (35,1)):wb P pl GK.cs [(0,.agg [Value.int .i64 x.mn,.int .i64 x.av,.int .i64 x.mx].toArray),(1,.agg (aP x.img.b).toArray),(2,.slice x.A x.its.length x.c)] x.cs:=by
 have hi:(aP x.img.b).length=32:=by rw[az,x.img.h]
 have hz:(aP jY.b).length=32:=by rw[az,jY.h]
 have e1:bN GK.cs 0 [Value.int .i64 x.mn,.int .i64 x.av,.int .i64 x.mx]=[Value.int .i64 x.mn,.int .i64 x.av,.int .i64 x.mx]++aP jY.b++[.slice none 0 0]:=rfl
 have e2:bN ([Value.int .i64 x.mn,.int .i64 x.av,.int .i64 x.mx]++aP jY.b++[.slice none 0 0]) 3 (aP x.img.b)=[Value.int .i64 x.mn,.int .i64 x.av,.int .i64 x.mx]++aP x.img.b++[.slice none 0 0]:=dA rfl (by rw[hi,hz])
 have e3:bN ([Value.int .i64 x.mn,.int .i64 x.av,.int .i64 x.mx]++aP x.img.b++[.slice none 0 0]) 35 [.slice x.A x.its.length x.c]=x.cs:=by
  have:=dA (a:=[Value.int .i64 x.mn,.int .i64 x.av,.int .i64 x.mx]++aP x.img.b) (b:=[Value.slice none 0 0]) (c:=[]) (vs:=[.slice x.A x.its.length x.c]) (o:=35) (by simp[hi]) rfl
  rw[List.append_nil,List.append_nil]at this
  exact this
 exact .cons h0 (aR _) rfl (by rw[IX.fw];decide) (by rw[e1];exact .cons h1 (aR _) hi (by simp[hz]) (by rw[e2];exact .cons h2 rfl rfl (by simp[hi]) (by rw[show(Value.slice x.A x.its.length x.c).cells.toList=[Value.slice x.A x.its.length x.c]from rfl,e3];exact .nil)))
theorem vC{w:World}{g:Nat}{ty:TypeId}{a b c:List Value}(h:eQ w g ty (a++b++c)):∀(j:Nat) (u:Value),b[j]? =some u→w.cell? (((⟨g,0,none⟩:Addr).add a.length).add j)=some u:=fun j u hu=>by
 have hj:=(List.getElem?_eq_some_iff.1 hu).1
 have:=h.aw (a.length+j) u (by rw[List.getElem?_append_left (by rw[List.length_append];omega),List.getElem?_append_right (by omega),Nat.add_sub_cancel_left];exact hu)
 rw[add_add]
 exact this
theorem nv{P:Program}{pl:Nat→Option (Nat×Nat)}{t:It}(h0:pl 0=some (0,32))(h1:pl 1=some (32,1)):wb P pl (eS (jY,0)) [(0,.agg (aP t.1.b).toArray),(1,.int .i64 t.2)] (eS t):=by
 have hz:(aP jY.b).length=32:=by rw[az,jY.h]
 have hn:(aP t.1.b).length=32:=by rw[az,t.1.h]
 have e1:bN (eS (jY,0)) 0 (aP t.1.b)=aP t.1.b++[.int .i64 0]:=by
  have:=dA (a:=[]) (b:=aP jY.b) (c:=[Value.int .i64 0]) (vs:=aP t.1.b) (o:=0) rfl (by rw[hn,hz])
  exact this
 have e2:bN (aP t.1.b++[.int .i64 0]) 32 [.int .i64 t.2]=eS t:=by
  have:=dA (a:=aP t.1.b) (b:=[Value.int .i64 0]) (c:=[]) (vs:=[.int .i64 t.2]) (o:=32) hn rfl
  rw[List.append_nil,List.append_nil]at this
  exact this
 exact .cons h0 (aR _) hn (by rw[bZ];decide) (by rw[e1];exact .cons h1 rfl rfl (by simp[hn]) (by rw[show(Value.int .i64 t.2).cells.toList=[Value.int .i64 t.2]from rfl,e2];exact .nil))
end Go.Proofs.YtmibdabdlgmafaaGreatDoor
end
section
set_option maxRecDepth 20000
set_option maxHeartbeats 2000000
namespace Go.Proofs.YtmibdabdlgmafaaGreatDoor
open Go.Eng Go.Hx
def dz(c:List UInt8):It:=(⟨bw c,bx _⟩,((c.length:Nat):Int))
def cb(l:List UInt8)(q:Pn):List It:=(eo l q).map dz
theorem tt(w:List UInt32)(q:Pn):∀(f:Nat) (b:List UInt8),(iE w q f b).length≤f
 |0,_=>Nat.le_refl _
 |f+1,b=>by
  rw[iE]
  split
  ·exact Nat.zero_le _
  ·rw[List.length_cons];have:=tt w q f (b.drop (gT w b q));omega
theorem lR{w:List UInt32}{q:Pn}:∀{f:Nat} {b c:List UInt8},c∈iE w q f b→c.length≤b.length
 |0,_,_,h=>by rw[iE]at h;exact absurd h List.not_mem_nil
 |f+1,b,c,h=>by
  rw[iE]at h
  split at h
  ·exact absurd h List.not_mem_nil
  ·rcases List.mem_cons.1 h with h|h
   ·rw[h,List.length_take];omega
   ·have:=lR h
    rw[List.length_drop]at this
    omega
theorem ka(l:List UInt8)(q:Pn):(eo l q).length≤l.length:=tt ..
theorem wy{B:Option Addr}{n k:Nat}{l:List UInt8}{q:Pn}(hq:q.ok)(hl:l.length=n)(hn:n≤1000000)(hk:n≤k):b6 Tryz.prog 193 [.slice B n k,.agg q.p.cs.toArray] [] [cr 1 B n (aP l)] (fun v_ X_ S_=>∃A2 c2,v_=(.slice A2 (cb l q).length c2)∧X_=[aG 100 33 (.slice A2 (cb l q).length c2) (cb l q).length (iM (cb l q))]∧S_=[]):=by
 refine aJ (N:=32) Tryz.func193 rfl rfl (by simp) fun b=> ?_
 refine aS (fun m=>dZ (m.rd 0 rfl)) ?_
 rintro⟨hl_rb,hA_rb⟩
 refine ah<|aj<| ?_
 refine hx (bn rfl (fun g3=> ?_))
 refine aF (fun w m=>m.bq 0 rfl (show _=aE g3 75 q.p.cs from congrArg (aE _ _) (aR _))) ?_
 refine hy (fun _=>ab rfl)<|ai<|ak (X' :=[_]) (S' :=[_]) (fun _ m=>m)<|ae<|ah<|aj<|hy (fun _=>aa rfl)<|hy (fun m=>yV (aQ rfl gC fX rfl ((m.aN 0 rfl).aw)) ((rfl:_=Value.agg q.p.cs.toArray)))<| ?_
 refine hx (au rfl Tryz.call50 (sj hq hl hn hk) [] rfl [0] rfl ?_)
 rintro _ _ _ ⟨A1,c1,rs,rfl,rfl,rfl,hcs⟩
 obtain⟨hcs,hrs⟩:=hcs
 have hrl:rs.length≤n:=by
  have:=congrArg List.length hcs
  rw[List.length_map]at this
  have:=ka l q
  omega
 refine aF (fun w m=>(m.perm (ar [0] _ [_] _ rfl)).freeze) ?_
 refine aF (fun w m=>m.fh 0 rfl .own) ?_
 refine aB (fun m=>fv (m.rd 0 rfl)) ?_
 rintro⟨hl_or,hA_or⟩
 refine aF (fun w m=>m.cI (r' :=aG 100 33 (.slice none 0 0) 0 []) (.refl _ _) (Own.nil _ _ _ _) (fun k hk=>hk.elim)) ?_
 refine hy (fun _=>ab rfl)<|ai<|al (ρ' :=[(5,_),(4,_),(3,_),(0,_),(1,_)]) ⟨rfl,rfl,rfl,rfl,rfl,trivial⟩<|ak (X' :=[_,_]) (S' :=[_,_,_,_]) (fun _ m=>m)<|ae<|ah<|aj<|hy (fun _=>ab rfl)<|ai<|ae<|ah<|ah<|aj<|hy (fun _=>ab rfl)<|ai<|ae<|aI<| ?_
 refine gg (fun i A2 c2=>rs.length-i) (fun i A2 c2=>[(6,.slice A2 i c2),(7,.int .i64 (i:Nat))]) (fun i A2 c2=>[aG 100 33 (.slice A2 i c2) i (iM ((rs.take i).map fun r=>dz (aX.l r)))]) (fun i A2 c2=>[]) (fun i A2 c2=>i≤rs.length) 0 none 0 [(5,_),(4,_),(3,_),(0,_),(1,_)] ⟨rfl,rfl,rfl,rfl,rfl,trivial⟩ [0] rfl [] rfl (Nat.zero_le _) ⟨rfl,rfl,trivial⟩ (fun i A2 c2 hi=> ?_)
 refine ah<|ah<|aj<|hy (fun _=>aa rfl)<|hy (fun _=>aa rfl)<|hy (fun _=>aW rfl Tryz.underlying84)<|hy (fun _=>bu rfl rfl)<|ai<|al (ρ' :=[(14,_),(6,_),(7,_),(5,_),(4,_),(3,_),(0,_),(1,_)]) ⟨rfl,rfl,rfl,rfl,rfl,rfl,rfl,rfl,trivial⟩<|ae<| ?_
 refine cj rfl (fun hlt=> ?_) (fun hlt=> ?_)
 ·obtain⟨r,hr⟩:∃r,rs[i]? =some r:=⟨_,List.getElem?_eq_getElem (by omega)⟩
  have hrn:=hrs r (List.mem_of_getElem? hr)
  have hrl2:(aX.l r).length≤n:=by
   rw[←hl]
   exact lR (w:=bm) (q:=q) (f:=l.length) (show aX.l r∈eo l q by rw[←hcs];exact List.mem_map_of_mem (List.mem_of_getElem? hr))
  have htk:(rs.take (i+1)).map (fun r=>dz (aX.l r))=(rs.take i).map (fun r=>dz (aX.l r))++[dz (aX.l r)]:=by
   obtain⟨h1,rfl⟩:=List.getElem?_eq_some_iff.1 hr
   rw[List.take_succ_eq_append_getElem h1,List.map_append]
   rfl
  refine bg (fun w m=>m.fh 2 rfl (View.row hr)) ?_
  refine aS (fun m=>dZ (m.rd 0 rfl)) ?_
  rintro⟨hl_ri,hA_ri⟩
  refine aA<|ae<|ah<|aI<|cq [5,12,13] [(0,some 2),(1,some 2),(2,some 2),(3,some 0),(4,some 0),(6,some 3),(7,some 3),(8,some 3),(9,some 1),(10,some 1),(5,none),(11,some 1),(12,none),(13,none),(14,some 3)] (by kernel_rfl) (by kernel_rfl) rfl 2<|an (aa rfl)<|an (aa rfl)<|an (aa rfl)<|an (aO rfl rfl Tryz.underlying84 iQ hA_or rfl (by omega))<|bY (fun m=>aq rfl c7 ((m.rd 1 rfl).cell (show(j6 rs)[i]? =some (Value.slice (aX.A r) (aX.n r) (aX.c r)) by rw[j6,List.getElem?_map,hr];rfl)))<|an (aa rfl)<|an (aa rfl)<|an (aO rfl rfl Tryz.underlying84 iQ hA_or rfl (by omega))<|bY (fun m=>aq rfl c7 ((m.rd 1 rfl).cell (show(j6 rs)[i]? =some (Value.slice (aX.A r) (aX.n r) (aX.c r)) by rw[j6,List.getElem?_map,hr];rfl)))<|an (yV (aW rfl Tryz.underlying27) ((show Value.int .i64 ((aX.n r:Nat):Int)= .int .i64 (dz (aX.l r)).2 from by rw[hrn];rfl)))<| ?_
  refine dq (au rfl Tryz.call56 (jV (by omega)) [] rfl [0] rfl ?_)
  rintro _ _ _ ⟨rfl,rfl,rfl⟩
  refine⟨(fun _=>wk [0,0] [0,1,2,3,4] rfl rfl), ?_⟩
  refine an (bD kR rfl rfl (by kernel_rfl) (nv (t:=dz (aX.l r)) rD qM))<| ?_
  refine dq (bJ Tryz.underlying80 kR rfl rfl rfl (by intro v hv;rw[List.mem_singleton.1 hv];show(eS (dz (aX.l r))).toArray.size=33;rw[List.size_toArray,bZ]) (by decide) (by decide) (fun g29=>⟨(fun _=>wk [1,1] [0,1,2,3,4] rfl rfl), ?_⟩))
  have hA_b29:0<1→(some (⟨g29,0,none⟩:Addr))≠none:=fun _ h=>by cases h
  refine dQ (fun w m=>m.bq 0 rfl (show _=aG 100 33 (.slice (some ⟨g29,0,none⟩) 1 1) 1 (iM [dz (aX.l r)])from rfl)) ?_
  refine dq (bp 1 rfl rfl rfl Tryz.underlying80 Tryz.underlying80 (by exact .inl rfl) kR rfl (fun m=>Src.bS (m.ord 0 rfl)) jB (by unfold maxLen;omega) (by omega) (fun u=>⟨(fun h=>absurd h (by decide)), ?_⟩))
  refine b7 (fun m=>(m.own 0 rfl).slice) ?_
  rintro⟨A_z,c_z,rfl,hc_z⟩
  refine b7 (fun m=>(m.ord 0 rfl).2.1) fun hA_z=> ?_
  refine dQ (fun w m=>m.bq 0 rfl (show _=aG 100 33 (.slice A_z (i+1) c_z) (i+1) (iM ((rs.take (i+1)).map fun r=>dz (aX.l r)))from congrArg (aG _ _ _ _) (by rw[htk,eP]))) ?_
  refine an (ab rfl)<|bk<|al (ρ' :=[(6,_),(14,_),(7,_),(5,_),(4,_),(3,_),(0,_),(1,_)]) ⟨rfl,rfl,rfl,rfl,rfl,rfl,rfl,rfl,trivial⟩<|ak (X' :=[_,_,_]) (S' :=[_,_,_,_,_]) (fun _ m=>m)<|aM<|ae<|aj<|hy (fun _=>aa rfl)<|hy (fun _=>aK rfl rfl (bs (by omega) (by omega)))<|hy (fun _=>ab rfl)<|ai<|al (ρ' :=[(7,_),(6,_),(14,_),(5,_),(4,_),(3,_),(0,_),(1,_)]) ⟨rfl,rfl,rfl,rfl,rfl,rfl,rfl,rfl,trivial⟩<| ?_
  refine gv (i+1) A_z c_z ⟨rfl,rfl,rfl,rfl,rfl,rfl,rfl,trivial⟩ [0,1] rfl [1,2,3,4] rfl (by omega) (by omega)
 ·obtain rfl:i=rs.length:=by omega
  rw[List.take_length]
  have hit:(rs.map fun r=>dz (aX.l r))=cb l q:=by rw[cb,←hcs,List.map_map];rfl
  have hrl3:rs.length=(cb l q).length:=by rw[←hit,List.length_map]
  rw[hit,hrl3]
  refine bA<|ao<|ao<|aC<|ae<|ah<|aj<|hy (fun _=>aa rfl)<|hy (fun _=>ab rfl)<|ai<|al (ρ' :=[(4,_),(14,_),(6,_),(7,_),(5,_),(3,_),(0,_),(1,_)]) ⟨rfl,rfl,rfl,rfl,rfl,rfl,rfl,rfl,trivial⟩<|ae<|aU<| ?_
  exact aZ trivial rfl rfl [0] rfl [] rfl ⟨_,_,rfl,rfl,rfl⟩
end Go.Proofs.YtmibdabdlgmafaaGreatDoor
end
section
set_option maxRecDepth 20000
set_option maxHeartbeats 2000000
namespace Go.Proofs.YtmibdabdlgmafaaGreatDoor
open Go.Eng Go.Hx
theorem As{q:Pn}(hq:q.ok){l:List UInt8}{rs:List aX}{cur:List UInt8}(h1:rs.map aX.l=(hZ q l).1)(h2:cur=(hZ q l).2):rs.map aX.l++(if cur=[]then []else [cur])=eo l q:=by
 rw[h1,h2];exact uK hq l
theorem tW{q:Pn}{l c:List UInt8}(h:c∈eo l q):c.length≤l.length:=lR h
theorem FV{gp gb:Nat}{q:Pn}{B:Option Addr}{n k:Nat}{l:List UInt8}(hq:q.ok)(hl:l.length=n)(hn:n≤1000000):zA (α:=aX) Tryz.prog 282 [.pointer (some ⟨gp,0,none⟩),.pointer (some ⟨gb,0,none⟩)] [aE gp 75 q.p.cs,aE gb 27 [.slice B n k],cr 1 B n (aP l)] (fun x_=>[.slice x_.A x_.n x_.c]) (fun x_=>[cr 1 x_.A x_.n (aP x_.l)]) (fun pre_ x_=>pre_.length<n∧x_.l.length≤n) (fun xs_=>xs_.map aX.l=eo l q):=by
 refine Cd (N:=38) Tryz.func282 rfl rfl (by simp) fun l_ b J_ Sb_ Y_ hY_ hJ_=> ?_
 refine aS (fun m=>dZ (m.rd 3 rfl)) ?_
 rintro⟨hl_rb,hA_rb⟩
 refine ah<|aj<|hy (fun m=>yV (aQ rfl gC fX rfl ((m.q6 1 rfl).aw)) ((rfl:_=Value.agg q.p.cs.toArray)))<| ?_
 refine hx (au rfl Tryz.call283 (Ft hq (q:=q)) [] rfl [] rfl ?_)
 rintro _ _ _ ⟨gc,gr,rfl,rfl,rfl⟩
 refine hy (fun _=>aa rfl)<|hy (fun _=>aH rfl rfl)<|hy (fun _=>aH rfl rfl)<|hy (fun _=>ab rfl)<|hy (fun _=>ab rfl)<|ai<|al (ρ' :=[(5,_),(4,_),(0,_),(1,_),(2,_)]) ⟨rfl,rfl,rfl,rfl,rfl,trivial⟩<|ak (X' :=[_,_,_]) (S' :=[_,_,_,_]) (fun _ m=>m)<|ae<|ah<|ah<|aj<|hy (fun _=>aa rfl)<|hy (fun _=>dx rfl rfl)<|ai<|al (ρ' :=[(15,_),(5,_),(4,_),(0,_),(1,_),(2,_)]) ⟨rfl,rfl,rfl,rfl,rfl,rfl,trivial⟩<|ae<| ?_
 refine cZ rfl (rfl) ?_
 refine aA<|ae<|ah<|ah<|aj<|hy (fun _=>aa rfl)<|hy (fun m=>aq rfl c7 (ax (m.q6 2 rfl) rfl))<| ?_
 refine hx (au rfl Tryz.call284 (B9 hq uQ hl hn (q:=q)) [0,0] rfl [3] rfl ?_)
 rintro _ _ _ ⟨A1,c1,rs,A,c,cur,s,rfl,rfl,rfl,hw⟩
 obtain⟨hw1,hw2,hw3,hw4,hw5⟩:=hw
 have hall:=As hq hw1 hw2
 have hmem:∀r∈rs,r.l.length≤n:=fun r hr=>by
  rw[←hl]
  exact tW (q:=q) (by rw[←hall];exact List.mem_append_left _ (List.mem_map_of_mem hr))
 refine aB (fun m=>(m.ord 0 rfl).2.1) fun hA_z=> ?_
 refine hy (fun _=>aW rfl Tryz.underlying84)<|hy (fun _=>aa rfl)<|ai<|al (ρ' :=[(20,_),(19,_),(18,_),(15,_),(5,_),(4,_),(0,_),(1,_),(2,_)]) ⟨rfl,rfl,rfl,rfl,rfl,rfl,rfl,rfl,rfl,trivial⟩<|ak (X' :=[_,_,_,_,_]) (S' :=[_,_,_,_,_]) (fun _ m=>m)<|ae<|aI<| ?_
 refine jU (fun i Y=>rs.length-i) (fun i Y=>[(20,.int .i64 (i:Nat))]) (fun i Y=>[Y]) (fun i Y=>[]) (fun i Y=>i≤rs.length∧J_ (rs.take i) Y) 0 Y_ [(19,_),(18,_),(15,_),(5,_),(4,_),(0,_),(1,_),(2,_)] ⟨rfl,rfl,rfl,rfl,rfl,rfl,rfl,rfl,trivial⟩ [4] rfl [] rfl (⟨Nat.zero_le _,hJ_⟩) ⟨rfl,trivial⟩ (fun i Y ⟨hi,hJ⟩=> ?_)
 refine ah<|aj<|hy (fun _=>bu rfl rfl)<|ai<|ae<|ah<| ?_
 refine cj rfl (fun hlt=> ?_) (fun hlt=> ?_)
 ·have hir:i<rs.length:=by omega
  obtain⟨r,hr⟩:∃r,rs[i]? =some r:=⟨_,List.getElem?_eq_getElem hir⟩
  have hrm:=List.mem_of_getElem? hr
  have htk:rs.take (i+1)=rs.take i++[r]:=by
   obtain⟨h1,rfl⟩:=List.getElem?_eq_some_iff.1 hr
   exact List.take_succ_eq_append_getElem h1
  refine bg (fun w m=>m.fh 0 rfl (View.row hr)) ?_
  refine aS (fun m=>dZ (m.rd 0 rfl)) ?_
  rintro⟨hl_rt,hA_rt⟩
  refine aA<|ae<|ah<|aI<|ah<|aj<|hy (fun _=>aO rfl rfl Tryz.underlying84 iQ hA_z rfl (by omega))<|hy (fun m=>aq rfl c7 ((m.ord 1 rfl).cell (show(j6 rs)[i]? =some (Value.slice r.A r.n r.c) by rw[j6,List.getElem?_map,hr];rfl)))<|hy (fun _=>ab rfl)<|ai<|al (ρ' :=[(7,_),(21,_),(20,_),(19,_),(18,_),(15,_),(5,_),(4,_),(0,_),(1,_),(2,_)]) ⟨rfl,rfl,rfl,rfl,rfl,rfl,rfl,rfl,rfl,rfl,rfl,trivial⟩<|ae<|ah<|CK<|F4 (fun _=>aa rfl)<|F4 (fun _=>aa rfl)<| ?_
  refine xH hY_ r (⟨by rw[List.length_take];omega,hmem r hrm⟩:(rs.take i).length<n∧r.l.length≤n) hJ rfl rfl 0 rfl (fun s_ hs_=>by rw[List.mem_singleton.1 hs_];exact List.mem_of_getElem? (i:=0) rfl) (List.mem_of_getElem? (i:=2) rfl) fun Y1 hJ1=> ?_
  rw[←htk]at hJ1
  refine F4 (fun _=>(kO rfl))<|C4<|al (ρ' :=[(27,_),(7,_),(21,_),(20,_),(19,_),(18,_),(15,_),(5,_),(4,_),(0,_),(1,_),(2,_)]) ⟨rfl,rfl,rfl,rfl,rfl,rfl,rfl,rfl,rfl,rfl,rfl,rfl,trivial⟩<|ak (X' :=[_,_,_,_,_]) (S' :=[_,_,_,_,_,_]) (fun _ m=>m)<|ae<| ?_
  refine cZ rfl (rfl) ?_
  refine aA<|aM<|ae<|aj<|hy (fun _=>aK rfl rfl (bs (by omega) (by omega)))<|hy (fun _=>aa rfl)<|ai<|al (ρ' :=[(20,_),(27,_),(7,_),(21,_),(19,_),(18,_),(15,_),(5,_),(4,_),(0,_),(1,_),(2,_)]) ⟨rfl,rfl,rfl,rfl,rfl,rfl,rfl,rfl,rfl,rfl,rfl,rfl,trivial⟩<| ?_
  refine gk (i+1) Y1 ⟨rfl,rfl,rfl,rfl,rfl,rfl,rfl,rfl,rfl,trivial⟩ [0,0,0,0,0] rfl [1,2,3,4,5] rfl (⟨by omega,hJ1⟩) (by omega)
 ·obtain rfl:i=rs.length:=by omega
  rw[List.take_length]at hJ
  refine bA<|ao<|ao<|aC<|ae<|ah<|aj<|hy (fun _=>aa rfl)<| ?_
  refine hx (au rfl Tryz.call285 (Am hw4) [2,2] rfl [] rfl ?_)
  rintro _ _ _ ⟨rfl,rfl,rfl⟩
  refine hy (fun _=>ab rfl)<|ai<|al (ρ' :=[(8,_),(21,_),(20,_),(19,_),(18,_),(15,_),(5,_),(4,_),(0,_),(1,_),(2,_)]) ⟨rfl,rfl,rfl,rfl,rfl,rfl,rfl,rfl,rfl,rfl,rfl,trivial⟩<|ak (X' :=[_,_,_,_,_]) (S' :=[_,_,_,_,_]) (fun _ m=>m)<|ae<|ah<|aj<|hy (fun _=>aa rfl)<|hy (fun _=>aW rfl Tryz.underlying27)<|hy (fun _=>cG rfl rfl)<|ai<|al (ρ' :=[(33,_),(8,_),(21,_),(20,_),(19,_),(18,_),(15,_),(5,_),(4,_),(0,_),(1,_),(2,_)]) ⟨rfl,rfl,rfl,rfl,rfl,rfl,rfl,rfl,rfl,rfl,rfl,rfl,trivial⟩<|ae<| ?_
  refine cj rfl (fun hpos=> ?_) (fun hpos=> ?_)
  ·have hcl:0<cur.length:=by omega
   have hne:cur≠ []:=fun e=>by rw[e]at hcl;exact absurd hcl (by decide)
   rw[if_neg hne]at hall
   have hcn:cur.length≤n:=by
    rw[←hl]
    exact tW (q:=q) (by rw[←hall];simp)
   refine CK<|F4 (fun _=>aa rfl)<|F4 (fun _=>aa rfl)<| ?_
   refine HX (cY rfl Tryz.call117 (mV (by omega)) [] rfl (.x 4 rfl .own .nil) ?_)
   rintro _ _ _ ⟨v,rfl,rfl,rfl⟩
   refine⟨rfl, ?_⟩
   refine qH (fun m=>(m.own 0 rfl).slice) ?_
   rintro⟨A_x2,c_x2,rfl,hc_x2⟩
   refine qH (fun m=>(m.ord 0 rfl).2.1) fun hA_x2=> ?_
   refine yA (fun w m=>(m.perm (ar [0] _ [_] _ rfl)).freeze) ?_
   refine yA (fun w m=>m.fh 0 rfl .own) ?_
   refine qH (fun m=>dZ (m.rd 0 rfl)) ?_
   rintro⟨hl_x2r,hA_x2r⟩
   refine xH hY_ (⟨A_x2,List.length cur,c_x2,cur⟩:aX) (⟨by omega,hcn⟩:rs.length<n∧cur.length≤n) hJ rfl rfl 2 rfl (fun s_ hs_=>by rw[List.mem_singleton.1 hs_];exact List.mem_of_getElem? (i:=0) rfl) (List.mem_of_getElem? (i:=3) rfl) fun Y1 hJ1=> ?_
   refine C4<|al (ρ' :=[(33,_),(8,_),(21,_),(20,_),(19,_),(18,_),(15,_),(5,_),(4,_),(0,_),(1,_),(2,_)]) ⟨rfl,rfl,rfl,rfl,rfl,rfl,rfl,rfl,rfl,rfl,rfl,rfl,trivial⟩<|ak (X' :=[_,_,_,_,_]) (S' :=[_,_,_,_,_,_,_]) (fun _ m=>m)<| ?_
   exact fj trivial rfl [0] rfl [] rfl ⟨(rs++[⟨A_x2,List.length cur,c_x2,cur⟩]),Y1,rfl,rfl,rfl,(by rw[List.map_append];exact hall),hJ1⟩
  ·have hcl:cur.length=0:=by omega
   rw[if_pos (List.eq_nil_of_length_eq_zero hcl),List.append_nil]at hall
   refine aA<| ?_
   exact fj trivial rfl [2] rfl [] rfl ⟨rs,Y,rfl,rfl,rfl,hall,hJ⟩
theorem E0{B:Option Addr}{n k:Nat}{q:Pn}:b6 Tryz.prog 244 [.slice B n k,.agg q.p.cs.toArray] [] [] (fun v_ X_ S_=>∃gb gp,v_=(.func (.func 282) #[] #[.pointer (some ⟨gp,0,none⟩),.pointer (some ⟨gb,0,none⟩)])∧X_=[aE gp 75 q.p.cs,aE gb 27 [.slice B n k]]∧S_=[]):=by
 refine aJ (N:=6) Tryz.func244 rfl rfl (by simp) fun b=> ?_
 refine ah<|aj<| ?_
 refine hx (bn rfl (fun g2=> ?_))
 refine hx (bn rfl (fun g3=> ?_))
 refine hy (fun _=>ab rfl)<|ai<|ak (X' :=[_,_]) (S' :=[]) (fun _ m=>m)<|ae<|ah<|aj<|hy (fun _=>e8 rfl rfl)<|hy (fun _=>ab rfl)<|ai<|al (ρ' :=[(4,_),(3,_),(2,_),(0,_),(1,_)]) ⟨rfl,rfl,rfl,rfl,rfl,trivial⟩<|ae<|aU<| ?_
 refine ak (fun w m=>m.bq 1 rfl (show _=aE g2 27 [.slice B n k]from rfl)) ?_
 refine ak (fun w m=>m.bq 1 rfl (show _=aE g3 75 q.p.cs from congrArg (aE _ _) (aR _))) ?_
 exact aZ trivial rfl rfl [0,0] rfl [] rfl ⟨g2,g3,rfl,rfl,rfl⟩
theorem B2{B:Option Addr}{n k:Nat}{l:List UInt8}{q:Pn}(hq:q.ok)(hl:l.length=n)(hn:n≤1000000):b6 Tryz.prog 194 [.slice B n k,.agg q.p.cs.toArray] [] [cr 1 B n (aP l),dI] (fun v_ X_ S_=>∃A2 c2,v_=(.tuple #[.slice A2 (cb l q).length c2,.int .i64 0])∧X_=[aG 100 33 (.slice A2 (cb l q).length c2) (cb l q).length (iM (cb l q))]∧S_=[]):=by
 refine vu (N:=24) Tryz.func194 rfl rfl (by simp) fun b=> ?_
 refine aS (fun m=>dZ (m.rd 0 rfl)) ?_
 rintro⟨hl_rb,hA_rb⟩
 refine ah<|aj<| ?_
 refine hx (bn rfl (fun g3=> ?_))
 refine aF (fun w m=>m.bq 0 rfl (show _=aE g3 75 q.p.cs from congrArg (aE _ _) (aR _))) ?_
 refine hy (fun _=>ab rfl)<|hy (fun _=>ab rfl)<|ai<|ak (X' :=[_]) (S' :=[_,_]) (fun _ m=>m)<|ae<|ah<|ah<|aj<|hy (fun m=>yV (aQ rfl gC fX rfl ((m.aN 0 rfl).aw)) ((rfl:_=Value.agg q.p.cs.toArray)))<| ?_
 refine hx (au rfl Tryz.call192 (ov (p:=q.p)) [] rfl [] rfl ?_)
 rintro _ _ _ ⟨rfl,rfl,rfl⟩
 refine hy (fun _=>eE rfl)<|ai<|al (ρ' :=[(10,_),(5,_),(4,_),(3,_),(0,_),(1,_)]) ⟨rfl,rfl,rfl,rfl,rfl,rfl,trivial⟩<|ak (X' :=[_]) (S' :=[_,_]) (fun _ m=>m)<|ae<| ?_
 refine cZ rfl ((decide_eq_false (fun h=>h hq.may))) ?_
 refine aA<|ae<|ah<|aj<| ?_
 refine hx (bf GQ (fun g6=> ?_))
 refine ai<|ak (X' :=[_,_]) (S' :=[_,_]) (fun _ m=>m)<|ae<|ah<|ah<|aj<|hy (fun _=>aa rfl)<|hy (fun m=>yV (aQ rfl gC fX rfl ((m.aN 1 rfl).aw)) ((rfl:_=Value.agg q.p.cs.toArray)))<| ?_
 refine hx (au rfl Tryz.call244 (E0 (q:=q) (n:=n) (k:=k) (B:=B)) [] rfl [] rfl ?_)
 rintro _ _ _ ⟨gb,gp,rfl,rfl,rfl⟩
 refine ai<|al (ρ' :=[(13,_),(6,_),(10,_),(5,_),(4,_),(3,_),(0,_),(1,_)]) ⟨rfl,rfl,rfl,rfl,rfl,rfl,rfl,rfl,trivial⟩<|ak (X' :=[_,_,_,_]) (S' :=[_,_]) (fun _ m=>m)<|ae<| ?_
 refine bg (fun w m=>m.bq 2 rfl (show _=aE g6 80 [.slice none 0 0]from rfl)) ?_
 refine bg (fun w m=>m.cI (r' :=aG 100 33 (.slice none 0 0) 0 []) (.refl _ _) (Own.nil _ _ _ _) (fun k hk=>hk.elim)) ?_
 refine bg (fun w m=>(m.perm (ar [3] _ [_] _ rfl)).freeze) ?_
 refine bg (fun w m=>(m.perm (ar [2] _ [_] _ rfl)).freeze) ?_
 refine AI (σ:=Option Addr×Nat×List It) (α:=aX) (ρ' :=[]) (fun s_:Option Addr×Nat×List It=>[aE g6 80 [.slice s_.1 s_.2.2.length s_.2.1],aG 100 33 (.slice s_.1 s_.2.2.length s_.2.1) s_.2.2.length (iM s_.2.2)]) (none,0,[]) (fun pre_ s_=>s_.2.2=pre_.map (fun r=>dz (aX.l r))) (fun x_=>[.slice x_.A x_.n x_.c]) (fun x_=>[cr 1 x_.A x_.n (aP x_.l)]) (fun pre_ x_=>pre_.length<n∧x_.l.length≤n) (fun xs_=>xs_.map aX.l=eo l q) (fun x_=>[(7,.slice x_.A x_.n x_.c)]) [(13,_),(6,_),(10,_),(5,_),(4,_),(3,_),(0,_),(1,_)] ⟨rfl,rfl,rfl,rfl,rfl,rfl,rfl,rfl,trivial⟩ rfl Tryz.call282 (FV hq hl hn) [0,1,2] rfl [1,0] rfl [0,1,2,3] rfl (fun _=>rfl) (fun _ _ ha_=>Dr (by decide) ha_) (fun l_ b_ s_ x_ S_ Q_ h_=> ?_) rfl (fun l_ b pre_ s_ x_ hI_ hok_=> ?_) (fun Dk_ s_ xs_ hd_ hI_=> ?_)
 ·exact oZ (hy (fun _=>ab rfl) ((ai (by refine al ?_ h_;exact⟨rfl,rfl,rfl,rfl,rfl,rfl,rfl,rfl,rfl,trivial⟩))))
 ·obtain⟨A,c,its⟩:=s_
  obtain⟨A1,n1,c1,l1⟩:=x_
  obtain⟨hpre,hl1⟩:=hok_
  try dsimp only
  refine BG (fun m=>dZ (m.rd 0 rfl)) ?_
  rintro⟨hl_e,hA_e⟩
  dsimp only at hI_ hl1
  have hil:its.length<n:=by rw[hI_,List.length_map];exact hpre
  have hn1:l1.length=n1:=hl_e
  refine ra<|zE [2,6,7,8] [(0,some 2),(1,some 0),(3,some 1),(4,some 1),(2,none),(5,some 1),(6,none),(7,none),(8,none)] (by kernel_rfl) (by kernel_rfl) rfl 2<|bY (fun m=>aq rfl uk (ax (m.aN 0 rfl) rfl))<|an (aa rfl)<|an (aa rfl)<|an (yV (aW rfl Tryz.underlying27) ((show Value.int .i64 ((n1:Nat):Int)= .int .i64 (dz l1).2 from by rw[←hn1];rfl)))<| ?_
  refine dq (au rfl Tryz.call102 (rr (by omega)) [] rfl [0,4] rfl ?_)
  rintro _ _ _ ⟨rfl,rfl,rfl⟩
  refine⟨(fun _=>wk [0,0] [0,1,2,3,4] rfl rfl), ?_⟩
  refine an (bD kR rfl rfl (by kernel_rfl) (nv (t:=dz l1) rD qM))<| ?_
  refine dq (bJ Tryz.underlying80 kR rfl rfl rfl (by intro v hv;rw[List.mem_singleton.1 hv];show(eS (dz l1)).toArray.size=33;rw[List.size_toArray,bZ]) (by decide) (by decide) (fun g21=>⟨(fun _=>wk [1,1] [0,1,2,3,4] rfl rfl), ?_⟩))
  have hA_b21:0<1→(some (⟨g21,0,none⟩:Addr))≠none:=fun _ h=>by cases h
  refine dQ (fun w m=>m.bq 0 rfl (show _=aG 100 33 (.slice (some ⟨g21,0,none⟩) 1 1) 1 (iM [dz l1])from rfl)) ?_
  refine dq (bp 2 rfl rfl rfl Tryz.underlying80 Tryz.underlying80 (by exact .inl rfl) kR rfl (fun m=>Src.bS (m.ord 0 rfl)) jB (by unfold maxLen;omega) (by omega) (fun u=>⟨(fun h=>absurd h (by decide)), ?_⟩))
  refine b7 (fun m=>(m.own 0 rfl).slice) ?_
  rintro⟨A_z,c_z,rfl,hc_z⟩
  refine b7 (fun m=>(m.ord 0 rfl).2.1) fun hA_z=> ?_
  have hli:(its++[dz l1]).length=its.length+1:=by simp
  refine dQ (fun w m=>m.bq 0 rfl (show _=aG 100 33 (.slice A_z (its.length+1) c_z) (its.length+1) (iM (its++[dz l1]))from congrArg (aG _ _ _ _) (by rw[eP]))) ?_
  rw[←hli]
  refine fS (da 2 rfl rfl rfl Hc rfl (by first|exact Nat.le_of_ble_eq_true rfl|simp) ⟨(fun h=>absurd h (by decide)), ?_⟩)
  refine bk<|al (ρ' :=[(7,_),(13,_),(6,_),(10,_),(5,_),(4,_),(3,_),(0,_),(1,_)]) ⟨rfl,rfl,rfl,rfl,rfl,rfl,rfl,rfl,rfl,trivial⟩<|ak (X' :=[_,_,_]) (S' :=[_,_,_,_,_]) (fun _ m=>m)<|aM<| ?_
  refine ak (fun w m=>m.bq 0 rfl (show _=aE g6 80 [.slice A_z (its++[dz l1]).length c_z]from rfl)) ?_
  exact Hb (A_z,c_z,its++[dz l1]) (by show its++[dz l1]=_;rw[hI_,List.map_append];rfl) [0,0] rfl [0,1,2,3,4] rfl
 ·obtain⟨A,c,its⟩:=s_
  try dsimp only
  dsimp only at hI_ hd_
  have hit:its=cb l q:=by rw[hI_,cb,←hd_,List.map_map];rfl
  subst hit
  refine ae<|ah<|aj<|hy (fun m=>aq rfl uk (ax (m.aN 1 rfl) rfl))<|hy (fun _=>ab rfl)<|hy (fun _=>ab rfl)<|ai<|al (ρ' :=[(5,_),(4,_),(13,_),(6,_),(10,_),(3,_),(0,_),(1,_)]) ⟨rfl,rfl,rfl,rfl,rfl,rfl,rfl,rfl,trivial⟩<|ae<|aU<| ?_
  refine EI trivial [0] rfl ?_
  exact rM trivial rfl rfl rfl [1] rfl [] rfl ⟨A,c,rfl,rfl,rfl⟩
end Go.Proofs.YtmibdabdlgmafaaGreatDoor
end
section
set_option maxRecDepth 20000
set_option maxHeartbeats 2000000
namespace Go.Proofs.YtmibdabdlgmafaaGreatDoor
open Go.Eng Go.Hx
def tE(l:List UInt8)(q:Pn)(A:Option Addr)(c:Nat):IX:=⟨q.a,q.b,q.m,⟨bw l,bx _⟩,cb l q,A,c⟩
theorem Dz{B:Option Addr}{n k:Nat}{l:List UInt8}{q:Pn}(hq:q.ok)(hl:l.length=n)(hn:n≤1000000)(hk:n≤k):b6 Tryz.prog 127 [.slice B n k,.agg q.p.cs.toArray] [] [cr 1 B n (aP l)] (fun v_ X_ S_=>∃A2 c2,v_=(.agg (tE l q A2 c2).cs.toArray)∧X_=[]∧S_=[cr 33 A2 (cb l q).length (iM (cb l q))]):=by
 refine aJ (N:=12) Tryz.func127 rfl rfl (by simp) fun b=> ?_
 refine aS (fun m=>dZ (m.rd 0 rfl)) ?_
 rintro⟨hl_rb,hA_rb⟩
 refine ah<|aj<| ?_
 refine hx (bn rfl (fun g3=> ?_))
 refine aF (fun w m=>m.bq 0 rfl (show _=aE g3 75 q.p.cs from congrArg (aE _ _) (aR _))) ?_
 refine hx (bf FM (fun g4=> ?_))
 refine ai<|ak (X' :=[_,_]) (S' :=[_]) (fun _ m=>m)<|ae<|ah<|cq [2,5,7] [(0,some 2),(1,some 0),(3,some 1),(4,some 1),(2,none),(5,none),(6,some 2),(7,none)] (by kernel_rfl) (by kernel_rfl) rfl 2<|bY (fun m=>yV (aQ rfl gC fX rfl ((m.aN 1 rfl).aw)) ((rfl:_=Value.agg q.p.cs.toArray)))<|an (aa rfl)<|an (aa rfl)<|bY (fun m=>yV (aQ rfl gC fX rfl ((m.aN 1 rfl).aw)) ((rfl:_=Value.agg q.p.cs.toArray)))<| ?_
 refine dq (au rfl Tryz.call56 (jV (by omega)) [] rfl [0] rfl ?_)
 rintro _ _ _ ⟨rfl,rfl,rfl⟩
 refine⟨(fun _=>wk [0,0] [0] rfl rfl), ?_⟩
 refine dq (au rfl Tryz.call193 (wy hq hl hn hk) [] rfl [0] rfl ?_)
 rintro _ _ _ ⟨A2,c2,rfl,rfl,rfl⟩
 refine⟨(fun _=>wk [1,1] [0] rfl rfl), ?_⟩
 refine dQ (fun w m=>(m.perm (ar [0] _ [_] _ rfl)).freeze) ?_
 refine dQ (fun w m=>m.fh 0 rfl .own) ?_
 refine an (bD FM rfl rfl (by kernel_rfl) (FD (x:=tE l q A2 c2) D5 Dn ET))<| ?_
 refine fS (a6 0 rfl rfl rfl EW (IX.fw _) (IX.cT _) rfl ⟨(fun h=>absurd h (by decide)), ?_⟩)
 refine bk<|al (ρ' :=[(4,_),(3,_),(0,_),(1,_)]) ⟨rfl,rfl,rfl,rfl,trivial⟩<|ak (X' :=[_,_]) (S' :=[_,_,_]) (fun _ m=>m)<|ae<|aU<| ?_
 exact ep trivial rfl rfl E2 EW (IX.fw _) (fun m=>(m.aN 0 rfl).aw) [] rfl [0] rfl ⟨A2,c2,rfl,rfl,rfl⟩
end Go.Proofs.YtmibdabdlgmafaaGreatDoor
end
section
set_option maxRecDepth 20000
set_option maxHeartbeats 2000000
namespace Go.Proofs.YtmibdabdlgmafaaGreatDoor
open Go.Eng Go.Hx
def cX:List It→Int→List UInt8→Option (Int×Int)
 | [],_,_=>none
 |t::r,off,nm=>if t.1.b=nm then some (off,t.2)else cX r (off+t.2) nm
def eg(q:Pn):List (List UInt8)→Nat→List UInt8→Option (Nat×Int×Int)
 | [],_,_=>none
 |t::r,i,nm=>match cX (cb t q) 0 nm with
  |some (o,s)=>some (i,o,s)
  |none=>eg q r (i+1) nm
def CD:Option (Nat×Int×Int)→List Value
 |some (i,o,s)=>[.int .i64 i,.int .i64 o,.int .i64 s]
 |none=>[.int .i64 (-1),.int .i64 0,.int .i64 0]
theorem rJ(x:Option (Nat×Int×Int)):(CD x).length=3:=by
 match x with
 |none=>rfl
 |some (_,_,_)=>rfl
theorem rk(x:Option (Nat×Int×Int)):∀u∈CD x,u.oneCell' =true:=by
 match x with
 |none=>intro u hu;simp only[CD,List.mem_cons,List.not_mem_nil,or_false]at hu;rcases hu with rfl|rfl|rfl <;> rfl
 |some (_,_,_)=>intro u hu;simp only[CD,List.mem_cons,List.not_mem_nil,or_false]at hu;rcases hu with rfl|rfl|rfl <;> rfl
def fY(its:List It)(k:Nat):Int:=((its.take k).map (·.2)).sum
theorem pT{w:List UInt32}{q:Pn}(hq:q.ok):∀{f:Nat} {b:List UInt8},b.length≤f→(iE w q f b).flatten=b
 |0,b,h=>by
  have:b=[]:=List.length_eq_zero_iff.1 (by omega)
  rw[this];rfl
 |f+1,b,h=>by
  rw[iE]
  split
  ·next e=>rw[e];rfl
  ·next e=>
   have hp:1≤b.length:=Nat.pos_of_ne_zero fun h0=>e (List.length_eq_zero_iff.1 h0)
   have:=jx (w:=w) hq hp
   rw[List.flatten_cons,pT hq (by rw[List.length_drop];omega),List.take_append_drop]
theorem tZ{q:Pn}(hq:q.ok)(b:List UInt8):(eo b q).flatten=b:=pT hq (Nat.le_refl _)
theorem wI{l:List UInt8}{q:Pn}(k:Nat):fY (cb l q) k=((((eo l q).take k).flatten.length:Nat):Int):=by
 unfold fY cb
 rw[←List.map_take,List.map_map]
 generalize(eo l q).take k=cs
 induction cs with
 |nil=>rfl
 |cons c r ih=>
  rw[List.map_cons,List.sum_cons,ih,List.flatten_cons,List.length_append]
  show((c.length:Nat):Int)+_=_
  omega
theorem ou{l:List UInt8}{q:Pn}(hq:q.ok)(k:Nat):0≤fY (cb l q) k∧fY (cb l q) k≤l.length:=by
 rw[wI]
 have h:((eo l q).take k).flatten++((eo l q).drop k).flatten=l:=by rw[←List.flatten_append,List.take_append_drop,tZ hq]
 have:=congrArg List.length h
 rw[List.length_append]at this
 omega
theorem mM{its:List It}{k:Nat}{t:It}(h:its[k]? =some t):fY its (k+1)=fY its k+t.2:=by
 obtain⟨h1,rfl⟩:=List.getElem?_eq_some_iff.1 h
 unfold fY
 rw[List.take_succ_eq_append_getElem h1,List.map_append,List.sum_append]
 simp
theorem yK{T:Option Addr}{n c:Nat}{rs:List aX}{q:Pn}{nm:List UInt8}(hq:q.ok)(hm:nm.length=32)(hn:rs.length=n)(hr:∀r∈rs,r.n=r.l.length∧r.n≤r.c∧r.n≤1000000)(hnn:n≤1000000):b6 Tryz.prog 134 [.slice T n c,.agg q.p.cs.toArray,.agg (aP nm).toArray] [] [cr 1 T n (j6 rs),dp rs] (fun v_ X_ S_=>v_=(.agg (CD (eg q (rs.map aX.l) 0 nm)).toArray)∧X_=[]∧S_=[]):=by
 have h32:(aP nm).length=32:=by rw[az,hm]
 refine aJ (N:=52) Tryz.func134 rfl rfl (by simp) fun b=> ?_
 refine aS (fun m=>fv (m.rd 0 rfl)) ?_
 rintro⟨hl_rt,hA_rt⟩
 refine ah<|aj<| ?_
 refine hx (bn rfl (fun g4=> ?_))
 refine aF (fun w m=>m.bq 0 rfl (show _=aE g4 75 q.p.cs from congrArg (aE _ _) (aR _))) ?_
 refine hx (bn rfl (fun g5=> ?_))
 refine aF (fun w m=>m.bq 0 rfl (show _=aE g5 53 (aP nm)from congrArg (aE _ _) (aR _))) ?_
 refine hx (bf vF (fun g6=> ?_))
 refine ai<|ak (X' :=[_,_,_]) (S' :=[_,_]) (fun _ m=>m)<|ae<|ah<|ah<|aj<|hy (fun _=>ab rfl)<|ai<|ae<|aI<| ?_
 refine cW (fun i=>n-i) (fun i=>[(7,.int .i64 (i:Nat))]) (fun i=>[aE g6 212 [.int .i64 0,.int .i64 0,.int .i64 0]]) (fun i=>[]) (fun i=>i≤n∧eg q ((rs.drop i).map aX.l) i nm=eg q (rs.map aX.l) 0 nm) 0 [(6,_),(5,_),(4,_),(0,_),(1,_),(2,_)] ⟨rfl,rfl,rfl,rfl,rfl,rfl,trivial⟩ [0] rfl [] rfl (⟨Nat.zero_le _,rfl⟩) ⟨rfl,trivial⟩ (fun i ⟨hi,hf⟩=> ?_)
 refine ah<|ah<|aj<|hy (fun _=>aa rfl)<|hy (fun _=>aa rfl)<|hy (fun _=>aW rfl Tryz.underlying84)<|hy (fun _=>bu rfl rfl)<|ai<|al (ρ' :=[(14,_),(7,_),(6,_),(5,_),(4,_),(0,_),(1,_),(2,_)]) ⟨rfl,rfl,rfl,rfl,rfl,rfl,rfl,rfl,trivial⟩<|ae<| ?_
 refine cj rfl (fun hlt=> ?_) (fun hlt=> ?_)
 ·obtain⟨r,hri⟩:∃r,rs[i]? =some r:=⟨_,List.getElem?_eq_getElem (by omega)⟩
  obtain⟨r1,r2,r3⟩:=hr r (List.mem_of_getElem? hri)
  have hdr:rs.drop i=r::rs.drop (i+1):=by
   obtain⟨h1,rfl⟩:=List.getElem?_eq_some_iff.1 hri
   exact List.drop_eq_getElem_cons h1
  rw[hdr,List.map_cons,eg]at hf
  refine bg (fun w m=>m.fh 1 rfl (View.row hri)) ?_
  refine aS (fun m=>dZ (m.rd 0 rfl)) ?_
  rintro⟨hl_ri,hA_ri⟩
  refine aA<|ae<|ah<|aI<|ah<|cq [5] [(0,some 0),(1,some 0),(2,some 0),(3,some 0),(4,some 0),(5,none),(6,some 1)] (by kernel_rfl) (by kernel_rfl) rfl 99<|an (aa rfl)<|an (aa rfl)<|an (aO rfl rfl Tryz.underlying84 iQ hA_rt rfl (by omega))<|bY (fun m=>aq rfl c7 ((m.rd 1 rfl).cell (show(j6 rs)[i]? =some (Value.slice (aX.A r) (aX.n r) (aX.c r)) by rw[j6,List.getElem?_map,hri];rfl)))<|bY (fun m=>yV (aQ rfl gC fX rfl ((m.aN 2 rfl).aw)) ((rfl:_=Value.agg q.p.cs.toArray)))<| ?_
  refine dq (au rfl Tryz.call193 (wy hq r1.symm r3 r2) [] rfl [0] rfl ?_)
  rintro _ _ _ ⟨A2,c2,rfl,rfl,rfl⟩
  refine⟨(fun _=>wk [1,1,1] [0,1,2] rfl rfl), ?_⟩
  have hol:=fun k=>ou (l:=aX.l r) hq k
  have hil:(cb (aX.l r) q).length≤aX.n r:=by rw[r1,cb,List.length_map];exact ka _ _
  generalize cb (aX.l r) q=its at hf hol hil ⊢
  refine dQ (fun w m=>(m.perm (ar [0] _ [_] _ rfl)).freeze) ?_
  refine dQ (fun w m=>m.fh 0 rfl .own) ?_
  refine b7 (fun m=>fv (m.rd 0 rfl)) ?_
  rintro⟨hl_zr,hA_zr⟩
  refine an (ab rfl)<|bk<|al (ρ' :=[(8,_),(14,_),(7,_),(6,_),(5,_),(4,_),(0,_),(1,_),(2,_)]) ⟨rfl,rfl,rfl,rfl,rfl,rfl,rfl,rfl,rfl,trivial⟩<|ak (X' :=[_,_,_]) (S' :=[_,_,_,_,_]) (fun _ m=>m)<|ae<|ah<|aj<|hy (fun _=>ab rfl)<|ai<|ae<|ah<|aj<|hy (fun _=>ab rfl)<|ai<|ae<|aI<| ?_
  refine cW (fun j=>its.length-j) (fun j=>[(10,.int .i64 (j:Nat)),(9,.int .i64 (fY its j))]) (fun j=>[aE g6 212 [.int .i64 0,.int .i64 0,.int .i64 0]]) (fun j=>[]) (fun j=>j≤its.length∧cX (its.drop j) (fY its j) nm=cX its 0 nm) 0 [(8,_),(14,_),(7,_),(6,_),(5,_),(4,_),(0,_),(1,_),(2,_)] ⟨rfl,rfl,rfl,rfl,rfl,rfl,rfl,rfl,rfl,trivial⟩ [0] rfl [] rfl (⟨Nat.zero_le _,rfl⟩) ⟨rfl,rfl,trivial⟩ (fun j ⟨hj,hfj⟩=> ?_)
  refine ah<|ah<|aj<|hy (fun _=>aa rfl)<|hy (fun _=>aa rfl)<|hy (fun _=>aW rfl Tryz.underlying80)<|hy (fun _=>bu rfl rfl)<|ai<|al (ρ' :=[(26,_),(10,_),(9,_),(8,_),(14,_),(7,_),(6,_),(5,_),(4,_),(0,_),(1,_),(2,_)]) ⟨rfl,rfl,rfl,rfl,rfl,rfl,rfl,rfl,rfl,rfl,rfl,rfl,trivial⟩<|ae<| ?_
  refine cj rfl (fun hlt2=> ?_) (fun hlt2=> ?_)
  ·obtain⟨t,ht⟩:∃t,its[j]? =some t:=⟨_,List.getElem?_eq_getElem (by omega)⟩
   have hdt:its.drop j=t::its.drop (j+1):=by
    obtain⟨h1,rfl⟩:=List.getElem?_eq_some_iff.1 ht
    exact List.drop_eq_getElem_cons h1
   rw[hdt,cX]at hfj
   have h32t:(aP t.1.b).length=32:=by rw[az,t.1.h]
   have hos:=mM ht
   have hb0:=hol j
   have hb1:=hol (j+1)
   rw[hos]at hb1
   have hsz:(eS t)[32]? =some (Value.int .i64 t.2):=by rw[eS,List.getElem?_append_right (by omega),h32t];rfl
   refine aA<|ae<|ah<|aI<|ah<|ah<|cq [] [(0,some 0),(1,some 0),(2,some 0),(3,some 0),(4,some 0),(5,some 0),(6,some 0)] (by kernel_rfl) (by kernel_rfl) rfl 99<|an (aa rfl)<|an (aa rfl)<|an (cy rfl rfl Tryz.underlying80 iV hA_zr rfl (by omega))<|an (aD rfl fN (by decide))<|bY (fun m=>aQ rfl cf bL h32t (rj (m.rd 0 rfl) ht))<|bY (fun m=>aQ rfl cf bL h32 ((m.aN 1 rfl).aw))<|an (qN rfl rfl t.1.h hm)<|bk<|al (ρ' :=[(35,_),(26,_),(10,_),(9,_),(8,_),(14,_),(7,_),(6,_),(5,_),(4,_),(0,_),(1,_),(2,_)]) ⟨rfl,rfl,rfl,rfl,rfl,rfl,rfl,rfl,rfl,rfl,rfl,rfl,rfl,trivial⟩<|ae<| ?_
   refine cj rfl (fun he=> ?_) (fun he=> ?_)
   ·rw[if_pos he]at hfj
    rw[←hfj]at hf
    have hf2:some (i,fY its j,t.2)=eg q (rs.map aX.l) 0 nm:=hf
    rw[←hf2]
    refine ah<|aj<|hy (fun _=>aa rfl)<|hy (fun _=>aa rfl)<|hy (fun _=>aa rfl)<|hy (fun _=>aa rfl)<|hy (fun _=>cy rfl rfl Tryz.underlying80 iV hA_zr rfl (by omega))<|hy (fun _=>aD rfl mj (by decide))<|hy (fun m=>aq rfl dr (dB (f:=eS) bZ (m.rd 0 rfl) ht 32 _ hsz))<|hy (fun _=>bD vF rfl rfl (by kernel_rfl) (.cons (o:=0) (sz:=1) (by kernel_rfl) rfl rfl (Nat.le_of_ble_eq_true rfl) (.cons (o:=1) (sz:=1) (by kernel_rfl) rfl rfl (Nat.le_of_ble_eq_true rfl) (.cons (o:=2) (sz:=1) (by kernel_rfl) rfl rfl (Nat.le_of_ble_eq_true rfl) .nil))))<| ?_
    refine cB (a6 0 rfl rfl rfl tD rfl (rk (some (i,fY its j,t.2))) rfl ?_)
    refine ai<|al (ρ' :=[(35,_),(26,_),(10,_),(9,_),(8,_),(14,_),(7,_),(6,_),(5,_),(4,_),(0,_),(1,_),(2,_)]) ⟨rfl,rfl,rfl,rfl,rfl,rfl,rfl,rfl,rfl,rfl,rfl,rfl,rfl,trivial⟩<|ak (X' :=[_,_,_]) (S' :=[_,_,_,_,_]) (fun _ m=>m)<|ae<|aU<|ay<|a8<|ay<|ay<|a8<|a8<|ay<|ay<|a8<|ay<| ?_
    exact ep trivial rfl rfl CV tD (rJ (some (i,fY its j,t.2))) (fun m=>(m.aN 0 rfl).aw) [] rfl [] rfl ⟨rfl,rfl,rfl⟩
   ·rw[if_neg he]at hfj
    refine aA<|ae<|aj<|hy (fun _=>aa rfl)<|hy (fun _=>aa rfl)<|hy (fun _=>aa rfl)<|hy (fun _=>cy rfl rfl Tryz.underlying80 iV hA_zr rfl (by omega))<|hy (fun _=>aD rfl mj (by decide))<|hy (fun m=>aq rfl dr (dB (f:=eS) bZ (m.rd 0 rfl) ht 32 _ hsz))<|hy (fun _=>yV (aK rfl rfl (bs (by omega) (by omega))) ((show Value.int .i64 (fY its j+t.2)= .int .i64 (fY its (j+1))from by rw[hos])))<|hy (fun _=>ab rfl)<|ai<|al (ρ' :=[(9,_),(35,_),(26,_),(10,_),(8,_),(14,_),(7,_),(6,_),(5,_),(4,_),(0,_),(1,_),(2,_)]) ⟨rfl,rfl,rfl,rfl,rfl,rfl,rfl,rfl,rfl,rfl,rfl,rfl,rfl,trivial⟩<|aM<|ae<|aj<|hy (fun _=>aa rfl)<|hy (fun _=>aK rfl rfl (bs (by omega) (by omega)))<|hy (fun _=>ab rfl)<|ai<|al (ρ' :=[(10,_),(9,_),(35,_),(26,_),(8,_),(14,_),(7,_),(6,_),(5,_),(4,_),(0,_),(1,_),(2,_)]) ⟨rfl,rfl,rfl,rfl,rfl,rfl,rfl,rfl,rfl,rfl,rfl,rfl,rfl,trivial⟩<| ?_
    refine ct (j+1) ⟨rfl,rfl,rfl,rfl,rfl,rfl,rfl,rfl,rfl,rfl,rfl,trivial⟩ [0,0,0] rfl [0,1,2,3,4] rfl (⟨by omega,by rw[hos];exact hfj⟩) (by omega)
  ·obtain rfl:j=its.length:=by omega
   rw[List.drop_length]at hfj
   have hno:cX its 0 nm=none:=hfj.symm
   rw[hno]at hf
   refine bA<|ao<|ao<|aC<|aM<|ae<|aj<|hy (fun _=>aa rfl)<|hy (fun _=>aK rfl rfl (bs (by omega) (by omega)))<|hy (fun _=>ab rfl)<|ai<|al (ρ' :=[(7,_),(26,_),(10,_),(9,_),(8,_),(14,_),(6,_),(5,_),(4,_),(0,_),(1,_),(2,_)]) ⟨rfl,rfl,rfl,rfl,rfl,rfl,rfl,rfl,rfl,rfl,rfl,rfl,trivial⟩<| ?_
   refine ct (i+1) ⟨rfl,rfl,rfl,rfl,rfl,rfl,rfl,trivial⟩ [0,0,0] rfl [3,4] rfl (⟨by omega,hf⟩) (by omega)
 ·rw[List.drop_of_length_le (by omega)]at hf
  have hf2:none=eg q (rs.map aX.l) 0 nm:=hf
  rw[←hf2]
  refine bA<|ao<|ao<|aC<|ae<|ah<|aj<|hy (fun _=>bD vF rfl rfl (by kernel_rfl) (.cons (o:=0) (sz:=1) (by kernel_rfl) rfl rfl (Nat.le_of_ble_eq_true rfl) .nil))<| ?_
  refine cB (a6 0 rfl rfl rfl tD rfl (rk none) rfl ?_)
  refine ai<|al (ρ' :=[(14,_),(7,_),(6,_),(5,_),(4,_),(0,_),(1,_),(2,_)]) ⟨rfl,rfl,rfl,rfl,rfl,rfl,rfl,rfl,trivial⟩<|ak (X' :=[_,_,_]) (S' :=[_,_]) (fun _ m=>m)<|ae<|aU<| ?_
  exact ep trivial rfl rfl CV tD (rJ none) (fun m=>(m.aN 0 rfl).aw) [] rfl [] rfl ⟨rfl,rfl,rfl⟩
end Go.Proofs.YtmibdabdlgmafaaGreatDoor
end
section
namespace Go.Eng
open Go.RowKit
section
variable{P:Program}{N:Nat}{D:List Deferred}{ρ:Env}{w:World}{x y:Operand}{ty t t' e:TypeId}{v:Value}{k:IntKind}{i:Int}
end
section
variable{P:Program}{t:TypeId}{d:Nat}
theorem qZ{z:Int}(ht:P.underlying t=some (.int .i64))(h1:-9223372036854775808≤z)(h2:z≤9223372036854775807):P.keyLits (d+1) t [.int .i64 z]=some [.int .i64 z]:=by
 unfold Program.keyLits
 rw[ht]
 have hw:(Lit.int .i64 z).wf=true:=by
  simp[Lit.wf,IntKind.min,IntKind.max,IntKind.signed,IntKind.bits]
  omega
 simp[hw]
theorem qc {fs : Array Field} {cs : List Value} {ls : List (List Lit)} (ht : P.underlying t = some (.struct fs)) (hl : cs.length = P.cellsOf t) (hn : fs.all (·.name != "_") = true)
    (hm:(fs.toList.mapM fun f=>P.keyLits d f.type ((cs.drop f.offset).take (P.cellsOf f.type)))=some ls):P.keyLits (d+1) t cs=some ls.flatten:=by
  rw[Program.keyLits.eq_def]
  simp only[ht]
  rw[if_pos ⟨hl,hn⟩,hm]
  rfl
theorem mapM_some{α β:Type}{f:α→Option β}:∀{l:List α} {g:List β},l.map f=g.map some→l.mapM f=some g
 | [],[],_=>rfl
 | [],_::_,h=>by simp at h
 |_::_,[],h=>by simp at h
 |a::r,b::s,h=>by
  simp only[List.map_cons,List.cons.injEq]at h
  rw[List.mapM_cons,h.1,mapM_some h.2]
  rfl
end
end Go.Eng
end
