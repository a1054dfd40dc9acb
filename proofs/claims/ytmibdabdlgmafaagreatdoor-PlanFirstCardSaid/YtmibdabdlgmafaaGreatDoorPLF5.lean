/- Part. -/
import Derived.Test.YtmibdabdlgmafaaGreatDoorPLF4
import Derived.OrdersIn
import Derived.Sort.Grow
import Derived.Shelf.SlSortCmp.NoneTotal
import Derived.Ground.SlsfProg
import Derived.Test.YtmibdabdlgmafaaGreatDoorProg
set_option linter.all false
section
set_option maxRecDepth 20000
set_option maxHeartbeats 4000000
namespace Go.Proofs.YtmibdabdlgmafaaGreatDoor
open Go.Eng Go.Hx
def xP(f:List UInt8):Int:=match gD f with|none=>-1|some k=>(k:Nat)
theorem kb{f:List UInt8}(h:gD f=none):xP f=-1:=by unfold xP;rw[h]
theorem p4{f:List UInt8}{k:Nat}(h:gD f=some k):xP f=(k:Nat):=by unfold xP;rw[h]
theorem Fm{A:Option Addr}{n c:Nat}{f:List UInt8}(hl:f.length=n)(hn:n≤10000000):b6 Tryz.prog 216 [.slice A n c] [] [cn 1 A n (aP f)] (fun v_ X_ S_=>v_=(.int .i64 (xP f))∧X_=[]∧S_=[]):=by
 have hv:nS (f.drop 2)=(f.getD 2 0).toNat+256*(f.getD 3 0).toNat+65536*(f.getD 4 0).toNat+16777216*(f.getD 5 0).toNat:=by simp[nS,List.getD]
 have b0:=(f.getD 2 0).toNat_lt
 have b1:=(f.getD 3 0).toNat_lt
 have b2:=(f.getD 4 0).toNat_lt
 have b3:=(f.getD 5 0).toNat_lt
 have h76:(((f.getD 0 0).toNat:Int)≠76)↔f.getD 0 0≠76:=by
  constructor
  ·intro h e;rw[e]at h;exact h rfl
  ·intro h e;exact h (UInt8.toNat_inj.1 (by rw[show(76:UInt8).toNat=76 from rfl];omega))
 refine aI (N:=40) Tryz.func216 rfl rfl (by simp) fun b=> ?_
 refine aU (fun m=>eb (m.rd 0 rfl)) ?_
 rintro⟨hl_r,hA_r⟩
 by_cases h1:f.length<10
 ·rw[kb (if_pos (.inl h1))]
  refine ah<|aj<|hy (fun _=>ab rfl)<|ai<|ae<|ah<|ah<|aj<|hy (fun _=>aa rfl)<|hy (fun _=>aT rfl Tryz.underlying27)<|hy (fun _=>yT (bC rfl rfl) ((decide_eq_true (by omega))))<|hy (fun _=>aa rfl)<|a7 rfl rfl rfl (by decide)<|a7 rfl rfl rfl (by decide)<|a7 rfl rfl rfl (by decide)<|a7 rfl rfl rfl (by decide)<|hy (fun _=>bM rfl rfl)<|hy (fun _=>aa rfl)<|a7 rfl rfl rfl (by decide)<|a7 rfl rfl rfl (by decide)<|a7 rfl rfl rfl (by decide)<|a7 rfl rfl rfl (by decide)<|hy (fun _=>bM rfl rfl)<|ai<|al (ρ' :=[(17,_),(2,_),(0,_)]) ⟨rfl,rfl,rfl,trivial⟩<|ae<| ?_
  refine gS rfl (rfl) ?_
  refine ah<|aj<|hy (fun _=>ab rfl)<|ai<|ae<|aS<|ay<| ?_
  exact a6 trivial rfl rfl [] rfl [] rfl ⟨rfl,rfl,rfl⟩
 ·by_cases h2:f.getD 0 0≠76
  ·rw[kb (if_pos (.inr (.inl h2)))]
   refine ah<|aj<|hy (fun _=>ab rfl)<|ai<|ae<|ah<|ah<|aj<|hy (fun _=>aa rfl)<|hy (fun _=>aT rfl Tryz.underlying27)<|hy (fun _=>yF (bC rfl rfl) ((decide_eq_false (by omega))))<|hy (fun _=>aa rfl)<|cg (o:=_) rfl rfl rfl (fun _=>aa rfl)<|cg (o:=_) rfl rfl rfl (fun _=>aN rfl rfl Tryz.underlying27 dB hA_r (show((0:Nat):Int)=0 from rfl) (by omega))<|cg (o:=_) rfl rfl rfl (fun m=>aq rfl iv ((m.rd 0 rfl).cell (bB (by omega))))<|cg (o:=_) rfl rfl rfl (fun _=>yT (dF rfl rfl) ((decide_eq_true (h76.2 h2))))<|hy (fun _=>bn rfl rfl)<|hy (fun _=>aa rfl)<|a7 rfl rfl rfl (by decide)<|a7 rfl rfl rfl (by decide)<|a7 rfl rfl rfl (by decide)<|a7 rfl rfl rfl (by decide)<|hy (fun _=>bM rfl rfl)<|ai<|al (ρ' :=[(17,_),(2,_),(0,_)]) ⟨rfl,rfl,rfl,trivial⟩<|ae<| ?_
   refine gS rfl (rfl) ?_
   refine ah<|aj<|hy (fun _=>ab rfl)<|ai<|ae<|aS<|ay<| ?_
   exact a6 trivial rfl rfl [] rfl [] rfl ⟨rfl,rfl,rfl⟩
  ·by_cases h3:1<(f.getD 1 0).toNat
   ·rw[kb (if_pos (.inr (.inr h3)))]
    refine ah<|aj<|hy (fun _=>ab rfl)<|ai<|ae<|ah<|ah<|aj<|hy (fun _=>aa rfl)<|hy (fun _=>aT rfl Tryz.underlying27)<|hy (fun _=>yF (bC rfl rfl) ((decide_eq_false (by omega))))<|hy (fun _=>aa rfl)<|cg (o:=_) rfl rfl rfl (fun _=>aa rfl)<|cg (o:=_) rfl rfl rfl (fun _=>aN rfl rfl Tryz.underlying27 dB hA_r (show((0:Nat):Int)=0 from rfl) (by omega))<|cg (o:=_) rfl rfl rfl (fun m=>aq rfl iv ((m.rd 0 rfl).cell (bB (by omega))))<|cg (o:=_) rfl rfl rfl (fun _=>yF (dF rfl rfl) ((decide_eq_false (fun q=>h2 (h76.1 q)))))<|hy (fun _=>bn rfl rfl)<|hy (fun _=>aa rfl)<|cg (o:=_) rfl rfl rfl (fun _=>aa rfl)<|cg (o:=_) rfl rfl rfl (fun _=>aN rfl rfl Tryz.underlying27 dB hA_r (show((1:Nat):Int)=1 from rfl) (by omega))<|cg (o:=_) rfl rfl rfl (fun m=>aq rfl iv ((m.rd 0 rfl).cell (bB (by omega))))<|cg (o:=_) rfl rfl rfl (fun _=>yT (cy rfl rfl) ((decide_eq_true (by omega))))<|hy (fun _=>bn rfl rfl)<|ai<|al (ρ' :=[(17,_),(2,_),(0,_)]) ⟨rfl,rfl,rfl,trivial⟩<|ae<| ?_
    refine gS rfl (rfl) ?_
    refine ah<|aj<|hy (fun _=>ab rfl)<|ai<|ae<|aS<|ay<| ?_
    exact a6 trivial rfl rfl [] rfl [] rfl ⟨rfl,rfl,rfl⟩
   ·refine ah<|aj<|hy (fun _=>ab rfl)<|ai<|ae<|ah<|ah<|aj<|hy (fun _=>aa rfl)<|hy (fun _=>aT rfl Tryz.underlying27)<|hy (fun _=>yF (bC rfl rfl) ((decide_eq_false (by omega))))<|hy (fun _=>aa rfl)<|cg (o:=_) rfl rfl rfl (fun _=>aa rfl)<|cg (o:=_) rfl rfl rfl (fun _=>aN rfl rfl Tryz.underlying27 dB hA_r (show((0:Nat):Int)=0 from rfl) (by omega))<|cg (o:=_) rfl rfl rfl (fun m=>aq rfl iv ((m.rd 0 rfl).cell (bB (by omega))))<|cg (o:=_) rfl rfl rfl (fun _=>yF (dF rfl rfl) ((decide_eq_false (fun q=>h2 (h76.1 q)))))<|hy (fun _=>bn rfl rfl)<|hy (fun _=>aa rfl)<|cg (o:=_) rfl rfl rfl (fun _=>aa rfl)<|cg (o:=_) rfl rfl rfl (fun _=>aN rfl rfl Tryz.underlying27 dB hA_r (show((1:Nat):Int)=1 from rfl) (by omega))<|cg (o:=_) rfl rfl rfl (fun m=>aq rfl iv ((m.rd 0 rfl).cell (bB (by omega))))<|cg (o:=_) rfl rfl rfl (fun _=>yF (cy rfl rfl) ((decide_eq_false (by omega))))<|hy (fun _=>bn rfl rfl)<|ai<|al (ρ' :=[(17,_),(2,_),(0,_)]) ⟨rfl,rfl,rfl,trivial⟩<|ae<| ?_
    refine dj rfl (rfl) ?_
    have hL:gD f=some (nS (f.drop 2)):=if_neg (fun q=>q.elim h1 (fun q=>q.elim h2 h3))
    rw[p4 hL]
    refine aB<|ae<|ah<|cu [] [(0,some 0),(1,some 0),(2,some 0),(3,some 0),(4,some 0),(5,some 0),(6,some 0),(7,some 0),(8,some 0),(9,some 0),(10,some 0),(11,some 0),(12,some 0),(13,some 0),(14,some 0),(15,some 0),(16,some 0),(17,some 0),(18,some 0),(19,some 0),(20,some 0),(21,some 0),(22,some 0)] (by kernel_rfl) (by kernel_rfl) rfl 99<|an (aa rfl)<|an (aN rfl rfl Tryz.underlying27 dB hA_r (show((2:Nat):Int)=2 from rfl) (by omega))<|b5 (fun m=>aq rfl iv ((m.rd 0 rfl).cell (bB (by omega))))<|an (bS rfl Tryz.underlying5 Tryz.underlying3 (zX _))<|an (aa rfl)<|an (aN rfl rfl Tryz.underlying27 dB hA_r (show((3:Nat):Int)=3 from rfl) (by omega))<|b5 (fun m=>aq rfl iv ((m.rd 0 rfl).cell (bB (by omega))))<|an (bS rfl Tryz.underlying5 Tryz.underlying3 (zX _))<|an (fg rfl rfl (bx (by omega) (by omega)))<|an (aL rfl rfl (bx (by omega) (by omega)))<|an (aa rfl)<|an (aN rfl rfl Tryz.underlying27 dB hA_r (show((4:Nat):Int)=4 from rfl) (by omega))<|b5 (fun m=>aq rfl iv ((m.rd 0 rfl).cell (bB (by omega))))<|an (bS rfl Tryz.underlying5 Tryz.underlying3 (zX _))<|an (fg rfl rfl (bx (by omega) (by omega)))<|an (aL rfl rfl (bx (by omega) (by omega)))<|an (aa rfl)<|an (aN rfl rfl Tryz.underlying27 dB hA_r (show((5:Nat):Int)=5 from rfl) (by omega))<|b5 (fun m=>aq rfl iv ((m.rd 0 rfl).cell (bB (by omega))))<|an (bS rfl Tryz.underlying5 Tryz.underlying3 (zX _))<|an (fg rfl rfl (bx (by omega) (by omega)))<|an (yV (aL rfl rfl (bx (by omega) (by omega))) ((show Value.int .i64 (((f.getD 2 0).toNat:Int)+256*((f.getD 3 0).toNat:Int)+65536*((f.getD 4 0).toNat:Int)+16777216*((f.getD 5 0).toNat:Int))= .int .i64 (nS (f.drop 2):Nat) by rw[hv];congr 1)))<|an (ab rfl)<|bo<|al (ρ' :=[(2,_),(17,_),(0,_)]) ⟨rfl,rfl,rfl,trivial⟩<|ae<|aS<| ?_
    exact a6 trivial rfl rfl [] rfl [] rfl ⟨rfl,rfl,rfl⟩
theorem l7{f u:List UInt8}{k:Nat}(h:wo f k=(u,0)):fK f k=if u.length≠k then([],2)else if iW (cX u)≠f.drop (f.length-4)then([],7)else(u,0):=by
 unfold fK
 rw[h]
 exact if_neg (by simp)
theorem xE{f:List UInt8}{k:Nat}(h:(wo f k).2≠0):fK f k=([],2):=by
 unfold fK
 exact if_pos h
theorem DU{A:Option Addr}{n c:Nat}{f:List UInt8}{most:Int}(hc:n≤c)(hl:f.length=n)(hn:n≤10000000)(hm:most≤1000000):b6 Tryz.prog 156 [.slice A n c,.int .i64 most] [] [cn 1 A n (aP f)] (fun v_ X_ S_=>∃A1 c1,v_=(.tuple #[.slice A1 (cP f most).1.length c1,.int .i64 (cP f most).2])∧X_=[]∧S_=[cn 1 A1 (cP f most).1.length (aP (cP f most).1)]∧((cP f most).1.length≤c1)):=by
 refine aI (N:=48) Tryz.func156 rfl rfl (by simp) fun b=> ?_
 refine aU (fun m=>eb (m.rd 0 rfl)) ?_
 rintro⟨hl_r,hA_r⟩
 refine ah<|aj<|hy (fun _=>ab rfl)<|hy (fun _=>ab rfl)<|ai<|ae<|ah<|aj<|hy (fun _=>aa rfl)<| ?_
 refine hx (au rfl Tryz.call216 (Fm hl hn) [] rfl [0] rfl ?_)
 rintro _ _ _ ⟨rfl,rfl,rfl⟩
 refine hy (fun _=>ab rfl)<|ai<|al (ρ' :=[(6,_),(5,_),(4,_),(0,_),(1,_)]) ⟨rfl,rfl,rfl,rfl,rfl,trivial⟩<|ak (X' :=[]) (S' :=[_]) (fun _ m=>m)<|ae<|ah<|ah<|aj<|hy (fun _=>aa rfl)<|hy (fun _=>bC rfl rfl)<|ai<|al (ρ' :=[(12,_),(6,_),(5,_),(4,_),(0,_),(1,_)]) ⟨rfl,rfl,rfl,rfl,rfl,rfl,trivial⟩<|ae<| ?_
 rcases hL:gD f with _|k
 ·refine gS rfl ((decide_eq_true (by rw[kb hL];decide))) ?_
  rw[(oV hL)]
  refine ah<|aj<|hy (fun _=>ab rfl)<|hy (fun _=>ab rfl)<|ai<|ae<|aS<|ay<| ?_
  refine ak (fun w m=>m.mR (r' :=cn 1 none 0 []) (.refl _ _) (Rd.nil _ _ _) (fun k hk=>absurd rfl hk.1)) ?_
  have hA_z:0<0→(none:Option Addr)≠none:=fun h=>absurd h (by decide)
  exact c9 trivial rfl rfl rfl [] rfl [0] rfl ⟨none,0,rfl,rfl,rfl,(Nat.le_refl _)⟩
 ·rw[p4 hL]
  refine dj rfl ((decide_eq_false (by omega))) ?_
  refine aB<|ae<|ah<|ah<|aj<|hy (fun _=>aa rfl)<|hy (fun _=>aa rfl)<|hy (fun _=>cy rfl rfl)<|ai<|al (ρ' :=[(15,_),(12,_),(6,_),(5,_),(4,_),(0,_),(1,_)]) ⟨rfl,rfl,rfl,rfl,rfl,rfl,rfl,trivial⟩<|ae<| ?_
  refine cj rfl (fun hfar=> ?_) (fun hfar=> ?_)
  ·rw[(pM hL (by omega))]
   refine ah<|aj<|hy (fun _=>ab rfl)<|hy (fun _=>ab rfl)<|ai<|ae<|aS<|ay<| ?_
   refine ak (fun w m=>m.mR (r' :=cn 1 none 0 []) (.refl _ _) (Rd.nil _ _ _) (fun k hk=>absurd rfl hk.1)) ?_
   have hA_z:0<0→(none:Option Addr)≠none:=fun h=>absurd h (by decide)
   exact c9 trivial rfl rfl rfl [] rfl [0] rfl ⟨none,0,rfl,rfl,rfl,(Nat.le_refl _)⟩
  ·obtain⟨h10,hk32⟩:=tG hL
   have hopen:=r5 hL (by omega)
   refine bd (fun w m=>m.fp 0 rfl (View.sub (n:=n) (c:=c) (k:=6) (m:=n-4-6) (by omega) (by omega))) ?_
   refine aU (fun m=>eb (m.rd 0 rfl)) ?_
   rintro⟨hl_p,hA_p⟩
   have hbl:n-4-6=(de f).length:=by unfold de;rw[List.length_take,List.length_drop];omega
   have hb2:(f.drop 6).take (n-4-6)=de f:=by unfold de;rw[show n-4-6=f.length-10 by omega]
   rw[hb2]
   refine aB<|ae<|ah<|aj<|hy (fun _=>aa rfl)<|hy (fun _=>aa rfl)<|hy (fun _=>aT rfl Tryz.underlying27)<|hy (fun _=>ca rfl rfl (bx (by omega) (by omega)))<|hy (fun _=>ef rfl rfl rfl Tryz.underlying27 dB (show((6:Nat):Int)=6 from rfl) (show((n-4:Nat):Int)=_ by omega) (by omega) (by omega))<|hy (fun _=>ab rfl)<|ai<|al (ρ' :=[(7,_),(15,_),(12,_),(6,_),(5,_),(4,_),(0,_),(1,_)]) ⟨rfl,rfl,rfl,rfl,rfl,rfl,rfl,rfl,trivial⟩<|ae<|ah<|ah<|aj<|hy (fun _=>aa rfl)<|hy (fun _=>aN rfl rfl Tryz.underlying27 dB hA_r (show((1:Nat):Int)=1 from rfl) (by omega))<|hy (fun m=>aq rfl iv ((m.rd 1 rfl).cell (bB (by omega))))<|hy (fun _=>cm rfl rfl)<|ai<|al (ρ' :=[(24,_),(7,_),(15,_),(12,_),(6,_),(5,_),(4,_),(0,_),(1,_)]) ⟨rfl,rfl,rfl,rfl,rfl,rfl,rfl,rfl,rfl,trivial⟩<|ae<| ?_
   refine cj rfl (fun h1=> ?_) (fun h1=> ?_)
   ·have hf1:f.getD 1 0=1:=UInt8.toNat_inj.1 (by rw[show(1:UInt8).toNat=1 from rfl];omega)
    have hun:wo f k=kj k (de f) []:=if_pos hf1
    refine ah<|aj<|hy (fun _=>aa rfl)<|hy (fun _=>aa rfl)<| ?_
    refine hx (au rfl Tryz.call217 (zt (show n-4-6≤c-6 by omega) (by omega) hbl.symm (show(k:Int)≤10000000 by omega) (l:=(de f))) [] rfl [0] rfl ?_)
    rintro _ _ _ ⟨v,nn,rfl,rfl,rfl⟩
    refine aA (fun m=>(m.own 0 rfl).slice) ?_
    rintro⟨A_x,c_x,rfl,hc_x⟩
    refine aA (fun m=>(m.ord 0 rfl).2.1) fun hA_x=> ?_
    refine hx (bh nf (fun g8=> ?_))
    refine cx (a8 0 rfl rfl rfl iL rfl jy rfl ?_)
    refine ai<|al (ρ' :=[(8,_),(24,_),(7,_),(15,_),(12,_),(6,_),(5,_),(4,_),(0,_),(1,_)]) ⟨rfl,rfl,rfl,rfl,rfl,rfl,rfl,rfl,rfl,rfl,trivial⟩<|ak (X' :=[_,_]) (S' :=[_,_]) (fun _ m=>m)<|ae<|ah<|ah<|aj<|hy (fun _=>aD rfl Af (by decide))<|hy (fun m=>aq rfl kC (ax (m.aQ 0 rfl) (i:=2) rfl))<|hy (fun _=>dF rfl rfl)<|ai<|al (ρ' :=[(30,_),(8,_),(24,_),(7,_),(15,_),(12,_),(6,_),(5,_),(4,_),(0,_),(1,_)]) ⟨rfl,rfl,rfl,rfl,rfl,rfl,rfl,rfl,rfl,rfl,rfl,trivial⟩<|ae<| ?_
    refine cj rfl (fun he=> ?_) (fun he=> ?_)
    ·have hz:cP f most=([],2):=by rw[hopen,xE (by rw[hun];exact he)]
     rw[hz]
     refine ah<|aj<|hy (fun _=>ab rfl)<|hy (fun _=>ab rfl)<|ai<|ae<|aS<|ay<|ay<| ?_
     refine ak (fun w m=>m.mR (r' :=cn 1 none 0 []) (.refl _ _) (Rd.nil _ _ _) (fun k hk=>absurd rfl hk.1)) ?_
     have hA_z:0<0→(none:Option Addr)≠none:=fun h=>absurd h (by decide)
     exact c9 trivial rfl rfl rfl [] rfl [0] rfl ⟨none,0,rfl,rfl,rfl,(Nat.le_refl _)⟩
    ·have he:=Decidable.not_not.1 he
     have hun2:wo f k=((kj k (de f) []).1,0):=by rw[hun];exact Prod.ext rfl he
     refine bd (fun w m=>(m.perm (ar [1] _ [_] _ rfl)).freeze) ?_
     refine bd (fun w m=>m.fp 0 rfl .own) ?_
     generalize(kj k (de f) []).1=u at hc_x hA_x hun2 ⊢
     refine aB<|ae<|aj<|hy (fun _=>aD rfl BM (by decide))<|hy (fun m=>aq rfl cZ (ax (m.aQ 0 rfl) (i:=0) rfl))<|hy (fun _=>ab rfl)<|ai<|al (ρ' :=[(7,_),(30,_),(8,_),(24,_),(15,_),(12,_),(6,_),(5,_),(4,_),(0,_),(1,_)]) ⟨rfl,rfl,rfl,rfl,rfl,rfl,rfl,rfl,rfl,rfl,rfl,trivial⟩<|ae<|ah<|ah<|aj<|hy (fun _=>aa rfl)<|hy (fun _=>aT rfl Tryz.underlying27)<|hy (fun _=>aa rfl)<|hy (fun _=>dF rfl rfl)<|ai<|al (ρ' :=[(36,_),(7,_),(30,_),(8,_),(24,_),(15,_),(12,_),(6,_),(5,_),(4,_),(0,_),(1,_)]) ⟨rfl,rfl,rfl,rfl,rfl,rfl,rfl,rfl,rfl,rfl,rfl,rfl,trivial⟩<|ae<| ?_
     refine cj rfl (fun h36=> ?_) (fun h36=> ?_)
     ·have hz:cP f most=([],2):=by rw[hopen,l7 hun2];exact if_pos (by omega)
      rw[hz]
      refine ah<|aj<|hy (fun _=>ab rfl)<|hy (fun _=>ab rfl)<|ai<|ae<|aS<|ay<| ?_
      refine ak (fun w m=>m.mR (r' :=cn 1 none 0 []) (.refl _ _) (Rd.nil _ _ _) (fun k hk=>absurd rfl hk.1)) ?_
      have hA_z:0<0→(none:Option Addr)≠none:=fun h=>absurd h (by decide)
      exact c9 trivial rfl rfl rfl [] rfl [0] rfl ⟨none,0,rfl,rfl,rfl,(Nat.le_refl _)⟩
     ·have hlu:(u).length=k:=by omega
      have hgo:cP f most=if iW (cX u)≠f.drop (f.length-4)then([],7)else(u,0):=by rw[hopen,l7 hun2];exact if_neg (fun q=>q hlu)
      refine bd (fun w m=>m.fp 3 rfl (View.drop (n:=n) (c:=c) (k:=n-4) (by omega) (by omega))) ?_
      refine aU (fun m=>eb (m.rd 0 rfl)) ?_
      rintro⟨hl_e4,hA_e4⟩
      refine aB<|ae<|ah<|ah<|cu [1,2] [(0,some 0),(3,some 2),(4,some 2),(5,some 2),(6,some 2),(7,some 2),(8,some 2),(1,none),(2,none),(9,some 2)] (by kernel_rfl) (by kernel_rfl) rfl 99<|an (aa rfl)<|an (aa rfl)<|an (aa rfl)<|an (aT rfl Tryz.underlying27)<|an (ca rfl rfl (bx (by omega) (by omega)))<|an (dV rfl rfl Tryz.underlying27 dB (show((n-4:Nat):Int)=_ by omega) (by omega))<|b5 (fun m=>mf rfl Tryz.underlying27 Tryz.underlying5 Tryz.underlying9 (m.rd 0 rfl))<| ?_
      refine di (au rfl Tryz.call161 (ve hc_x (by omega) rfl (l:=u)) [] rfl [1] rfl ?_)
      rintro _ _ _ ⟨v2,rfl,rfl,rfl⟩
      refine⟨(fun _=>wk [1] [0,1,2,3,4] rfl rfl), ?_⟩
      refine b4 (fun m=>(m.own 0 rfl).slice) ?_
      rintro⟨A_x2,c_x2,rfl,hc_x2⟩
      refine b4 (fun m=>(m.ord 0 rfl).2.1) fun hA_x2=> ?_
      refine Am (fun _=>wk [1] [0,1,2,3,4] rfl rfl) (fun m=>mf rfl Tryz.underlying27 Tryz.underlying5 Tryz.underlying9 (m.ord 0 rfl))<|an (oM rfl rfl)<|bo<|al (ρ' :=[(46,_),(36,_),(7,_),(30,_),(8,_),(24,_),(15,_),(12,_),(6,_),(5,_),(4,_),(0,_),(1,_)]) ⟨rfl,rfl,rfl,rfl,rfl,rfl,rfl,rfl,rfl,rfl,rfl,rfl,rfl,trivial⟩<|ak (X' :=[_,_]) (S' :=[_,_,_,_,_]) (fun _ m=>m)<|ae<| ?_
      refine cj rfl (fun h46=> ?_) (fun h46=> ?_)
      ·have hz:cP f most=([],7):=by rw[hgo];exact if_pos (fun e=>h46 (by rw[e,hl]))
       rw[hz]
       refine ah<|aj<|hy (fun _=>ab rfl)<|hy (fun _=>ab rfl)<|ai<|ae<|aS<|ay<| ?_
       refine ak (fun w m=>m.mR (r' :=cn 1 none 0 []) (.refl _ _) (Rd.nil _ _ _) (fun k hk=>absurd rfl hk.1)) ?_
       have hA_z:0<0→(none:Option Addr)≠none:=fun h=>absurd h (by decide)
       exact c9 trivial rfl rfl rfl [] rfl [0] rfl ⟨none,0,rfl,rfl,rfl,(Nat.le_refl _)⟩
      ·have h46:=cC.1 (Decidable.not_not.1 h46)
       have hz:cP f most=(u,0):=by rw[hgo];exact if_neg (fun q=>q (by rw[h46,hl]))
       rw[hz]
       refine aB<|ae<|ah<|aj<|hy (fun _=>aa rfl)<|hy (fun _=>ab rfl)<|hy (fun _=>ab rfl)<|ai<|al (ρ' :=[(5,_),(4,_),(46,_),(36,_),(7,_),(30,_),(8,_),(24,_),(15,_),(12,_),(6,_),(0,_),(1,_)]) ⟨rfl,rfl,rfl,rfl,rfl,rfl,rfl,rfl,rfl,rfl,rfl,rfl,rfl,trivial⟩<|ae<|aS<| ?_
       exact c9 trivial rfl rfl rfl [] rfl [1] rfl ⟨_,_,rfl,rfl,rfl,hc_x⟩
   ·have hf1:¬f.getD 1 0=1:=fun q=>h1 (by rw[q];rfl)
    have hun:wo f k=(de f,0):=if_neg hf1
    rw[hbl]
    refine aB<|ae<|ah<|ah<|aj<|hy (fun _=>aa rfl)<|hy (fun _=>aT rfl Tryz.underlying27)<|hy (fun _=>aa rfl)<|hy (fun _=>dF rfl rfl)<|ai<|al (ρ' :=[(36,_),(24,_),(7,_),(15,_),(12,_),(6,_),(5,_),(4,_),(0,_),(1,_)]) ⟨rfl,rfl,rfl,rfl,rfl,rfl,rfl,rfl,rfl,rfl,trivial⟩<|ae<| ?_
    refine cj rfl (fun h36=> ?_) (fun h36=> ?_)
    ·have hz:cP f most=([],2):=by rw[hopen,l7 hun];exact if_pos (by omega)
     rw[hz]
     refine ah<|aj<|hy (fun _=>ab rfl)<|hy (fun _=>ab rfl)<|ai<|ae<|aS<|ay<| ?_
     refine ak (fun w m=>m.mR (r' :=cn 1 none 0 []) (.refl _ _) (Rd.nil _ _ _) (fun k hk=>absurd rfl hk.1)) ?_
     have hA_z:0<0→(none:Option Addr)≠none:=fun h=>absurd h (by decide)
     exact c9 trivial rfl rfl rfl [] rfl [0] rfl ⟨none,0,rfl,rfl,rfl,(Nat.le_refl _)⟩
    ·have hlu:((de f)).length=k:=by omega
     have hgo:cP f most=if iW (cX (de f))≠f.drop (f.length-4)then([],7)else((de f),0):=by rw[hopen,l7 hun];exact if_neg (fun q=>q hlu)
     refine bd (fun w m=>m.fp 1 rfl (View.drop (n:=n) (c:=c) (k:=n-4) (by omega) (by omega))) ?_
     refine aU (fun m=>eb (m.rd 0 rfl)) ?_
     rintro⟨hl_e4,hA_e4⟩
     refine aB<|ae<|ah<|ah<|cu [1,2] [(0,some 0),(3,some 2),(4,some 2),(5,some 2),(6,some 2),(7,some 2),(8,some 2),(1,none),(2,none),(9,some 2)] (by kernel_rfl) (by kernel_rfl) rfl 99<|an (aa rfl)<|an (aa rfl)<|an (aa rfl)<|an (aT rfl Tryz.underlying27)<|an (ca rfl rfl (bx (by omega) (by omega)))<|an (dV rfl rfl Tryz.underlying27 dB (show((n-4:Nat):Int)=_ by omega) (by omega))<|b5 (fun m=>mf rfl Tryz.underlying27 Tryz.underlying5 Tryz.underlying9 (m.rd 0 rfl))<| ?_
     refine di (au rfl Tryz.call161 (ve (show(de f).length≤c-6 by omega) (by omega) rfl (l:=(de f))) [] rfl [1] rfl ?_)
     rintro _ _ _ ⟨v,rfl,rfl,rfl⟩
     refine⟨(fun _=>wk [] [0,1,2] rfl rfl), ?_⟩
     refine b4 (fun m=>(m.own 0 rfl).slice) ?_
     rintro⟨A_x,c_x,rfl,hc_x⟩
     refine b4 (fun m=>(m.ord 0 rfl).2.1) fun hA_x=> ?_
     refine Am (fun _=>wk [] [0,1,2] rfl rfl) (fun m=>mf rfl Tryz.underlying27 Tryz.underlying5 Tryz.underlying9 (m.ord 0 rfl))<|an (oM rfl rfl)<|bo<|al (ρ' :=[(46,_),(36,_),(24,_),(7,_),(15,_),(12,_),(6,_),(5,_),(4,_),(0,_),(1,_)]) ⟨rfl,rfl,rfl,rfl,rfl,rfl,rfl,rfl,rfl,rfl,rfl,trivial⟩<|ak (X' :=[_]) (S' :=[_,_,_]) (fun _ m=>m)<|ae<| ?_
     refine cj rfl (fun h46=> ?_) (fun h46=> ?_)
     ·have hz:cP f most=([],7):=by rw[hgo];exact if_pos (fun e=>h46 (by rw[e,hl]))
      rw[hz]
      refine ah<|aj<|hy (fun _=>ab rfl)<|hy (fun _=>ab rfl)<|ai<|ae<|aS<|ay<| ?_
      refine ak (fun w m=>m.mR (r' :=cn 1 none 0 []) (.refl _ _) (Rd.nil _ _ _) (fun k hk=>absurd rfl hk.1)) ?_
      have hA_z:0<0→(none:Option Addr)≠none:=fun h=>absurd h (by decide)
      exact c9 trivial rfl rfl rfl [] rfl [0] rfl ⟨none,0,rfl,rfl,rfl,(Nat.le_refl _)⟩
     ·have h46:=cC.1 (Decidable.not_not.1 h46)
      have hz:cP f most=((de f),0):=by rw[hgo];exact if_neg (fun q=>q (by rw[h46,hl]))
      rw[hz]
      refine aB<|ae<|ah<|aj<|hy (fun _=>aa rfl)<|hy (fun _=>ab rfl)<|hy (fun _=>ab rfl)<|ai<|al (ρ' :=[(5,_),(4,_),(46,_),(36,_),(24,_),(7,_),(15,_),(12,_),(6,_),(0,_),(1,_)]) ⟨rfl,rfl,rfl,rfl,rfl,rfl,rfl,rfl,rfl,rfl,rfl,trivial⟩<|ae<|aS<| ?_
      exact c9 trivial rfl rfl rfl [] rfl [1] rfl ⟨_,_,rfl,rfl,rfl,(show(de f).length≤c-6 by omega)⟩
end Go.Proofs.YtmibdabdlgmafaaGreatDoor
end
section
set_option maxRecDepth 20000
namespace Go.Proofs.YtmibdabdlgmafaaGreatDoor
open Go.Eng Go.Hx
theorem iC{x:UInt32}{n:Nat}(hn:n≤32):b6 Tryz.prog 204 [Wd x,.int .i64 (n:Int)] [] [] (fun v_ X_ S_=>v_=(Wd (gE n x))∧X_=[]∧S_=[]):=by
 refine aI (N:=18) Tryz.func204 rfl rfl (by simp) fun b=> ?_
 refine ah<|aj<|hy (fun _=>ab rfl)<|ai<|ae<|ah<|ah<|aj<|hy (fun _=>ab rfl)<|ai<|ae<|aK<| ?_
 refine jS (fun i y=>n-i) (fun i y=>[(0,Wd y),(5,.int .i64 (i:Nat))]) (fun i y=>[]) (fun i y=>[]) (fun i y=>i≤n∧y=gE i x) 0 x [(4,_),(1,_)] ⟨rfl,rfl,trivial⟩ [] rfl [] rfl (⟨Nat.zero_le _,(wi x).symm⟩) ⟨rfl,rfl,trivial⟩ (fun i y ⟨hin,hyv⟩=> ?_)
 refine ah<|ah<|aj<|hy (fun _=>aa rfl)<|hy (fun _=>aa rfl)<|hy (fun _=>bC rfl rfl)<|ai<|al (ρ' :=[(8,_),(0,_),(5,_),(4,_),(1,_)]) ⟨rfl,rfl,rfl,rfl,rfl,trivial⟩<|ae<| ?_
 refine cj rfl (fun h=> ?_) (fun h=> ?_)
 ·refine aB<|ae<|ah<|aK<|aj<|hy (fun _=>aa rfl)<|hy (fun _=>mV (b:=2) (by decide) rfl rfl)<|hy (fun _=>aa rfl)<|hy (fun _=>uw (b:=2) (by decide) rfl rfl)<|hy (fun _=>k8 (b:=2147483648) rfl rfl)<|hy (fun _=>yV (cT rfl rfl) ((rfl:_=Wd (s3 y))))<|hy (fun _=>ab rfl)<|ai<|al (ρ' :=[(0,_),(8,_),(5,_),(4,_),(1,_)]) ⟨rfl,rfl,rfl,rfl,rfl,trivial⟩<|aR<|ae<|aj<|hy (fun _=>aa rfl)<|hy (fun _=>aL rfl rfl (bx (by omega) (by omega)))<|hy (fun _=>ab rfl)<|ai<|al (ρ' :=[(5,_),(0,_),(8,_),(4,_),(1,_)]) ⟨rfl,rfl,rfl,rfl,rfl,trivial⟩<| ?_
  refine fW (i+1) (s3 y) ⟨rfl,rfl,rfl,rfl,trivial⟩ [] rfl [] rfl (⟨by omega,by rw[hyv,xd (by omega)]⟩) (by omega)
 ·obtain rfl:i=n:=by omega
  subst hyv
  refine bK<|ao<|ao<|aC<|ae<|ah<|aj<|hy (fun _=>aa rfl)<|hy (fun _=>ab rfl)<|ai<|al (ρ' :=[(4,_),(8,_),(0,_),(5,_),(1,_)]) ⟨rfl,rfl,rfl,rfl,rfl,trivial⟩<|ae<|aS<| ?_
  exact a6 trivial rfl rfl [] rfl [] rfl ⟨rfl,rfl,rfl⟩
theorem Dw{A:Option Addr}{n c:Nat}{l:List UInt8}{i:Nat}(hi:i+4≤n)(hn:n≤1000000000000):b6 Tryz.prog 203 [.slice A n c,.int .i64 (i:Int)] [] [cn 1 A n (aP l)] (fun v_ X_ S_=>v_=(Wd (jI l i))∧X_=[]∧S_=[]):=by
 refine aI (N:=34) Tryz.func203 rfl rfl (by simp) fun b=> ?_
 refine aU (fun m=>eb (m.rd 0 rfl)) ?_
 rintro⟨hl_r,hA_r⟩
 have hl:l.length=n:=hl_r
 refine ah<|aj<|hy (fun _=>ab rfl)<|ai<|ae<|ah<|cu [] [(0,some 0),(1,some 0),(2,some 0),(3,some 0),(4,some 0),(5,some 0),(6,some 0),(7,some 0),(8,some 0),(9,some 0),(10,some 0),(11,some 0),(12,some 0),(13,some 0),(14,some 0),(15,some 0),(16,some 0),(17,some 0),(18,some 0),(19,some 0),(20,some 0),(21,some 0),(22,some 0),(23,some 0),(24,some 0),(25,some 0),(26,some 0),(27,some 0),(28,some 0),(29,some 0)] (by kernel_rfl) (by kernel_rfl) rfl 99<|an (aa rfl)<|an (aa rfl)<|an (aN rfl rfl Tryz.underlying27 dB hA_r rfl (by omega))<|b5 (fun m=>aq rfl iv ((m.rd 0 rfl).cell (bB (by omega))))<|an (yg rfl Tryz.underlying5 Tryz.underlying166)<|an (k8 (b:=16777216) rfl rfl)<|an (aa rfl)<|an (aa rfl)<|an (aL rfl rfl (bx (by omega) (by omega)))<|an (aN rfl rfl Tryz.underlying27 dB hA_r (show((i+1:Nat):Int)=_ by omega) (by omega))<|b5 (fun m=>aq rfl iv ((m.rd 0 rfl).cell (bB (by omega))))<|an (yg rfl Tryz.underlying5 Tryz.underlying166)<|an (k8 (b:=65536) rfl rfl)<|an (cT rfl rfl)<|an (aa rfl)<|an (aa rfl)<|an (aL rfl rfl (bx (by omega) (by omega)))<|an (aN rfl rfl Tryz.underlying27 dB hA_r (show((i+2:Nat):Int)=_ by omega) (by omega))<|b5 (fun m=>aq rfl iv ((m.rd 0 rfl).cell (bB (by omega))))<|an (yg rfl Tryz.underlying5 Tryz.underlying166)<|an (k8 (b:=256) rfl rfl)<|an (cT rfl rfl)<|an (aa rfl)<|an (aa rfl)<|an (aL rfl rfl (bx (by omega) (by omega)))<|an (aN rfl rfl Tryz.underlying27 dB hA_r (show((i+3:Nat):Int)=_ by omega) (by omega))<|b5 (fun m=>aq rfl iv ((m.rd 0 rfl).cell (bB (by omega))))<|an (yg rfl Tryz.underlying5 Tryz.underlying166)<|an (yV (cT rfl rfl) ((show Wd ((l.getD i 0).toUInt32*16777216+(l.getD (i+1) 0).toUInt32*65536+(l.getD (i+2) 0).toUInt32*256+(l.getD (i+3) 0).toUInt32)=Wd (jI l i) by rw[xf])))<|an (ab rfl)<|bo<|al (ρ' :=[(4,_),(0,_),(1,_)]) ⟨rfl,rfl,rfl,trivial⟩<|ae<|aS<| ?_
 exact a6 trivial rfl rfl [] rfl [] rfl ⟨rfl,rfl,rfl⟩
theorem Bv:b6 Tryz.prog 202 [] [] [] (fun v_ X_ S_=>∃v,v_=v∧X_=[aF 166 1 v 64 (dA e7)]∧S_=[]):=by
 refine aI (N:=2) Tryz.func202 rfl rfl (by simp) fun b=> ?_
 refine ah<|aj<|hy (fun _=>ab rfl)<|ai<|ae<|ah<|aj<| ?_
 refine hx (bT Tryz.underlying215 kJ rfl rfl rfl (by decide) (by decide) (by decide) (fun g1=> ?_))
 have hA_b1:0<64→(some (⟨g1,0,none⟩:Addr))≠none:=fun _ h=>by cases h
 refine hy (fun _=>ab rfl)<|ai<|al (ρ' :=[(0,_)]) ⟨rfl,trivial⟩<|ak (X' :=[_]) (S' :=[]) (fun _ m=>m)<|ae<|aS<| ?_
 refine ak (fun w m=>m.bs 0 rfl (show _=aF 166 1 (.slice (some ⟨g1,0,none⟩) 64 64) 64 (dA e7)from rfl)) ?_
 exact a6 trivial rfl rfl [0] rfl [] rfl ⟨_,rfl,rfl,rfl⟩
theorem Bx{H:Option Addr}{hc:Nat}{A:Option Addr}{c:Nat}{l:List UInt8}{h:List UInt32}(hcc:64≤c)(hh:h.length=8):b6 Tryz.prog 142 [.slice H 8 hc,.slice A 64 c] [] [cn 1 H 8 (dA h),cn 1 A 64 (aP l)] (fun v_ X_ S_=>∃u,v_=u∧X_=[aF 166 1 u 8 (dA (dT h l))]∧S_=[]):=by
 refine aI (N:=230) Tryz.func142 rfl rfl (by simp) fun b=> ?_
 refine aU (fun m=>gu (m.rd 0 rfl)) ?_
 rintro⟨hl_q,hA_q⟩
 refine aU (fun m=>eb (m.rd 1 rfl)) ?_
 rintro⟨hl_r,hA_r⟩
 have hl:l.length=64:=hl_r
 refine ah<|aj<|hy (fun _=>ab rfl)<|ai<|ae<|ah<|aj<| ?_
 refine hx (au rfl Tryz.call202 (Bv) [] rfl [] rfl ?_)
 rintro _ _ _ ⟨v,rfl,rfl,rfl⟩
 refine aA (fun m=>(m.own 0 rfl).slice) ?_
 rintro⟨A_x,c_x,rfl,hc_x⟩
 refine aA (fun m=>(m.ord 0 rfl).2.1) fun hA_x=> ?_
 refine hy (fun _=>ab rfl)<|ai<|al (ρ' :=[(5,_),(4,_),(0,_),(1,_)]) ⟨rfl,rfl,rfl,rfl,trivial⟩<|ak (X' :=[_]) (S' :=[_,_]) (fun _ m=>m)<|ae<|ah<|aj<|hy (fun _=>ab rfl)<|ai<|ae<|ah<|ah<|aj<|hy (fun _=>ab rfl)<|ai<|ae<|aK<| ?_
 refine bd (fun w m=>m.cI (r' :=aF 166 1 (.slice none 0 0) 0 []) (.refl _ _) (Own.nil _ _ _ _) (fun k hk=>hk.elim)) ?_
 refine bd (fun w m=>m.bs 0 rfl (show _=aF 166 1 (.slice none 0 0) 0 (dA (wl l 0))from rfl)) ?_
 refine fD (fun i A1 c1=>16-i) (fun i A1 c1=>[(6,.slice A1 i c1),(7,.int .i64 (i:Nat))]) (fun i A1 c1=>[aF 166 1 (.slice A1 i c1) i (dA (wl l i))]) (fun i A1 c1=>[]) (fun i A1 c1=>i≤16) 0 none 0 [(5,_),(4,_),(0,_),(1,_)] ⟨rfl,rfl,rfl,rfl,trivial⟩ [0] rfl [] rfl (Nat.zero_le _) ⟨rfl,rfl,trivial⟩ (fun i A1 c1 hI=> ?_)
 refine ah<|ah<|aj<|hy (fun _=>aa rfl)<|hy (fun _=>bC rfl rfl)<|ai<|al (ρ' :=[(21,_),(6,_),(7,_),(5,_),(4,_),(0,_),(1,_)]) ⟨rfl,rfl,rfl,rfl,rfl,rfl,rfl,trivial⟩<|ae<| ?_
 refine cj rfl (fun hlt=> ?_) (fun hlt=> ?_)
 ·have hws:wl l (i+1)=wl l i++[jI l (4*i)]:=by rw[wl,if_pos (by omega)]
  refine aB<|ae<|ah<|aK<|aj<|hy (fun _=>aa rfl)<|hy (fun _=>aa rfl)<|hy (fun _=>aa rfl)<|hy (fun _=>fg rfl rfl (bx (by omega) (by omega)))<| ?_
  rw[show(4:Int)*(i:Int)=((4*i:Nat):Int) by omega]
  refine hx (au rfl Tryz.call203 (Dw (by omega) (by omega) (i:=4*i)) [] rfl [1] rfl ?_)
  rintro _ _ _ ⟨rfl,rfl,rfl⟩
  refine hx (bT Tryz.underlying215 kJ rfl rfl rfl (by simp[Value.cells,B8]) (by decide) (by decide) (fun g29=> ?_))
  have hA_b29:0<1→(some (⟨g29,0,none⟩:Addr))≠none:=fun _ h=>by cases h
  refine aG (fun w m=>m.bs 0 rfl (show _=aF 166 1 (.slice (some ⟨g29,0,none⟩) 1 1) 1 (dA [jI l (4*i)])from rfl)) ?_
  refine hx (bw 1 rfl rfl rfl Tryz.underlying215 Tryz.underlying215 (by exact .inl rfl) kJ rfl (fun m=>Src.bW (m.ord 0 rfl)) fI (by unfold maxLen;omega) (by omega) (fun u=> ?_))
  refine aA (fun m=>(m.own 0 rfl).slice) ?_
  rintro⟨A_o,c_o,rfl,hc_o⟩
  refine aA (fun m=>(m.ord 0 rfl).2.1) fun hA_o=> ?_
  refine aG (fun w m=>m.bs 0 rfl (show _=aF 166 1 (.slice A_o (i+1) c_o) (i+1) (dA (wl l (i+1)))from by rw[hws,kX])) ?_
  refine hy (fun _=>ab rfl)<|ai<|al (ρ' :=[(6,_),(21,_),(7,_),(5,_),(4,_),(0,_),(1,_)]) ⟨rfl,rfl,rfl,rfl,rfl,rfl,rfl,trivial⟩<|ak (X' :=[_,_,_]) (S' :=[_,_]) (fun _ m=>m)<|aR<|ae<|aj<|hy (fun _=>aa rfl)<|hy (fun _=>aL rfl rfl (bx (by omega) (by omega)))<|hy (fun _=>ab rfl)<|ai<|al (ρ' :=[(7,_),(6,_),(21,_),(5,_),(4,_),(0,_),(1,_)]) ⟨rfl,rfl,rfl,rfl,rfl,rfl,rfl,trivial⟩<| ?_
  refine fz (i+1) A_o c_o ⟨rfl,rfl,rfl,rfl,rfl,rfl,trivial⟩ [0,1] rfl [0,1] rfl (by omega) (by omega)
 ·obtain rfl:i=16:=by omega
  refine bK<|ao<|ao<|aC<|ae<|ah<|ah<|aj<|hy (fun _=>ab rfl)<|ai<|ae<|aK<| ?_
  refine fD (fun i A1 c1=>64-i) (fun i A1 c1=>[(6,.slice A1 i c1),(8,.int .i64 (i:Nat))]) (fun i A1 c1=>[aF 166 1 (.slice A1 i c1) i (dA (wl l i))]) (fun i A1 c1=>[]) (fun i A1 c1=>16≤i∧i≤64) 16 A1 c1 [(21,_),(7,_),(5,_),(4,_),(0,_),(1,_)] ⟨rfl,rfl,rfl,rfl,rfl,rfl,trivial⟩ [0] rfl [] rfl (⟨Nat.le_refl _,by decide⟩) ⟨rfl,rfl,trivial⟩ (fun i A1 c1 ⟨hi16,hi64⟩=> ?_)
  have hwl:=eP l i
  refine aU (fun m=>(m.ord 0 rfl).2.1) fun hA_o=> ?_
  refine ah<|ah<|aj<|hy (fun _=>aa rfl)<|hy (fun _=>bC rfl rfl)<|ai<|al (ρ' :=[(32,_),(6,_),(8,_),(21,_),(7,_),(5,_),(4,_),(0,_),(1,_)]) ⟨rfl,rfl,rfl,rfl,rfl,rfl,rfl,rfl,rfl,trivial⟩<|ae<| ?_
  refine cj rfl (fun hlt=> ?_) (fun hlt=> ?_)
  ·have hws:wl l (i+1)=wl l i++[lJ (wl l i) i]:=by rw[wl,if_neg (by omega)]
   refine aB<|ae<|ah<|aK<|ah<|cu [5,11] [(0,some 0),(1,some 2),(2,some 0),(3,some 0),(4,some 0),(6,some 1),(7,some 1),(8,some 1),(9,some 1),(10,some 1),(13,some 2),(14,some 2),(15,some 2),(16,some 2),(17,some 2),(18,some 2),(5,none),(11,none),(12,some 2),(19,some 2),(20,some 2)] (by kernel_rfl) (by kernel_rfl) rfl 99<|an (aa rfl)<|an (aa rfl)<|an (ca rfl rfl (bx (by omega) (by omega)))<|an (aN rfl rfl Tryz.underlying215 br hA_o (show((i-15:Nat):Int)=_ by omega) (by omega))<|b5 (fun m=>aq rfl bG ((m.ord 0 rfl).cell (j:=i-15) (bj (by omega))))<|an (aa rfl)<|an (aa rfl)<|an (ca rfl rfl (bx (by omega) (by omega)))<|an (aN rfl rfl Tryz.underlying215 br hA_o (show((i-15:Nat):Int)=_ by omega) (by omega))<|b5 (fun m=>aq rfl bG ((m.ord 0 rfl).cell (j:=i-15) (bj (by omega))))<|an (aa rfl)<|an (aa rfl)<|an (ca rfl rfl (bx (by omega) (by omega)))<|an (aN rfl rfl Tryz.underlying215 br hA_o (show((i-15:Nat):Int)=_ by omega) (by omega))<|b5 (fun m=>aq rfl bG ((m.ord 0 rfl).cell (j:=i-15) (bj (by omega))))<|an (mV (b:=8) (by decide) rfl rfl)<| ?_
   refine di (au rfl Tryz.call204 (iC (by omega) (n:=7)) [] rfl [] rfl ?_)
   rintro _ _ _ ⟨rfl,rfl,rfl⟩
   refine⟨(fun _=>wk [0,0] [0,1] rfl rfl), ?_⟩
   refine di (au rfl Tryz.call204 (iC (by omega) (n:=18)) [] rfl [] rfl ?_)
   rintro _ _ _ ⟨rfl,rfl,rfl⟩
   refine⟨(fun _=>wk [0,0] [0,1] rfl rfl), ?_⟩
   refine an (cG rfl rfl)<|an (cG rfl rfl)<|an (ab rfl)<|bo<|al (ρ' :=[(9,_),(32,_),(6,_),(8,_),(21,_),(7,_),(5,_),(4,_),(0,_),(1,_)]) ⟨rfl,rfl,rfl,rfl,rfl,rfl,rfl,rfl,rfl,rfl,trivial⟩<|ak (X' :=[_,_]) (S' :=[_,_]) (fun _ m=>m)<|ae<|ah<|cu [5,11] [(0,some 0),(1,some 2),(2,some 0),(3,some 0),(4,some 0),(6,some 1),(7,some 1),(8,some 1),(9,some 1),(10,some 1),(13,some 2),(14,some 2),(15,some 2),(16,some 2),(17,some 2),(18,some 2),(5,none),(11,none),(12,some 2),(19,some 2),(20,some 2)] (by kernel_rfl) (by kernel_rfl) rfl 99<|an (aa rfl)<|an (aa rfl)<|an (ca rfl rfl (bx (by omega) (by omega)))<|an (aN rfl rfl Tryz.underlying215 br hA_o (show((i-2:Nat):Int)=_ by omega) (by omega))<|b5 (fun m=>aq rfl bG ((m.ord 0 rfl).cell (j:=i-2) (bj (by omega))))<|an (aa rfl)<|an (aa rfl)<|an (ca rfl rfl (bx (by omega) (by omega)))<|an (aN rfl rfl Tryz.underlying215 br hA_o (show((i-2:Nat):Int)=_ by omega) (by omega))<|b5 (fun m=>aq rfl bG ((m.ord 0 rfl).cell (j:=i-2) (bj (by omega))))<|an (aa rfl)<|an (aa rfl)<|an (ca rfl rfl (bx (by omega) (by omega)))<|an (aN rfl rfl Tryz.underlying215 br hA_o (show((i-2:Nat):Int)=_ by omega) (by omega))<|b5 (fun m=>aq rfl bG ((m.ord 0 rfl).cell (j:=i-2) (bj (by omega))))<|an (mV (b:=1024) (by decide) rfl rfl)<| ?_
   refine di (au rfl Tryz.call204 (iC (by omega) (n:=17)) [] rfl [] rfl ?_)
   rintro _ _ _ ⟨rfl,rfl,rfl⟩
   refine⟨(fun _=>wk [0,0] [0,1] rfl rfl), ?_⟩
   refine di (au rfl Tryz.call204 (iC (by omega) (n:=19)) [] rfl [] rfl ?_)
   rintro _ _ _ ⟨rfl,rfl,rfl⟩
   refine⟨(fun _=>wk [0,0] [0,1] rfl rfl), ?_⟩
   refine an (cG rfl rfl)<|an (cG rfl rfl)<|an (ab rfl)<|bo<|al (ρ' :=[(10,_),(9,_),(32,_),(6,_),(8,_),(21,_),(7,_),(5,_),(4,_),(0,_),(1,_)]) ⟨rfl,rfl,rfl,rfl,rfl,rfl,rfl,rfl,rfl,rfl,rfl,trivial⟩<|ak (X' :=[_,_]) (S' :=[_,_]) (fun _ m=>m)<|ae<|cu [5,16,17] [(0,some 2),(1,some 3),(2,some 3),(3,some 3),(4,some 3),(6,some 3),(8,some 3),(9,some 3),(10,some 3),(11,some 3),(12,some 1),(14,some 1),(5,none),(7,some 1),(13,some 1),(15,some 1),(16,none),(17,none),(18,some 3)] (by kernel_rfl) (by kernel_rfl) rfl 2<|an (aa rfl)<|an (aa rfl)<|an (aa rfl)<|an (ca rfl rfl (bx (by omega) (by omega)))<|an (aN rfl rfl Tryz.underlying215 br hA_o (show((i-16:Nat):Int)=_ by omega) (by omega))<|an (aa rfl)<|an (aa rfl)<|an (aa rfl)<|an (ca rfl rfl (bx (by omega) (by omega)))<|an (aN rfl rfl Tryz.underlying215 br hA_o (show((i-7:Nat):Int)=_ by omega) (by omega))<|b5 (fun m=>aq rfl bG ((m.ord 0 rfl).cell (j:=i-7) (bj (by omega))))<|an (aa rfl)<|Am (fun _=>wk [0,0] [0,1] rfl rfl) (fun m=>aq rfl bG ((m.ord 0 rfl).cell (j:=i-16) (bj (by omega))))<|an (cT rfl rfl)<|an (cT rfl rfl)<|an (yV (cT rfl rfl) ((rfl:_=Wd (lJ (wl l i) i))))<| ?_
   refine di (bT Tryz.underlying215 kJ rfl rfl rfl (by exact so (l:=[_])) (by decide) (by decide) (fun g91=>⟨(fun _=>wk [1,1] [0,1] rfl rfl), ?_⟩))
   have hA_b91:0<1→(some (⟨g91,0,none⟩:Addr))≠none:=fun _ h=>by cases h
   refine dO (fun w m=>m.bs 0 rfl (show _=aF 166 1 (.slice (some ⟨g91,0,none⟩) 1 1) 1 (dA [lJ (wl l i) i])from rfl)) ?_
   refine di (bw 1 rfl rfl rfl Tryz.underlying215 Tryz.underlying215 (by exact .inl rfl) kJ rfl (fun m=>Src.bW (m.ord 0 rfl)) fI (by unfold maxLen;omega) (by omega) (fun u=>⟨(fun h=>absurd h (by decide)), ?_⟩))
   refine b4 (fun m=>(m.own 0 rfl).slice) ?_
   rintro⟨A_o,c_o,rfl,hc_o⟩
   refine b4 (fun m=>(m.ord 0 rfl).2.1) fun hA_o=> ?_
   refine dO (fun w m=>m.bs 0 rfl (show _=aF 166 1 (.slice A_o (i+1) c_o) (i+1) (dA (wl l (i+1)))from by rw[hws,kX])) ?_
   refine an (ab rfl)<|bo<|al (ρ' :=[(6,_),(10,_),(9,_),(32,_),(8,_),(21,_),(7,_),(5,_),(4,_),(0,_),(1,_)]) ⟨rfl,rfl,rfl,rfl,rfl,rfl,rfl,rfl,rfl,rfl,rfl,trivial⟩<|ak (X' :=[_,_,_]) (S' :=[_,_]) (fun _ m=>m)<|aR<|ae<|aj<|hy (fun _=>aa rfl)<|hy (fun _=>aL rfl rfl (bx (by omega) (by omega)))<|hy (fun _=>ab rfl)<|ai<|al (ρ' :=[(8,_),(6,_),(10,_),(9,_),(32,_),(21,_),(7,_),(5,_),(4,_),(0,_),(1,_)]) ⟨rfl,rfl,rfl,rfl,rfl,rfl,rfl,rfl,rfl,rfl,rfl,trivial⟩<| ?_
   refine fz (i+1) A_o c_o ⟨rfl,rfl,rfl,rfl,rfl,rfl,rfl,rfl,trivial⟩ [0,1] rfl [0,1] rfl (⟨by omega,by omega⟩) (by omega)
  ·obtain rfl:i=64:=by omega
   obtain⟨W,hW⟩:∃W,wl l 64=W:=⟨_,rfl⟩
   have hw64:W.length=64:=by rw[←hW];exact eP l 64
   rw[hW]
   refine bK<|ao<|ao<|aC<|ae<|ah<|aj<|hy (fun _=>ab rfl)<|ai<|ae<|ah<|aj<|hy (fun _=>aa rfl)<|hy (fun _=>aa rfl)<| ?_
   refine aG (fun w m=>m.cI (r' :=aF 166 1 (.slice none 0 0) 0 []) (.refl _ _) (Own.nil _ _ _ _) (fun k hk=>hk.elim)) ?_
   refine hx (bw 0 rfl rfl rfl Tryz.underlying215 Tryz.underlying215 (by exact .inl rfl) kJ rfl (fun m=>Src.bW (m.rd 0 rfl)) fI (by unfold maxLen;omega) (by omega) (fun u=> ?_))
   refine aA (fun m=>(m.own 0 rfl).slice) ?_
   rintro⟨A_v,c_v,rfl,hc_v⟩
   refine aA (fun m=>(m.ord 0 rfl).2.1) fun hA_v=> ?_
   refine aG (fun w m=>m.bs 0 rfl (show _=aF 166 1 (.slice A_v 8 c_v) 8 (dA (jY W h 0))from rfl)) ?_
   refine hy (fun _=>ab rfl)<|ai<|al (ρ' :=[(11,_),(32,_),(6,_),(8,_),(21,_),(7,_),(5,_),(4,_),(0,_),(1,_)]) ⟨rfl,rfl,rfl,rfl,rfl,rfl,rfl,rfl,rfl,rfl,trivial⟩<|ak (X' :=[_,_,_]) (S' :=[_,_]) (fun _ m=>m)<|ae<|ah<|ah<|aj<|hy (fun _=>ab rfl)<|ai<|ae<|aK<| ?_
   refine fD (fun i A2 c2=>64-i) (fun i A2 c2=>[(11,.slice A2 8 c2),(12,.int .i64 (i:Nat))]) (fun i A2 c2=>[aF 166 1 (.slice A2 8 c2) 8 (dA (jY W h i))]) (fun i A2 c2=>[]) (fun i A2 c2=>i≤64) 0 A_v c_v [(32,_),(6,_),(8,_),(21,_),(7,_),(5,_),(4,_),(0,_),(1,_)] ⟨rfl,rfl,rfl,rfl,rfl,rfl,rfl,rfl,rfl,trivial⟩ [0] rfl [] rfl (Nat.zero_le _) ⟨rfl,rfl,trivial⟩ (fun i A2 c2 hi64=> ?_)
   have hv:=jK (w:=W) hh i
   have hro:e7.length=64:=rfl
   refine aU (fun m=>(m.ord 0 rfl).2.1) fun hA_v=> ?_
   refine aU (fun m=>(m.ord 2 rfl).2.1) fun hA_x=> ?_
   refine aU (fun m=>(m.ord 1 rfl).2.1) fun hA_o=> ?_
   refine ah<|ah<|aj<|hy (fun _=>aa rfl)<|hy (fun _=>bC rfl rfl)<|ai<|al (ρ' :=[(97,_),(11,_),(12,_),(32,_),(6,_),(8,_),(21,_),(7,_),(5,_),(4,_),(0,_),(1,_)]) ⟨rfl,rfl,rfl,rfl,rfl,rfl,rfl,rfl,rfl,rfl,rfl,rfl,trivial⟩<|ae<| ?_
   refine cj rfl (fun hlt=> ?_) (fun hlt=> ?_)
   ·generalize hvd:jY W h i=v at hv ⊢
    refine aB<|ae<|ah<|aK<|ah<|cu [3,7,12] [(0,some 3),(1,some 0),(2,some 0),(4,some 1),(5,some 1),(6,some 1),(9,some 2),(10,some 2),(11,some 2),(3,none),(7,none),(8,some 3),(12,none),(13,some 3),(14,some 3)] (by kernel_rfl) (by kernel_rfl) rfl 99<|an (aa rfl)<|an (aN rfl rfl Tryz.underlying215 br hA_v (show((4:Nat):Int)=4 from rfl) (by omega))<|b5 (fun m=>aq rfl bG ((m.ord 0 rfl).cell (j:=4) (bj (by omega))))<|an (aa rfl)<|an (aN rfl rfl Tryz.underlying215 br hA_v (show((4:Nat):Int)=4 from rfl) (by omega))<|b5 (fun m=>aq rfl bG ((m.ord 0 rfl).cell (j:=4) (bj (by omega))))<|an (aa rfl)<|an (aN rfl rfl Tryz.underlying215 br hA_v (show((4:Nat):Int)=4 from rfl) (by omega))<|b5 (fun m=>aq rfl bG ((m.ord 0 rfl).cell (j:=4) (bj (by omega))))<| ?_
    refine di (au rfl Tryz.call204 (iC (by omega) (n:=6)) [] rfl [] rfl ?_)
    rintro _ _ _ ⟨rfl,rfl,rfl⟩
    refine⟨(fun _=>wk [0,0,0] [0,1] rfl rfl), ?_⟩
    refine di (au rfl Tryz.call204 (iC (by omega) (n:=11)) [] rfl [] rfl ?_)
    rintro _ _ _ ⟨rfl,rfl,rfl⟩
    refine⟨(fun _=>wk [0,0,0] [0,1] rfl rfl), ?_⟩
    refine an (cG rfl rfl)<| ?_
    refine di (au rfl Tryz.call204 (iC (by omega) (n:=25)) [] rfl [] rfl ?_)
    rintro _ _ _ ⟨rfl,rfl,rfl⟩
    refine⟨(fun _=>wk [0,0,0] [0,1] rfl rfl), ?_⟩
    refine an (yV (cG rfl rfl) ((rfl:_=Wd (turns 6 11 25 (v_ v 4)))))<|an (ab rfl)<|bo<|al (ρ' :=[(13,_),(97,_),(11,_),(12,_),(32,_),(6,_),(8,_),(21,_),(7,_),(5,_),(4,_),(0,_),(1,_)]) ⟨rfl,rfl,rfl,rfl,rfl,rfl,rfl,rfl,rfl,rfl,rfl,rfl,rfl,trivial⟩<|ak (X' :=[_,_,_]) (S' :=[_,_]) (fun _ m=>m)<|ae<|ah<|cu [] [(0,some 0),(1,some 0),(2,some 0),(3,some 0),(4,some 0),(5,some 0),(6,some 0),(7,some 0),(8,some 0),(9,some 0),(10,some 0),(11,some 0),(12,some 0),(13,some 0),(14,some 0),(15,some 0),(16,some 0)] (by kernel_rfl) (by kernel_rfl) rfl 99<|an (aa rfl)<|an (aN rfl rfl Tryz.underlying215 br hA_v (show((4:Nat):Int)=4 from rfl) (by omega))<|b5 (fun m=>aq rfl bG ((m.ord 0 rfl).cell (j:=4) (bj (by omega))))<|an (aa rfl)<|an (aN rfl rfl Tryz.underlying215 br hA_v (show((5:Nat):Int)=5 from rfl) (by omega))<|b5 (fun m=>aq rfl bG ((m.ord 0 rfl).cell (j:=5) (bj (by omega))))<|an (gC rfl rfl)<|an (aa rfl)<|an (aN rfl rfl Tryz.underlying215 br hA_v (show((4:Nat):Int)=4 from rfl) (by omega))<|b5 (fun m=>aq rfl bG ((m.ord 0 rfl).cell (j:=4) (bj (by omega))))<|an (As rfl rfl)<|an (aa rfl)<|an (aN rfl rfl Tryz.underlying215 br hA_v (show((6:Nat):Int)=6 from rfl) (by omega))<|b5 (fun m=>aq rfl bG ((m.ord 0 rfl).cell (j:=6) (bj (by omega))))<|an (gC rfl rfl)<|an (cG rfl rfl)<|an (ab rfl)<|bo<|al (ρ' :=[(14,_),(13,_),(97,_),(11,_),(12,_),(32,_),(6,_),(8,_),(21,_),(7,_),(5,_),(4,_),(0,_),(1,_)]) ⟨rfl,rfl,rfl,rfl,rfl,rfl,rfl,rfl,rfl,rfl,rfl,rfl,rfl,rfl,trivial⟩<|ae<|ah<|cu [] [(0,some 0),(1,some 0),(2,some 0),(3,some 0),(4,some 0),(5,some 0),(6,some 0),(7,some 0),(8,some 0),(9,some 0),(10,some 0),(11,some 0),(12,some 0),(13,some 0),(14,some 0),(15,some 0),(16,some 0),(17,some 0)] (by kernel_rfl) (by kernel_rfl) rfl 99<|an (aa rfl)<|an (aN rfl rfl Tryz.underlying215 br hA_v (show((7:Nat):Int)=7 from rfl) (by omega))<|b5 (fun m=>aq rfl bG ((m.ord 0 rfl).cell (j:=7) (bj (by omega))))<|an (aa rfl)<|an (cT rfl rfl)<|an (aa rfl)<|an (cT rfl rfl)<|an (aa rfl)<|an (aa rfl)<|an (aN rfl rfl Tryz.underlying215 br hA_x rfl (by omega))<|b5 (fun m=>aq rfl bG ((m.ord 2 rfl).cell (j:=i) (bj (by omega))))<| ?_
    generalize hk:e7.getD i 0=k
    refine an (cT rfl rfl)<|an (aa rfl)<|an (aa rfl)<|an (aN rfl rfl Tryz.underlying215 br hA_o rfl (by omega))<|b5 (fun m=>aq rfl bG ((m.ord 1 rfl).cell (j:=i) (bj (by omega))))<|an (yV (cT rfl rfl) ((rfl:_=Wd (rt v k (W.getD i 0)))))<|an (ab rfl)<|bo<|al (ρ' :=[(15,_),(14,_),(13,_),(97,_),(11,_),(12,_),(32,_),(6,_),(8,_),(21,_),(7,_),(5,_),(4,_),(0,_),(1,_)]) ⟨rfl,rfl,rfl,rfl,rfl,rfl,rfl,rfl,rfl,rfl,rfl,rfl,rfl,rfl,rfl,trivial⟩<|ae<|ah<|cu [3,7,12] [(0,some 3),(1,some 0),(2,some 0),(4,some 1),(5,some 1),(6,some 1),(9,some 2),(10,some 2),(11,some 2),(3,none),(7,none),(8,some 3),(12,none),(13,some 3),(14,some 3)] (by kernel_rfl) (by kernel_rfl) rfl 99<|an (aa rfl)<|an (aN rfl rfl Tryz.underlying215 br hA_v (show((0:Nat):Int)=0 from rfl) (by omega))<|b5 (fun m=>aq rfl bG ((m.ord 0 rfl).cell (j:=0) (bj (by omega))))<|an (aa rfl)<|an (aN rfl rfl Tryz.underlying215 br hA_v (show((0:Nat):Int)=0 from rfl) (by omega))<|b5 (fun m=>aq rfl bG ((m.ord 0 rfl).cell (j:=0) (bj (by omega))))<|an (aa rfl)<|an (aN rfl rfl Tryz.underlying215 br hA_v (show((0:Nat):Int)=0 from rfl) (by omega))<|b5 (fun m=>aq rfl bG ((m.ord 0 rfl).cell (j:=0) (bj (by omega))))<| ?_
    refine di (au rfl Tryz.call204 (iC (by omega) (n:=2)) [] rfl [] rfl ?_)
    rintro _ _ _ ⟨rfl,rfl,rfl⟩
    refine⟨(fun _=>wk [0,0,0] [0,1] rfl rfl), ?_⟩
    refine di (au rfl Tryz.call204 (iC (by omega) (n:=13)) [] rfl [] rfl ?_)
    rintro _ _ _ ⟨rfl,rfl,rfl⟩
    refine⟨(fun _=>wk [0,0,0] [0,1] rfl rfl), ?_⟩
    refine an (cG rfl rfl)<| ?_
    refine di (au rfl Tryz.call204 (iC (by omega) (n:=22)) [] rfl [] rfl ?_)
    rintro _ _ _ ⟨rfl,rfl,rfl⟩
    refine⟨(fun _=>wk [0,0,0] [0,1] rfl rfl), ?_⟩
    refine an (yV (cG rfl rfl) ((rfl:_=Wd (turns 2 13 22 (v_ v 0)))))<|an (ab rfl)<|bo<|al (ρ' :=[(16,_),(15,_),(14,_),(13,_),(97,_),(11,_),(12,_),(32,_),(6,_),(8,_),(21,_),(7,_),(5,_),(4,_),(0,_),(1,_)]) ⟨rfl,rfl,rfl,rfl,rfl,rfl,rfl,rfl,rfl,rfl,rfl,rfl,rfl,rfl,rfl,rfl,trivial⟩<|ak (X' :=[_,_,_]) (S' :=[_,_]) (fun _ m=>m)<|ae<|ah<|cu [] [(0,some 0),(1,some 0),(2,some 0),(3,some 0),(4,some 0),(5,some 0),(6,some 0),(7,some 0),(8,some 0),(9,some 0),(10,some 0),(11,some 0),(12,some 0),(13,some 0),(14,some 0),(15,some 0),(16,some 0),(17,some 0),(18,some 0),(19,some 0),(20,some 0),(21,some 0),(22,some 0),(23,some 0)] (by kernel_rfl) (by kernel_rfl) rfl 99<|an (aa rfl)<|an (aN rfl rfl Tryz.underlying215 br hA_v (show((0:Nat):Int)=0 from rfl) (by omega))<|b5 (fun m=>aq rfl bG ((m.ord 0 rfl).cell (j:=0) (bj (by omega))))<|an (aa rfl)<|an (aN rfl rfl Tryz.underlying215 br hA_v (show((1:Nat):Int)=1 from rfl) (by omega))<|b5 (fun m=>aq rfl bG ((m.ord 0 rfl).cell (j:=1) (bj (by omega))))<|an (gC rfl rfl)<|an (aa rfl)<|an (aN rfl rfl Tryz.underlying215 br hA_v (show((0:Nat):Int)=0 from rfl) (by omega))<|b5 (fun m=>aq rfl bG ((m.ord 0 rfl).cell (j:=0) (bj (by omega))))<|an (aa rfl)<|an (aN rfl rfl Tryz.underlying215 br hA_v (show((2:Nat):Int)=2 from rfl) (by omega))<|b5 (fun m=>aq rfl bG ((m.ord 0 rfl).cell (j:=2) (bj (by omega))))<|an (gC rfl rfl)<|an (cG rfl rfl)<|an (aa rfl)<|an (aN rfl rfl Tryz.underlying215 br hA_v (show((1:Nat):Int)=1 from rfl) (by omega))<|b5 (fun m=>aq rfl bG ((m.ord 0 rfl).cell (j:=1) (bj (by omega))))<|an (aa rfl)<|an (aN rfl rfl Tryz.underlying215 br hA_v (show((2:Nat):Int)=2 from rfl) (by omega))<|b5 (fun m=>aq rfl bG ((m.ord 0 rfl).cell (j:=2) (bj (by omega))))<|an (gC rfl rfl)<|an (cG rfl rfl)<|an (ab rfl)<|bo<|al (ρ' :=[(17,_),(16,_),(15,_),(14,_),(13,_),(97,_),(11,_),(12,_),(32,_),(6,_),(8,_),(21,_),(7,_),(5,_),(4,_),(0,_),(1,_)]) ⟨rfl,rfl,rfl,rfl,rfl,rfl,rfl,rfl,rfl,rfl,rfl,rfl,rfl,rfl,rfl,rfl,rfl,trivial⟩<|ae<|cu [28] [(0,some 0),(1,some 0),(2,some 0),(3,some 0),(4,some 0),(5,some 0),(6,some 0),(7,some 0),(8,some 0),(9,some 0),(10,some 0),(11,some 0),(12,some 0),(13,some 0),(14,some 0),(15,some 0),(16,some 0),(17,some 0),(18,some 0),(19,some 0),(20,some 0),(21,some 0),(22,some 0),(23,some 0),(24,some 0),(25,some 0),(26,some 0),(27,some 0),(28,none),(29,some 1)] (by kernel_rfl) (by kernel_rfl) rfl 99<|an (aa rfl)<|an (aa rfl)<|an (cT rfl rfl)<|an (aa rfl)<|an (yV (cT rfl rfl) ((show Wd (rt v k (W.getD i 0)+turns 2 13 22 (v_ v 0)+((v_ v 0 &&& v_ v 1) ^^^ (v_ v 0 &&& v_ v 2) ^^^ (v_ v 1 &&& v_ v 2)))=Wd (rt v k (W.getD i 0)+ru v) by rw[UInt32.add_assoc];rfl)))<|an (aa rfl)<|an (aN rfl rfl Tryz.underlying215 br hA_v (show((0:Nat):Int)=0 from rfl) (by omega))<|b5 (fun m=>aq rfl bG ((m.ord 0 rfl).cell (j:=0) (bj (by omega))))<|an (aa rfl)<|an (aN rfl rfl Tryz.underlying215 br hA_v (show((1:Nat):Int)=1 from rfl) (by omega))<|b5 (fun m=>aq rfl bG ((m.ord 0 rfl).cell (j:=1) (bj (by omega))))<|an (aa rfl)<|an (aN rfl rfl Tryz.underlying215 br hA_v (show((2:Nat):Int)=2 from rfl) (by omega))<|b5 (fun m=>aq rfl bG ((m.ord 0 rfl).cell (j:=2) (bj (by omega))))<|an (aa rfl)<|an (aN rfl rfl Tryz.underlying215 br hA_v (show((3:Nat):Int)=3 from rfl) (by omega))<|b5 (fun m=>aq rfl bG ((m.ord 0 rfl).cell (j:=3) (bj (by omega))))<|an (aa rfl)<|an (cT rfl rfl)<|an (aa rfl)<|an (aN rfl rfl Tryz.underlying215 br hA_v (show((4:Nat):Int)=4 from rfl) (by omega))<|b5 (fun m=>aq rfl bG ((m.ord 0 rfl).cell (j:=4) (bj (by omega))))<|an (aa rfl)<|an (aN rfl rfl Tryz.underlying215 br hA_v (show((5:Nat):Int)=5 from rfl) (by omega))<|b5 (fun m=>aq rfl bG ((m.ord 0 rfl).cell (j:=5) (bj (by omega))))<|an (aa rfl)<|an (aN rfl rfl Tryz.underlying215 br hA_v (show((6:Nat):Int)=6 from rfl) (by omega))<|b5 (fun m=>aq rfl bG ((m.ord 0 rfl).cell (j:=6) (bj (by omega))))<| ?_
    refine di (bT Tryz.underlying215 kJ rfl rfl rfl (by exact so (l:=[_,_,_,_,_,_,_,_])) (by decide) (by decide) (fun g212=>⟨(fun _=>wk [1,1,1] [0,1] rfl rfl), ?_⟩))
    have hA_b212:0<8→(some (⟨g212,0,none⟩:Addr))≠none:=fun _ h=>by cases h
    refine an (ab rfl)<|bo<|al (ρ' :=[(11,_),(17,_),(16,_),(15,_),(14,_),(13,_),(97,_),(12,_),(32,_),(6,_),(8,_),(21,_),(7,_),(5,_),(4,_),(0,_),(1,_)]) ⟨rfl,rfl,rfl,rfl,rfl,rfl,rfl,rfl,rfl,rfl,rfl,rfl,rfl,rfl,rfl,rfl,rfl,trivial⟩<|ak (X' :=[_,_,_,_]) (S' :=[_,_]) (fun _ m=>m)<|aR<|ae<|aj<|hy (fun _=>aa rfl)<|hy (fun _=>aL rfl rfl (bx (by omega) (by omega)))<|hy (fun _=>ab rfl)<|ai<|al (ρ' :=[(12,_),(11,_),(17,_),(16,_),(15,_),(14,_),(13,_),(97,_),(32,_),(6,_),(8,_),(21,_),(7,_),(5,_),(4,_),(0,_),(1,_)]) ⟨rfl,rfl,rfl,rfl,rfl,rfl,rfl,rfl,rfl,rfl,rfl,rfl,rfl,rfl,rfl,rfl,rfl,trivial⟩<| ?_
    refine ak (fun w m=>m.bs 0 rfl (show _=aF 166 1 (.slice (some ⟨g212,0,none⟩) 8 8) 8 (dA (jY W h (i+1)))from by rw[jY,hvd,hk];rfl)) ?_
    refine fz (i+1) (some ⟨g212,0,none⟩) 8 ⟨rfl,rfl,rfl,rfl,rfl,rfl,rfl,rfl,rfl,rfl,rfl,trivial⟩ [0,1,1] rfl [0,1] rfl (by omega) (by omega)
   ·obtain rfl:i=64:=by omega
    generalize hvv:jY W h 64=v at hv ⊢
    refine bd (fun w m=>m.bs 0 rfl (show _=aF 166 1 (.slice A2 8 c2) 8 (dA (fi v h 0))from by rw[pP])) ?_
    refine bK<|ao<|ao<|aC<|ae<|ah<|ah<|aj<|hy (fun _=>ab rfl)<|ai<|ae<|aK<| ?_
    refine dH (fun j=>8-j) (fun j=>[(18,.int .i64 (j:Nat))]) (fun j=>[aF 166 1 (.slice A2 8 c2) 8 (dA (fi v h j))]) (fun j=>[]) (fun j=>j≤8) 0 [(97,_),(11,_),(12,_),(32,_),(6,_),(8,_),(21,_),(7,_),(5,_),(4,_),(0,_),(1,_)] ⟨rfl,rfl,rfl,rfl,rfl,rfl,rfl,rfl,rfl,rfl,rfl,rfl,trivial⟩ [0] rfl [] rfl (Nat.zero_le _) ⟨rfl,trivial⟩ (fun j hj8=> ?_)
    have hsl:(fi v h j).length=v.length:=by simp[fi]
    refine ah<|ah<|aj<|hy (fun _=>aa rfl)<|hy (fun _=>bC rfl rfl)<|ai<|al (ρ' :=[(214,_),(18,_),(97,_),(11,_),(12,_),(32,_),(6,_),(8,_),(21,_),(7,_),(5,_),(4,_),(0,_),(1,_)]) ⟨rfl,rfl,rfl,rfl,rfl,rfl,rfl,rfl,rfl,rfl,rfl,rfl,rfl,rfl,trivial⟩<|ae<| ?_
    refine cj rfl (fun hj=> ?_) (fun hj=> ?_)
    ·refine aB<|ae<|ah<|aK<|cu [12] [(0,some 0),(1,some 0),(2,some 0),(3,some 0),(4,some 0),(5,some 0),(6,some 0),(7,some 0),(8,some 0),(9,some 0),(10,some 0),(11,some 0),(12,none)] (by kernel_rfl) (by kernel_rfl) rfl 0<|an (aa rfl)<|an (aa rfl)<|an (aa rfl)<|an (aa rfl)<|an (aN rfl rfl Tryz.underlying215 br hA_v rfl (by omega))<|b5 (fun m=>aq rfl bG ((m.ord 0 rfl).cell (j:=j) (bj (by omega))))<|an (aa rfl)<|an (aa rfl)<|an (aN rfl rfl Tryz.underlying215 br hA_q rfl (by omega))<|b5 (fun m=>aq rfl bG ((m.rd 0 rfl).cell (j:=j) (bj (by omega))))<|an (yV (cT rfl rfl) ((rfl:_=Wd (v_ (fi v h j) j+v_ h j))))<|an (aN rfl rfl Tryz.underlying215 br hA_v rfl (by omega))<| ?_
     refine fS (zm 0 rfl rfl rfl br rfl (by omega) ⟨(fun h=>absurd h (by decide)), ?_⟩)
     refine bo<|al (ρ' :=[(214,_),(18,_),(97,_),(11,_),(12,_),(32,_),(6,_),(8,_),(21,_),(7,_),(5,_),(4,_),(0,_),(1,_)]) ⟨rfl,rfl,rfl,rfl,rfl,rfl,rfl,rfl,rfl,rfl,rfl,rfl,rfl,rfl,trivial⟩<|ak (X' :=[_,_,_]) (S' :=[_,_]) (fun _ m=>m)<|aR<|ae<|aj<|hy (fun _=>aa rfl)<|hy (fun _=>aL rfl rfl (bx (by omega) (by omega)))<|hy (fun _=>ab rfl)<|ai<|al (ρ' :=[(18,_),(214,_),(97,_),(11,_),(12,_),(32,_),(6,_),(8,_),(21,_),(7,_),(5,_),(4,_),(0,_),(1,_)]) ⟨rfl,rfl,rfl,rfl,rfl,rfl,rfl,rfl,rfl,rfl,rfl,rfl,rfl,rfl,trivial⟩<| ?_
     refine ak (fun w m=>m.bs 0 rfl (show _=aF 166 1 (.slice A2 8 c2) 8 (dA (fi v h (j+1)))from by rw[qT,pX (by omega)])) ?_
     refine cJ (j+1) ⟨rfl,rfl,rfl,rfl,rfl,rfl,rfl,rfl,rfl,rfl,rfl,rfl,rfl,trivial⟩ [0,0,0] rfl [0,1] rfl (by omega) (by omega)
    ·obtain rfl:j=8:=by omega
     have hB:fi v h 8=dT h l:=by rw[dT,hW,hvv]
     rw[hB]
     refine bK<|ao<|ao<|aC<|ae<|ah<|aj<|hy (fun _=>aa rfl)<|hy (fun _=>ab rfl)<|ai<|al (ρ' :=[(4,_),(214,_),(18,_),(97,_),(11,_),(12,_),(32,_),(6,_),(8,_),(21,_),(7,_),(5,_),(0,_),(1,_)]) ⟨rfl,rfl,rfl,rfl,rfl,rfl,rfl,rfl,rfl,rfl,rfl,rfl,rfl,rfl,trivial⟩<|ae<|aS<| ?_
     exact a6 trivial rfl rfl [0] rfl [] rfl ⟨_,rfl,rfl,rfl⟩
end Go.Proofs.YtmibdabdlgmafaaGreatDoor
end
section
set_option maxRecDepth 20000
namespace Go.Proofs.YtmibdabdlgmafaaGreatDoor
open Go.Eng Go.Hx
def kZ(n:Nat):Nat→Nat
 |0=>n
 |i+1=>kZ n i/256
theorem oF(n:Nat):∀i,kZ n i=n/256 ^ i
 |0=>by simp[kZ]
 |i+1=>by rw[kZ,oF n i,Nat.div_div_eq_div_mul,Nat.pow_succ]
def pk(n i:Nat):List UInt8:=List.replicate (8-i) 0++(rX n).drop (8-i)
theorem kA(n:Nat):(rX n).length=8:=by simp[rX]
theorem yE(n i:Nat)(h:i≤8):(pk n i).length=8:=by
 rw[pk,List.length_append,List.length_replicate,List.length_drop,kA];omega
theorem xc{n i:Nat}(hi:i<8):(pk n i).set (7-i) (UInt8.ofNat (kZ n i % 256))=pk n (i+1):=by
 have e:UInt8.ofNat (kZ n i % 256)=UInt8.ofNat (n/256 ^ i):=by
  rw[oF];apply UInt8.toNat_inj.1;simp
 rw[e]
 obtain⟨k,hk⟩:∃k,8-i=k+1:=⟨7-i,by omega⟩
 have h7:7-i=k:=by omega
 have hd:(rX n).drop k=UInt8.ofNat (n/256 ^ i)::(rX n).drop (k+1):=by
  rw[List.drop_eq_getElem_cons (by rw[kA];omega)]
  congr 1
  simp only[rX,List.getElem_map,List.getElem_range]
  congr 3;omega
 rw[pk,pk,hk,h7,show 8-(i+1)=k by omega,hd,List.replicate_succ',List.append_assoc,List.set_append_right _ _ (by simp)]
 simp
theorem Bl{A:Option Addr}{n c:Nat}{l:List UInt8}(hn:n≤140737488351232):b6 Tryz.prog 141 [.slice A n c] [] [cn 1 A n (aP l)] (fun v_ X_ S_=>∃v,v_=v∧X_=[aF 5 1 v (iB l).length (aP (iB l))]∧S_=[]):=by
 have hz64:gP n<64:=Nat.mod_lt _ (by decide)
 have hzp:(n+(1+gP n)) % 64=56:=by unfold gP;omega
 have hzm:∀j,j<gP n→(n+(1+j)) % 64≠56:=fun j hj=>by unfold gP at hj;omega
 refine aI (N:=39) Tryz.func141 rfl rfl (by simp) fun b=> ?_
 refine aU (fun m=>eb (m.rd 0 rfl)) ?_
 rintro⟨hl_r,hA_r⟩
 have hl:l.length=n:=hl_r
 refine ah<|aj<|hy (fun _=>ab rfl)<|ai<|ae<|ah<|aj<|hy (fun _=>ab rfl)<|ai<|ae<|ah<|aj<|hy (fun _=>aa rfl)<|hy (fun _=>aa rfl)<| ?_
 refine aG (fun w m=>m.cI (r' :=aF 5 1 (.slice none 0 0) 0 []) (.refl _ _) (Own.nil _ _ _ _) (fun k hk=>hk.elim)) ?_
 refine hx (bw 0 rfl rfl rfl Tryz.underlying27 Tryz.underlying27 (by exact .inl rfl) eA rfl (fun m=>Src.bW (m.rd 0 rfl)) bg (by unfold maxLen;omega) (by omega) (fun u=> ?_))
 refine aA (fun m=>(m.own 0 rfl).slice) ?_
 rintro⟨A_o,c_o,rfl,hc_o⟩
 refine aA (fun m=>(m.ord 0 rfl).2.1) fun hA_o=> ?_
 rw[Nat.zero_add]
 refine hy (fun _=>ab rfl)<|ai<|al (ρ' :=[(3,_),(2,_),(0,_)]) ⟨rfl,rfl,rfl,trivial⟩<|ak (X' :=[_]) (S' :=[_]) (fun _ m=>m)<|ae<|ah<|aj<|hy (fun _=>aa rfl)<| ?_
 refine hx (bT Tryz.underlying27 eA rfl rfl rfl (by simp[Value.cells,B8]) (by decide) (by decide) (fun g11=> ?_))
 have hA_b11:0<1→(some (⟨g11,0,none⟩:Addr))≠none:=fun _ h=>by cases h
 refine aG (fun w m=>m.bs 0 rfl (show _=aF 5 1 (.slice (some ⟨g11,0,none⟩) 1 1) 1 (aP [128])from rfl)) ?_
 refine hx (bw 1 rfl rfl rfl Tryz.underlying27 Tryz.underlying27 (by exact .inl rfl) eA rfl (fun m=>Src.bW (m.ord 0 rfl)) bg (by unfold maxLen;omega) (by omega) (fun u2=> ?_))
 refine aA (fun m=>(m.own 0 rfl).slice) ?_
 rintro⟨A_o2,c_o2,rfl,hc_o⟩
 refine aA (fun m=>(m.ord 0 rfl).2.1) fun hA_o=> ?_
 refine aG (fun w m=>m.bs 0 rfl (show _=aF 5 1 (.slice A_o2 (n+1+0) c_o2) (n+1+0) (aP (l++128::List.replicate 0 0))from by simp[aP])) ?_
 refine hy (fun _=>ab rfl)<|ai<|al (ρ' :=[(3,_),(2,_),(0,_)]) ⟨rfl,rfl,rfl,trivial⟩<|ak (X' :=[_,_]) (S' :=[_]) (fun _ m=>m)<|ae<|ah<|aK<| ?_
 refine fD (fun j A1 cc=>gP n-j) (fun j A1 cc=>[(3,.slice A1 (n+1+j) cc)]) (fun j A1 cc=>[aF 5 1 (.slice A1 (n+1+j) cc) (n+1+j) (aP (l++128::List.replicate j 0))]) (fun j A1 cc=>[]) (fun j A1 cc=>j≤gP n) 0 A_o2 c_o2 [(2,_),(0,_)] ⟨rfl,rfl,trivial⟩ [0] rfl [] rfl (Nat.zero_le _) ⟨rfl,trivial⟩ (fun j A1 cc hjz=> ?_)
 refine ah<|ah<|aj<|hy (fun _=>aa rfl)<|hy (fun _=>aT rfl Tryz.underlying27)<|hy (fun _=>gh rfl rfl (by omega) (by omega))<|hy (fun _=>dF rfl rfl)<|ai<|al (ρ' :=[(16,_),(3,_),(2,_),(0,_)]) ⟨rfl,rfl,rfl,rfl,trivial⟩<|ae<| ?_
 refine cj rfl (fun hne=> ?_) (fun hne=> ?_)
 ·have hj:j<gP n:=by
   rcases Nat.lt_or_eq_of_le hjz with h|h
   ·exact h
   ·rw[←h]at hzp;omega
  refine aB<|ae<|aK<|aj<|hy (fun _=>aa rfl)<| ?_
  refine hx (bT Tryz.underlying27 eA rfl rfl rfl (by simp[Value.cells,B8]) (by decide) (by decide) (fun g18=> ?_))
  have hA_b18:0<1→(some (⟨g18,0,none⟩:Addr))≠none:=fun _ h=>by cases h
  refine aG (fun w m=>m.bs 0 rfl (show _=aF 5 1 (.slice (some ⟨g18,0,none⟩) 1 1) 1 (aP [0])from rfl)) ?_
  refine hx (bw 1 rfl rfl rfl Tryz.underlying27 Tryz.underlying27 (by exact .inl rfl) eA rfl (fun m=>Src.bW (m.ord 0 rfl)) bg (by unfold maxLen;omega) (by omega) (fun u3=> ?_))
  refine aA (fun m=>(m.own 0 rfl).slice) ?_
  rintro⟨A_o3,c_o3,rfl,hc_o⟩
  refine aA (fun m=>(m.ord 0 rfl).2.1) fun hA_o=> ?_
  refine hy (fun _=>ab rfl)<|ai<|al (ρ' :=[(3,_),(16,_),(2,_),(0,_)]) ⟨rfl,rfl,rfl,rfl,trivial⟩<|ak (X' :=[_,_,_]) (S' :=[_]) (fun _ m=>m)<|aR<| ?_
  refine ak (fun w m=>m.bs 0 rfl (show _=aF 5 1 (.slice A_o3 (n+1+(j+1)) c_o3) (n+1+(j+1)) (aP (l++128::List.replicate (j+1) 0))from by rw[List.replicate_succ'];simp[aP,Nat.add_assoc])) ?_
  refine fz (j+1) A_o3 c_o3 ⟨rfl,rfl,rfl,trivial⟩ [0,1] rfl [0] rfl (by omega) (by omega)
 ·have hj:j=gP n:=by
   refine Decidable.byContradiction fun hn=> ?_
   have:=hzm j (by omega)
   omega
  subst hj
  refine bK<|ao<|ao<|aC<|ae<|ah<|aj<|hy (fun _=>aa rfl)<|hy (fun _=>aT rfl Tryz.underlying27)<|hy (fun _=>yV (fg rfl rfl (bx (by omega) (by omega))) ((show Value.int .i64 (8*(n:Int))= .int .i64 ((kZ (8*n) 0:Nat):Int) by rw[kZ];congr 1)))<|hy (fun _=>ab rfl)<|ai<|al (ρ' :=[(4,_),(16,_),(3,_),(2,_),(0,_)]) ⟨rfl,rfl,rfl,rfl,rfl,trivial⟩<|ae<|ah<|aj<| ?_
  refine hx (AL (n:=8) Tryz.underlying27 eA rfl rfl rfl (by decide) (by decide) (fun g23=> ?_))
  have hA_b23:∀{n:Nat},0<n→(some (⟨g23,0,none⟩:Addr))≠none:=fun _ h=>by cases h
  refine hy (fun _=>ab rfl)<|ai<|al (ρ' :=[(5,_),(4,_),(16,_),(3,_),(2,_),(0,_)]) ⟨rfl,rfl,rfl,rfl,rfl,rfl,trivial⟩<|ak (X' :=[_,_,_]) (S' :=[_]) (fun _ m=>m)<|ae<|ah<|ah<|aj<| ?_
  refine aG (fun w m=>m.bs 0 rfl (show _=aE g23 5 (aP (pk (8*n) 0))from by rw[pk,List.drop_of_length_le (by rw[kA];decide),List.append_nil];rfl)) ?_
  refine hy (fun _=>ab rfl)<|ai<|ae<|aK<| ?_
  refine dH (fun i=>8-i) (fun i=>[(4,.int .i64 ((kZ (8*n) i:Nat):Int)),(6,.int .i64 (7-(i:Int)))]) (fun i=>[aE g23 5 (aP (pk (8*n) i))]) (fun i=>[]) (fun i=>i≤8) 0 [(5,_),(16,_),(3,_),(2,_),(0,_)] ⟨rfl,rfl,rfl,rfl,rfl,trivial⟩ [0] rfl [] rfl (Nat.zero_le _) ⟨rfl,rfl,trivial⟩ (fun i hi8=> ?_)
  have hq:kZ (8*n) i≤8*n:=by rw[oF];exact Nat.div_le_self ..
  have hbl:=yE (8*n) i hi8
  refine ah<|ah<|aj<|hy (fun _=>aa rfl)<|hy (fun _=>ec rfl rfl)<|ai<|al (ρ' :=[(25,_),(4,_),(6,_),(5,_),(16,_),(3,_),(2,_),(0,_)]) ⟨rfl,rfl,rfl,rfl,rfl,rfl,rfl,rfl,trivial⟩<|ae<| ?_
  refine cj rfl (fun hi=> ?_) (fun hi=> ?_)
  ·refine aB<|ae<|ah<|aK<|ah<|aj<|hy (fun _=>aa rfl)<|hy (fun _=>aa rfl)<|hy (fun _=>aa rfl)<|hy (fun _=>gh rfl rfl (by omega) (by omega))<|hy (fun _=>bS rfl Tryz.underlying3 Tryz.underlying5 (show IntKind.u8.wrap (((kZ (8*n) i:Nat):Int) % 256)=((UInt8.ofNat (kZ (8*n) i % 256)).toNat:Int)from gi (kZ (8*n) i % 256)))<|hy (fun _=>aN rfl rfl Tryz.underlying27 dB hA_b23 (show((7-i:Nat):Int)=_ by omega) (by omega))<| ?_
   refine cx (bU 0 rfl rfl rfl dB rfl (by rw[az,hbl];omega) ?_)
   refine ai<|al (ρ' :=[(25,_),(4,_),(6,_),(5,_),(16,_),(3,_),(2,_),(0,_)]) ⟨rfl,rfl,rfl,rfl,rfl,rfl,rfl,rfl,trivial⟩<|ak (X' :=[_,_,_]) (S' :=[_]) (fun _ m=>m)<|ae<|aj<|hy (fun _=>aa rfl)<|hy (fun _=>yV (jR rfl rfl (by omega) (by omega) (bx (by omega) (by omega))) ((show Value.int .i64 (((kZ (8*n) i:Nat):Int)/256)= .int .i64 ((kZ (8*n) (i+1):Nat):Int)from rfl)))<|hy (fun _=>ab rfl)<|ai<|al (ρ' :=[(4,_),(25,_),(6,_),(5,_),(16,_),(3,_),(2,_),(0,_)]) ⟨rfl,rfl,rfl,rfl,rfl,rfl,rfl,rfl,trivial⟩<|aR<|ae<|aj<|hy (fun _=>aa rfl)<|hy (fun _=>yV (ca rfl rfl (bx (by omega) (by omega))) ((show Value.int .i64 (7-(i:Int)-1)= .int .i64 (7-((i+1:Nat):Int))from congrArg (Value.int .i64) (by omega))))<|hy (fun _=>ab rfl)<|ai<|al (ρ' :=[(6,_),(4,_),(25,_),(5,_),(16,_),(3,_),(2,_),(0,_)]) ⟨rfl,rfl,rfl,rfl,rfl,rfl,rfl,rfl,trivial⟩<| ?_
   refine ak (fun w m=>m.bs 0 rfl (show _=aE g23 5 (aP (pk (8*n) (i+1)))from by rw[Nat.zero_add,←xc (by omega),AE];rfl)) ?_
   refine cJ (i+1) ⟨rfl,rfl,rfl,rfl,rfl,rfl,rfl,trivial⟩ [0,0,0] rfl [0] rfl (by omega) (by omega)
  ·obtain rfl:i=8:=by omega
   have hpl:(iB l).length=n+1+gP n+8:=by
    simp only[iB,List.length_append,List.length_cons,List.length_replicate,kA,hl];omega
   refine bd (fun w m=>m.bs 0 rfl (show _=aE g23 5 (aP (rX (8*n)))from by simp[pk])) ?_
   refine bK<|ao<|ao<|aC<|ae<|ah<|aj<|hy (fun _=>aa rfl)<|hy (fun _=>aa rfl)<| ?_
   refine hx (bw 1 rfl rfl rfl Tryz.underlying27 Tryz.underlying27 (by exact .inl rfl) eA rfl (fun m=>Src.bW (Rd.jx (m.aQ 0 rfl) (by rw[az,kA]))) bg (by unfold maxLen;omega) (by omega) (fun u3=> ?_))
   refine aA (fun m=>(m.own 0 rfl).slice) ?_
   rintro⟨A_o3,c_o3,rfl,hc_o⟩
   refine aA (fun m=>(m.ord 0 rfl).2.1) fun hA_o=> ?_
   refine aG (fun w m=>m.bs 0 rfl (show _=aF 5 1 (.slice A_o3 (iB l).length c_o3) (iB l).length (aP (iB l))from by rw[hpl,iB,hl];simp[aP])) ?_
   refine hy (fun _=>ab rfl)<|ai<|al (ρ' :=[(2,_),(25,_),(4,_),(6,_),(5,_),(16,_),(3,_),(0,_)]) ⟨rfl,rfl,rfl,rfl,rfl,rfl,rfl,rfl,trivial⟩<|ak (X' :=[_,_,_]) (S' :=[_]) (fun _ m=>m)<|ae<|aS<| ?_
   exact a6 trivial rfl rfl [0] rfl [] rfl ⟨_,(by rw[hpl]),rfl,rfl⟩
theorem zh{p r:List UInt8}{k:Nat}{a x:UInt8}(hp:p.length=k):(aP (p++x::r)).set k (B8 a)=aP (p++[a]++r):=by
 subst hp
 simp[aP,List.set_append]
def qw(x:UInt32):Nat→UInt32
 |0=>x
 |j+1=>qw x j/256
theorem tm(x:UInt32):∀j,(qw x j).toNat=x.toNat/256 ^ j
 |0=>by simp[qw]
 |j+1=>by
  rw[qw,UInt32.toNat_div,tm x j,Nat.pow_succ,←Nat.div_div_eq_div_mul];rfl
theorem DO(x:UInt32){r:Nat}(hr:r<4):(zZ x)[r]? =some (UInt8.ofNat (qw x (3-r) % 256).toNat):=by
 have h256:(256:UInt32).toNat=256:=rfl
 have e:∀k,UInt8.ofNat ((qw x k % 256).toNat)=UInt8.ofNat (x.toNat/256 ^ k):=fun k=>by
  rw[UInt32.toNat_mod,tm,h256]
  apply UInt8.toNat_inj.1;simp
 rw[e]
 match r,hr with
 |0,_=>simp[zZ,UInt32.toNat_div]
 |1,_=>simp[zZ,UInt32.toNat_div]
 |2,_=>simp[zZ,UInt32.toNat_div]
 |3,_=>simp[zZ]
theorem qC:∀(h:List UInt32) (q r:Nat),q<h.length→r<4→(eg h)[4*q+r]? =(zZ (h.getD q 0))[r]?
 |a::t,0,r,hq,hr=>by
  rw[eg,List.flatMap_cons,List.getElem?_append_left (by show 4*0+r<4;omega)]
  simp
 |a::t,q+1,r,hq,hr=>by
  rw[eg,List.flatMap_cons,List.getElem?_append_right (by show 4≤_;omega),show 4*(q+1)+r-(zZ a).length=4*q+r by show 4*(q+1)+r-4=_;omega]
  have:=qC t q r (by simpa using hq) hr
  simpa[eg]using this
theorem iM{A:Option Addr}{n c:Nat}{l:List UInt8}(hn:n≤140737488351232):b6 Tryz.prog 56 [.slice A n c] [] [cn 1 A n (aP l)] (fun v_ X_ S_=>v_=(.agg (aP (bp l)).toArray)∧X_=[]∧S_=[]):=by
 refine aI (N:=49) Tryz.func56 rfl rfl (by simp) fun b=> ?_
 refine aU (fun m=>eb (m.rd 0 rfl)) ?_
 rintro⟨hl_r,hA_r⟩
 refine ah<|aj<| ?_
 refine hx (bh fY (fun g2=> ?_))
 refine ai<|ak (X' :=[_]) (S' :=[_]) (fun _ m=>m)<|ae<|ah<|aj<| ?_
 refine hx (bT Tryz.underlying215 kJ rfl rfl rfl (by decide) (by decide) (by decide) (fun g10=> ?_))
 have hA_b10:0<8→(some (⟨g10,0,none⟩:Addr))≠none:=fun _ h=>by cases h
 refine aG (fun w m=>m.bs 0 rfl (show _=aF 166 1 (.slice (some ⟨g10,0,none⟩) 8 8) 8 (dA (eT lq ((iB l).take (64*0))))from by rw[Nat.mul_zero,List.take_zero];rfl)) ?_
 refine hy (fun _=>ab rfl)<|ai<|al (ρ' :=[(3,_),(2,_),(0,_)]) ⟨rfl,rfl,rfl,trivial⟩<|ak (X' :=[_,_]) (S' :=[_]) (fun _ m=>m)<|ae<|ah<|aj<|hy (fun _=>aa rfl)<| ?_
 refine hx (au rfl Tryz.call141 (Bl (by omega)) [] rfl [0] rfl ?_)
 rintro _ _ _ ⟨v,rfl,rfl,rfl⟩
 refine aA (fun m=>(m.own 0 rfl).slice) ?_
 rintro⟨A_x,c_x,rfl,hc_x⟩
 refine aA (fun m=>(m.ord 0 rfl).2.1) fun hA_x=> ?_
 refine hy (fun _=>ab rfl)<|ai<|al (ρ' :=[(4,_),(3,_),(2,_),(0,_)]) ⟨rfl,rfl,rfl,rfl,trivial⟩<|ak (X' :=[_,_,_]) (S' :=[_]) (fun _ m=>m)<|ae<|ah<|ah<|aj<|hy (fun _=>ab rfl)<|ai<|ae<|aK<| ?_
 have hpl:=nc l
 have hpb:(iB l).length≤140737488352000:=by
  have:l.length=n:=hl_r
  have hz:gP l.length<64:=Nat.mod_lt _ (by decide)
  simp only[iB,List.length_append,List.length_cons,List.length_replicate,kA];omega
 obtain⟨K,hK⟩:∃K,(iB l).length=64*K:=⟨(iB l).length/64,by omega⟩
 generalize hP:iB l=P at hpl hpb hK hc_x hA_x ⊢
 refine bd (fun w m=>(m.perm (ar [0] _ [_] _ rfl)).freeze) ?_
 refine bd (fun w m=>m.fp 0 rfl .own) ?_
 refine aU (fun m=>eb (m.rd 0 rfl)) ?_
 rintro⟨hl_xr,hA_xr⟩
 refine fD (fun k H hc=>K-k) (fun k H hc=>[(3,.slice H 8 hc),(5,.int .i64 ((64*k:Nat):Int))]) (fun k H hc=>[aF 166 1 (.slice H 8 hc) 8 (dA (eT lq (P.take (64*k))))]) (fun k H hc=>[]) (fun k H hc=>k≤K) 0 (some ⟨g10,0,none⟩) 8 [(4,_),(2,_),(0,_)] ⟨rfl,rfl,rfl,trivial⟩ [0] rfl [] rfl (Nat.zero_le _) ⟨rfl,rfl,trivial⟩ (fun k H hc hkK=> ?_)
 have hh:=mg (h:=lq) (P.take (64*k)) rfl
 refine ah<|ah<|aj<|hy (fun _=>aa rfl)<|hy (fun _=>aa rfl)<|hy (fun _=>aT rfl Tryz.underlying27)<|hy (fun _=>bC rfl rfl)<|ai<|al (ρ' :=[(16,_),(3,_),(5,_),(4,_),(2,_),(0,_)]) ⟨rfl,rfl,rfl,rfl,rfl,rfl,trivial⟩<|ae<| ?_
 refine cj rfl (fun hlt=> ?_) (fun hlt=> ?_)
 ·have hk:k<K:=by omega
  refine bd (fun w m=>m.fp 0 rfl (View.sub (k:=64*k) (m:=64) hc_x (by omega))) ?_
  refine aU (fun m=>eb (m.rd 0 rfl)) ?_
  rintro⟨hl_r64,hA_r64⟩
  refine aB<|ae<|ah<|aK<|aj<|hy (fun _=>aa rfl)<|hy (fun _=>aa rfl)<|hy (fun _=>aa rfl)<|hy (fun _=>aa rfl)<|hy (fun _=>aL rfl rfl (bx (by omega) (by omega)))<|hy (fun _=>yV (ef rfl rfl rfl Tryz.underlying27 dB (show((64*k:Nat):Int)=_ by omega) (show((64*k+64:Nat):Int)=_ by omega) (by omega) (by omega)) ((show Value.slice (if c_x=64*k then A_x else A_x.map (·.add (64*k*1))) (64*k+64-64*k) (c_x-64*k)= .slice (if c_x=64*k then A_x else A_x.map (·.add (64*k*1))) 64 (c_x-64*k) by rw[Nat.add_sub_cancel_left])))<| ?_
  refine hx (cK rfl Tryz.call142 (Bx (by omega) hh (h:=(eT lq (P.take (64*k))))) [] rfl (.x 0 rfl .own (.s 0 rfl .nil)) ?_)
  rintro _ _ _ ⟨u,rfl,rfl,rfl⟩
  refine⟨rfl, ?_⟩
  refine aA (fun m=>(m.own 0 rfl).slice) ?_
  rintro⟨A_y,c_y,rfl,hc_y⟩
  refine aA (fun m=>(m.ord 0 rfl).2.1) fun hA_y=> ?_
  refine hy (fun _=>ab rfl)<|ai<|al (ρ' :=[(3,_),(16,_),(5,_),(4,_),(2,_),(0,_)]) ⟨rfl,rfl,rfl,rfl,rfl,rfl,trivial⟩<|ak (X' :=[_,_,_]) (S' :=[_,_,_,_]) (fun _ m=>m)<|aR<|ae<|aj<|hy (fun _=>aa rfl)<|hy (fun _=>yV (aL rfl rfl (bx (by omega) (by omega))) ((show Value.int .i64 (((64*k:Nat):Int)+64)= .int .i64 ((64*(k+1):Nat):Int)from congrArg (Value.int .i64) (by omega))))<|hy (fun _=>ab rfl)<|ai<|al (ρ' :=[(5,_),(3,_),(16,_),(4,_),(2,_),(0,_)]) ⟨rfl,rfl,rfl,rfl,rfl,rfl,trivial⟩<| ?_
  have hfs:dT (eT lq (P.take (64*k))) ((P.drop (64*k)).take 64)=eT lq (P.take (64*(k+1))):=by
   rw[←o9 (by rw[List.length_take];omega) (by rw[List.length_take,List.length_drop];omega),←List.take_add]
   rfl
  rw[hfs]
  refine fz (k+1) A_y c_y ⟨rfl,rfl,rfl,rfl,rfl,trivial⟩ [0,1] rfl [1,2,3] rfl (by omega) (by omega)
 ·obtain rfl:k=K:=by omega
  have hfl:eT lq (P.take (64*k))=eT lq P:=by rw[List.take_of_length_le (by omega)]
  rw[hfl]at hh ⊢
  have hsha:bp l=eg (eT lq P):=by rw[bp,hP]
  have hdl:=lK hh
  generalize eT lq P=F at hh hsha hdl ⊢
  refine aU (fun m=>(m.ord 0 rfl).2.1) fun hA_b10=> ?_
  refine bK<|ao<|ao<|aC<|ae<|ah<|aj<| ?_
  refine hx (bh fY (fun g6=> ?_))
  refine ai<|ak (X' :=[_,_,_]) (S' :=[_,_,_]) (fun _ m=>m)<|ae<|ah<|ah<|aj<|hy (fun _=>ab rfl)<|ai<|ae<|aK<| ?_
  refine bd (fun w m=>m.bs 0 rfl (show _=aE g6 53 (aP ((eg F).take 0++List.replicate (32-0) 0))from rfl)) ?_
  refine dH (fun i=>32-i) (fun i=>[(7,.int .i64 (i:Nat))]) (fun i=>[aE g6 53 (aP ((eg F).take i++List.replicate (32-i) 0))]) (fun i=>[]) (fun i=>i≤32) 0 [(6,_),(16,_),(3,_),(5,_),(4,_),(2,_),(0,_)] ⟨rfl,rfl,rfl,rfl,rfl,rfl,rfl,trivial⟩ [0] rfl [] rfl (Nat.zero_le _) ⟨rfl,trivial⟩ (fun i hi32=> ?_)
  refine ah<|ah<|aj<|hy (fun _=>aa rfl)<|hy (fun _=>bC rfl rfl)<|ai<|al (ρ' :=[(27,_),(7,_),(6,_),(16,_),(3,_),(5,_),(4,_),(2,_),(0,_)]) ⟨rfl,rfl,rfl,rfl,rfl,rfl,rfl,rfl,rfl,trivial⟩<|ae<| ?_
  refine cj rfl (fun hi=> ?_) (fun hi=> ?_)
  ·refine aB<|ae<|ah<|aK<|ah<|aj<|hy (fun _=>aa rfl)<|hy (fun _=>aa rfl)<|hy (fun _=>jR rfl rfl (by omega) (by omega) (bx (by omega) (by omega)))<|hy (fun _=>aN rfl rfl Tryz.underlying215 br hA_b10 (show((i/4:Nat):Int)=_ by omega) (by omega))<|hy (fun m=>yV (aq rfl bG ((m.ord 1 rfl).cell (j:=i/4) (bj (by omega)))) ((rfl:_=Wd (qw (F.getD (i/4) 0) 0))))<|hy (fun _=>ab rfl)<|ai<|al (ρ' :=[(8,_),(27,_),(7,_),(6,_),(16,_),(3,_),(5,_),(4,_),(2,_),(0,_)]) ⟨rfl,rfl,rfl,rfl,rfl,rfl,rfl,rfl,rfl,rfl,trivial⟩<|ae<|ah<|ah<|aj<|hy (fun _=>aa rfl)<|hy (fun _=>yV (gh rfl rfl (by omega) (by omega)) ((show Value.int .i64 ((i:Int) % 4)= .int .i64 (((i % 4+0:Nat)):Int)from congrArg (Value.int .i64) (by omega))))<|hy (fun _=>ab rfl)<|ai<|al (ρ' :=[(9,_),(8,_),(27,_),(7,_),(6,_),(16,_),(3,_),(5,_),(4,_),(2,_),(0,_)]) ⟨rfl,rfl,rfl,rfl,rfl,rfl,rfl,rfl,rfl,rfl,rfl,trivial⟩<|ae<|aK<| ?_
   refine dH (fun j=>3-j) (fun j=>[(8,Wd (qw (F.getD (i/4) 0) j)),(9,.int .i64 ((i % 4+j:Nat):Int))]) (fun j=>[]) (fun j=>[]) (fun j=>i % 4+j≤3) 0 [(27,_),(7,_),(6,_),(16,_),(3,_),(5,_),(4,_),(2,_),(0,_)] ⟨rfl,rfl,rfl,rfl,rfl,rfl,rfl,rfl,rfl,trivial⟩ [] rfl [] rfl ((by omega)) ⟨rfl,rfl,trivial⟩ (fun j hj3=> ?_)
   refine ah<|ah<|aj<|hy (fun _=>aa rfl)<|hy (fun _=>bC rfl rfl)<|ai<|al (ρ' :=[(38,_),(8,_),(9,_),(27,_),(7,_),(6,_),(16,_),(3,_),(5,_),(4,_),(2,_),(0,_)]) ⟨rfl,rfl,rfl,rfl,rfl,rfl,rfl,rfl,rfl,rfl,rfl,rfl,trivial⟩<|ae<| ?_
   refine cj rfl (fun hj=> ?_) (fun hj=> ?_)
   ·refine aB<|ae<|ah<|aK<|aj<|hy (fun _=>aa rfl)<|hy (fun _=>yV (mV (b:=256) (by decide) rfl rfl) ((rfl:_=Wd (qw (F.getD (i/4) 0) (j+1)))))<|hy (fun _=>ab rfl)<|ai<|al (ρ' :=[(8,_),(38,_),(9,_),(27,_),(7,_),(6,_),(16,_),(3,_),(5,_),(4,_),(2,_),(0,_)]) ⟨rfl,rfl,rfl,rfl,rfl,rfl,rfl,rfl,rfl,rfl,rfl,rfl,trivial⟩<|aR<|ae<|aj<|hy (fun _=>aa rfl)<|hy (fun _=>yV (aL rfl rfl (bx (by omega) (by omega))) ((show Value.int .i64 (((i % 4+j:Nat):Int)+1)= .int .i64 ((i % 4+(j+1):Nat):Int)from congrArg (Value.int .i64) (by omega))))<|hy (fun _=>ab rfl)<|ai<|al (ρ' :=[(9,_),(8,_),(38,_),(27,_),(7,_),(6,_),(16,_),(3,_),(5,_),(4,_),(2,_),(0,_)]) ⟨rfl,rfl,rfl,rfl,rfl,rfl,rfl,rfl,rfl,rfl,rfl,rfl,trivial⟩<| ?_
    refine cJ (j+1) ⟨rfl,rfl,rfl,rfl,rfl,rfl,rfl,rfl,rfl,rfl,rfl,trivial⟩ [0,0,0] rfl [0,1,2] rfl (by omega) (by omega)
   ·have hj:j=3-i % 4:=by omega
    subst hj
    have hbyte:(eg F)[i]? =some (UInt8.ofNat (qw (F.getD (i/4) 0) (3-i % 4) % 256).toNat):=by
     rw[←DO _ (by omega),←qC F (i/4) (i % 4) (by omega) (by omega)]
     congr 1;omega
    have hri:List.replicate (32-i) (0:UInt8)=0::List.replicate (32-(i+1)) 0:=by rw[show 32-i=(32-(i+1))+1 by omega];rfl
    have hti:(eg F).take (i+1)=(eg F).take i++[UInt8.ofNat (qw (F.getD (i/4) 0) (3-i % 4) % 256).toNat]:=by
     rw[List.take_add_one,hbyte];rfl
    refine bK<|ao<|ao<|aC<|ae<|aj<|hy (fun _=>aa rfl)<|hy (fun _=>aa rfl)<|hy (fun _=>uw (b:=256) (by decide) rfl rfl)<|hy (fun _=>x4 rfl Tryz.underlying166 Tryz.underlying5)<|hy (fun _=>bR rfl rfl Tryz.underlying53 dB rfl (by omega))<| ?_
    refine cx (bU 0 rfl rfl rfl dB rfl (by rw[az,List.length_append,List.length_take,List.length_replicate];omega) ?_)
    refine ai<|al (ρ' :=[(38,_),(8,_),(9,_),(27,_),(7,_),(6,_),(16,_),(3,_),(5,_),(4,_),(2,_),(0,_)]) ⟨rfl,rfl,rfl,rfl,rfl,rfl,rfl,rfl,rfl,rfl,rfl,rfl,trivial⟩<|ak (X' :=[_,_,_]) (S' :=[_,_,_]) (fun _ m=>m)<|aR<|ae<|aj<|hy (fun _=>aa rfl)<|hy (fun _=>aL rfl rfl (bx (by omega) (by omega)))<|hy (fun _=>ab rfl)<|ai<|al (ρ' :=[(7,_),(38,_),(8,_),(9,_),(27,_),(6,_),(16,_),(3,_),(5,_),(4,_),(2,_),(0,_)]) ⟨rfl,rfl,rfl,rfl,rfl,rfl,rfl,rfl,rfl,rfl,rfl,rfl,trivial⟩<| ?_
    refine ak (fun w m=>m.bs 0 rfl (show _=aE g6 53 (aP ((eg F).take (i+1)++List.replicate (32-(i+1)) 0))from by rw[hri,Nat.zero_add,hti];exact congrArg (aE _ _) (zh (by rw[List.length_take];omega)))) ?_
    refine cJ (i+1) ⟨rfl,rfl,rfl,rfl,rfl,rfl,rfl,rfl,trivial⟩ [0,0,0] rfl [0,1,2] rfl (by omega) (by omega)
  ·obtain rfl:i=32:=by omega
   refine bd (fun w m=>m.bs 0 rfl (show _=aE g6 53 (aP (bp l))from by rw[List.take_of_length_le (by omega),←hsha];simp)) ?_
   refine bK<|ao<|ao<|aC<|ae<|ah<|aj<|hy (fun m=>yV (aX rfl cr bZ (by rw[az,bk]) ((m.aQ 0 rfl).aw)) ((rfl:_=Value.agg (aP (bp l)).toArray)))<| ?_
   refine cx (a8 2 rfl rfl rfl bZ (by rw[az,bk]) bg rfl ?_)
   refine ai<|al (ρ' :=[(27,_),(7,_),(6,_),(16,_),(3,_),(5,_),(4,_),(2,_),(0,_)]) ⟨rfl,rfl,rfl,rfl,rfl,rfl,rfl,rfl,rfl,trivial⟩<|ak (X' :=[_,_,_]) (S' :=[_,_,_]) (fun _ m=>m)<|ae<|aS<| ?_
   exact eJ trivial rfl rfl cr bZ (by rw[az,bk]) (fun m=>(m.aQ 0 rfl).aw) [] rfl [] rfl ⟨rfl,rfl,rfl⟩
end Go.Proofs.YtmibdabdlgmafaaGreatDoor
end
section
set_option maxRecDepth 20000
set_option maxHeartbeats 4000000
namespace Go.Proofs.YtmibdabdlgmafaaGreatDoor
open Go.Eng Go.Hx
theorem vh{nm:List UInt8}(hm:nm.length=32):b6 Tryz.prog 98 [.agg (aP nm).toArray] [] [] (fun v_ X_ S_=>v_=(.string (strOf (bO nm)))∧X_=[]∧S_=[]):=by
 have hhl:(ct nm).length=64:=by rw[dR,hm]
 refine aI (N:=6) Tryz.func98 rfl rfl (by simp) fun b=> ?_
 refine ah<|aj<| ?_
 refine hx (bu rfl (fun g1=> ?_))
 refine aG (fun w m=>m.bs 0 rfl (show _=aE g1 53 (aP nm)from congrArg (aE _ _) (aW _))) ?_
 refine hy (fun _=>ab rfl)<|ai<|ak (X' :=[_]) (S' :=[]) (fun _ m=>m)<|ae<|ah<|aj<|hy (fun m=>aX rfl cr bZ (by rw[az];exact hm) ((m.aQ 0 rfl).aw))<| ?_
 refine hx (au rfl Tryz.call111 (vm hm) [] rfl [] rfl ?_)
 rintro _ _ _ ⟨rfl,rfl,rfl⟩
 refine hy (fun _=>yV (iu rfl rfl (hC (a:=[116,47]) (b:=ct nm) (by simp[hhl]))) ((show Value.string (strOf [116,47]++strOf (ct nm))= .string (strOf (bO nm))from congrArg Value.string (cV _ _))))<|hy (fun _=>ab rfl)<|ai<|al (ρ' :=[(2,_),(1,_),(0,_)]) ⟨rfl,rfl,rfl,trivial⟩<|ak (X' :=[_]) (S' :=[]) (fun _ m=>m)<|ae<|aS<| ?_
 exact a6 trivial rfl rfl [] rfl [] rfl ⟨rfl,rfl,rfl⟩
theorem Fv{x:RX}{kk:Nat}{nm:List UInt8}(ok:zU x.d kk)(hkk:kk≤100000)(hm:nm.length=32)(hrd:(x.d.cB (bI nm)).length≤10000000):b6 Tryz.prog 74 [.agg x.cs.toArray,.agg (aP nm).toArray] [] [fN x,dG] (fun v_ X_ S_=>v_=(.tuple #[.string (strOf (x.d.tW nm)),.int .i64 (x.d.fV nm)])∧X_=[]∧S_=[]):=by
 have h32:(aP nm).length=32:=by rw[az,hm]
 refine aI (N:=34) Tryz.func74 rfl rfl (by simp) fun b=> ?_
 refine ah<|aj<| ?_
 refine hx (bu rfl (fun g2=> ?_))
 refine aG (fun w m=>m.bs 0 rfl (show _=aE g2 39 x.cs from congrArg (aE _ _) (aW _))) ?_
 refine hx (bu rfl (fun g3=> ?_))
 refine aG (fun w m=>m.bs 0 rfl (show _=aE g3 53 (aP nm)from congrArg (aE _ _) (aW _))) ?_
 refine hy (fun _=>ab rfl)<|hy (fun _=>ab rfl)<|ai<|ak (X' :=[_,_]) (S' :=[_,_]) (fun _ m=>m)<|ae<|ah<|cu [2,3] [(0,some 1),(1,some 0),(2,none),(3,none),(4,some 2),(5,some 2),(6,some 2),(7,some 2),(8,some 2)] (by kernel_rfl) (by kernel_rfl) rfl 99<|b5 (fun m=>yV (aX rfl cF bX rfl ((m.aQ 1 rfl).aw)) ((rfl:_=Value.agg x.cs.toArray)))<|b5 (fun m=>aX rfl cr bZ h32 ((m.aQ 0 rfl).aw))<| ?_
 refine di (au rfl Tryz.call29 (vk hm) [] rfl [] rfl ?_)
 rintro _ _ _ ⟨rfl,rfl,rfl⟩
 refine⟨(fun _=>wk [0,0] [0,1] rfl rfl), ?_⟩
 refine di (au rfl Tryz.call91 (zI ok hkk (p:=(bI nm))) [] rfl [0] rfl ?_)
 rintro _ _ _ ⟨rfl,rfl,rfl⟩
 refine⟨(fun _=>wk [0,0] [0,1] rfl rfl), ?_⟩
 refine an (aa rfl)<|an (aH rfl rfl)<|an (aH rfl rfl)<|an (ab rfl)<|an (ab rfl)<|bo<|al (ρ' :=[(7,_),(6,_),(5,_),(4,_),(3,_),(2,_),(0,_),(1,_)]) ⟨rfl,rfl,rfl,rfl,rfl,rfl,rfl,rfl,trivial⟩<|ak (X' :=[_,_]) (S' :=[_,_]) (fun _ m=>m)<|ae<|ah<|ah<|aj<|hy (fun _=>aa rfl)<|hy (fun _=>dF rfl rfl)<|ai<|al (ρ' :=[(18,_),(7,_),(6,_),(5,_),(4,_),(3,_),(2,_),(0,_),(1,_)]) ⟨rfl,rfl,rfl,rfl,rfl,rfl,rfl,rfl,rfl,trivial⟩<|ae<| ?_
 refine cj rfl (fun h=> ?_) (fun h=> ?_)
 ·rw[iT h,kd (by rw[iT h];exact h)]
  refine ah<|aj<|hy (fun _=>aa rfl)<|hy (fun _=>ab rfl)<|hy (fun _=>ab rfl)<|ai<|al (ρ' :=[(5,_),(4,_),(18,_),(7,_),(6,_),(3,_),(2,_),(0,_),(1,_)]) ⟨rfl,rfl,rfl,rfl,rfl,rfl,rfl,rfl,rfl,trivial⟩<|ae<|aS<|ay<| ?_
  exact c9 trivial rfl rfl rfl [] rfl [] rfl ⟨rfl,rfl,rfl⟩
 ·have h1:=Decidable.not_not.1 h
  have hbs:(bytesOf (strOf (x.d.cB (bI nm)))).length=(x.d.cB (bI nm)).length:=rfl
  have hol:=qx (f:=x.d.cB (bI nm)) (most:=4096) (by decide)
  refine aB<|ae<|ah<|aj<|hy (fun _=>aa rfl)<| ?_
  refine hx (CO rfl Tryz.underlying9 Tryz.underlying27 Tryz.underlying5 (show(x.d.cB (bI nm)).length≤maxLen by unfold maxLen;omega) (fun v22=> ?_))
  refine aA (fun m=>(m.own 0 rfl).slice) ?_
  rintro⟨A_b22,c_b22,rfl,hc_b22⟩
  refine aA (fun m=>(m.ord 0 rfl).2.1) fun hA_b22=> ?_
  refine aG (fun w m=>m.bs 0 rfl (show _=aF 5 1 (.slice A_b22 (x.d.cB (bI nm)).length c_b22) (x.d.cB (bI nm)).length (aP (x.d.cB (bI nm)))from rfl)) ?_
  refine aG (fun w m=>(m.perm (ar [0] _ [_] _ rfl)).freeze) ?_
  refine aG (fun w m=>m.fp 0 rfl .own) ?_
  refine hx (au rfl Tryz.call156 (DU hc_b22 rfl hrd (show(4096:Int)≤1000000 by decide) (f:=(x.d.cB (bI nm)))) [] rfl [0] rfl ?_)
  rintro _ _ _ ⟨A1,c1,rfl,rfl,rfl,hp⟩
  refine aA (fun m=>eb (m.rd 0 rfl)) ?_
  rintro⟨hl_q,hA_q⟩
  refine hy (fun _=>aa rfl)<|hy (fun _=>aH rfl rfl)<|hy (fun _=>aH rfl rfl)<|hy (fun _=>ab rfl)<|hy (fun _=>ab rfl)<|ai<|al (ρ' :=[(9,_),(8,_),(18,_),(7,_),(6,_),(5,_),(4,_),(3,_),(2,_),(0,_),(1,_)]) ⟨rfl,rfl,rfl,rfl,rfl,rfl,rfl,rfl,rfl,rfl,rfl,trivial⟩<|ak (X' :=[_,_]) (S' :=[_,_,_,_,_]) (fun _ m=>m)<|ae<|ah<|ah<|aj<|hy (fun _=>aa rfl)<|hy (fun _=>dF rfl rfl)<|ai<|al (ρ' :=[(27,_),(9,_),(8,_),(18,_),(7,_),(6,_),(5,_),(4,_),(3,_),(2,_),(0,_),(1,_)]) ⟨rfl,rfl,rfl,rfl,rfl,rfl,rfl,rfl,rfl,rfl,rfl,rfl,trivial⟩<|ae<| ?_
  refine cj rfl (fun h2=> ?_) (fun h2=> ?_)
  ·have hE:=l9 (d:=x.d) (nm:=nm) h1 (.inl h2)
   rw[hE,kd (by rw[hE];decide)]
   refine ah<|aj<|hy (fun _=>ab rfl)<|hy (fun _=>ab rfl)<|ai<|ae<|aS<|ay<| ?_
   exact c9 trivial rfl rfl rfl [] rfl [] rfl ⟨rfl,rfl,rfl⟩
  ·have h2:=Decidable.not_not.1 h2
   refine aB<|ae<|ah<|ah<|cu [1] [(0,some 0),(2,some 1),(1,none),(3,some 1)] (by kernel_rfl) (by kernel_rfl) rfl 99<|an (aa rfl)<|b5 (fun m=>aX rfl cr bZ h32 ((m.aQ 0 rfl).aw))<| ?_
   refine di (au rfl Tryz.call56 (iM (by omega)) [] rfl [0] rfl ?_)
   rintro _ _ _ ⟨rfl,rfl,rfl⟩
   refine⟨(fun _=>wk [0,0] [0,1,2,3,4] rfl rfl), ?_⟩
   refine an (rS rfl rfl (bk _) hm)<|bo<|al (ρ' :=[(31,_),(27,_),(9,_),(8,_),(18,_),(7,_),(6,_),(5,_),(4,_),(3,_),(2,_),(0,_),(1,_)]) ⟨rfl,rfl,rfl,rfl,rfl,rfl,rfl,rfl,rfl,rfl,rfl,rfl,rfl,trivial⟩<|ak (X' :=[_,_]) (S' :=[_,_,_,_,_]) (fun _ m=>m)<|ae<| ?_
   refine cj rfl (fun h3=> ?_) (fun h3=> ?_)
   ·have hE:=l9 (d:=x.d) (nm:=nm) h1 (.inr h3)
    rw[hE,kd (by rw[hE];decide)]
    refine ah<|aj<|hy (fun _=>ab rfl)<|hy (fun _=>ab rfl)<|ai<|ae<|aS<|ay<| ?_
    exact c9 trivial rfl rfl rfl [] rfl [] rfl ⟨rfl,rfl,rfl⟩
   ·have hE:=vE (d:=x.d) (nm:=nm) h1 (fun q=>q.elim (fun q=>q h2) h3)
    rw[hE,vX hE]
    refine aB<|ae<|ah<|aj<|hy (fun _=>aa rfl)<|hy (fun m=>mf rfl Tryz.underlying27 Tryz.underlying5 Tryz.underlying9 (m.rd 0 rfl))<|hy (fun _=>ab rfl)<|hy (fun _=>ab rfl)<|ai<|al (ρ' :=[(5,_),(4,_),(31,_),(27,_),(9,_),(8,_),(18,_),(7,_),(6,_),(3,_),(2,_),(0,_),(1,_)]) ⟨rfl,rfl,rfl,rfl,rfl,rfl,rfl,rfl,rfl,rfl,rfl,rfl,rfl,trivial⟩<|ae<|aS<| ?_
    exact c9 trivial rfl rfl rfl [] rfl [] rfl ⟨rfl,rfl,rfl⟩
theorem DR{d:RD}{bb:List UInt8}(h:d.bJ (bO (bp bb)) (b7 bb)≠0):d.iF bb=(d.write (bO (bp bb)) (b7 bb),d.bJ (bO (bp bb)) (b7 bb)):=by
 unfold RD.iF
 rw[gv]
 exact if_pos h
theorem CL{d:RD}{bb:List UInt8}(h:d.bJ (bO (bp bb)) (b7 bb)=0)(h2:(d.write (bO (bp bb)) (b7 bb)).da≠0):d.iF bb=((d.write (bO (bp bb)) (b7 bb)).sync,(d.write (bO (bp bb)) (b7 bb)).da):=by
 unfold RD.iF
 rw[gv,if_neg (by show¬d.bJ _ _≠0;rw[h];decide),gv]
 exact if_pos h2
theorem Ds{d:RD}{bb:List UInt8}(h:d.bJ (bO (bp bb)) (b7 bb)=0)(h2:(d.write (bO (bp bb)) (b7 bb)).da=0)(h3:(d.write (bO (bp bb)) (b7 bb)).sync.bV (bO (bp bb)) (bI (bp bb))≠0):d.iF bb=((d.write (bO (bp bb)) (b7 bb)).sync.rename (bO (bp bb)) (bI (bp bb)),(d.write (bO (bp bb)) (b7 bb)).sync.bV (bO (bp bb)) (bI (bp bb))):=by
 unfold RD.iF
 rw[gv,if_neg (by show¬d.bJ _ _≠0;rw[h];decide),gv,if_neg (by show¬(d.write _ _).da≠0;rw[h2];decide),gv]
 exact if_pos h3
theorem Du{d:RD}{bb:List UInt8}(h:d.bJ (bO (bp bb)) (b7 bb)=0)(h2:(d.write (bO (bp bb)) (b7 bb)).da=0)(h3:(d.write (bO (bp bb)) (b7 bb)).sync.bV (bO (bp bb)) (bI (bp bb))=0):d.iF bb=(((d.write (bO (bp bb)) (b7 bb)).sync.rename (bO (bp bb)) (bI (bp bb))).sync,((d.write (bO (bp bb)) (b7 bb)).sync.rename (bO (bp bb)) (bI (bp bb))).da):=by
 unfold RD.iF
 rw[gv,if_neg (by show¬d.bJ _ _≠0;rw[h];decide),gv,if_neg (by show¬(d.write _ _).da≠0;rw[h2];decide),gv,if_neg (by show¬((d.write _ _).sync).bV _ _≠0;rw[h3];decide),gv]
 by_cases h4:(kY (rj (bO (bp bb)) (bI (bp bb)) (kY (rF (bO (bp bb)) (b7 bb) d).1).1).1).2=0
 ·rw[if_neg (fun q=>q h4)]
  exact Prod.ext rfl h4.symm
 ·rw[if_pos h4];rfl
theorem ly{d:RD}{bb:List UInt8}(hn:¬4096<bb.length)(h6:d.fV (bp bb)≠6)(h0:d.fV (bp bb)≠0){d' :RD}{e:Int}(h:d.iF bb=(d',e)):d.put bb=(d',if e=0 then bp bb else dI,e):=by
 unfold RD.put;rw[if_neg hn,if_neg h6,if_neg h0,h]
theorem EU{x:RX}{kk:Nat}{A:Option Addr}{n c:Nat}{bb:List UInt8}(hD:x.d.ok kk)(hkk:kk≤90000)(hc:n≤c)(hl:bb.length=n)(hn:n≤100000):b6 Tryz.prog 26 [.agg x.cs.toArray,.slice A n c] [] [fN x,cn 1 A n (aP bb),dG] (fun v_ X_ S_=>∃y,v_=(.tuple #[.agg y.cs.toArray,.agg (aP (x.d.put bb).2.1).toArray,.int .i64 (x.d.put bb).2.2])∧X_=[]∧S_=[fN y]∧(y.d=(x.d.put bb).1)):=by
 have hm:=bk bb
 have h32:(aP (bp bb)).length=32:=by rw[az,hm]
 have z32:(aP dI).length=32:=by rw[az,eF]
 obtain⟨s0,s1⟩:=oS bb
 have hrd:(x.d.cB (bI (bp bb))).length≤10000000:=by
  obtain⟨st,hst⟩:=hD
  have:=hst.x3 (bI (bp bb))
  omega
 have ok1:=hD.write (p:=bO (bp bb)) (l:=b7 bb) (by omega)
 have okr:=hD.Es
 have okr1:=ok1.Es
 have okr2:=ok1.sync.Es
 have okr3:=ok1.sync.rename (a:=bO (bp bb)) (c:=bI (bp bb))|>.Es
 refine aI (N:=74) Tryz.func26 rfl rfl (by simp) fun b=> ?_
 refine aU (fun m=>eb (m.rd 1 rfl)) ?_
 rintro⟨hl_rb,hA_rb⟩
 refine ah<|aj<| ?_
 refine hx (bu rfl (fun g2=> ?_))
 refine aG (fun w m=>m.bs 0 rfl (show _=aE g2 39 x.cs from congrArg (aE _ _) (aW _))) ?_
 refine hx (bh tp (fun g4=> ?_))
 refine hx (bh fY (fun g5=> ?_))
 refine hy (fun _=>ab rfl)<|ai<|ak (X' :=[_,_,_]) (S' :=[_,_,_]) (fun _ m=>m)<|ae<|ah<|ah<|aj<|hy (fun _=>aa rfl)<|hy (fun _=>aT rfl Tryz.underlying27)<|hy (fun _=>cy rfl rfl)<|ai<|al (ρ' :=[(12,_),(6,_),(5,_),(4,_),(2,_),(0,_),(1,_)]) ⟨rfl,rfl,rfl,rfl,rfl,rfl,rfl,trivial⟩<|ae<| ?_
 refine cj rfl (fun hbig=> ?_) (fun hbig=> ?_)
 ·have e0:x.d.put bb=(x.d,dI,3):=vS (by omega)
  rw[e0]
  refine ah<|aj<|hy (fun m=>yV (aX rfl cF bX rfl ((m.aQ 2 rfl).aw)) ((rfl:_=Value.agg x.cs.toArray)))<|hy (fun _=>yV (dK fY rfl (by kernel_rfl)) ((rfl:_=Value.agg (aP dI).toArray)))<| ?_
  refine cx (a8 1 rfl rfl rfl bX rfl cQ rfl ?_)
  refine cx (a8 1 rfl rfl rfl bZ z32 bg rfl ?_)
  refine hy (fun _=>ab rfl)<|ai<|al (ρ' :=[(6,_),(12,_),(5,_),(4,_),(2,_),(0,_),(1,_)]) ⟨rfl,rfl,rfl,rfl,rfl,rfl,rfl,trivial⟩<|ak (X' :=[_,_,_]) (S' :=[_,_,_]) (fun _ m=>m)<|ae<|aS<|ay<| ?_
  exact eL trivial rfl rfl rfl rfl cF bX rfl (fun m=>(m.aQ 1 rfl).aw) cr bZ z32 (fun m=>(m.aQ 0 rfl).aw) [] rfl [0] rfl ⟨x,rfl,rfl,rfl,rfl⟩
 ·have hbg:¬4096<bb.length:=by omega
  refine aB<|ae<|ah<|aj<|hy (fun _=>aa rfl)<| ?_
  refine hx (au rfl Tryz.call56 (iM (by omega)) [] rfl [1] rfl ?_)
  rintro _ _ _ ⟨rfl,rfl,rfl⟩
  refine hx (bh fY (fun g7=> ?_))
  refine cx (a8 0 rfl rfl rfl bZ h32 bg rfl ?_)
  refine ai<|al (ρ' :=[(7,_),(12,_),(6,_),(5,_),(4,_),(2,_),(0,_),(1,_)]) ⟨rfl,rfl,rfl,rfl,rfl,rfl,rfl,rfl,trivial⟩<|ak (X' :=[_,_,_,_]) (S' :=[_,_,_]) (fun _ m=>m)<|ae<|ah<|aj<|hy (fun m=>yV (aX rfl cF bX rfl ((m.aQ 3 rfl).aw)) ((rfl:_=Value.agg x.cs.toArray)))<|hy (fun m=>aX rfl cr bZ h32 ((m.aQ 0 rfl).aw))<| ?_
  refine hx (au rfl Tryz.call74 (Fv okr (by omega) hm hrd) [] rfl [0,2] rfl ?_)
  rintro _ _ _ ⟨rfl,rfl,rfl⟩
  refine hy (fun _=>aa rfl)<|hy (fun _=>aH rfl rfl)<|hy (fun _=>aH rfl rfl)<|hy (fun _=>ab rfl)<|hy (fun _=>ab rfl)<|ai<|al (ρ' :=[(9,_),(7,_),(12,_),(6,_),(5,_),(4,_),(2,_),(0,_),(1,_)]) ⟨rfl,rfl,rfl,rfl,rfl,rfl,rfl,rfl,rfl,trivial⟩<|ak (X' :=[_,_,_,_]) (S' :=[_,_,_]) (fun _ m=>m)<|ae<|ah<|ah<|aj<|hy (fun _=>aa rfl)<|hy (fun _=>cm rfl rfl)<|ai<|al (ρ' :=[(24,_),(9,_),(7,_),(12,_),(6,_),(5,_),(4,_),(2,_),(0,_),(1,_)]) ⟨rfl,rfl,rfl,rfl,rfl,rfl,rfl,rfl,rfl,rfl,trivial⟩<|ae<| ?_
  refine cj rfl (fun h0=> ?_) (fun h0=> ?_)
  ·have e0:x.d.put bb=(x.d,bp bb,0):=by unfold RD.put;rw[if_neg hbg,if_neg (by rw[h0];decide),if_pos h0]
   rw[e0]
   refine ah<|Ca [0,1,2,3] (.alt 0 (.alt 1 (.alt 2 (.alt 3 (.take 4 4<|.done) (.stop)) (.stop)) (.alt 2 (.alt 1 (.alt 3 (.take 4 4<|.done) (.stop)) (.stop)) (.stop))) (.alt 1 (.alt 0 (.alt 2 (.alt 3 (.take 4 4<|.done) (.stop)) (.stop)) (.stop)) (.stop))) (by kernel_rfl) (by kernel_rfl) rfl 1<| ?_
   refine rD ?_ ?_
   ·refine zW<|oC (fun m=>yV (aX rfl cF bX rfl ((m.aQ 3 rfl).aw)) ((rfl:_=Value.agg x.cs.toArray)))<|And.intro (fun _=>wk [0,0,0,0] [0,1,2] rfl rfl)<| ?_
    refine rD ?_ ?_
    ·refine zW<|oC (fun m=>aX rfl cr bZ h32 ((m.aQ 0 rfl).aw))<|And.intro (fun h=>absurd h (by decide))<| ?_
     refine nW (a8 2 rfl rfl rfl bX rfl cQ rfl ⟨(fun h=>absurd h (by decide)), ?_⟩)
     refine nW (a8 2 rfl rfl rfl bZ h32 bg rfl ⟨(fun h=>absurd h (by decide)), ?_⟩)
     refine wu (ab rfl)<|qv<|al (ρ' :=[(6,_),(24,_),(9,_),(7,_),(12,_),(5,_),(4,_),(2,_),(0,_),(1,_)]) ⟨rfl,rfl,rfl,rfl,rfl,rfl,rfl,rfl,rfl,rfl,trivial⟩<|ak (X' :=[_,_,_,_]) (S' :=[_,_,_]) (fun _ m=>m)<|ae<|aS<|ay<| ?_
     exact eL trivial rfl rfl rfl rfl cF bX rfl (fun m=>(m.aQ 1 rfl).aw) cr bZ h32 (fun m=>(m.aQ 0 rfl).aw) [] rfl [0] rfl ⟨x,rfl,rfl,rfl,rfl⟩
    ·refine nW (a8 2 rfl rfl rfl bX rfl cQ rfl ⟨(fun h=>absurd h (by decide)), ?_⟩)
     refine zW<|oC (fun m=>aX rfl cr bZ h32 ((m.aQ 1 rfl).aw))<|And.intro (fun h=>absurd h (by decide))<| ?_
     refine nW (a8 2 rfl rfl rfl bZ h32 bg rfl ⟨(fun h=>absurd h (by decide)), ?_⟩)
     refine wu (ab rfl)<|qv<|al (ρ' :=[(6,_),(24,_),(9,_),(7,_),(12,_),(5,_),(4,_),(2,_),(0,_),(1,_)]) ⟨rfl,rfl,rfl,rfl,rfl,rfl,rfl,rfl,rfl,rfl,trivial⟩<|ak (X' :=[_,_,_,_]) (S' :=[_,_,_]) (fun _ m=>m)<|ae<|aS<|ay<| ?_
     exact eL trivial rfl rfl rfl rfl cF bX rfl (fun m=>(m.aQ 1 rfl).aw) cr bZ h32 (fun m=>(m.aQ 0 rfl).aw) [] rfl [0] rfl ⟨x,rfl,rfl,rfl,rfl⟩
   ·refine zW<|oC (fun m=>aX rfl cr bZ h32 ((m.aQ 0 rfl).aw))<|And.intro (fun _=>wk [0,0,0,0] [0,1,2] rfl rfl)<|zW<|oC (fun m=>yV (aX rfl cF bX rfl ((m.aQ 3 rfl).aw)) ((rfl:_=Value.agg x.cs.toArray)))<|And.intro (fun h=>absurd h (by decide))<| ?_
    refine nW (a8 2 rfl rfl rfl bX rfl cQ rfl ⟨(fun h=>absurd h (by decide)), ?_⟩)
    refine nW (a8 2 rfl rfl rfl bZ h32 bg rfl ⟨(fun h=>absurd h (by decide)), ?_⟩)
    refine wu (ab rfl)<|qv<|al (ρ' :=[(6,_),(24,_),(9,_),(7,_),(12,_),(5,_),(4,_),(2,_),(0,_),(1,_)]) ⟨rfl,rfl,rfl,rfl,rfl,rfl,rfl,rfl,rfl,rfl,trivial⟩<|ak (X' :=[_,_,_,_]) (S' :=[_,_,_]) (fun _ m=>m)<|ae<|aS<|ay<| ?_
    exact eL trivial rfl rfl rfl rfl cF bX rfl (fun m=>(m.aQ 1 rfl).aw) cr bZ h32 (fun m=>(m.aQ 0 rfl).aw) [] rfl [0] rfl ⟨x,rfl,rfl,rfl,rfl⟩
  ·refine aB<|ae<|ah<|ah<|aj<|hy (fun _=>aa rfl)<|hy (fun _=>cm rfl rfl)<|ai<|al (ρ' :=[(28,_),(24,_),(9,_),(7,_),(12,_),(6,_),(5,_),(4,_),(2,_),(0,_),(1,_)]) ⟨rfl,rfl,rfl,rfl,rfl,rfl,rfl,rfl,rfl,rfl,rfl,trivial⟩<|ae<| ?_
   refine cj rfl (fun h6=> ?_) (fun h6=> ?_)
   ·have e0:x.d.put bb=(x.d,dI,6):=by unfold RD.put;rw[if_neg hbg,if_pos h6]
    rw[e0,h6]
    refine ah<|aj<|hy (fun m=>yV (aX rfl cF bX rfl ((m.aQ 3 rfl).aw)) ((rfl:_=Value.agg x.cs.toArray)))<|hy (fun _=>yV (dK fY rfl (by kernel_rfl)) ((rfl:_=Value.agg (aP dI).toArray)))<|hy (fun _=>aa rfl)<| ?_
    refine cx (a8 2 rfl rfl rfl bX rfl cQ rfl ?_)
    refine cx (a8 2 rfl rfl rfl bZ z32 bg rfl ?_)
    refine hy (fun _=>ab rfl)<|ai<|al (ρ' :=[(6,_),(28,_),(24,_),(9,_),(7,_),(12,_),(5,_),(4,_),(2,_),(0,_),(1,_)]) ⟨rfl,rfl,rfl,rfl,rfl,rfl,rfl,rfl,rfl,rfl,rfl,trivial⟩<|ak (X' :=[_,_,_,_]) (S' :=[_,_,_]) (fun _ m=>m)<|ae<|aS<|ay<| ?_
    exact eL trivial rfl rfl rfl rfl cF bX rfl (fun m=>(m.aQ 1 rfl).aw) cr bZ z32 (fun m=>(m.aQ 0 rfl).aw) [] rfl [0] rfl ⟨x,rfl,rfl,rfl,rfl⟩
   ·refine aB<|ae<|ah<|cu [2,4,5,6,10] [(0,some 3),(1,some 0),(3,some 1),(2,none),(4,none),(5,none),(6,none),(7,some 4),(8,some 4),(9,some 5),(10,none),(11,some 5)] (by kernel_rfl) (by kernel_rfl) rfl 4<|b5 (fun m=>yV (aX rfl cF bX rfl ((m.aQ 3 rfl).aw)) ((rfl:_=Value.agg x.cs.toArray)))<|b5 (fun m=>aX rfl cr bZ h32 ((m.aQ 0 rfl).aw))<|an (aa rfl)<| ?_
    refine di (au rfl Tryz.call98 (vh hm) [] rfl [] rfl ?_)
    rintro _ _ _ ⟨rfl,rfl,rfl⟩
    refine⟨(fun _=>wk [0,0,0,0] [0,1,2] rfl rfl), ?_⟩
    refine di (au rfl Tryz.call81 (CS hc (by omega) hl) [] rfl [1] rfl ?_)
    rintro _ _ _ ⟨v,rfl,rfl,rfl⟩
    refine⟨(fun _=>wk [1,1,1,1] [0,1,2] rfl rfl), ?_⟩
    refine b4 (fun m=>(m.own 0 rfl).slice) ?_
    rintro⟨A_x,c_x,rfl,hc_x⟩
    refine b4 (fun m=>(m.ord 0 rfl).2.1) fun hA_x=> ?_
    refine Am (fun _=>wk [1,1,1,1] [0,1,2] rfl rfl) (fun m=>mf rfl Tryz.underlying27 Tryz.underlying5 Tryz.underlying9 (m.ord 0 rfl))<| ?_
    refine di (au rfl Tryz.call31 (Ay okr (by omega) (by rw[kL hm];decide) (by omega) (p:=(bO (bp bb))) (bb:=(b7 bb))) [] rfl [0] rfl ?_)
    rintro _ _ _ ⟨y,rfl,rfl,rfl,hd1⟩
    refine⟨(fun _=>wk [1,1,1,1] [1,2,3] rfl rfl), ?_⟩
    refine an (aa rfl)<|an (aH rfl rfl)<|an (aH rfl rfl)<| ?_
    refine fS (a8 4 rfl rfl rfl bX rfl cQ rfl ⟨(fun h=>absurd h (by decide)), ?_⟩)
    refine an (ab rfl)<|bo<|al (ρ' :=[(9,_),(28,_),(24,_),(7,_),(12,_),(6,_),(5,_),(4,_),(2,_),(0,_),(1,_)]) ⟨rfl,rfl,rfl,rfl,rfl,rfl,rfl,rfl,rfl,rfl,rfl,trivial⟩<|ak (X' :=[_,_,_,_,_]) (S' :=[_,_,_,_]) (fun _ m=>m)<|ae<|ah<|ah<|aj<|hy (fun _=>aa rfl)<|hy (fun _=>cm rfl rfl)<|ai<|al (ρ' :=[(43,_),(9,_),(28,_),(24,_),(7,_),(12,_),(6,_),(5,_),(4,_),(2,_),(0,_),(1,_)]) ⟨rfl,rfl,rfl,rfl,rfl,rfl,rfl,rfl,rfl,rfl,rfl,rfl,trivial⟩<|ae<| ?_
    refine cj rfl (fun h1=> ?_) (fun h1=> ?_)
    ·refine aj<|hy (fun m=>yV (aX rfl cF bX rfl ((m.aQ 0 rfl).aw)) ((rfl:_=Value.agg y.cs.toArray)))<| ?_
     refine hx (au rfl Tryz.call99 (y6 (by rw[hd1];exact okr1)) [] rfl [0] rfl ?_)
     rintro _ _ _ ⟨y2,rfl,rfl,rfl,hd2⟩
     refine hy (fun _=>aa rfl)<|hy (fun _=>aH rfl rfl)<|hy (fun _=>aH rfl rfl)<| ?_
     refine cx (a8 0 rfl rfl rfl bX rfl cQ rfl ?_)
     refine hy (fun _=>ab rfl)<|ai<|al (ρ' :=[(9,_),(43,_),(28,_),(24,_),(7,_),(12,_),(6,_),(5,_),(4,_),(2,_),(0,_),(1,_)]) ⟨rfl,rfl,rfl,rfl,rfl,rfl,rfl,rfl,rfl,rfl,rfl,rfl,trivial⟩<|ak (X' :=[_,_,_,_,_]) (S' :=[_,_,_,_,_]) (fun _ m=>m)<|ae<|ah<|ah<|aj<|hy (fun _=>aa rfl)<|hy (fun _=>cm rfl rfl)<|ai<|al (ρ' :=[(50,_),(9,_),(43,_),(28,_),(24,_),(7,_),(12,_),(6,_),(5,_),(4,_),(2,_),(0,_),(1,_)]) ⟨rfl,rfl,rfl,rfl,rfl,rfl,rfl,rfl,rfl,rfl,rfl,rfl,rfl,trivial⟩<|ae<| ?_
     refine cj rfl (fun h2=> ?_) (fun h2=> ?_)
     ·refine cu [2,4,5,9] [(0,some 2),(1,some 0),(3,some 1),(2,none),(4,none),(5,none),(6,some 3),(7,some 3),(8,some 4),(9,none),(10,some 4)] (by kernel_rfl) (by kernel_rfl) rfl 3<|b5 (fun m=>yV (aX rfl cF bX rfl ((m.aQ 0 rfl).aw)) ((rfl:_=Value.agg y2.cs.toArray)))<|b5 (fun m=>aX rfl cr bZ h32 ((m.aQ 2 rfl).aw))<|b5 (fun m=>aX rfl cr bZ h32 ((m.aQ 2 rfl).aw))<| ?_
      refine di (au rfl Tryz.call98 (vh hm) [] rfl [] rfl ?_)
      rintro _ _ _ ⟨rfl,rfl,rfl⟩
      refine⟨(fun _=>wk [0,0,0,0,0] [0,1,2,3,4] rfl rfl), ?_⟩
      refine di (au rfl Tryz.call29 (vk hm) [] rfl [] rfl ?_)
      rintro _ _ _ ⟨rfl,rfl,rfl⟩
      refine⟨(fun _=>wk [0,0,0,0,0] [0,1,2,3,4] rfl rfl), ?_⟩
      refine di (au rfl Tryz.call100 (xH (by rw[hd2,hd1];exact okr2) (show kk+1≤100000 by omega) (by rw[kH hm];decide) (a:=(bO (bp bb))) (c:=(bI (bp bb)))) [] rfl [0] rfl ?_)
      rintro _ _ _ ⟨y3,rfl,rfl,rfl,hd3⟩
      refine⟨(fun _=>wk [0,0,0,0,0] [1,2,3,4,5] rfl rfl), ?_⟩
      refine an (aa rfl)<|an (aH rfl rfl)<|an (aH rfl rfl)<| ?_
      refine fS (a8 0 rfl rfl rfl bX rfl cQ rfl ⟨(fun h=>absurd h (by decide)), ?_⟩)
      refine an (ab rfl)<|bo<|al (ρ' :=[(9,_),(50,_),(43,_),(28,_),(24,_),(7,_),(12,_),(6,_),(5,_),(4,_),(2,_),(0,_),(1,_)]) ⟨rfl,rfl,rfl,rfl,rfl,rfl,rfl,rfl,rfl,rfl,rfl,rfl,rfl,trivial⟩<|ak (X' :=[_,_,_,_,_]) (S' :=[_,_,_,_,_,_]) (fun _ m=>m)<|ae<|ah<|ah<|aj<|hy (fun _=>aa rfl)<|hy (fun _=>cm rfl rfl)<|ai<|al (ρ' :=[(61,_),(9,_),(50,_),(43,_),(28,_),(24,_),(7,_),(12,_),(6,_),(5,_),(4,_),(2,_),(0,_),(1,_)]) ⟨rfl,rfl,rfl,rfl,rfl,rfl,rfl,rfl,rfl,rfl,rfl,rfl,rfl,rfl,trivial⟩<|ae<| ?_
      refine cj rfl (fun h3=> ?_) (fun h3=> ?_)
      ·have hP:=Du (d:=x.d) (bb:=bb) h1 (by rw[←hd1];exact h2) (by rw[←hd1,←hd2];exact h3)
       rw[←hd1,←hd2,←hd3]at hP
       have e0:=ly hbg h6 h0 hP
       refine aj<|hy (fun m=>yV (aX rfl cF bX rfl ((m.aQ 0 rfl).aw)) ((rfl:_=Value.agg y3.cs.toArray)))<| ?_
       refine hx (au rfl Tryz.call99 (y6 (by rw[hd3,hd2,hd1];exact okr3)) [] rfl [0] rfl ?_)
       rintro _ _ _ ⟨y4,rfl,rfl,rfl,hd4⟩
       refine hy (fun _=>aa rfl)<|hy (fun _=>aH rfl rfl)<|hy (fun _=>aH rfl rfl)<| ?_
       refine cx (a8 0 rfl rfl rfl bX rfl cQ rfl ?_)
       refine hy (fun _=>ab rfl)<|ai<|al (ρ' :=[(9,_),(61,_),(50,_),(43,_),(28,_),(24,_),(7,_),(12,_),(6,_),(5,_),(4,_),(2,_),(0,_),(1,_)]) ⟨rfl,rfl,rfl,rfl,rfl,rfl,rfl,rfl,rfl,rfl,rfl,rfl,rfl,rfl,trivial⟩<|ak (X' :=[_,_,_,_,_]) (S' :=[_,_,_,_,_,_,_]) (fun _ m=>m)<|ae<|ah<|ah<|aj<|hy (fun _=>aa rfl)<|hy (fun _=>dF rfl rfl)<|ai<|al (ρ' :=[(68,_),(9,_),(61,_),(50,_),(43,_),(28,_),(24,_),(7,_),(12,_),(6,_),(5,_),(4,_),(2,_),(0,_),(1,_)]) ⟨rfl,rfl,rfl,rfl,rfl,rfl,rfl,rfl,rfl,rfl,rfl,rfl,rfl,rfl,rfl,trivial⟩<|ae<| ?_
       rw[←hd4]at e0
       refine cj rfl (fun h4=> ?_) (fun h4=> ?_)
       ·rw[if_neg h4]at e0
        rw[e0]
        refine ah<|aj<|hy (fun m=>yV (aX rfl cF bX rfl ((m.aQ 0 rfl).aw)) ((rfl:_=Value.agg y4.cs.toArray)))<|hy (fun _=>yV (dK fY rfl (by kernel_rfl)) ((rfl:_=Value.agg (aP dI).toArray)))<|hy (fun _=>aa rfl)<| ?_
        refine cx (a8 4 rfl rfl rfl bX rfl cQ rfl ?_)
        refine cx (a8 4 rfl rfl rfl bZ z32 bg rfl ?_)
        refine hy (fun _=>ab rfl)<|ai<|al (ρ' :=[(6,_),(68,_),(9,_),(61,_),(50,_),(43,_),(28,_),(24,_),(7,_),(12,_),(5,_),(4,_),(2,_),(0,_),(1,_)]) ⟨rfl,rfl,rfl,rfl,rfl,rfl,rfl,rfl,rfl,rfl,rfl,rfl,rfl,rfl,rfl,trivial⟩<|ak (X' :=[_,_,_,_,_]) (S' :=[_,_,_,_,_,_,_]) (fun _ m=>m)<|ae<|aS<|ay<| ?_
        exact eL trivial rfl rfl rfl rfl cF bX rfl (fun m=>(m.aQ 1 rfl).aw) cr bZ z32 (fun m=>(m.aQ 0 rfl).aw) [] rfl [0] rfl ⟨y4,rfl,rfl,rfl,rfl⟩
       ·have h4:=Decidable.not_not.1 h4
        rw[if_pos h4,h4]at e0
        rw[e0]
        refine aB<|ae<|ah<|Ca [0,1,2,3] (.alt 0 (.alt 1 (.alt 2 (.alt 3 (.take 4 4<|.done) (.stop)) (.stop)) (.alt 2 (.alt 1 (.alt 3 (.take 4 4<|.done) (.stop)) (.stop)) (.stop))) (.alt 1 (.alt 0 (.alt 2 (.alt 3 (.take 4 4<|.done) (.stop)) (.stop)) (.stop)) (.stop))) (by kernel_rfl) (by kernel_rfl) rfl 1<| ?_
        refine rD ?_ ?_
        ·refine zW<|oC (fun m=>yV (aX rfl cF bX rfl ((m.aQ 0 rfl).aw)) ((rfl:_=Value.agg y4.cs.toArray)))<|And.intro (fun _=>wk [0,0,0,0,0] [0,1,2,3,4,5,6] rfl rfl)<| ?_
         refine rD ?_ ?_
         ·refine zW<|oC (fun m=>aX rfl cr bZ h32 ((m.aQ 2 rfl).aw))<|And.intro (fun h=>absurd h (by decide))<| ?_
          refine nW (a8 4 rfl rfl rfl bX rfl cQ rfl ⟨(fun h=>absurd h (by decide)), ?_⟩)
          refine nW (a8 4 rfl rfl rfl bZ h32 bg rfl ⟨(fun h=>absurd h (by decide)), ?_⟩)
          refine wu (ab rfl)<|qv<|al (ρ' :=[(6,_),(68,_),(9,_),(61,_),(50,_),(43,_),(28,_),(24,_),(7,_),(12,_),(5,_),(4,_),(2,_),(0,_),(1,_)]) ⟨rfl,rfl,rfl,rfl,rfl,rfl,rfl,rfl,rfl,rfl,rfl,rfl,rfl,rfl,rfl,trivial⟩<|ak (X' :=[_,_,_,_,_]) (S' :=[_,_,_,_,_,_,_]) (fun _ m=>m)<|ae<|aS<| ?_
          exact eL trivial rfl rfl rfl rfl cF bX rfl (fun m=>(m.aQ 1 rfl).aw) cr bZ h32 (fun m=>(m.aQ 0 rfl).aw) [] rfl [0] rfl ⟨y4,rfl,rfl,rfl,rfl⟩
         ·refine nW (a8 4 rfl rfl rfl bX rfl cQ rfl ⟨(fun h=>absurd h (by decide)), ?_⟩)
          refine zW<|oC (fun m=>aX rfl cr bZ h32 ((m.aQ 3 rfl).aw))<|And.intro (fun h=>absurd h (by decide))<| ?_
          refine nW (a8 4 rfl rfl rfl bZ h32 bg rfl ⟨(fun h=>absurd h (by decide)), ?_⟩)
          refine wu (ab rfl)<|qv<|al (ρ' :=[(6,_),(68,_),(9,_),(61,_),(50,_),(43,_),(28,_),(24,_),(7,_),(12,_),(5,_),(4,_),(2,_),(0,_),(1,_)]) ⟨rfl,rfl,rfl,rfl,rfl,rfl,rfl,rfl,rfl,rfl,rfl,rfl,rfl,rfl,rfl,trivial⟩<|ak (X' :=[_,_,_,_,_]) (S' :=[_,_,_,_,_,_,_]) (fun _ m=>m)<|ae<|aS<| ?_
          exact eL trivial rfl rfl rfl rfl cF bX rfl (fun m=>(m.aQ 1 rfl).aw) cr bZ h32 (fun m=>(m.aQ 0 rfl).aw) [] rfl [0] rfl ⟨y4,rfl,rfl,rfl,rfl⟩
        ·refine zW<|oC (fun m=>aX rfl cr bZ h32 ((m.aQ 2 rfl).aw))<|And.intro (fun _=>wk [0,0,0,0,0] [0,1,2,3,4,5,6] rfl rfl)<|zW<|oC (fun m=>yV (aX rfl cF bX rfl ((m.aQ 0 rfl).aw)) ((rfl:_=Value.agg y4.cs.toArray)))<|And.intro (fun h=>absurd h (by decide))<| ?_
         refine nW (a8 4 rfl rfl rfl bX rfl cQ rfl ⟨(fun h=>absurd h (by decide)), ?_⟩)
         refine nW (a8 4 rfl rfl rfl bZ h32 bg rfl ⟨(fun h=>absurd h (by decide)), ?_⟩)
         refine wu (ab rfl)<|qv<|al (ρ' :=[(6,_),(68,_),(9,_),(61,_),(50,_),(43,_),(28,_),(24,_),(7,_),(12,_),(5,_),(4,_),(2,_),(0,_),(1,_)]) ⟨rfl,rfl,rfl,rfl,rfl,rfl,rfl,rfl,rfl,rfl,rfl,rfl,rfl,rfl,rfl,trivial⟩<|ak (X' :=[_,_,_,_,_]) (S' :=[_,_,_,_,_,_,_]) (fun _ m=>m)<|ae<|aS<| ?_
         exact eL trivial rfl rfl rfl rfl cF bX rfl (fun m=>(m.aQ 1 rfl).aw) cr bZ h32 (fun m=>(m.aQ 0 rfl).aw) [] rfl [0] rfl ⟨y4,rfl,rfl,rfl,rfl⟩
      ·have hP:=Ds (d:=x.d) (bb:=bb) h1 (by rw[←hd1];exact h2) (by rw[←hd1,←hd2];exact h3)
       rw[←hd1,←hd2,←hd3]at hP
       have e0:=ly hbg h6 h0 hP
       rw[if_neg h3]at e0
       rw[e0]
       refine aB<|ae<|ah<|ah<|aj<|hy (fun _=>aa rfl)<|hy (fun _=>dF rfl rfl)<|ai<|al (ρ' :=[(68,_),(61,_),(9,_),(50,_),(43,_),(28,_),(24,_),(7,_),(12,_),(6,_),(5,_),(4,_),(2,_),(0,_),(1,_)]) ⟨rfl,rfl,rfl,rfl,rfl,rfl,rfl,rfl,rfl,rfl,rfl,rfl,rfl,rfl,rfl,trivial⟩<|ae<| ?_
       refine gS rfl ((decide_eq_true h3)) ?_
       refine ah<|aj<|hy (fun m=>yV (aX rfl cF bX rfl ((m.aQ 0 rfl).aw)) ((rfl:_=Value.agg y3.cs.toArray)))<|hy (fun _=>yV (dK fY rfl (by kernel_rfl)) ((rfl:_=Value.agg (aP dI).toArray)))<|hy (fun _=>aa rfl)<| ?_
       refine cx (a8 4 rfl rfl rfl bX rfl cQ rfl ?_)
       refine cx (a8 4 rfl rfl rfl bZ z32 bg rfl ?_)
       refine hy (fun _=>ab rfl)<|ai<|al (ρ' :=[(6,_),(68,_),(61,_),(9,_),(50,_),(43,_),(28,_),(24,_),(7,_),(12,_),(5,_),(4,_),(2,_),(0,_),(1,_)]) ⟨rfl,rfl,rfl,rfl,rfl,rfl,rfl,rfl,rfl,rfl,rfl,rfl,rfl,rfl,rfl,trivial⟩<|ak (X' :=[_,_,_,_,_]) (S' :=[_,_,_,_,_,_]) (fun _ m=>m)<|ae<|aS<|ay<| ?_
       exact eL trivial rfl rfl rfl rfl cF bX rfl (fun m=>(m.aQ 1 rfl).aw) cr bZ z32 (fun m=>(m.aQ 0 rfl).aw) [] rfl [0] rfl ⟨y3,rfl,rfl,rfl,rfl⟩
     ·have hP:=CL (d:=x.d) (bb:=bb) h1 (by rw[←hd1];exact h2)
      rw[←hd1,←hd2]at hP
      have e0:=ly hbg h6 h0 hP
      rw[if_neg h2]at e0
      rw[e0]
      refine aB<|ae<|ah<|ah<|aj<|hy (fun _=>aa rfl)<|hy (fun _=>cm rfl rfl)<|ai<|al (ρ' :=[(61,_),(50,_),(9,_),(43,_),(28,_),(24,_),(7,_),(12,_),(6,_),(5,_),(4,_),(2,_),(0,_),(1,_)]) ⟨rfl,rfl,rfl,rfl,rfl,rfl,rfl,rfl,rfl,rfl,rfl,rfl,rfl,rfl,trivial⟩<|ae<| ?_
      refine dj rfl ((decide_eq_false h2)) ?_
      refine aB<|ae<|ah<|ah<|aj<|hy (fun _=>aa rfl)<|hy (fun _=>dF rfl rfl)<|ai<|al (ρ' :=[(68,_),(61,_),(50,_),(9,_),(43,_),(28,_),(24,_),(7,_),(12,_),(6,_),(5,_),(4,_),(2,_),(0,_),(1,_)]) ⟨rfl,rfl,rfl,rfl,rfl,rfl,rfl,rfl,rfl,rfl,rfl,rfl,rfl,rfl,rfl,trivial⟩<|ae<| ?_
      refine gS rfl ((decide_eq_true h2)) ?_
      refine ah<|aj<|hy (fun m=>yV (aX rfl cF bX rfl ((m.aQ 0 rfl).aw)) ((rfl:_=Value.agg y2.cs.toArray)))<|hy (fun _=>yV (dK fY rfl (by kernel_rfl)) ((rfl:_=Value.agg (aP dI).toArray)))<|hy (fun _=>aa rfl)<| ?_
      refine cx (a8 4 rfl rfl rfl bX rfl cQ rfl ?_)
      refine cx (a8 4 rfl rfl rfl bZ z32 bg rfl ?_)
      refine hy (fun _=>ab rfl)<|ai<|al (ρ' :=[(6,_),(68,_),(61,_),(50,_),(9,_),(43,_),(28,_),(24,_),(7,_),(12,_),(5,_),(4,_),(2,_),(0,_),(1,_)]) ⟨rfl,rfl,rfl,rfl,rfl,rfl,rfl,rfl,rfl,rfl,rfl,rfl,rfl,rfl,rfl,trivial⟩<|ak (X' :=[_,_,_,_,_]) (S' :=[_,_,_,_,_]) (fun _ m=>m)<|ae<|aS<|ay<| ?_
      exact eL trivial rfl rfl rfl rfl cF bX rfl (fun m=>(m.aQ 1 rfl).aw) cr bZ z32 (fun m=>(m.aQ 0 rfl).aw) [] rfl [0] rfl ⟨y2,rfl,rfl,rfl,rfl⟩
    ·have hP:=DR (d:=x.d) (bb:=bb) h1
     have e0:=ly hbg h6 h0 hP
     rw[if_neg h1]at e0
     rw[e0,←hd1]
     refine aB<|ae<|ah<|ah<|aj<|hy (fun _=>aa rfl)<|hy (fun _=>cm rfl rfl)<|ai<|al (ρ' :=[(50,_),(43,_),(9,_),(28,_),(24,_),(7,_),(12,_),(6,_),(5,_),(4,_),(2,_),(0,_),(1,_)]) ⟨rfl,rfl,rfl,rfl,rfl,rfl,rfl,rfl,rfl,rfl,rfl,rfl,rfl,trivial⟩<|ae<| ?_
     refine dj rfl ((decide_eq_false h1)) ?_
     refine aB<|ae<|ah<|ah<|aj<|hy (fun _=>aa rfl)<|hy (fun _=>cm rfl rfl)<|ai<|al (ρ' :=[(61,_),(50,_),(43,_),(9,_),(28,_),(24,_),(7,_),(12,_),(6,_),(5,_),(4,_),(2,_),(0,_),(1,_)]) ⟨rfl,rfl,rfl,rfl,rfl,rfl,rfl,rfl,rfl,rfl,rfl,rfl,rfl,rfl,trivial⟩<|ae<| ?_
     refine dj rfl ((decide_eq_false h1)) ?_
     refine aB<|ae<|ah<|ah<|aj<|hy (fun _=>aa rfl)<|hy (fun _=>dF rfl rfl)<|ai<|al (ρ' :=[(68,_),(61,_),(50,_),(43,_),(9,_),(28,_),(24,_),(7,_),(12,_),(6,_),(5,_),(4,_),(2,_),(0,_),(1,_)]) ⟨rfl,rfl,rfl,rfl,rfl,rfl,rfl,rfl,rfl,rfl,rfl,rfl,rfl,rfl,rfl,trivial⟩<|ae<| ?_
     refine gS rfl ((decide_eq_true h1)) ?_
     refine ah<|aj<|hy (fun m=>yV (aX rfl cF bX rfl ((m.aQ 0 rfl).aw)) ((rfl:_=Value.agg y.cs.toArray)))<|hy (fun _=>yV (dK fY rfl (by kernel_rfl)) ((rfl:_=Value.agg (aP dI).toArray)))<|hy (fun _=>aa rfl)<| ?_
     refine cx (a8 4 rfl rfl rfl bX rfl cQ rfl ?_)
     refine cx (a8 4 rfl rfl rfl bZ z32 bg rfl ?_)
     refine hy (fun _=>ab rfl)<|ai<|al (ρ' :=[(6,_),(68,_),(61,_),(50,_),(43,_),(9,_),(28,_),(24,_),(7,_),(12,_),(5,_),(4,_),(2,_),(0,_),(1,_)]) ⟨rfl,rfl,rfl,rfl,rfl,rfl,rfl,rfl,rfl,rfl,rfl,rfl,rfl,rfl,rfl,trivial⟩<|ak (X' :=[_,_,_,_,_]) (S' :=[_,_,_,_]) (fun _ m=>m)<|ae<|aS<|ay<| ?_
     exact eL trivial rfl rfl rfl rfl cF bX rfl (fun m=>(m.aQ 1 rfl).aw) cr bZ z32 (fun m=>(m.aQ 0 rfl).aw) [] rfl [0] rfl ⟨y,rfl,rfl,rfl,rfl⟩
end Go.Proofs.YtmibdabdlgmafaaGreatDoor
end
section
set_option maxRecDepth 100000
namespace Go.Hx
def Fy(b:List UInt8)(w:List UInt32):Bool:=(List.range 64).all fun i=>w.getD i 0 == (if i<16 then jI b (4*i)else lJ w i)
theorem vv{b:List UInt8}{w:List UInt32}(hl:w.length=64)(h:Fy b w=true):∀n,n≤64→wl b n=w.take n
 |0,_=>by simp[wl]
 |n+1,hn=>by
  have ih:=vv hl h n (by omega)
  have hc:w.getD n 0=(if n<16 then jI b (4*n)else lJ w n):=by
   have:=List.all_eq_true.1 h n (List.mem_range.2 (by omega))
   exact eq_of_beq this
  have hg:∀j,j<n→(w.take n).getD j 0=w.getD j 0:=fun j hj=>by simp only[List.getD,List.getElem?_take,if_pos hj]
  have hw:w.take (n+1)=w.take n++[w.getD n 0]:=by
   rw[List.take_add_one,List.getElem?_eq_getElem (by omega)]
   simp[List.getD,List.getElem?_eq_getElem (show n<w.length by omega)]
  rw[wl,ih,hw,hc]
  congr 2
  split
  ·rfl
  ·unfold lJ
   rw[hg _ (by omega),hg _ (by omega),hg _ (by omega),hg _ (by omega)]
def AY(w v:List UInt32):List (List UInt32)→List UInt32→List UInt32→Bool
 | [],_,_=>true
 |y::r,k,u=>y == GW v (k.getD 0 0) (u.getD 0 0) && AY w y r k.tail u.tail
theorem sn{w v:List UInt32}:∀(t:List (List UInt32)) (n:Nat) (s:List UInt32),jY w v n=s→AY w s t (e7.drop n) (w.drop n)=true→jY w v (n+t.length)=(s::t).getLastD []
 | [],n,s,hs,_=>by simpa using hs
 |y::r,n,s,hs,h=>by
  simp only[AY,Bool.and_eq_true]at h
  have e:jY w v (n+1)=y:=by
   rw[eq_of_beq h.1,jY,hs]
   simp only[List.getD,List.getElem?_drop,Nat.add_zero]
  have:=sn r (n+1) y e (by rw[←List.tail_drop,←List.tail_drop];exact h.2)
  rw[List.length_cons,show n+(r.length+1)=n+1+r.length by omega,this]
  rfl
theorem qW{b m:List UInt8}{w:List UInt32}{t:List (List UInt32)}(hp:iB b=m)(hm:m.length=64)(hw:w.length=64)(ht:t.length=64)(h1:Fy m w=true)(h2:AY w lq t e7 w=true):
  bp b=eg (fi ((lq::t).getLastD []) lq 8):=by
 have e1:eT lq m=dT lq m:=by
  unfold eT
  rw[hm]
  show na 0 (dT lq (m.take 64)) (m.drop 64)=_
  rw[List.take_of_length_le (by omega)]
  rfl
 have e2:wl m 64=w:=by rw[vv hw h1 64 (Nat.le_refl _),List.take_of_length_le (by omega)]
 have e3:=sn (w:=w) (v:=lq) t 0 lq rfl (by simpa using h2)
 rw[Nat.zero_add,ht]at e3
 unfold bp
 rw[hp,e1,dT,e2,e3]
def jZ(k:Nat):List UInt8:=(List.range (3*k)).map fun i=>[UInt8.ofNat (65+k),1,UInt8.ofNat k].getD (i % 3) 0
end Go.Hx
end
section
set_option maxRecDepth 20000
set_option maxHeartbeats 4000000
namespace Go.Proofs.YtmibdabdlgmafaaGreatDoor
open Go.Eng Go.Hx
theorem uB{k:Nat}(hk:k<6):fill [UInt8.ofNat (65+k),1,UInt8.ofNat k] (3*k)=jZ k:=by
 match k,hk with
 |0,_=>decide
 |1,_=>decide
 |2,_=>decide
 |3,_=>decide
 |4,_=>decide
 |5,_=>decide
theorem DW{z:Int}{k:Nat}(h0:-9223372036854775808≤z∧z≤9223372036854775807)(hz:ck z 6=(k:Int))(hk:k<6):b6 Tryz.prog 27 [.int .i64 z] [] [] (fun v_ X_ S_=>∃v,v_=v∧X_=[aF 5 1 v (3*k) (aP (jZ k))]∧S_=[]):=by
 refine aI (N:=15) Tryz.func27 rfl rfl (by simp) fun b=> ?_
 refine ah<|aj<|hy (fun _=>ab rfl)<|ai<|ae<|ah<|aj<|hy (fun _=>aa rfl)<| ?_
 refine hx (au rfl Tryz.call16 (jt (by omega) (by omega) (by omega)) [] rfl [] rfl ?_)
 rintro _ _ _ ⟨rfl,rfl,rfl⟩
 rw[hz]
 refine hy (fun _=>ab rfl)<|ai<|al (ρ' :=[(3,_),(2,_),(0,_)]) ⟨rfl,rfl,rfl,trivial⟩<|ak (X' :=[]) (S' :=[]) (fun _ m=>m)<|ae<|ah<|aj<|hy (fun _=>aa rfl)<|hy (fun _=>yV (aL rfl rfl (bx (by omega) (by omega))) ((show Value.int .i64 ((65:Int)+(k:Int))= .int .i64 ((65+k:Nat):Int) by congr 1)))<|hy (fun _=>yV (bS rfl Tryz.underlying3 Tryz.underlying5 (gi (65+k))) ((show Value.int .u8 _=B8 (UInt8.ofNat (65+k))from rfl)))<|hy (fun _=>aa rfl)<|hy (fun _=>yV (bS rfl Tryz.underlying3 Tryz.underlying5 (gi k)) ((show Value.int .u8 _=B8 (UInt8.ofNat k)from rfl)))<| ?_
 refine hx (bT Tryz.underlying27 eA rfl rfl rfl (by simp[Value.cells,B8]) (by decide) (by decide) (fun g11=> ?_))
 have hA_b11:0<3→(some (⟨g11,0,none⟩:Addr))≠none:=fun _ h=>by cases h
 refine hy (fun _=>aa rfl)<|hy (fun _=>yV (fg rfl rfl (bx (by omega) (by omega))) ((show Value.int .i64 ((3:Int)*(k:Int))= .int .i64 ((3*k:Nat):Int)from rfl)))<| ?_
 refine aG (fun w m=>m.bs 0 rfl (show _=aF 5 1 (.slice (some ⟨g11,0,none⟩) 3 3) 3 (aP [UInt8.ofNat (65+k),1,UInt8.ofNat k])from rfl)) ?_
 refine hx (cK rfl Tryz.call101 (EE (show 3≤140737488351232 by decide) (show 3*k≤1000000 by omega) (l:=[UInt8.ofNat (65+k),1,UInt8.ofNat k])) [] rfl (.x 0 rfl .own .nil) ?_)
 rintro _ _ _ ⟨v,rfl,rfl,rfl⟩
 refine⟨rfl, ?_⟩
 refine aA (fun m=>(m.own 0 rfl).slice) ?_
 rintro⟨A_x,c_x,rfl,hc_x⟩
 refine aA (fun m=>(m.ord 0 rfl).2.1) fun hA_x=> ?_
 refine hy (fun _=>ab rfl)<|ai<|al (ρ' :=[(2,_),(3,_),(0,_)]) ⟨rfl,rfl,rfl,trivial⟩<|ak (X' :=[_,_]) (S' :=[]) (fun _ m=>m)<|ae<|aS<| ?_
 rw[uB hk]
 exact a6 trivial rfl rfl [0] rfl [] rfl ⟨_,rfl,rfl,rfl⟩
theorem Ao{z:Int}{k:Nat}(h0:-9223372036854775808≤z∧z≤9223372036854775807)(hz:ck z 6=(k:Int))(hk:k<6):b6 Tryz.prog 30 [.int .i64 z] [] [dG] (fun v_ X_ S_=>v_=(.agg (aP (bp (jZ k))).toArray)∧X_=[]∧S_=[]):=by
 have h32:(aP (bp (jZ k))).length=32:=by rw[az,bk]
 refine aI (N:=6) Tryz.func30 rfl rfl (by simp) fun b=> ?_
 refine ah<|aj<| ?_
 refine hx (bh fY (fun g2=> ?_))
 refine ai<|ak (X' :=[_]) (S' :=[_]) (fun _ m=>m)<|ae<|ah<|aj<|hy (fun _=>aa rfl)<| ?_
 refine hx (au rfl Tryz.call27 (DW h0 hz hk) [] rfl [] rfl ?_)
 rintro _ _ _ ⟨v,rfl,rfl,rfl⟩
 refine aA (fun m=>(m.own 0 rfl).slice) ?_
 rintro⟨A_x,c_x,rfl,hc_x⟩
 refine aA (fun m=>(m.ord 0 rfl).2.1) fun hA_x=> ?_
 refine hx (cK rfl Tryz.call56 (iM (by omega)) [] rfl (.x 0 rfl .own .nil) ?_)
 rintro _ _ _ ⟨rfl,rfl,rfl⟩
 refine⟨rfl, ?_⟩
 refine cx (a8 1 rfl rfl rfl bZ h32 bg rfl ?_)
 refine ai<|al (ρ' :=[(2,_),(0,_)]) ⟨rfl,rfl,trivial⟩<|ak (X' :=[_,_]) (S' :=[_]) (fun _ m=>m)<|ae<|aS<| ?_
 exact eJ trivial rfl rfl cr bZ h32 (fun m=>(m.aQ 0 rfl).aw) [] rfl [] rfl ⟨rfl,rfl,rfl⟩
end Go.Proofs.YtmibdabdlgmafaaGreatDoor
end
section
set_option maxRecDepth 20000
namespace Go.Proofs.YtmibdabdlgmafaaGreatDoor
open Go.Eng Go.Hx
structure Pm where
 mn:Int
 av:Int
 mx:Int
def Pm.cs(p:Pm):List Value:=[.int .i64 p.mn,.int .i64 p.av,.int .i64 p.mx]
theorem Pm.one{p:Pm}:∀u∈p.cs,u.oneCell' =true:=by
 intro u hu
 simp only[Pm.cs,List.mem_cons,List.not_mem_nil,or_false]at hu
 rcases hu with rfl|rfl|rfl <;> rfl
def Pm.may(p:Pm):Prop:=0<p.mn∧p.mn≤p.av∧p.av≤p.mx∧p.mx<4097
instance(p:Pm):Decidable p.may:=by unfold Pm.may;infer_instance
structure Pn where
 a:Nat
 b:Nat
 m:Nat
def Pn.p(q:Pn):Pm:=⟨q.a,q.b,q.m⟩
structure Pn.ok(q:Pn):Prop where
 h1:1≤q.a
 h2:q.a≤q.b
 h3:q.b≤q.m
 h4:q.m≤4096
def fl(p:Pm):Pn:=⟨(1+ck p.mn 12).toNat,(1+ck p.mn 12+ck p.av 20).toNat,(1+ck p.mn 12+ck p.av 20+ck p.mx 40).toNat⟩
theorem xz(p:Pm):(fl p).p=⟨1+ck p.mn 12,1+ck p.mn 12+ck p.av 20,1+ck p.mn 12+ck p.av 20+ck p.mx 40⟩:=by
 have h1:=dC p.mn 12 (by decide)
 have h2:=dC p.av 20 (by decide)
 have h3:=dC p.mx 40 (by decide)
 unfold fl Pn.p
 simp only[Pm.mk.injEq]
 omega
theorem sc(p:Pm):(fl p).ok∧(fl p).m≤70:=by
 have h1:=dC p.mn 12 (by decide)
 have h2:=dC p.av 20 (by decide)
 have h3:=dC p.mx 40 (by decide)
 refine⟨⟨?_, ?_, ?_, ?_⟩, ?_⟩ <;> simp only[fl] <;> omega
def ji(n:Nat):Nat:=2 ^ Nat.log2 n
theorem tv(n:Nat):0<ji n:=Nat.two_pow_pos _
theorem AN{n j:Nat}(h1:2 ^ j≤n)(h2:n<2*2 ^ j):ji n=2 ^ j:=by
 have hn:n≠0:=fun e=>by rw[e]at h1;exact absurd h1 (Nat.not_le.2 (Nat.two_pow_pos _))
 unfold ji
 congr 1
 have a:=(Nat.le_log2 hn).2 h1
 have b:=(Nat.log2_lt (k:=j+1) hn).2 (by rw[Nat.pow_succ];omega)
 omega
theorem w9{n:Nat}(h1:1≤n)(h2:n≤1000000):b6 Tryz.prog 200 [.int .i64 (n:Int)] [] [] (fun v_ X_ S_=>v_=(.int .i64 (ji n:Nat))∧X_=[]∧S_=[]):=by
 refine aI (N:=11) Tryz.func200 rfl rfl (by simp) fun b=> ?_
 refine ah<|aj<|hy (fun _=>ab rfl)<|ai<|ae<|ah<|aj<|hy (fun _=>ab rfl)<|ai<|ae<|ah<|aK<| ?_
 refine dH (fun j=>n-j) (fun j=>[(3,.int .i64 ((2 ^ j:Nat):Int))]) (fun j=>[]) (fun j=>[]) (fun j=>2 ^ j≤n) 0 [(2,_),(0,_)] ⟨rfl,rfl,trivial⟩ [] rfl [] rfl (h1) ⟨rfl,trivial⟩ (fun j hj=> ?_)
 have hpos:(0:Int)≤((2 ^ j:Nat):Int):=Int.natCast_nonneg _
 have hjn:j<n:=Nat.lt_of_lt_of_le Nat.lt_two_pow_self hj
 refine ah<|ah<|aj<|hy (fun _=>aa rfl)<|hy (fun _=>yV (fg rfl rfl (bx (by omega) (by omega))) ((show Value.int .i64 (2*((2 ^ j:Nat):Int))= .int .i64 ((2 ^ (j+1):Nat):Int)from by rw[Nat.pow_succ];congr 1;omega)))<|hy (fun _=>aa rfl)<|hy (fun _=>py rfl rfl)<|ai<|al (ρ' :=[(7,_),(3,_),(2,_),(0,_)]) ⟨rfl,rfl,rfl,rfl,trivial⟩<|ae<| ?_
 refine cj rfl (fun hle=> ?_) (fun hle=> ?_)
 ·have hle2:2 ^ (j+1)≤n:=by omega
  refine aB<|ae<|aK<|aj<|hy (fun _=>aa rfl)<|hy (fun _=>yV (fg rfl rfl (bx (by omega) (by omega))) ((show Value.int .i64 (2*((2 ^ j:Nat):Int))= .int .i64 ((2 ^ (j+1):Nat):Int)from by rw[Nat.pow_succ];congr 1;omega)))<|hy (fun _=>ab rfl)<|ai<|al (ρ' :=[(3,_),(7,_),(2,_),(0,_)]) ⟨rfl,rfl,rfl,rfl,trivial⟩<|aR<| ?_
  refine cJ (j+1) ⟨rfl,rfl,rfl,trivial⟩ [] rfl [] rfl (hle2) (by omega)
 ·have hp:ji n=2 ^ j:=AN hj (by rw[←Nat.mul_comm,←Nat.pow_succ];omega)
  rw[hp]
  refine bK<|ao<|ao<|aC<|ae<|ah<|aj<|hy (fun _=>aa rfl)<|hy (fun _=>ab rfl)<|ai<|al (ρ' :=[(2,_),(7,_),(3,_),(0,_)]) ⟨rfl,rfl,rfl,rfl,trivial⟩<|ae<|aS<| ?_
  exact a6 trivial rfl rfl [] rfl [] rfl ⟨rfl,rfl,rfl⟩
theorem FU{p:Pm}(h1:-9223372036854775808≤p.mn∧p.mn≤9223372036854775807)(h2:-9223372036854775808≤p.av∧p.av≤9223372036854775807)(h3:-9223372036854775808≤p.mx∧p.mx≤9223372036854775807):b6 Tryz.prog 125 [.agg p.cs.toArray] [] [] (fun v_ X_ S_=>v_=(.agg (fl p).p.cs.toArray)∧X_=[]∧S_=[]):=by
 have a1:=dC p.mn 12 (by decide)
 have a2:=dC p.av 20 (by decide)
 have a3:=dC p.mx 40 (by decide)
 rw[xz]
 refine aI (N:=22) Tryz.func125 rfl rfl (by simp) fun b=> ?_
 refine ah<|aj<| ?_
 refine hx (bu rfl (fun g1=> ?_))
 refine aG (fun w m=>m.bs 0 rfl (show _=aE g1 75 p.cs from congrArg (aE _ _) (aW _))) ?_
 refine hx (bh uD (fun g2=> ?_))
 refine ai<|ak (X' :=[_,_]) (S' :=[]) (fun _ m=>m)<|ae<|ah<|aj<|hy (fun _=>aD rfl gR (by decide))<|hy (fun m=>aq rfl dq (ax (m.aQ 1 rfl) (i:=0) rfl))<| ?_
 refine hx (au rfl Tryz.call16 (jt h1.1 h1.2 (by decide) (n:=p.mn) (m:=12)) [] rfl [] rfl ?_)
 rintro _ _ _ ⟨rfl,rfl,rfl⟩
 refine hy (fun _=>aL rfl rfl (bx (by omega) (by omega)))<|hy (fun _=>ab rfl)<|ai<|al (ρ' :=[(3,_),(2,_),(1,_),(0,_)]) ⟨rfl,rfl,rfl,rfl,trivial⟩<|ak (X' :=[_,_]) (S' :=[]) (fun _ m=>m)<|ae<|ah<|aj<|hy (fun _=>aa rfl)<|hy (fun _=>aD rfl jO (by decide))<|hy (fun m=>aq rfl dq (ax (m.aQ 1 rfl) (i:=1) rfl))<| ?_
 refine hx (au rfl Tryz.call16 (jt h2.1 h2.2 (by decide) (n:=p.av) (m:=20)) [] rfl [] rfl ?_)
 rintro _ _ _ ⟨rfl,rfl,rfl⟩
 refine hy (fun _=>aL rfl rfl (bx (by omega) (by omega)))<|hy (fun _=>ab rfl)<|ai<|al (ρ' :=[(4,_),(3,_),(2,_),(1,_),(0,_)]) ⟨rfl,rfl,rfl,rfl,rfl,trivial⟩<|ak (X' :=[_,_]) (S' :=[]) (fun _ m=>m)<|ae<|ah<|aj<|hy (fun _=>aa rfl)<|hy (fun _=>aa rfl)<|hy (fun _=>aa rfl)<|hy (fun _=>aD rfl ju (by decide))<|hy (fun m=>aq rfl dq (ax (m.aQ 1 rfl) (i:=2) rfl))<| ?_
 refine hx (au rfl Tryz.call16 (jt h3.1 h3.2 (by decide) (n:=p.mx) (m:=40)) [] rfl [] rfl ?_)
 rintro _ _ _ ⟨rfl,rfl,rfl⟩
 refine hy (fun _=>aL rfl rfl (bx (by omega) (by omega)))<|hy (fun _=>bQ uD rfl rfl (by kernel_rfl) (.cons (o:=0) (sz:=1) (by kernel_rfl) rfl rfl (Nat.le_of_ble_eq_true rfl) (.cons (o:=1) (sz:=1) (by kernel_rfl) rfl rfl (Nat.le_of_ble_eq_true rfl) (.cons (o:=2) (sz:=1) (by kernel_rfl) rfl rfl (Nat.le_of_ble_eq_true rfl) .nil))))<| ?_
 refine cx (a8 0 rfl rfl rfl iy rfl (Pm.one (p:=⟨_,_,_⟩)) rfl ?_)
 refine ai<|al (ρ' :=[(4,_),(3,_),(2,_),(1,_),(0,_)]) ⟨rfl,rfl,rfl,rfl,rfl,trivial⟩<|ak (X' :=[_,_]) (S' :=[]) (fun _ m=>m)<|ae<|aS<| ?_
 exact eJ trivial rfl rfl jv iy rfl (fun m=>(m.aQ 0 rfl).aw) [] rfl [] rfl ⟨rfl,rfl,rfl⟩
end Go.Proofs.YtmibdabdlgmafaaGreatDoor
end
section
set_option maxRecDepth 20000
namespace Go.Proofs.YtmibdabdlgmafaaGreatDoor
open Go.Eng Go.Hx
def nC(w:List UInt32)(b:List UInt8)(q:Pn)(k:Nat):Prop:=k=q.m∨dX w (b.take k) % UInt32.ofNat (ji q.b)=0
instance(w:List UInt32)(b:List UInt8)(q:Pn)(k:Nat):Decidable (nC w b q k):=by unfold nC;infer_instance
def eB(w:List UInt32)(b:List UInt8)(q:Pn):Nat→Nat→Nat
 |_,0=>b.length
 |k,f+1=>if k<b.length then(if nC w b q k then k else eB w b q (k+1) f)else b.length
def gH(w:List UInt32)(b:List UInt8)(q:Pn):Nat:=eB w b q q.a (b.length+1)
theorem pR(w:List UInt32)(b:List UInt8)(q:Pn):∀(f k:Nat),eB w b q k f≤b.length
 |0,_=>Nat.le_refl _
 |f+1,k=>by
  rw[eB]
  split
  ·split
   ·omega
   ·exact pR w b q f (k+1)
  ·exact Nat.le_refl _
theorem pr{w:List UInt32}{b:List UInt8}{q:Pn}:∀(f k:Nat),1≤k→1≤b.length→1≤eB w b q k f
 |0,_,_,h=>h
 |f+1,k,hk,h=>by
  rw[eB]
  split
  ·split
   ·exact hk
   ·exact pr f (k+1) (by omega) h
  ·exact h
theorem qn(w:List UInt32)(b:List UInt8)(q:Pn):gH w b q≤b.length:=pR ..
theorem iZ{w:List UInt32}{b:List UInt8}{q:Pn}(hq:q.ok)(h:1≤b.length):1≤gH w b q:=pr _ _ hq.h1 h
theorem AT(n:Nat):Value.int .u32 (IntKind.u32.wrap (n:Int))=Wd (UInt32.ofNat n):=by
 rw[wrap32];rfl
theorem CY{A B:Option Addr}{c n k:Nat}{w:List UInt32}{l:List UInt8}{q:Pn}(hq:q.ok)(hw:w.length=256)(hl:l.length=n)(hn:n≤1000000)(hk:n≤k):b6 Tryz.prog 137 [.slice A 256 c,.slice B n k,.agg q.p.cs.toArray] [] [cn 1 A 256 (dA w),cn 1 B n (aP l)] (fun v_ X_ S_=>v_=(.int .i64 (gH w l q:Nat))∧X_=[]∧S_=[]):=by
 have q1:=hq.h1
 have q2:=hq.h2
 have q3:=hq.h3
 have q4:=hq.h4
 refine aI (N:=38) Tryz.func137 rfl rfl (by simp) fun b=> ?_
 refine aU (fun m=>gu (m.rd 0 rfl)) ?_
 rintro⟨hl_rw,hA_rw⟩
 refine aU (fun m=>eb (m.rd 1 rfl)) ?_
 rintro⟨hl_rb,hA_rb⟩
 refine ah<|aj<| ?_
 refine hx (bu rfl (fun g5=> ?_))
 refine aG (fun w m=>m.bs 0 rfl (show _=aE g5 75 q.p.cs from congrArg (aE _ _) (aW _))) ?_
 refine hy (fun _=>ab rfl)<|ai<|ak (X' :=[_]) (S' :=[_,_]) (fun _ m=>m)<|ae<|ah<|aj<|hy (fun _=>aD rfl jO (by decide))<|hy (fun m=>aq rfl dq (ax (m.aQ 0 rfl) (i:=1) (show q.p.cs[1]? =some (Value.int .i64 (q.b:Nat))from rfl)))<| ?_
 refine hx (au rfl Tryz.call200 (w9 (by omega) (by omega) (n:=q.b)) [] rfl [] rfl ?_)
 rintro _ _ _ ⟨rfl,rfl,rfl⟩
 refine hy (fun _=>yV (bS rfl Tryz.underlying3 Tryz.underlying166 rfl) ((AT (ji q.b))))<|hy (fun _=>ab rfl)<|ai<|al (ρ' :=[(7,_),(6,_),(5,_),(0,_),(1,_),(2,_)]) ⟨rfl,rfl,rfl,rfl,rfl,rfl,trivial⟩<|ak (X' :=[_]) (S' :=[_,_]) (fun _ m=>m)<|ae<|ah<|ah<|aj<|hy (fun _=>aD rfl gR (by decide))<|hy (fun m=>aq rfl dq (ax (m.aQ 0 rfl) (i:=0) (show q.p.cs[0]? =some (Value.int .i64 (q.a:Nat))from rfl)))<|hy (fun _=>ab rfl)<|ai<|al (ρ' :=[(8,_),(7,_),(6,_),(5,_),(0,_),(1,_),(2,_)]) ⟨rfl,rfl,rfl,rfl,rfl,rfl,rfl,trivial⟩<|ae<|aK<| ?_
 have hm0:(UInt32.ofNat (ji q.b)).toNat≠0:=by
  have h1:=tv q.b
  have h2:ji q.b≤q.b:=Nat.log2_self_le (by omega)
  rw[UInt32.toNat_ofNat',Nat.mod_eq_of_lt (by omega)]
  omega
 refine jS (fun k2 f=>n-k2) (fun k2 f=>[(8,.int .i64 (k2:Nat))]) (fun k2 f=>[]) (fun k2 f=>[]) (fun k2 f=>eB w l q k2 f=gH w l q∧n<k2+f) q.a (l.length+1) [(7,_),(5,_),(0,_),(1,_),(2,_)] ⟨rfl,rfl,rfl,rfl,rfl,trivial⟩ [] rfl [] rfl (⟨rfl,by omega⟩) ⟨rfl,trivial⟩ (fun k2 f ⟨hf,hnf⟩=> ?_)
 refine ah<|ah<|aj<|hy (fun _=>aa rfl)<|hy (fun _=>aa rfl)<|hy (fun _=>aT rfl Tryz.underlying27)<|hy (fun _=>bC rfl rfl)<|ai<|al (ρ' :=[(18,_),(8,_),(7,_),(5,_),(0,_),(1,_),(2,_)]) ⟨rfl,rfl,rfl,rfl,rfl,rfl,rfl,trivial⟩<|ae<| ?_
 refine cj rfl (fun hlt=> ?_) (fun hlt=> ?_)
 ·obtain⟨f,rfl⟩:∃f',f=f' +1:=⟨f-1,by omega⟩
  rw[eB,if_pos (by omega)]at hf
  by_cases h1:k2=q.m
  ·rw[if_pos (.inl h1)]at hf
   rw[←hf]
   refine aB<|ae<|ah<|aK<|ah<|aj<|hy (fun _=>aa rfl)<|hy (fun _=>aD rfl ju (by decide))<|hy (fun m=>aq rfl dq (ax (m.aQ 0 rfl) (i:=2) (show q.p.cs[2]? =some (Value.int .i64 (q.m:Nat))from rfl)))<|hy (fun _=>yT (cm rfl rfl) ((decide_eq_true (by rw[h1]))))<|hy (fun _=>aa rfl)<|a7 rfl rfl rfl (by decide)<|a7 rfl rfl rfl (by decide)<|a7 rfl rfl rfl (by decide)<|a7 rfl rfl rfl (by decide)<|a7 rfl rfl rfl (by decide)<|a7 rfl rfl rfl (by decide)<|a7 rfl rfl rfl (by decide)<|a7 rfl rfl rfl (by decide)<|hy (fun _=>bM rfl rfl)<|ai<|al (ρ' :=[(34,_),(18,_),(8,_),(7,_),(5,_),(0,_),(1,_),(2,_)]) ⟨rfl,rfl,rfl,rfl,rfl,rfl,rfl,rfl,trivial⟩<|ae<| ?_
   refine gS rfl (rfl) ?_
   refine ah<|aj<|hy (fun _=>aa rfl)<|hy (fun _=>ab rfl)<|ai<|al (ρ' :=[(6,_),(34,_),(18,_),(8,_),(7,_),(5,_),(0,_),(1,_),(2,_)]) ⟨rfl,rfl,rfl,rfl,rfl,rfl,rfl,rfl,rfl,trivial⟩<|ae<|aS<|bf<|ay<|ay<|bf<|ay<| ?_
   exact a6 trivial rfl rfl [] rfl [] rfl ⟨rfl,rfl,rfl⟩
  ·refine bd (fun w m=>m.fp 1 rfl (View.take (k:=k2) (by omega))) ?_
   refine aU (fun m=>eb (m.rd 0 rfl)) ?_
   rintro⟨hl_rt,hA_rt⟩
   refine aB<|ae<|ah<|aK<|ah<|aj<|hy (fun _=>aa rfl)<|hy (fun _=>aD rfl ju (by decide))<|hy (fun m=>aq rfl dq (ax (m.aQ 0 rfl) (i:=2) (show q.p.cs[2]? =some (Value.int .i64 (q.m:Nat))from rfl)))<|hy (fun _=>yF (cm rfl rfl) ((decide_eq_false (by omega))))<|hy (fun _=>aa rfl)<|cg (o:=_) rfl rfl rfl (fun _=>aa rfl)<|cg (o:=_) rfl rfl rfl (fun _=>aa rfl)<|cg (o:=_) rfl rfl rfl (fun _=>aa rfl)<|cg (o:=_) rfl rfl rfl (fun _=>oy rfl rfl Tryz.underlying27 dB rfl (by omega))<| ?_
   refine Ft (o:=_) rfl rfl rfl (au rfl Tryz.call201 (we hw (by rw[List.length_take];omega) (by omega)) [] rfl [1,0] rfl ?_)
   rintro _ _ _ ⟨rfl,rfl,rfl⟩
   refine cg (o:=_) rfl rfl rfl (fun _=>aa rfl)<| ?_
   refine cg (o:=_) rfl rfl rfl (fun m=>uw hm0 rfl rfl) ?_
   refine cg (o:=_) rfl rfl rfl (fun _=>cm rfl rfl)<|hy (fun _=>bn rfl rfl)<|ai<|al (ρ' :=[(34,_),(18,_),(8,_),(7,_),(5,_),(0,_),(1,_),(2,_)]) ⟨rfl,rfl,rfl,rfl,rfl,rfl,rfl,rfl,trivial⟩<|ak (X' :=[_]) (S' :=[_,_,_]) (fun _ m=>m)<|ae<| ?_
   refine cj rfl (fun hz=> ?_) (fun hz=> ?_)
   ·have hz2:dX w (l.take k2) % UInt32.ofNat (ji q.b)=0:=UInt32.toNat_inj.1 (by show _=0;have:=hz;omega)
    rw[if_pos (.inr hz2)]at hf
    rw[←hf]
    refine ah<|aj<|hy (fun _=>aa rfl)<|hy (fun _=>ab rfl)<|ai<|al (ρ' :=[(6,_),(34,_),(18,_),(8,_),(7,_),(5,_),(0,_),(1,_),(2,_)]) ⟨rfl,rfl,rfl,rfl,rfl,rfl,rfl,rfl,rfl,trivial⟩<|ae<|aS<|bf<|ay<|ay<|bf<|ay<| ?_
    exact a6 trivial rfl rfl [] rfl [] rfl ⟨rfl,rfl,rfl⟩
   ·have hz2:¬nC w l q k2:=fun h=>h.elim h1 (fun h=>hz (by rw[h];rfl))
    rw[if_neg hz2]at hf
    refine aB<|aR<|ae<|aj<|hy (fun _=>aa rfl)<|hy (fun _=>aL rfl rfl (bx (by omega) (by omega)))<|hy (fun _=>ab rfl)<|ai<|al (ρ' :=[(8,_),(34,_),(18,_),(7,_),(5,_),(0,_),(1,_),(2,_)]) ⟨rfl,rfl,rfl,rfl,rfl,rfl,rfl,rfl,trivial⟩<| ?_
    refine fW (k2+1) f ⟨rfl,rfl,rfl,rfl,rfl,rfl,trivial⟩ [0] rfl [1,2] rfl (⟨hf,by omega⟩) (by omega)
 ·have hf:l.length=gH w l q:=by
   rw[←hf]
   cases f with
   |zero=>rfl
   |succ f=>rw[eB,if_neg (by omega)]
  rw[hl]at hf
  rw[←hf]
  refine bK<|ao<|ao<|aC<|ae<|ah<|aj<|hy (fun _=>aa rfl)<|hy (fun _=>aT rfl Tryz.underlying27)<|hy (fun _=>ab rfl)<|ai<|al (ρ' :=[(6,_),(18,_),(8,_),(7,_),(5,_),(0,_),(1,_),(2,_)]) ⟨rfl,rfl,rfl,rfl,rfl,rfl,rfl,rfl,trivial⟩<|ae<|aS<| ?_
  exact a6 trivial rfl rfl [] rfl [] rfl ⟨rfl,rfl,rfl⟩
end Go.Proofs.YtmibdabdlgmafaaGreatDoor
end
section
set_option maxRecDepth 20000
set_option maxHeartbeats 2000000
namespace Go.Proofs.YtmibdabdlgmafaaGreatDoor
open Go.Eng Go.Hx
def iw(w:List UInt32)(q:Pn):Nat→List UInt8→List (List UInt8)
 |0,_=>[]
 |f+1,b=>if b=[]then []else b.take (gH w b q)::iw w q f (b.drop (gH w b q))
def ee(b:List UInt8)(q:Pn):List (List UInt8):=iw bm q b.length b
theorem sQ{w:List UInt32}{q:Pn}:∀{f:Nat},iw w q f []=[]
 |0=>rfl
 |f+1=>by rw[iw,if_pos rfl]
theorem View.zS:View (fw []) (dw []):=.of (fun w h r hr=>absurd hr List.not_mem_nil) (fun k hk=>by obtain⟨r,hr,_⟩:=hk;exact absurd hr List.not_mem_nil)
theorem View.jM{rs:List ba}{r:ba}(hc:r.n≤r.c):View (fw [dw rs,cn 1 r.A r.n (aP r.l)]) (dw (rs++[r])):=.of (fun w h x hx=>by
  rcases List.mem_append.1 hx with hx|hx
  ·exact h (dw rs) (List.mem_cons_self ..) x hx
  ·rw[List.mem_singleton.1 hx];exact⟨h (cn 1 r.A r.n (aP r.l)) (List.mem_cons_of_mem _ (List.mem_cons_self ..)),hc⟩) (fun k hk=>by
  obtain⟨x,hx,hf⟩:=hk
  rcases List.mem_append.1 hx with hx|hx
  ·exact⟨dw rs,List.mem_cons_self ..,x,hx,hf⟩
  ·rw[List.mem_singleton.1 hx]at hf;exact⟨cn 1 r.A r.n (aP r.l),List.mem_cons_of_mem _ (List.mem_cons_self ..),hf⟩)
def lr(rs:List ba):List Value:=rs.map ba.val
theorem n5{rs:List ba}:∀u∈lr rs,u.oneCell' =true:=by
 intro u hu
 obtain⟨r,_,rfl⟩:=List.mem_map.1 hu
 rfl
theorem jf(a b:List ba):lr (a++b)=lr a++lr b:=by simp[lr]
theorem sj{B:Option Addr}{n k:Nat}{l:List UInt8}{q:Pn}(hq:q.ok)(hl:l.length=n)(hn:n≤1000000)(hk:n≤k):b6 Tryz.prog 50 [.slice B n k,.agg q.p.cs.toArray] [] [cn 1 B n (aP l)] (fun v_ X_ S_=>∃A1 c1 rs,v_=(.slice A1 (List.length rs) c1)∧X_=[aF 27 1 (.slice A1 (List.length rs) c1) (List.length rs) (lr rs)]∧S_=[dw rs]∧(rs.map ba.l=ee l q∧∀r∈rs,r.n=r.l.length)):=by
 refine aI (N:=26) Tryz.func50 rfl rfl (by simp) fun b=> ?_
 refine aU (fun m=>eb (m.rd 0 rfl)) ?_
 rintro⟨hl_rb,hA_rb⟩
 refine ah<|aj<| ?_
 refine hx (bu rfl (fun g3=> ?_))
 refine aG (fun w m=>m.bs 0 rfl (show _=aE g3 75 q.p.cs from congrArg (aE _ _) (aW _))) ?_
 refine hy (fun _=>ab rfl)<|ai<|ak (X' :=[_]) (S' :=[_]) (fun _ m=>m)<|ae<|ah<|aj<| ?_
 refine hx (au rfl Tryz.call136 (Ar) [] rfl [] rfl ?_)
 rintro _ _ _ ⟨A,c,rfl,rfl,rfl⟩
 refine aG (fun w m=>(m.perm (ar [0] _ [_] _ rfl)).freeze) ?_
 refine aG (fun w m=>m.fp 0 rfl .own) ?_
 refine aA (fun m=>gu (m.rd 0 rfl)) ?_
 rintro⟨hl_or,hA_or⟩
 refine aG (fun w m=>m.cI (r' :=aF 27 1 (.slice none 0 0) 0 []) (.refl _ _) (Own.nil _ _ _ _) (fun k hk=>hk.elim)) ?_
 refine aG (S' :=fw []::_) (fun w m=>m.o6 [] rfl) ?_
 refine aG (fun w m=>m.fp 0 rfl View.zS) ?_
 refine hy (fun _=>ab rfl)<|ai<|al (ρ' :=[(5,_),(4,_),(3,_),(0,_),(1,_)]) ⟨rfl,rfl,rfl,rfl,rfl,trivial⟩<|ak (X' :=[_,_]) (S' :=[_,_,_,_,_]) (fun _ m=>m)<|ae<|ah<|aj<|hy (fun _=>ab rfl)<|ai<|ae<|ah<|aK<| ?_
 refine qX (fun s f rs A1 c1=>f) (fun s f rs A1 c1=>[(0,.slice (ba.A s) (ba.n s) (ba.c s)),(6,.slice A1 (List.length rs) c1)]) (fun s f rs A1 c1=>[aF 27 1 (.slice A1 (List.length rs) c1) (List.length rs) (lr rs)]) (fun s f rs A1 c1=>[cn 1 (ba.A s) (ba.n s) (aP (ba.l s)),dw rs]) (fun s f rs A1 c1=>ba.n s=(ba.l s).length∧ba.n s≤ba.c s∧ba.n s≤f∧rs.map ba.l++iw bm q f (ba.l s)=ee l q∧(∀r∈rs,r.n=r.l.length)∧List.length rs+ba.n s≤n) ⟨B,n,k,l⟩ n [] none 0 [(5,_),(4,_),(3,_),(1,_)] ⟨rfl,rfl,rfl,rfl,trivial⟩ [0] rfl [4,0] rfl (⟨hl.symm,hk,Nat.le_refl _,by rw[←hl];rfl,fun r h=>absurd h List.not_mem_nil,by simp⟩) ⟨rfl,rfl,trivial⟩ (fun s f rs A1 c1 ⟨hsl,hsc,hsf,sX,hrs,hrn⟩=> ?_)
 refine ah<|ah<|aj<|hy (fun _=>aa rfl)<|hy (fun _=>aT rfl Tryz.underlying27)<|hy (fun _=>cy rfl rfl)<|ai<|al (ρ' :=[(11,_),(0,_),(6,_),(5,_),(4,_),(3,_),(1,_)]) ⟨rfl,rfl,rfl,rfl,rfl,rfl,rfl,trivial⟩<|ae<| ?_
 refine cj rfl (fun h0=> ?_) (fun h0=> ?_)
 ·have hpos:1≤(ba.l s).length:=by omega
  obtain⟨f,rfl⟩:∃f',f=f' +1:=⟨f-1,by omega⟩
  rw[iw,if_neg (fun e=>by rw[e]at hpos;exact absurd hpos (by decide))]at sX
  have k1:=iZ (w:=bm) hq hpos
  have k2:=qn bm (ba.l s) q
  obtain⟨kf,hkf⟩:∃kf,kf=gH bm (ba.l s) q:=⟨_,rfl⟩
  refine aB<|ae<|aK<|ah<|aj<|hy (fun _=>aa rfl)<|hy (fun _=>aa rfl)<|hy (fun m=>yV (aX rfl jv iy rfl ((m.aQ 1 rfl).aw)) ((rfl:_=Value.agg q.p.cs.toArray)))<| ?_
  refine hx (au rfl Tryz.call137 (CY hq bl hsl.symm (by omega) hsc) [] rfl [4,0] rfl ?_)
  rintro _ _ _ ⟨rfl,rfl,rfl⟩
  rw[←hkf]at sX k1 k2
  rw[←hkf]
  refine aG (fun w m=>m.fp 0 rfl (View.take (k:=kf) (by omega))) ?_
  refine aA (fun m=>eb (m.rd 0 rfl)) ?_
  rintro⟨hl_rt,hA_rt⟩
  refine aG (fun w m=>m.fp 1 rfl (View.drop (k:=kf) hsc (by omega))) ?_
  refine aA (fun m=>eb (m.rd 0 rfl)) ?_
  rintro⟨hl_rd,hA_rd⟩
  obtain⟨r,hr⟩:∃r:ba,r=⟨ba.A s,kf,ba.c s,(ba.l s).take kf⟩:=⟨_,rfl⟩
  refine aG (S' :=fw [dw rs,cn 1 (ba.A s) kf (aP ((ba.l s).take kf))]::_) (fun w m=>m.o6 [3,1] rfl) ?_
  refine aG (fun w m=>m.fp 0 rfl (View.jM (rs:=rs) (r:=⟨ba.A s,kf,ba.c s,(ba.l s).take kf⟩) (by show kf≤ba.c s;omega))) ?_
  rw[←hr]
  refine hy (fun _=>ab rfl)<|ai<|al (ρ' :=[(7,_),(11,_),(0,_),(6,_),(5,_),(4,_),(3,_),(1,_)]) ⟨rfl,rfl,rfl,rfl,rfl,rfl,rfl,rfl,trivial⟩<|ak (X' :=[_,_]) (S' :=[_,_,_,_,_,_,_,_,_,_,_]) (fun _ m=>m)<|ae<|ah<|aj<|hy (fun _=>aa rfl)<|hy (fun _=>aa rfl)<|hy (fun _=>aa rfl)<|hy (fun _=>oy rfl rfl Tryz.underlying27 dB rfl (by omega))<| ?_
  refine hx (bT Tryz.underlying84 jW rfl rfl rfl (by simp[Value.cells,B8]) (by decide) (by decide) (fun g20=> ?_))
  have hA_b20:0<1→(some (⟨g20,0,none⟩:Addr))≠none:=fun _ h=>by cases h
  have hlr:(rs++[r]).length=rs.length+1:=by simp
  have hcut2:(rs++[r]).map ba.l++iw bm q f ((ba.l s).drop kf)=ee l q:=by rw[←sX,List.map_append,hr];simp
  have hrs2:∀x∈rs++[r],ba.n x=(ba.l x).length:=fun x hx=>by
   rcases List.mem_append.1 hx with hx|hx
   ·exact hrs x hx
   ·rw[List.mem_singleton.1 hx,hr]
    show kf=((ba.l s).take kf).length
    rw[List.length_take]
    omega
  refine aG (fun w m=>m.bs 0 rfl (show _=aF 27 1 (.slice (some ⟨g20,0,none⟩) 1 1) 1 (lr [r])from(by rw[hr];rfl))) ?_
  refine hx (bw 1 rfl rfl rfl Tryz.underlying84 Tryz.underlying84 (by exact .inl rfl) jW rfl (fun m=>Src.bW (m.ord 0 rfl)) n5 (by unfold maxLen;omega) (by omega) (fun u=> ?_))
  refine aA (fun m=>(m.own 0 rfl).slice) ?_
  rintro⟨A_z,c_z,rfl,hc_z⟩
  refine aA (fun m=>(m.ord 0 rfl).2.1) fun hA_z=> ?_
  refine aG (fun w m=>m.bs 0 rfl (show _=aF 27 1 (.slice A_z (List.length rs+1) c_z) (List.length rs+1) (lr (rs++[r]))from congrArg (aF _ _ _ _) (by rw[jf]))) ?_
  rw[←hlr]
  refine hy (fun _=>ab rfl)<|ai<|al (ρ' :=[(6,_),(7,_),(11,_),(0,_),(5,_),(4,_),(3,_),(1,_)]) ⟨rfl,rfl,rfl,rfl,rfl,rfl,rfl,rfl,trivial⟩<|ak (X' :=[_,_,_]) (S' :=[_,_,_,_,_,_,_,_,_,_,_]) (fun _ m=>m)<|ae<|aj<|hy (fun _=>aa rfl)<|hy (fun _=>aa rfl)<|hy (fun _=>dV rfl rfl Tryz.underlying27 dB rfl (by omega))<|hy (fun _=>ab rfl)<|ai<|al (ρ' :=[(0,_),(6,_),(7,_),(11,_),(5,_),(4,_),(3,_),(1,_)]) ⟨rfl,rfl,rfl,rfl,rfl,rfl,rfl,rfl,trivial⟩<|aR<| ?_
  refine mN ⟨(if ba.c s=kf then ba.A s else(ba.A s).map (·.add (kf*1))),ba.n s-kf,ba.c s-kf,(ba.l s).drop kf⟩ f (rs++[r]) A_z c_z ⟨rfl,rfl,rfl,rfl,rfl,rfl,trivial⟩ [0,1] rfl [2,0,6,7,8,9,10] rfl (⟨by show ba.n s-kf=_;rw[List.length_drop];omega,by show ba.n s-kf≤ba.c s-kf;omega,by show ba.n s-kf≤f;omega,hcut2,hrs2,by rw[hlr];show _+(ba.n s-kf)≤n;omega⟩) (by omega)
 ·have hnil:ba.l s=[]:=List.length_eq_zero_iff.1 (by omega)
  rw[hnil,sQ,List.append_nil]at sX
  refine bK<|ao<|ao<|aC<|ae<|ah<|aj<|hy (fun _=>aa rfl)<|hy (fun _=>ab rfl)<|ai<|al (ρ' :=[(4,_),(11,_),(0,_),(6,_),(5,_),(3,_),(1,_)]) ⟨rfl,rfl,rfl,rfl,rfl,rfl,rfl,trivial⟩<|ae<|aS<| ?_
  exact a6 trivial rfl rfl [0] rfl [1] rfl ⟨A1,c1,rs,rfl,rfl,rfl,⟨sX,hrs⟩⟩
end Go.Proofs.YtmibdabdlgmafaaGreatDoor
end
section
set_option maxRecDepth 20000
namespace Go.Proofs.YtmibdabdlgmafaaGreatDoor
open Go.Eng Go.Hx
theorem n9{p:Pm}:b6 Tryz.prog 192 [.agg p.cs.toArray] [] [] (fun v_ X_ S_=>v_=(.bool (decide p.may))∧X_=[]∧S_=[]):=by
 refine aI (N:=25) Tryz.func192 rfl rfl (by simp) fun b=> ?_
 refine ah<|aj<| ?_
 refine hx (bu rfl (fun g1=> ?_))
 refine aG (fun w m=>m.bs 0 rfl (show _=aE g1 75 p.cs from congrArg (aE _ _) (aW _))) ?_
 by_cases h0:p.mn≥1
 ·by_cases h1:p.av≥p.mn
  ·by_cases h2:p.mx≥p.av
   ·rw[show decide p.may=decide (p.mx≤4096)from decide_eq_decide.2 ⟨fun h=>by have:=h.2.2.2;omega,fun h=>⟨by omega,h1,h2,by omega⟩⟩]
    refine hy (fun _=>ab rfl)<|ai<|ak (X' :=[_]) (S' :=[]) (fun _ m=>m)<|ae<|ah<|aj<|hy (fun _=>aD rfl gR (by decide))<|hy (fun m=>aq rfl dq (ax (m.aQ 0 rfl) (i:=0) rfl))<|hy (fun _=>yT (ec rfl rfl) ((decide_eq_true h0)))<|hy (fun _=>aa rfl)<|cg (o:=_) rfl rfl rfl (fun _=>aD rfl jO (by decide))<|cg (o:=_) rfl rfl rfl (fun m=>aq rfl dq (ax (m.aQ 0 rfl) (i:=1) rfl))<|cg (o:=_) rfl rfl rfl (fun _=>aD rfl gR (by decide))<|cg (o:=_) rfl rfl rfl (fun m=>aq rfl dq (ax (m.aQ 0 rfl) (i:=0) rfl))<|cg (o:=_) rfl rfl rfl (fun _=>yT (ec rfl rfl) ((decide_eq_true h1)))<|hy (fun _=>bM rfl rfl)<|hy (fun _=>aa rfl)<|cg (o:=_) rfl rfl rfl (fun _=>aD rfl ju (by decide))<|cg (o:=_) rfl rfl rfl (fun m=>aq rfl dq (ax (m.aQ 0 rfl) (i:=2) rfl))<|cg (o:=_) rfl rfl rfl (fun _=>aD rfl jO (by decide))<|cg (o:=_) rfl rfl rfl (fun m=>aq rfl dq (ax (m.aQ 0 rfl) (i:=1) rfl))<|cg (o:=_) rfl rfl rfl (fun _=>yT (ec rfl rfl) ((decide_eq_true h2)))<|hy (fun _=>bM rfl rfl)<|hy (fun _=>aa rfl)<|cg (o:=_) rfl rfl rfl (fun _=>aD rfl ju (by decide))<|cg (o:=_) rfl rfl rfl (fun m=>aq rfl dq (ax (m.aQ 0 rfl) (i:=2) rfl))<|cg (o:=_) rfl rfl rfl (fun _=>py rfl rfl)<|hy (fun _=>bM rfl rfl)<|hy (fun _=>ab rfl)<|ai<|al (ρ' :=[(2,_),(1,_),(0,_)]) ⟨rfl,rfl,rfl,trivial⟩<|ae<|aS<| ?_
    exact a6 trivial rfl rfl [] rfl [] rfl ⟨rfl,rfl,rfl⟩
   ·rw[decide_eq_false (show¬p.may from fun h=>h2 h.2.2.1)]
    refine hy (fun _=>ab rfl)<|ai<|ae<|ah<|aj<|hy (fun _=>aD rfl gR (by decide))<|hy (fun m=>aq rfl dq (ax (m.aQ 0 rfl) rfl))<|hy (fun _=>yT (ec rfl rfl) ((decide_eq_true h0)))<|hy (fun _=>aa rfl)<|cg (o:=_) rfl rfl rfl (fun _=>aD rfl jO (by decide))<|cg (o:=_) rfl rfl rfl (fun m=>aq rfl dq (ax (m.aQ 0 rfl) rfl))<|cg (o:=_) rfl rfl rfl (fun _=>aD rfl gR (by decide))<|cg (o:=_) rfl rfl rfl (fun m=>aq rfl dq (ax (m.aQ 0 rfl) rfl))<|cg (o:=_) rfl rfl rfl (fun _=>yT (ec rfl rfl) ((decide_eq_true h1)))<|hy (fun _=>bM rfl rfl)<|hy (fun _=>aa rfl)<|cg (o:=_) rfl rfl rfl (fun _=>aD rfl ju (by decide))<|cg (o:=_) rfl rfl rfl (fun m=>aq rfl dq (ax (m.aQ 0 rfl) rfl))<|cg (o:=_) rfl rfl rfl (fun _=>aD rfl jO (by decide))<|cg (o:=_) rfl rfl rfl (fun m=>aq rfl dq (ax (m.aQ 0 rfl) rfl))<|cg (o:=_) rfl rfl rfl (fun _=>yF (ec rfl rfl) ((decide_eq_false h2)))<|hy (fun _=>bM rfl rfl)<|hy (fun _=>aa rfl)<|a7 rfl rfl rfl (by decide)<|a7 rfl rfl rfl (by decide)<|a7 rfl rfl rfl (by decide)<|hy (fun _=>bn rfl rfl)<|hy (fun _=>ab rfl)<|ai<|al (ρ' :=[(2,_),(1,_),(0,_)]) ⟨rfl,rfl,rfl,trivial⟩<|ae<|aS<| ?_
    exact a6 trivial rfl rfl [] rfl [] rfl ⟨rfl,rfl,rfl⟩
  ·rw[decide_eq_false (show¬p.may from fun h=>h1 h.2.1)]
   refine hy (fun _=>ab rfl)<|ai<|ae<|ah<|aj<|hy (fun _=>aD rfl gR (by decide))<|hy (fun m=>aq rfl dq (ax (m.aQ 0 rfl) rfl))<|hy (fun _=>yT (ec rfl rfl) ((decide_eq_true h0)))<|hy (fun _=>aa rfl)<|cg (o:=_) rfl rfl rfl (fun _=>aD rfl jO (by decide))<|cg (o:=_) rfl rfl rfl (fun m=>aq rfl dq (ax (m.aQ 0 rfl) rfl))<|cg (o:=_) rfl rfl rfl (fun _=>aD rfl gR (by decide))<|cg (o:=_) rfl rfl rfl (fun m=>aq rfl dq (ax (m.aQ 0 rfl) rfl))<|cg (o:=_) rfl rfl rfl (fun _=>yF (ec rfl rfl) ((decide_eq_false h1)))<|hy (fun _=>bM rfl rfl)<|hy (fun _=>aa rfl)<|a7 rfl rfl rfl (by decide)<|a7 rfl rfl rfl (by decide)<|a7 rfl rfl rfl (by decide)<|a7 rfl rfl rfl (by decide)<|a7 rfl rfl rfl (by decide)<|hy (fun _=>bn rfl rfl)<|hy (fun _=>aa rfl)<|a7 rfl rfl rfl (by decide)<|a7 rfl rfl rfl (by decide)<|a7 rfl rfl rfl (by decide)<|hy (fun _=>bn rfl rfl)<|hy (fun _=>ab rfl)<|ai<|al (ρ' :=[(2,_),(1,_),(0,_)]) ⟨rfl,rfl,rfl,trivial⟩<|ae<|aS<| ?_
   exact a6 trivial rfl rfl [] rfl [] rfl ⟨rfl,rfl,rfl⟩
 ·rw[decide_eq_false (show¬p.may from fun h=>h0 (by have:=h.1;omega))]
  refine hy (fun _=>ab rfl)<|ai<|ae<|ah<|aj<|hy (fun _=>aD rfl gR (by decide))<|hy (fun m=>aq rfl dq (ax (m.aQ 0 rfl) rfl))<|hy (fun _=>yF (ec rfl rfl) ((decide_eq_false h0)))<|hy (fun _=>aa rfl)<|a7 rfl rfl rfl (by decide)<|a7 rfl rfl rfl (by decide)<|a7 rfl rfl rfl (by decide)<|a7 rfl rfl rfl (by decide)<|a7 rfl rfl rfl (by decide)<|hy (fun _=>bn rfl rfl)<|hy (fun _=>aa rfl)<|a7 rfl rfl rfl (by decide)<|a7 rfl rfl rfl (by decide)<|a7 rfl rfl rfl (by decide)<|a7 rfl rfl rfl (by decide)<|a7 rfl rfl rfl (by decide)<|hy (fun _=>bn rfl rfl)<|hy (fun _=>aa rfl)<|a7 rfl rfl rfl (by decide)<|a7 rfl rfl rfl (by decide)<|a7 rfl rfl rfl (by decide)<|hy (fun _=>bn rfl rfl)<|hy (fun _=>ab rfl)<|ai<|al (ρ' :=[(2,_),(1,_),(0,_)]) ⟨rfl,rfl,rfl,trivial⟩<|ae<|aS<| ?_
  exact a6 trivial rfl rfl [] rfl [] rfl ⟨rfl,rfl,rfl⟩
theorem Pn.ok.may{q:Pn}(h:q.ok):q.p.may:=by
 have h1:=h.h1;have h2:=h.h2;have h3:=h.h3;have h4:=h.h4
 unfold Pm.may Pn.p
 simp only
 omega
def len8:List UInt8:=(List.range 256).map fun n=>if n=0 then 0 else UInt8.ofNat (Nat.log2 n+1)
theorem len8_get{n:Nat}(h1:1≤n)(hn:n<256):len8[n]? =some (UInt8.ofNat (Nat.log2 n+1)):=by
 unfold len8
 rw[List.getElem?_map,List.getElem?_range hn,Option.map_some,if_neg (by omega)]
theorem r8{n:Nat}(hn:n<256):Nat.log2 n<8:=by
 by_cases h:n=0
 ·subst h;decide
 ·exact(Nat.log2_lt h).2 (by omega)
theorem uR{n:Nat}(h:256≤n):Nat.log2 n=8+Nat.log2 (n/256):=by
 have h0:n/256≠0:=by omega
 have h1:2 ^ Nat.log2 (n/256)≤n/256:=Nat.log2_self_le h0
 have h2:n/256<2 ^ (Nat.log2 (n/256)+1):=(Nat.log2_lt h0).1 (Nat.lt_succ_self _)
 generalize Nat.log2 (n/256)=k at h1 h2 ⊢
 have h3:8+k≤Nat.log2 n:=(Nat.le_log2 (by omega)).2 (by rw[Nat.pow_add];show 256*2 ^ k≤n;omega)
 have h4:Nat.log2 n<8+(k+1):=(Nat.log2_lt (by omega)).2 (by rw[Nat.pow_add];show n<256*2 ^ (k+1);omega)
 omega
theorem x2{n:Nat}(h:n<18446744073709551616):IntKind.u64.wrap (n:Int)=(n:Int):=by
 simp[IntKind.wrap,IntKind.signed,IntKind.bits]
 omega
theorem vA{n:Nat}(h:n<256):IntKind.u8.wrap (n:Int)=(n:Int):=by
 simp[IntKind.wrap,IntKind.signed,IntKind.bits]
 omega
theorem qd{d:Array UInt8}{n:Nat}(hd:d.toList=len8)(h1:1≤n)(hn:n<256):d[n]? =some (UInt8.ofNat (Nat.log2 n+1)):=by
 rw[←Array.getElem?_toList,hd];exact len8_get h1 hn
theorem ql{k:Nat}(hk:k<8):IntKind.i64.wrap (((UInt8.ofNat (k+1)).toNat:Nat):Int)=((k+1:Nat):Int):=by
 have:(UInt8.ofNat (k+1)).toNat=k+1:=by rw[UInt8.toNat_ofNat',Nat.mod_eq_of_lt (by omega)]
 rw[this]
 exact bx (by omega) (by omega)
theorem zK{n:Nat}(h1:1≤n)(hn:n<65536):b6 Tryz.prog 255 [.int .u64 (n:Int)] [] [] (fun v_ X_ S_=>v_=(.int .i64 ((Nat.log2 n+1:Nat):Int))∧X_=[]∧S_=[]):=by
 refine aI (N:=25) Tryz.func255 rfl rfl (by simp) fun b=> ?_
 refine ah<|aj<|hy (fun _=>ab rfl)<|ai<|ae<|ah<|ah<|aj<|hy (fun _=>aa rfl)<|hy (fun _=>ec rfl rfl)<|ai<|al (ρ' :=[(4,_),(2,_),(0,_)]) ⟨rfl,rfl,rfl,trivial⟩<|ae<| ?_
 refine dj rfl ((decide_eq_false (by omega))) ?_
 refine aB<|ae<|ah<|ah<|aj<|hy (fun _=>aa rfl)<|hy (fun _=>ec rfl rfl)<|ai<|al (ρ' :=[(8,_),(4,_),(2,_),(0,_)]) ⟨rfl,rfl,rfl,rfl,trivial⟩<|ae<| ?_
 refine dj rfl ((decide_eq_false (by omega))) ?_
 refine aB<|ae<|ah<|ah<|aj<|hy (fun _=>aa rfl)<|hy (fun _=>ec rfl rfl)<|ai<|al (ρ' :=[(14,_),(8,_),(4,_),(2,_),(0,_)]) ⟨rfl,rfl,rfl,rfl,rfl,trivial⟩<|ae<| ?_
 refine cj rfl (fun h8=> ?_) (fun h8=> ?_)
 ·have hn8:n/256<256:=by omega
  have hk:=r8 hn8
  have hs:=uR (n:=n) (by omega)
  refine ah<|aj<|hy (fun _=>aa rfl)<|hy (fun _=>yV (lQ (p:=256) rfl rfl (by decide) (by decide) (by decide)) ((show Value.int .u64 ((n:Int)/256)= .int .u64 ((n/256:Nat):Int)from rfl)))<|hy (fun _=>ab rfl)<|ai<|al (ρ' :=[(0,_),(14,_),(8,_),(4,_),(2,_)]) ⟨rfl,rfl,rfl,rfl,rfl,trivial⟩<|ae<|aj<|hy (fun _=>aa rfl)<|hy (fun _=>aL rfl rfl (bx (by omega) (by omega)))<|hy (fun _=>ab rfl)<|ai<|al (ρ' :=[(2,_),(0,_),(14,_),(8,_),(4,_)]) ⟨rfl,rfl,rfl,rfl,rfl,trivial⟩<|ae<|ah<|aj<|hy (fun _=>aa rfl)<|hy (fun _=>aa rfl)<|hy (fun _=>bS rfl Tryz.underlying310 Tryz.underlying5 (vA hn8))<|hy (fun _=>iQ rfl rfl Tryz.underlying9 rfl (qd (by kernel_rfl) (by omega) hn8))<|hy (fun _=>bS rfl Tryz.underlying5 Tryz.underlying3 (ql hk))<|hy (fun _=>yV (aL rfl rfl (bx (by omega) (by omega))) ((show Value.int .i64 (0+8+((Nat.log2 (n/256)+1:Nat):Int))= .int .i64 ((Nat.log2 n+1:Nat):Int) by rw[hs];exact congrArg (Value.int .i64) (by omega))))<|hy (fun _=>ab rfl)<|ai<|al (ρ' :=[(2,_),(0,_),(14,_),(8,_),(4,_)]) ⟨rfl,rfl,rfl,rfl,rfl,trivial⟩<|ae<|aS<| ?_
  exact a6 trivial rfl rfl [] rfl [] rfl ⟨rfl,rfl,rfl⟩
 ·have hn8:n<256:=by omega
  have hk:=r8 hn8
  refine aB<|ae<|ah<|aj<|hy (fun _=>aa rfl)<|hy (fun _=>aa rfl)<|hy (fun _=>bS rfl Tryz.underlying310 Tryz.underlying5 (vA hn8))<|hy (fun _=>iQ rfl rfl Tryz.underlying9 rfl (qd (by kernel_rfl) h1 hn8))<|hy (fun _=>bS rfl Tryz.underlying5 Tryz.underlying3 (ql hk))<|hy (fun _=>yV (aL rfl rfl (bx (by omega) (by omega))) ((show Value.int .i64 (0+((Nat.log2 n+1:Nat):Int))= .int .i64 ((Nat.log2 n+1:Nat):Int)from congrArg (Value.int .i64) (by omega))))<|hy (fun _=>ab rfl)<|ai<|al (ρ' :=[(2,_),(14,_),(8,_),(4,_),(0,_)]) ⟨rfl,rfl,rfl,rfl,rfl,trivial⟩<|ae<|aS<| ?_
  exact a6 trivial rfl rfl [] rfl [] rfl ⟨rfl,rfl,rfl⟩
theorem Cz{n:Nat}(h1:1≤n)(hn:n<65536):b6 Tryz.prog 207 [.int .u64 (n:Int)] [] [] (fun v_ X_ S_=>v_=(.int .i64 ((Nat.log2 n+1:Nat):Int))∧X_=[]∧S_=[]):=by
 refine aI (N:=8) Tryz.func207 rfl rfl (by simp) fun b=> ?_
 refine ah<|aj<|hy (fun _=>ab rfl)<|ai<|ae<|ah<| ?_
 refine dj rfl (rfl) ?_
 refine aB<|ae<|ah<|aj<|hy (fun _=>aa rfl)<| ?_
 refine hx (au rfl Tryz.call255 (zK h1 hn (n:=n)) [] rfl [] rfl ?_)
 rintro _ _ _ ⟨rfl,rfl,rfl⟩
 refine hy (fun _=>ab rfl)<|ai<|al (ρ' :=[(2,_),(0,_)]) ⟨rfl,rfl,trivial⟩<|ak (X' :=[]) (S' :=[]) (fun _ m=>m)<|ae<|aS<| ?_
 exact a6 trivial rfl rfl [] rfl [] rfl ⟨rfl,rfl,rfl⟩
theorem Dr{P:Program}{N:Nat}{D:List Deferred}{ρ:Env}{w:World}{x y:Operand}{ty t t' :TypeId}{a b:UInt32}(hx:ev ρ x=some (Wd a))(hy:ev ρ y=some (Wd b)):Yl P N D ρ w (.binOp .sub t x y t') ty (Wd (a-b)):=ca hx hy (by
 have ha:=a.toNat_lt
 have hb:=b.toNat_lt
 rw[UInt32.toNat_sub]
 simp[IntKind.wrap,IntKind.signed,IntKind.bits]
 omega)
def nN(q:Pn):UInt32:=UInt32.ofNat (ji q.b)-1
theorem ya{q:Pn}(hq:q.ok)(x:UInt32):x &&& nN q=0↔x % UInt32.ofNat (ji q.b)=0:=by
 have h1:=hq.h1;have h2:=hq.h2;have h3:=hq.h3;have h4:=hq.h4
 have hp:ji q.b≤q.b:=Nat.log2_self_le (by omega)
 have hp0:=tv q.b
 have e1:(UInt32.ofNat (ji q.b)).toNat=ji q.b:=by rw[UInt32.toNat_ofNat',Nat.mod_eq_of_lt (by omega)]
 have e2:(nN q).toNat=ji q.b-1:=by
  unfold nN
  rw[UInt32.toNat_sub,e1]
  show(4294967296-1+ji q.b) % 4294967296=_
  omega
 rw[←UInt32.toNat_inj,←UInt32.toNat_inj,UInt32.toNat_and,UInt32.toNat_mod,e1,e2]
 unfold ji
 rw[Nat.and_two_pow_sub_one_eq_mod]
theorem FL{q:Pn}(hq:q.ok):b6 Tryz.prog 302 [.agg q.p.cs.toArray] [] [] (fun v_ X_ S_=>v_=(Wd (nN q))∧X_=[]∧S_=[]):=by
 have h1:=hq.h1
 have h2:=hq.h2
 have h3:=hq.h3
 have h4:=hq.h4
 have hl12:Nat.log2 q.b<32:=(Nat.log2_lt (by omega)).2 (by omega)
 refine aI (N:=13) Tryz.func302 rfl rfl (by simp) fun b=> ?_
 refine ah<|aj<| ?_
 refine hx (bu rfl (fun g1=> ?_))
 refine aG (fun w m=>m.bs 0 rfl (show _=aE g1 75 q.p.cs from congrArg (aE _ _) (aW _))) ?_
 refine hy (fun _=>ab rfl)<|ai<|ak (X' :=[_]) (S' :=[]) (fun _ m=>m)<|ae<|ah<|ah<|aj<|hy (fun m=>yV (aX rfl jv iy rfl ((m.aQ 0 rfl).aw)) ((rfl:_=Value.agg q.p.cs.toArray)))<| ?_
 refine hx (au rfl Tryz.call192 (n9 (p:=q.p)) [] rfl [] rfl ?_)
 rintro _ _ _ ⟨rfl,rfl,rfl⟩
 refine hy (fun _=>eE rfl)<|ai<|al (ρ' :=[(5,_),(2,_),(1,_),(0,_)]) ⟨rfl,rfl,rfl,rfl,trivial⟩<|ak (X' :=[_]) (S' :=[]) (fun _ m=>m)<|ae<| ?_
 refine dj rfl ((decide_eq_false (fun h=>h hq.may))) ?_
 refine aB<|ae<|ah<|aj<|hy (fun _=>aD rfl jO (by decide))<|hy (fun m=>aq rfl dq (ax (m.aQ 0 rfl) (i:=1) (show q.p.cs[1]? =some (Value.int .i64 (q.b:Nat))from rfl)))<|hy (fun _=>bS rfl Tryz.underlying3 Tryz.underlying263 (x2 (by omega)))<| ?_
 refine hx (au rfl Tryz.call207 (Cz (by omega) (by omega) (n:=q.b)) [] rfl [] rfl ?_)
 rintro _ _ _ ⟨rfl,rfl,rfl⟩
 refine hy (fun _=>yV (ca rfl rfl (bx (by omega) (by omega))) ((show Value.int .i64 (((Nat.log2 q.b+1:Nat):Int)-1)= .int .i64 ((Nat.log2 q.b:Nat):Int)from congrArg (Value.int .i64) (by omega))))<|hy (fun _=>(rT (a:=1) (k:=Nat.log2 q.b) hl12 rfl rfl))<|hy (fun _=>yV ((Dr (b:=1) rfl rfl)) ((show Wd (UInt32.ofNat ((1:UInt32).toNat*2 ^ Nat.log2 q.b)-1)=Wd (nN q) by unfold nN ji;rw[show(1:UInt32).toNat=1 from rfl,Nat.one_mul])))<|hy (fun _=>ab rfl)<|ai<|al (ρ' :=[(2,_),(5,_),(1,_),(0,_)]) ⟨rfl,rfl,rfl,rfl,trivial⟩<|ak (X' :=[_]) (S' :=[]) (fun _ m=>m)<|ae<|aS<| ?_
 exact a6 trivial rfl rfl [] rfl [] rfl ⟨rfl,rfl,rfl⟩
def zY(q:Pn)(gr:Nat)(A:Option Addr)(n c:Nat):List Value:=[.int .i64 (q.a:Int),.int .i64 (q.b:Int),.int .i64 (q.m:Int),Wd (nN q),.pointer (some ⟨gr,0,none⟩),.slice A n c]
theorem F5{q:Pn}(hq:q.ok):b6 Tryz.prog 283 [.agg q.p.cs.toArray] [] [] (fun v_ X_ S_=>∃gc gr,v_=(.tuple #[.pointer (some ⟨gc,0,none⟩),.int .i64 0])∧X_=[aE gc 389 (zY q gr none 0 0),j0 gr kc []]∧S_=[]):=by
 refine aI (N:=13) Tryz.func283 rfl rfl (by simp) fun b=> ?_
 refine ah<|aj<| ?_
 refine hx (bu rfl (fun g1=> ?_))
 refine aG (fun w m=>m.bs 0 rfl (show _=aE g1 75 q.p.cs from congrArg (aE _ _) (aW _))) ?_
 refine hy (fun _=>ab rfl)<|hy (fun _=>ab rfl)<|ai<|ak (X' :=[_]) (S' :=[]) (fun _ m=>m)<|ae<|ah<|ah<|aj<|hy (fun m=>yV (aX rfl jv iy rfl ((m.aQ 0 rfl).aw)) ((rfl:_=Value.agg q.p.cs.toArray)))<| ?_
 refine hx (au rfl Tryz.call192 (n9 (p:=q.p)) [] rfl [] rfl ?_)
 rintro _ _ _ ⟨rfl,rfl,rfl⟩
 refine hy (fun _=>eE rfl)<|ai<|al (ρ' :=[(6,_),(3,_),(2,_),(1,_),(0,_)]) ⟨rfl,rfl,rfl,rfl,rfl,trivial⟩<|ak (X' :=[_]) (S' :=[]) (fun _ m=>m)<|ae<| ?_
 refine dj rfl ((decide_eq_false (fun h=>h hq.may))) ?_
 refine aB<|ae<|ah<|cu [2,3,5] [(0,some 2),(1,some 0),(2,none),(3,none),(4,some 2),(5,none),(6,some 3),(7,some 3)] (by kernel_rfl) (by kernel_rfl) rfl 99<|b5 (fun m=>yV (aX rfl jv iy rfl ((m.aQ 0 rfl).aw)) ((rfl:_=Value.agg q.p.cs.toArray)))<|b5 (fun m=>yV (aX rfl jv iy rfl ((m.aQ 0 rfl).aw)) ((rfl:_=Value.agg q.p.cs.toArray)))<| ?_
 refine di (au rfl Tryz.call302 (FL hq (q:=q)) [] rfl [] rfl ?_)
 rintro _ _ _ ⟨rfl,rfl,rfl⟩
 refine⟨(fun _=>wk [0] [] rfl rfl), ?_⟩
 refine di (au rfl Tryz.call303 (wR) [] rfl [] rfl ?_)
 rintro _ _ _ ⟨g,rfl,rfl,rfl⟩
 refine⟨(fun _=>wk [1] [] rfl rfl), ?_⟩
 refine an (yV (bQ Fg rfl rfl (by kernel_rfl) (.cons (o:=0) (sz:=3) (by kernel_rfl) rfl rfl (Nat.le_of_ble_eq_true rfl) (.cons (o:=3) (sz:=1) (by kernel_rfl) rfl rfl (Nat.le_of_ble_eq_true rfl) (.cons (o:=4) (sz:=1) (by kernel_rfl) rfl rfl (Nat.le_of_ble_eq_true rfl) .nil)))) ((rfl:_=Value.agg (zY q g none 0 0).toArray)))<| ?_
 refine di (bu rfl (fun g12=>⟨(fun _=>wk [2] [] rfl rfl), ?_⟩))
 refine an (ab rfl)<|an (ab rfl)<|bo<|al (ρ' :=[(3,_),(2,_),(6,_),(1,_),(0,_)]) ⟨rfl,rfl,rfl,rfl,rfl,trivial⟩<|ak (X' :=[_,_,_]) (S' :=[]) (fun _ m=>m)<|ae<|aS<| ?_
 refine ak (fun w m=>m.bs 0 rfl (show _=aE g12 389 (zY q g none 0 0)from congrArg (aE _ _) (aW _))) ?_
 exact c9 trivial rfl rfl rfl [0,0] rfl [] rfl ⟨g12,g,rfl,rfl,rfl⟩
end Go.Proofs.YtmibdabdlgmafaaGreatDoor
end
section
namespace Go.Proofs.YtmibdabdlgmafaaGreatDoor
open Go.Eng Go.Hx
def fb(q:Pn)(cur:List UInt8):Prop:=cur.length=q.m∨(q.a≤cur.length∧dX bm cur &&& nN q=0)
instance(q:Pn)(cur:List UInt8):Decidable (fb q cur):=by unfold fb;infer_instance
def dJ(q:Pn)(st:List (List UInt8)×List UInt8)(x:UInt8):List (List UInt8)×List UInt8:=if fb q (st.2++[x])then(st.1++[st.2++[x]],[])else(st.1,st.2++[x])
def ic(q:Pn)(l:List UInt8):List (List UInt8)×List UInt8:=l.foldl (dJ q) ([],[])
theorem uv(q:Pn)(l:List UInt8)(x:UInt8):ic q (l++[x])=dJ q (ic q l) x:=by simp[ic]
theorem ey{l:List UInt8}{i:Nat}(h:i<l.length):l.take (i+1)=l.take i++[l.getD i 0]:=by
 rw[List.take_add_one,List.getD,List.getElem?_eq_getElem h];rfl
theorem ny{w:List UInt32}{b:List UInt8}{q:Pn}:∀(f k:Nat),b.length<k+f→(∀j,k≤j→j<eB w b q k f→¬nC w b q j)∧(eB w b q k f<b.length→nC w b q (eB w b q k f)∧k≤eB w b q k f)
 |0,k,h=>by
  rw[eB]
  exact⟨fun j h1 h2=>by omega,fun h1=>absurd h1 (Nat.lt_irrefl _)⟩
 |f+1,k,h=>by
  rw[eB]
  split
  ·split
   ·next h1 h2=>exact⟨fun j h3 h4=>by omega,fun _=>⟨h2,Nat.le_refl _⟩⟩
   ·next h1 h2=>
    obtain⟨h3,h4⟩:=ny (w:=w) (b:=b) (q:=q) f (k+1) (by omega)
    refine⟨fun j h5 h6=> ?_,fun h5=>⟨(h4 h5).1,by have:=(h4 h5).2;omega⟩⟩
    by_cases e:j=k
    ·rw[e];exact h2
    ·exact h3 j (by omega) h6
  ·exact⟨fun j h1 h2=>by omega,fun h1=>absurd h1 (Nat.lt_irrefl _)⟩
theorem o4{q:Pn}(hq:q.ok){b:List UInt8}{k:Nat}(hk:k≤b.length)(ha:q.a≤k):fb q (b.take k)↔nC bm b q k:=by
 unfold fb nC
 rw[List.length_take,Nat.min_eq_left hk,ya hq]
 exact⟨fun h=>h.imp id (fun h=>h.2),fun h=>h.imp id (fun h=>⟨ha,h⟩)⟩
theorem rQ{q:Pn}(hq:q.ok){b:List UInt8}{k:Nat}(hk:k≤b.length)(ha:k<q.a):¬fb q (b.take k):=by
 have h2:=hq.h2;have h3:=hq.h3
 unfold fb
 rw[List.length_take,Nat.min_eq_left hk]
 rintro(h|h) <;> omega
theorem sr{q:Pn}{b:List UInt8}{outs:List (List UInt8)}:∀(j:Nat),j≤b.length→(∀i,1≤i→i≤j→¬fb q (b.take i))→(b.take j).foldl (dJ q) (outs,[])=(outs,b.take j)
 |0,_,_=>by simp
 |j+1,hj,h=>by
  have ih:=sr (outs:=outs) j (by omega) (fun i h1 h2=>h i h1 (by omega))
  have hc:=h (j+1) (by omega) (Nat.le_refl _)
  rw[ey (by omega)]at hc ⊢
  rw[List.foldl_append,ih]
  show dJ q (outs,b.take j) _=_
  unfold dJ
  rw[if_neg hc]
def wL(st:List (List UInt8)×List UInt8):List (List UInt8):=st.1++(if st.2=[]then []else [st.2])
theorem qj{q:Pn}(hq:q.ok):∀(f:Nat) (b:List UInt8) (outs:List (List UInt8)),b.length≤f→wL (b.foldl (dJ q) (outs,[]))=outs++iw bm q f b
 |0,b,outs,h=>by
  obtain rfl:b=[]:=List.eq_nil_of_length_eq_zero (by omega)
  simp[wL,iw]
 |f+1,b,outs,h=>by
  by_cases hb:b=[]
  ·subst hb
   simp[wL,iw]
  ·have hb1:1≤b.length:=by
    have:b.length≠0:=fun e=>hb (List.eq_nil_of_length_eq_zero e)
    omega
   rw[iw,if_neg hb]
   have k1:=iZ (w:=bm) hq hb1
   have k2:=qn bm b q
   obtain⟨h3,h4⟩:=ny (w:=bm) (b:=b) (q:=q) (b.length+1) q.a (by omega)
   have hK:eB bm b q q.a (b.length+1)=gH bm b q:=rfl
   rw[hK]at h3 h4
   generalize gH bm b q=K at k1 k2 h3 h4
   have hno:∀i,1≤i→i≤K-1→¬fb q (b.take i):=fun i h1 h2=>by
    by_cases ha:i<q.a
    ·exact rQ hq (by omega) ha
    ·rw[o4 hq (by omega) (by omega)]
     exact h3 i (by omega) (by omega)
   have hrun:=sr (q:=q) (b:=b) (outs:=outs) (K-1) (by omega) hno
   have lT:(b.take K).foldl (dJ q) (outs,[])=if fb q (b.take K)then(outs++[b.take K],[])else(outs,b.take K):=by
    have e:b.take K=b.take (K-1)++[b.getD (K-1) 0]:=by
     have:=ey (l:=b) (i:=K-1) (by omega)
     rwa [show K-1+1=K by omega]at this
    rw[e,List.foldl_append,hrun]
    rfl
   by_cases hlt:K<b.length
   ·obtain⟨h5,h6⟩:=h4 hlt
    rw[if_pos ((o4 hq (by omega) h6).2 h5)]at lT
    have ih:=qj hq f (b.drop K) (outs++[b.take K]) (by rw[List.length_drop];omega)
    have e:b.foldl (dJ q) (outs,[])=(b.drop K).foldl (dJ q) (outs++[b.take K],[]):=by
     have:b=b.take K++b.drop K:=(List.take_append_drop K b).symm
     rw[this,List.foldl_append,←this,lT]
    rw[e,ih,List.append_assoc]
    rfl
   ·have hKl:K=b.length:=by omega
    subst hKl
    rw[List.take_of_length_le (Nat.le_refl _)]at lT ⊢
    rw[List.drop_of_length_le (Nat.le_refl _),sQ,lT]
    split
    ·simp[wL]
    ·simp[wL,hb]
theorem ue{q:Pn}(hq:q.ok)(l:List UInt8):wL (ic q l)=ee l q:=by
 have:=qj hq l.length l [] (Nat.le_refl _)
 rwa [List.nil_append]at this
end Go.Proofs.YtmibdabdlgmafaaGreatDoor
end
section
namespace Go.Eng
open Go.RowKit
section
variable{P:Program}{Q:Exit→Act→World→Prop}{N:Nat}{D:List Deferred}{ρ:Env}{b:b8}{X Xr S:List bc}{c:Code}
theorem C4{α β γ δ ε ζ η θ:Type}(μ:α→β→γ→δ→ε→ζ→η→θ→Nat)(R:α→β→γ→δ→ε→ζ→η→θ→Env)(X1 S1:α→β→γ→δ→ε→ζ→η→θ→List bc)(I:α→β→γ→δ→ε→ζ→η→θ→Prop)(a0:α)(b_0:β)(c_0:γ)(d_0:δ)(e_0:ε)(f_0:ζ)(g_0:η)(h_0:θ)(ρk:Env)(hk:dN ρk ρ)(is:List Nat)(hX:bD is X=some (X1 a0 b_0 c_0 d_0 e_0 f_0 g_0 h_0,Xr))(js:List Nat)(hS:cS js S=some (S1 a0 b_0 c_0 d_0 e_0 f_0 g_0 h_0))(hI:I a0 b_0 c_0 d_0 e_0 f_0 g_0 h_0)(hs:dN (R a0 b_0 c_0 d_0 e_0 f_0 g_0 h_0) ρ)
  (round:∀a b_ c_ d_ e_ f_ g_ h_,I a b_ c_ d_ e_ f_ g_ h_→HC P (Exit.then (fun a' w' =>∃x y z u v_ t_ s_ r_,Ag N D (R x y z u v_ t_ s_ r_++ρk) a' ∧Mem b (X1 x y z u v_ t_ s_ r_++Xr) (S1 x y z u v_ t_ s_ r_++S) w' ∧I x y z u v_ t_ s_ r_∧μ x y z u v_ t_ s_ r_<μ a b_ c_ d_ e_ f_ g_ h_) Q) N D c (R a b_ c_ d_ e_ f_ g_ h_++ρk) b (X1 a b_ c_ d_ e_ f_ g_ h_++Xr) (S1 a b_ c_ d_ e_ f_ g_ h_++S)):HC P Q N D (.loop c) ρ b X S:=
 nA (ι:=α×β×γ×δ×ε×ζ×η×θ) (fun i=>μ i.1 i.2.1 i.2.2.1 i.2.2.2.1 i.2.2.2.2.1 i.2.2.2.2.2.1 i.2.2.2.2.2.2.1 i.2.2.2.2.2.2.2) (fun i=>R i.1 i.2.1 i.2.2.1 i.2.2.2.1 i.2.2.2.2.1 i.2.2.2.2.2.1 i.2.2.2.2.2.2.1 i.2.2.2.2.2.2.2) (fun i=>X1 i.1 i.2.1 i.2.2.1 i.2.2.2.1 i.2.2.2.2.1 i.2.2.2.2.2.1 i.2.2.2.2.2.2.1 i.2.2.2.2.2.2.2) (fun i=>S1 i.1 i.2.1 i.2.2.1 i.2.2.2.1 i.2.2.2.2.1 i.2.2.2.2.2.1 i.2.2.2.2.2.2.1 i.2.2.2.2.2.2.2) (fun i=>I i.1 i.2.1 i.2.2.1 i.2.2.2.1 i.2.2.2.2.1 i.2.2.2.2.2.1 i.2.2.2.2.2.2.1 i.2.2.2.2.2.2.2) (a0,b_0,c_0,d_0,e_0,f_0,g_0,h_0) ρk hk is hX js hS hI hs fun i hi w m a ha=>Code.wp_mono (fun e a' w' q=>by
  cases e <;> first|exact q|(obtain⟨x,y,z,u,v_,t_,s_,r_,h⟩:=q;exact⟨(x,y,z,u,v_,t_,s_,r_),h⟩)) (round i.1 i.2.1 i.2.2.1 i.2.2.2.1 i.2.2.2.2.1 i.2.2.2.2.2.1 i.2.2.2.2.2.2.1 i.2.2.2.2.2.2.2 hi w m a ha)
theorem rq{α β γ δ ε ζ η θ:Type}{M:Nat}{μ:α→β→γ→δ→ε→ζ→η→θ→Nat}{R:α→β→γ→δ→ε→ζ→η→θ→Env}{X1 S1:α→β→γ→δ→ε→ζ→η→θ→List bc}{Xr Sr:List bc}{ρ0:Env}{I:α→β→γ→δ→ε→ζ→η→θ→Prop}(x:α)(y:β)(z:γ)(u:δ)(v_:ε)(t_:ζ)(s_:η)(r_:θ)(hs:dN (R x y z u v_ t_ s_ r_++ρ0) ρ)(is:List Nat){Xz:List bc}(hX:bD is X=some (X1 x y z u v_ t_ s_ r_++Xr,Xz))(js:List Nat)(hS:cS js S=some (S1 x y z u v_ t_ s_ r_++Sr))(hI:I x y z u v_ t_ s_ r_)(hlt:μ x y z u v_ t_ s_ r_<M):
  HQ (Exit.then (fun a' w' =>∃x y z u v_ t_ s_ r_,Ag N D (R x y z u v_ t_ s_ r_++ρ0) a' ∧Mem b (X1 x y z u v_ t_ s_ r_++Xr) (S1 x y z u v_ t_ s_ r_++Sr) w' ∧I x y z u v_ t_ s_ r_∧μ x y z u v_ t_ s_ r_<M) Q) N D .normal ρ b X S:=
 fun w m a ha=>⟨x,y,z,u,v_,t_,s_,r_,ha.sub hs.sub,((m.perm (ar _ _ _ _ hX)).iI).ir (bY _ _ _ hS),hI,hlt⟩
end
end Go.Eng
end
section
set_option maxRecDepth 20000
set_option maxHeartbeats 2000000
namespace Go.Proofs.YtmibdabdlgmafaaGreatDoor
open Go.Eng Go.Hx
theorem xZ{g gr:Nat}{q:Pn}{A:Option Addr}{n c:Nat}{s:e8}{l:List UInt8}(hs:s.ok l):b6 Tryz.prog 285 [.pointer (some ⟨g,0,none⟩)] [aE g 389 (zY q gr A n c),j0 gr s l] [] (fun v_ X_ S_=>v_=(.slice A n c)∧X_=[aE g 389 (zY q gr none 0 0),j0 gr s []]∧S_=[]):=by
 refine aI (N:=17) Tryz.func285 rfl rfl (by simp) fun b=> ?_
 refine ah<|aj<|hy (fun _=>ab rfl)<|ai<|ae<|ah<|aj<|hy (fun _=>aa rfl)<|hy (fun _=>aM rfl)<|hy (fun _=>aD rfl lM (by decide))<|hy (fun m=>aq rfl cZ (ax (m.aQ 0 rfl) rfl))<|hy (fun _=>ab rfl)<|ai<|al (ρ' :=[(3,_),(2,_),(0,_)]) ⟨rfl,rfl,rfl,trivial⟩<|ae<|ah<|aj<|hy (fun _=>aa rfl)<|hy (fun _=>aM rfl)<|hy (fun _=>aD rfl lM (by decide))<| ?_
 refine cx (bU 0 rfl rfl rfl jk rfl (by first|exact Nat.le_of_ble_eq_true rfl|simp) ?_)
 refine aG (fun w m=>m.bs 0 rfl (show _=aE g 389 (zY q gr none 0 0)from rfl)) ?_
 refine ai<|al (ρ' :=[(3,_),(2,_),(0,_)]) ⟨rfl,rfl,rfl,trivial⟩<|ak (X' :=[_,_]) (S' :=[]) (fun _ m=>m)<|ae<|ah<|aj<|hy (fun _=>aa rfl)<|hy (fun _=>aM rfl)<|hy (fun _=>aD rfl uS (by decide))<|hy (fun m=>aq rfl Cb (ax (m.aQ 0 rfl) rfl))<| ?_
 refine hx (au rfl Tryz.call305 (BZ hs) [1] rfl [] rfl ?_)
 rintro _ _ _ ⟨rfl,rfl,rfl⟩
 refine ai<|al (ρ' :=[(3,_),(2,_),(0,_)]) ⟨rfl,rfl,rfl,trivial⟩<|ak (X' :=[_,_]) (S' :=[]) (fun _ m=>m)<|ae<|ah<|aj<|hy (fun _=>aa rfl)<|hy (fun _=>ab rfl)<|ai<|al (ρ' :=[(2,_),(3,_),(0,_)]) ⟨rfl,rfl,rfl,trivial⟩<|ae<|aS<| ?_
 exact a6 trivial rfl rfl [1,0] rfl [] rfl ⟨rfl,rfl,rfl⟩
theorem AF{g gr:Nat}{q:Pn}{B:Option Addr}{n k:Nat}{s0:e8}{l:List UInt8}(hq:q.ok)(hs0:s0.ok [])(hl:l.length=n)(hn:n≤1000000):b6 Tryz.prog 284 [.pointer (some ⟨g,0,none⟩),.slice B n k] [aE g 389 (zY q gr none 0 0),j0 gr s0 []] [cn 1 B n (aP l)] (fun v_ X_ S_=>∃A1 c1 rs A c cur s,v_=(.slice A1 (List.length rs) c1)∧X_=[aF 27 1 (.slice A1 (List.length rs) c1) (List.length rs) (lr rs),aE g 389 (zY q gr A (List.length cur) c),j0 gr s cur,aF 5 1 (.slice A (List.length cur) c) (List.length cur) (aP cur)]∧S_=[dw rs]∧(rs.map ba.l=(ic q l).1∧cur=(ic q l).2∧(∀r∈rs,r.n=r.l.length)∧s.ok cur∧rs.length+cur.length≤n)):=by
 have q1:=hq.h1
 have q2:=hq.h2
 have q3:=hq.h3
 have q4:=hq.h4
 refine aI (N:=72) Tryz.func284 rfl rfl (by simp) fun b=> ?_
 refine aU (fun m=>eb (m.rd 0 rfl)) ?_
 rintro⟨hl_rb,hA_rb⟩
 refine bd (fun w m=>m.cI (r' :=aF 27 1 (.slice none 0 0) 0 []) (.refl _ _) (Own.nil _ _ _ _) (fun k hk=>hk.elim)) ?_
 refine bd (fun w m=>m.cI (r' :=aF 5 1 (.slice none 0 0) 0 []) (.refl _ _) (Own.nil _ _ _ _) (fun k hk=>hk.elim)) ?_
 refine bd (S' :=fw []::_) (fun w m=>m.o6 [] rfl) ?_
 refine bd (fun w m=>m.fp 0 rfl View.zS) ?_
 refine ah<|aj<|hy (fun _=>ab rfl)<|ai<|ae<|ah<|aj<|hy (fun _=>aa rfl)<|hy (fun _=>aM rfl)<|hy (fun _=>aD rfl uS (by decide))<|hy (fun m=>aq rfl Cb (ax (m.aQ 2 rfl) rfl))<|hy (fun _=>ff rfl rfl)<|hy (fun _=>ab rfl)<|ai<|al (ρ' :=[(5,_),(4,_),(0,_),(1,_)]) ⟨rfl,rfl,rfl,rfl,trivial⟩<|ae<|ah<|aj<|hy (fun _=>ab rfl)<|ai<|ae<|ah<|ah<|aj<|hy (fun _=>aa rfl)<|hy (fun _=>aT rfl Tryz.underlying27)<|hy (fun _=>aa rfl)<|ai<|ae<|aK<| ?_
 refine C4 (fun i rs A1 c1 A c cur s=>n-i) (fun i rs A1 c1 A c cur s=>[(18,.int .i64 (i:Nat)),(6,.slice A1 (List.length rs) c1)]) (fun i rs A1 c1 A c cur s=>[aF 27 1 (.slice A1 (List.length rs) c1) (List.length rs) (lr rs),aE g 389 (zY q gr A (List.length cur) c),j0 gr s cur,aF 5 1 (.slice A (List.length cur) c) (List.length cur) (aP cur)]) (fun i rs A1 c1 A c cur s=>[dw rs]) (fun i rs A1 c1 A c cur s=>i≤n∧rs.map ba.l=(ic q (l.take i)).1∧cur=(ic q (l.take i)).2∧(∀r∈rs,r.n=r.l.length)∧s.ok cur∧rs.length+cur.length≤i) 0 [] none 0 none 0 [] s0 [(17,_),(16,_),(5,_),(4,_),(0,_),(1,_)] ⟨rfl,rfl,rfl,rfl,rfl,rfl,trivial⟩ [1,1,1,0] rfl [0] rfl (⟨Nat.zero_le _,rfl,rfl,fun r h=>absurd h List.not_mem_nil,hs0,Nat.le_refl _⟩) ⟨rfl,rfl,trivial⟩ (fun i rs A1 c1 A c cur s ⟨hi,hrs,hcur,hrn,hs,hlen⟩=> ?_)
 refine ah<|aj<|hy (fun _=>bC rfl rfl)<|ai<|ae<|ah<| ?_
 refine cj rfl (fun hlt=> ?_) (fun hlt=> ?_)
 ·have hil:i<l.length:=by omega
  have hsc:=uv q (l.take i) (l.getD i 0)
  rw[←ey hil]at hsc
  obtain⟨e,he⟩:∃e,e=l.getD i 0:=⟨_,rfl⟩
  have hce:(cur++[e]).length=cur.length+1:=by simp
  rw[←he]at hsc
  refine aB<|ae<|ah<|aK<|ah<|aj<|hy (fun _=>aN rfl rfl Tryz.underlying27 dB hA_rb rfl (by omega))<|hy (fun m=>yV (aq rfl iv ((m.rd 3 rfl).cell (bB (by omega)))) ((show Value.int .u8 (((l.getD i 0).toNat:Nat):Int)=B8 e by rw[he];rfl)))<|hy (fun _=>ab rfl)<|ai<|al (ρ' :=[(8,_),(19,_),(18,_),(6,_),(17,_),(16,_),(5,_),(4,_),(0,_),(1,_)]) ⟨rfl,rfl,rfl,rfl,rfl,rfl,rfl,rfl,rfl,rfl,trivial⟩<|ae<|ah<|aj<|hy (fun _=>aa rfl)<|hy (fun _=>aa rfl)<| ?_
  refine hx (ek rfl rfl Tryz.call304 (EB hs (by omega) (c:=e) (l:=cur)) [2] rfl [] rfl ?_)
  rintro _ _ _ ⟨s1,rfl,rfl,rfl,hp⟩
  refine hy (fun _=>ab rfl)<|ai<|al (ρ' :=[(9,_),(8,_),(19,_),(18,_),(6,_),(17,_),(16,_),(5,_),(4,_),(0,_),(1,_)]) ⟨rfl,rfl,rfl,rfl,rfl,rfl,rfl,rfl,rfl,rfl,rfl,trivial⟩<|ak (X' :=[_,_,_,_]) (S' :=[_,_,_,_]) (fun _ m=>m)<|ae<|ah<|aj<|hy (fun _=>aa rfl)<|hy (fun _=>aa rfl)<|hy (fun _=>aM rfl)<|hy (fun _=>aD rfl lM (by decide))<|hy (fun m=>aq rfl cZ (ax (m.aQ 2 rfl) rfl))<|hy (fun _=>aa rfl)<| ?_
  refine hx (bT Tryz.underlying27 eA rfl rfl rfl (by simp[Value.cells,B8]) (by decide) (by decide) (fun g31=> ?_))
  have hA_b31:0<1→(some (⟨g31,0,none⟩:Addr))≠none:=fun _ h=>by cases h
  refine aG (fun w m=>m.bs 0 rfl (show _=aF 5 1 (.slice (some ⟨g31,0,none⟩) 1 1) 1 (aP [e])from rfl)) ?_
  refine hx (bw 4 rfl rfl rfl Tryz.underlying27 Tryz.underlying27 (by exact .inl rfl) eA rfl (fun m=>Src.bW (m.ord 0 rfl)) bg (by unfold maxLen;omega) (by omega) (fun u=> ?_))
  refine aA (fun m=>(m.own 0 rfl).slice) ?_
  rintro⟨A_o,c_o,rfl,hc_o⟩
  refine aA (fun m=>(m.ord 0 rfl).2.1) fun hA_o=> ?_
  refine aG (fun w m=>m.bs 0 rfl (show _=aF 5 1 (.slice A_o (List.length (cur++[e])) c_o) (List.length (cur++[e])) (aP (cur++[e]))from(by rw[hce];simp[aP]))) ?_
  refine hy (fun _=>aM rfl)<|hy (fun _=>aD rfl lM (by decide))<| ?_
  refine cx (bU 4 rfl rfl rfl jk rfl (by first|exact Nat.le_of_ble_eq_true rfl|simp) ?_)
  refine aG (fun w m=>m.bs 0 rfl (show _=aE g 389 (zY q gr A_o (List.length (cur++[e])) c_o)from(by rw[hce];rfl))) ?_
  refine ai<|al (ρ' :=[(9,_),(8,_),(19,_),(18,_),(6,_),(17,_),(16,_),(5,_),(4,_),(0,_),(1,_)]) ⟨rfl,rfl,rfl,rfl,rfl,rfl,rfl,rfl,rfl,rfl,rfl,trivial⟩<|ak (X' :=[_,_,_,_,_]) (S' :=[_,_,_,_]) (fun _ m=>m)<|ae<|ah<|aj<|hy (fun _=>aa rfl)<|hy (fun _=>aM rfl)<|hy (fun _=>aD rfl lM (by decide))<|hy (fun m=>aq rfl cZ (ax (m.aQ 0 rfl) rfl))<|hy (fun _=>aT rfl Tryz.underlying27)<|hy (fun _=>ab rfl)<|ai<|al (ρ' :=[(10,_),(9,_),(8,_),(19,_),(18,_),(6,_),(17,_),(16,_),(5,_),(4,_),(0,_),(1,_)]) ⟨rfl,rfl,rfl,rfl,rfl,rfl,rfl,rfl,rfl,rfl,rfl,rfl,trivial⟩<|ae<|ah<| ?_
  by_cases h1:(cur++[e]).length=q.m
  ·refine aj<|hy (fun _=>aa rfl)<|hy (fun _=>aa rfl)<|hy (fun _=>aM rfl)<|hy (fun _=>aD rfl lX (by decide))<|hy (fun _=>aD rfl ju (by decide))<|hy (fun m=>aq rfl dq (ax (m.aQ 0 rfl) rfl))<|hy (fun _=>yT (cm rfl rfl) ((decide_eq_true (by rw[h1]))))<|hy (fun _=>aa rfl)<|a7 rfl rfl rfl (by decide)<|a7 rfl rfl rfl (by decide)<|a7 rfl rfl rfl (by decide)<|a7 rfl rfl rfl (by decide)<|a7 rfl rfl rfl (by decide)<|a7 rfl rfl rfl (by decide)<|a7 rfl rfl rfl (by decide)<|a7 rfl rfl rfl (by decide)<|k7 rfl rfl rfl<|k7 rfl rfl rfl<|k7 rfl rfl rfl<|k7 rfl rfl rfl<|k7 rfl rfl rfl<|k7 rfl rfl rfl<|k7 rfl rfl rfl<|a7 rfl rfl rfl (by decide)<|hy (fun _=>bM rfl rfl)<|ai<|al (ρ' :=[(64,_),(10,_),(9,_),(8,_),(19,_),(18,_),(6,_),(17,_),(16,_),(5,_),(4,_),(0,_),(1,_)]) ⟨rfl,rfl,rfl,rfl,rfl,rfl,rfl,rfl,rfl,rfl,rfl,rfl,rfl,trivial⟩<|ae<| ?_
   refine gS rfl (rfl) ?_
   have hcn:fb q (cur++[e]):=(.inl h1)
   have hstep:ic q (l.take (i+1))=(rs.map ba.l++[cur++[e]],[]):=by rw[hsc];unfold dJ;rw[←hcur,if_pos hcn,hrs]
   refine aj<|hy (fun _=>aa rfl)<|hy (fun _=>aa rfl)<| ?_
   refine hx (au rfl Tryz.call285 (xZ hp (l:=(cur++[e]))) [0,2] rfl [] rfl ?_)
   rintro _ _ _ ⟨rfl,rfl,rfl⟩
   refine aG (fun w m=>(m.perm (ar [2] _ [_] _ rfl)).freeze) ?_
   refine aG (fun w m=>m.fp 0 rfl .own) ?_
   refine aG (S' :=fw [dw rs,cn 1 A_o (List.length (cur++[e])) (aP (cur++[e]))]::_) (fun w m=>m.o6 [2,0] rfl) ?_
   refine aG (fun w m=>m.fp 0 rfl (View.jM (rs:=rs) (r:=⟨A_o,List.length (cur++[e]),c_o,cur++[e]⟩) (by show(cur++[e]).length≤c_o;omega))) ?_
   obtain⟨r,hr⟩:∃r:ba,r=⟨A_o,List.length (cur++[e]),c_o,cur++[e]⟩:=⟨_,rfl⟩
   rw[←hr]
   have hlr:(rs++[r]).length=rs.length+1:=by simp
   refine hx (bT Tryz.underlying84 jW rfl rfl rfl (by simp[Value.cells,B8]) (by decide) (by decide) (fun g68=> ?_))
   have hA_b68:0<1→(some (⟨g68,0,none⟩:Addr))≠none:=fun _ h=>by cases h
   refine aG (fun w m=>m.bs 0 rfl (show _=aF 27 1 (.slice (some ⟨g68,0,none⟩) 1 1) 1 (lr [r])from(by rw[hr];rfl))) ?_
   refine hx (bw 4 rfl rfl rfl Tryz.underlying84 Tryz.underlying84 (by exact .inl rfl) jW rfl (fun m=>Src.bW (m.ord 0 rfl)) n5 (by unfold maxLen;omega) (by omega) (fun u2=> ?_))
   refine aA (fun m=>(m.own 0 rfl).slice) ?_
   rintro⟨A_z,c_z,rfl,hc_z⟩
   refine aA (fun m=>(m.ord 0 rfl).2.1) fun hA_z=> ?_
   refine aG (fun w m=>m.bs 0 rfl (show _=aF 27 1 (.slice A_z (List.length rs+1) c_z) (List.length rs+1) (lr (rs++[r]))from congrArg (aF _ _ _ _) (by rw[jf]))) ?_
   rw[←hlr]
   refine aG (fun w m=>m.cI (r' :=aF 5 1 (.slice none 0 0) 0 []) (.refl _ _) (Own.nil _ _ _ _) (fun k hk=>hk.elim)) ?_
   refine hy (fun _=>ab rfl)<|ai<|al (ρ' :=[(6,_),(64,_),(10,_),(9,_),(8,_),(19,_),(18,_),(17,_),(16,_),(5,_),(4,_),(0,_),(1,_)]) ⟨rfl,rfl,rfl,rfl,rfl,rfl,rfl,rfl,rfl,rfl,rfl,rfl,rfl,trivial⟩<|ak (X' :=[_,_,_,_,_,_]) (S' :=[_,_,_,_,_,_,_,_]) (fun _ m=>m)<|aR<|ae<|aj<|hy (fun _=>aL rfl rfl (bx (by omega) (by omega)))<|hy (fun _=>aa rfl)<|ai<|al (ρ' :=[(18,_),(6,_),(64,_),(10,_),(9,_),(8,_),(19,_),(17,_),(16,_),(5,_),(4,_),(0,_),(1,_)]) ⟨rfl,rfl,rfl,rfl,rfl,rfl,rfl,rfl,rfl,rfl,rfl,rfl,rfl,trivial⟩<| ?_
   have hrn2:∀x∈rs++[r],ba.n x=(ba.l x).length:=fun x hx=>by
    rcases List.mem_append.1 hx with hx|hx
    ·exact hrn x hx
    ·rw[List.mem_singleton.1 hx,hr]
   refine rq (i+1) (rs++[r]) A_z c_z none 0 [] s1 ⟨rfl,rfl,rfl,rfl,rfl,rfl,rfl,rfl,trivial⟩ [1,2,2,0] rfl [0,5,6,7] rfl (⟨by omega,by rw[hstep,List.map_append,hr];rfl,by rw[hstep],hrn2,hp.clear,by rw[hlr];show _+0≤_;omega⟩) (by omega)
  ·by_cases h2:q.a≤(cur++[e]).length
   ·refine aj<|hy (fun _=>aa rfl)<|hy (fun _=>aa rfl)<|hy (fun _=>aM rfl)<|hy (fun _=>aD rfl lX (by decide))<|hy (fun _=>aD rfl ju (by decide))<|hy (fun m=>aq rfl dq (ax (m.aQ 0 rfl) rfl))<|hy (fun _=>yF (cm rfl rfl) ((decide_eq_false (by omega))))<|hy (fun _=>aa rfl)<|cg (o:=_) rfl rfl rfl (fun _=>aa rfl)<|cg (o:=_) rfl rfl rfl (fun _=>aa rfl)<|cg (o:=_) rfl rfl rfl (fun _=>aM rfl)<|cg (o:=_) rfl rfl rfl (fun _=>aD rfl lX (by decide))<|cg (o:=_) rfl rfl rfl (fun _=>aD rfl gR (by decide))<|cg (o:=_) rfl rfl rfl (fun m=>aq rfl dq (ax (m.aQ 0 rfl) rfl))<|cg (o:=_) rfl rfl rfl (fun _=>yT (ec rfl rfl) ((decide_eq_true (by omega))))<|cg (o:=_) rfl rfl rfl (fun _=>aa rfl)<|cg (o:=_) rfl rfl rfl (fun _=>aa rfl)<|cg (o:=_) rfl rfl rfl (fun _=>aa rfl)<|cg (o:=_) rfl rfl rfl (fun _=>aM rfl)<|cg (o:=_) rfl rfl rfl (fun _=>aD rfl By (by decide))<|cg (o:=_) rfl rfl rfl (fun m=>aq rfl bG (ax (m.aQ 0 rfl) rfl))<|cg (o:=_) rfl rfl rfl (fun _=>gC rfl rfl)<|cg (o:=_) rfl rfl rfl (fun _=>cm rfl rfl)<|cg (o:=_) rfl rfl rfl (fun _=>bM rfl rfl)<|hy (fun _=>bn rfl rfl)<|ai<|al (ρ' :=[(64,_),(10,_),(9,_),(8,_),(19,_),(18,_),(6,_),(17,_),(16,_),(5,_),(4,_),(0,_),(1,_)]) ⟨rfl,rfl,rfl,rfl,rfl,rfl,rfl,rfl,rfl,rfl,rfl,rfl,rfl,trivial⟩<|ae<| ?_
    refine cj rfl (fun hz=> ?_) (fun hz=> ?_)
    ·have hcn:fb q (cur++[e]):=.inr ⟨h2,UInt32.toNat_inj.1 (by show _=0;have:=hz;omega)⟩
     have hstep:ic q (l.take (i+1))=(rs.map ba.l++[cur++[e]],[]):=by rw[hsc];unfold dJ;rw[←hcur,if_pos hcn,hrs]
     refine aj<|hy (fun _=>aa rfl)<|hy (fun _=>aa rfl)<| ?_
     refine hx (au rfl Tryz.call285 (xZ hp (l:=(cur++[e]))) [0,2] rfl [] rfl ?_)
     rintro _ _ _ ⟨rfl,rfl,rfl⟩
     refine aG (fun w m=>(m.perm (ar [2] _ [_] _ rfl)).freeze) ?_
     refine aG (fun w m=>m.fp 0 rfl .own) ?_
     refine aG (S' :=fw [dw rs,cn 1 A_o (List.length (cur++[e])) (aP (cur++[e]))]::_) (fun w m=>m.o6 [2,0] rfl) ?_
     refine aG (fun w m=>m.fp 0 rfl (View.jM (rs:=rs) (r:=⟨A_o,List.length (cur++[e]),c_o,cur++[e]⟩) (by show(cur++[e]).length≤c_o;omega))) ?_
     obtain⟨r,hr⟩:∃r:ba,r=⟨A_o,List.length (cur++[e]),c_o,cur++[e]⟩:=⟨_,rfl⟩
     rw[←hr]
     have hlr:(rs++[r]).length=rs.length+1:=by simp
     refine hx (bT Tryz.underlying84 jW rfl rfl rfl (by simp[Value.cells,B8]) (by decide) (by decide) (fun g68=> ?_))
     have hA_b68:0<1→(some (⟨g68,0,none⟩:Addr))≠none:=fun _ h=>by cases h
     refine aG (fun w m=>m.bs 0 rfl (show _=aF 27 1 (.slice (some ⟨g68,0,none⟩) 1 1) 1 (lr [r])from(by rw[hr];rfl))) ?_
     refine hx (bw 4 rfl rfl rfl Tryz.underlying84 Tryz.underlying84 (by exact .inl rfl) jW rfl (fun m=>Src.bW (m.ord 0 rfl)) n5 (by unfold maxLen;omega) (by omega) (fun u2=> ?_))
     refine aA (fun m=>(m.own 0 rfl).slice) ?_
     rintro⟨A_z,c_z,rfl,hc_z⟩
     refine aA (fun m=>(m.ord 0 rfl).2.1) fun hA_z=> ?_
     refine aG (fun w m=>m.bs 0 rfl (show _=aF 27 1 (.slice A_z (List.length rs+1) c_z) (List.length rs+1) (lr (rs++[r]))from congrArg (aF _ _ _ _) (by rw[jf]))) ?_
     rw[←hlr]
     refine aG (fun w m=>m.cI (r' :=aF 5 1 (.slice none 0 0) 0 []) (.refl _ _) (Own.nil _ _ _ _) (fun k hk=>hk.elim)) ?_
     refine hy (fun _=>ab rfl)<|ai<|al (ρ' :=[(6,_),(64,_),(10,_),(9,_),(8,_),(19,_),(18,_),(17,_),(16,_),(5,_),(4,_),(0,_),(1,_)]) ⟨rfl,rfl,rfl,rfl,rfl,rfl,rfl,rfl,rfl,rfl,rfl,rfl,rfl,trivial⟩<|ak (X' :=[_,_,_,_,_,_]) (S' :=[_,_,_,_,_,_,_,_]) (fun _ m=>m)<|aR<|ae<|aj<|hy (fun _=>aL rfl rfl (bx (by omega) (by omega)))<|hy (fun _=>aa rfl)<|ai<|al (ρ' :=[(18,_),(6,_),(64,_),(10,_),(9,_),(8,_),(19,_),(17,_),(16,_),(5,_),(4,_),(0,_),(1,_)]) ⟨rfl,rfl,rfl,rfl,rfl,rfl,rfl,rfl,rfl,rfl,rfl,rfl,rfl,trivial⟩<| ?_
     have hrn2:∀x∈rs++[r],ba.n x=(ba.l x).length:=fun x hx=>by
      rcases List.mem_append.1 hx with hx|hx
      ·exact hrn x hx
      ·rw[List.mem_singleton.1 hx,hr]
     refine rq (i+1) (rs++[r]) A_z c_z none 0 [] s1 ⟨rfl,rfl,rfl,rfl,rfl,rfl,rfl,rfl,trivial⟩ [1,2,2,0] rfl [0,5,6,7] rfl (⟨by omega,by rw[hstep,List.map_append,hr];rfl,by rw[hstep],hrn2,hp.clear,by rw[hlr];show _+0≤_;omega⟩) (by omega)
    ·have hcn:¬fb q (cur++[e]):=fun h=>h.elim h1 (fun h=>hz (by rw[h.2];rfl))
     have hstep:ic q (l.take (i+1))=(rs.map ba.l,cur++[e]):=by rw[hsc];unfold dJ;rw[←hcur,if_neg hcn,hrs]
     refine aB<|aR<|ae<|aj<|hy (fun _=>aL rfl rfl (bx (by omega) (by omega)))<|hy (fun _=>aa rfl)<|ai<|al (ρ' :=[(18,_),(64,_),(10,_),(9,_),(8,_),(19,_),(6,_),(17,_),(16,_),(5,_),(4,_),(0,_),(1,_)]) ⟨rfl,rfl,rfl,rfl,rfl,rfl,rfl,rfl,rfl,rfl,rfl,rfl,rfl,trivial⟩<| ?_
     refine rq (i+1) rs A1 c1 A_o c_o (cur++[e]) s1 ⟨rfl,rfl,rfl,rfl,rfl,rfl,rfl,rfl,trivial⟩ [4,0,2,0] rfl [0,1,2,3] rfl (⟨by omega,by rw[hstep],by rw[hstep],hrn,hp,by omega⟩) (by omega)
   ·refine aj<|hy (fun _=>aa rfl)<|hy (fun _=>aa rfl)<|hy (fun _=>aM rfl)<|hy (fun _=>aD rfl lX (by decide))<|hy (fun _=>aD rfl ju (by decide))<|hy (fun m=>aq rfl dq (ax (m.aQ 0 rfl) rfl))<|hy (fun _=>yF (cm rfl rfl) ((decide_eq_false (by omega))))<|hy (fun _=>aa rfl)<|cg (o:=_) rfl rfl rfl (fun _=>aa rfl)<|cg (o:=_) rfl rfl rfl (fun _=>aa rfl)<|cg (o:=_) rfl rfl rfl (fun _=>aM rfl)<|cg (o:=_) rfl rfl rfl (fun _=>aD rfl lX (by decide))<|cg (o:=_) rfl rfl rfl (fun _=>aD rfl gR (by decide))<|cg (o:=_) rfl rfl rfl (fun m=>aq rfl dq (ax (m.aQ 0 rfl) rfl))<|cg (o:=_) rfl rfl rfl (fun _=>yF (ec rfl rfl) ((decide_eq_false (by omega))))<|cg (o:=_) rfl rfl rfl (fun _=>aa rfl)<|a7 rfl rfl rfl (by decide)<|a7 rfl rfl rfl (by decide)<|a7 rfl rfl rfl (by decide)<|a7 rfl rfl rfl (by decide)<|a7 rfl rfl rfl (by decide)<|a7 rfl rfl rfl (by decide)<|a7 rfl rfl rfl (by decide)<|cg (o:=_) rfl rfl rfl (fun _=>bn rfl rfl)<|hy (fun _=>bn rfl rfl)<|ai<|al (ρ' :=[(64,_),(10,_),(9,_),(8,_),(19,_),(18,_),(6,_),(17,_),(16,_),(5,_),(4,_),(0,_),(1,_)]) ⟨rfl,rfl,rfl,rfl,rfl,rfl,rfl,rfl,rfl,rfl,rfl,rfl,rfl,trivial⟩<|ae<| ?_
    refine dj rfl (rfl) ?_
    have hcn:¬fb q (cur++[e]):=fun h=>h.elim h1 (fun h=>h2 h.1)
    have hstep:ic q (l.take (i+1))=(rs.map ba.l,cur++[e]):=by rw[hsc];unfold dJ;rw[←hcur,if_neg hcn,hrs]
    refine aB<|aR<|ae<|aj<|hy (fun _=>aL rfl rfl (bx (by omega) (by omega)))<|hy (fun _=>aa rfl)<|ai<|al (ρ' :=[(18,_),(64,_),(10,_),(9,_),(8,_),(19,_),(6,_),(17,_),(16,_),(5,_),(4,_),(0,_),(1,_)]) ⟨rfl,rfl,rfl,rfl,rfl,rfl,rfl,rfl,rfl,rfl,rfl,rfl,rfl,trivial⟩<| ?_
    refine rq (i+1) rs A1 c1 A_o c_o (cur++[e]) s1 ⟨rfl,rfl,rfl,rfl,rfl,rfl,rfl,rfl,trivial⟩ [4,0,2,0] rfl [0,1,2,3] rfl (⟨by omega,by rw[hstep],by rw[hstep],hrn,hp,by omega⟩) (by omega)
 ·obtain rfl:i=n:=by omega
  rw[List.take_of_length_le (by omega)]at hrs hcur
  refine bK<|ao<|ao<|aC<|ae<|ah<|aj<|hy (fun _=>aa rfl)<|hy (fun _=>ab rfl)<|ai<|al (ρ' :=[(4,_),(19,_),(18,_),(6,_),(17,_),(16,_),(5,_),(0,_),(1,_)]) ⟨rfl,rfl,rfl,rfl,rfl,rfl,rfl,rfl,rfl,trivial⟩<|ae<|aS<| ?_
  exact a6 trivial rfl rfl [0,0,0,0] rfl [0] rfl ⟨A1,c1,rs,A,c,cur,s,rfl,rfl,rfl,⟨hrs,hcur,hrn,hs,hlen⟩⟩
end Go.Proofs.YtmibdabdlgmafaaGreatDoor
end
section
namespace Go.Eng
open Go.RowKit
def jA(l:Nat)(r:Loop):bc where
 cR k:=k=l
 holds w:=w.heap[l]? =some (.loop r)
 gx:=fun{S w w'} f h e=>by
  have hlt:=(Array.getElem?_eq_some_iff.1 e).1
  exact(f.block l hlt (h l rfl)).trans e
 low:=fun{w k} e hk=>by
  have hk' :k=l:=hk
  rw[hk'];exact(Array.getElem?_eq_some_iff.1 e).1
theorem wy(w:World)(l:Nat)(o:Obj):Fr (fun k=>k=l) w (w.putObj l o):=⟨rfl,rfl,rfl,by simp,fun k _ hk=>World.putObj_heap_other hk⟩
theorem Mem.Eg{b:b8}{X S:List bc}{w:World}{l:Nat}{r:Loop}(r' :Loop)(m:Mem b (jA l r::X) S w):Mem b (jA l r' ::X) S (w.putObj l (.loop r')):=by
 have hl:w.heap[l]? =some (.loop r):=m.hx (jA l r) (by simp)
 exact m.change (r' :=jA l r') (wy w l _) (World.putObj_heap_same (Array.getElem?_eq_some_iff.1 hl).1) (fun k hk=>.inl hk)
theorem Mem.FO{b:b8}{X S L:List bc}{w:World}(m:Mem b X S w)(h:fw L∈S):Mem b X (L++S) w:=
 ⟨m.fr,m.xx,fun x hx s hs k hk hk' =>by
  rcases List.mem_append.1 hs with hs|hs
  ·exact m.xs x hx _ h k hk ⟨s,hs,hk'⟩
  ·exact m.xs x hx s hs k hk hk',m.hx,fun s hs=>by
  rcases List.mem_append.1 hs with hs|hs
  ·exact m.hs _ h s hs
  ·exact m.hs s hs,m.nx,fun s hs k hk=>by
  rcases List.mem_append.1 hs with hs|hs
  ·exact m.ns _ h k ⟨s,hs,hk⟩
  ·exact m.ns s hs k hk⟩
def Yields{α:Type}(P:Program)(l:Nat)(encs:α→List Value)(exs:α→List bc)(ok:List α→α→Prop)(b:b8)(J:List α→bc→Prop)(Sb:List bc):Prop:=
 ∀(pre:List α) (x:α) (Y:bc) (It S:List bc) (W:World),ok pre x→J pre Y→(∀s∈exs x,s∈S)→fw Sb∈S→Mem b (Y::It) S W→
  YieldAt Fence.wide 1 P l (encs x).toArray W fun e W' =>e= .returned (.bool true)∧∃Y',J (pre++[x]) Y' ∧Mem b (Y' ::It) S W'
def zk{α:Type}(P:Program)(g:Nat)(lb:List Value)(S0:List bc)(encs:α→List Value)(exs:α→List bc)(ok:List α→α→Prop)(done:List α→Prop):Prop:=
 ∀(l:Nat) (b:b8) (J:List α→bc→Prop) (Sb:List bc) (Y:bc),Yields P l encs exs ok b J Sb→J [] Y→∀w,Mem b [Y] (fw Sb::S0) w→
  Calls P g (.func (.yield l) #[] #[]::lb).toArray w (RB b fun v X' S' =>∃xs Y',v= .tuple #[]∧X' =[Y']∧S' =[]∧done xs∧J xs Y')
theorem AI{α:Type}{P:Program}{f:Nat}{fn:Func}{c:Code}{vs:List Value}{N:Nat}{S0:List bc}{encs:α→List Value}{exs:α→List bc}{ok:List α→α→Prop}{done:List α→Prop}(hf:P.funcs[f]? =some fn)(hb:fn.body=some c)(hN:fn.ntmps=N)(hl:vs.length+1≤N)
  (h:∀(l:Nat) (b:b8) (J:List α→bc→Prop) (Sb:List bc) (Y:bc),Yields P l encs exs ok b J Sb→J [] Y→HC P (bodyPost P fn (RB b fun v X' S' =>∃xs Y',v= .tuple #[]∧X' =[Y']∧S' =[]∧done xs∧J xs Y')) N [] c (eX (.func (.yield l) #[] #[]::vs) 0) b [Y] (fw Sb::S0)):
  zk P f vs S0 encs exs ok done:=fun l b J Sb Y hY hJ w m=>enter hf hb hN hl (h l b J Sb Y hY hJ w m)
def Hc{σ:Type}(b:b8)(X1:σ→List bc)(S:List bc)(I:σ→Prop):Exit→Act→World→Prop
 | .normal,_,w=>∃s,I s∧Mem b (X1 s) S w
 |_,_,_=>False
theorem GX{σ:Type}{b:b8}{X1:σ→List bc}{Sb:List bc}{I:σ→Prop}{N:Nat}{D:List Deferred}{ρ:Env}{X S Xz:List bc}(s:σ)(hi:I s)(is:List Nat)(hX:bD is X=some (X1 s,Xz))(js:List Nat)(hS:cS js S=some Sb):
  HQ (Hc b X1 Sb I) N D .normal ρ b X S:=fun w m a ha=>⟨s,hi,m.out is hX js hS⟩
section
variable{P:Program}{Q:Exit→Act→World→Prop}{N:Nat}{D:List Deferred}{ρ ρ' :Env}{b:b8}{X X' Xr S S' Sb S0:List bc}
theorem Bf{α σ:Type}{g gf id:Nat}{ps:Array Tmp}{assign body:Code}{lb:List Value}(X1:σ→List bc)(s0:σ)(I:List α→σ→Prop)(encs:α→List Value)(exs:α→List bc)(ok:List α→α→Prop)(done:List α→Prop)(ρx:α→Env)(ρk:Env)(hk:dN ρk ρ)
  (hv:get ρ g=some (.func (.func gf) #[] lb.toArray)) (heg:∀args w,(callFunc gf args).run P w= .ok (.enter gf args) w)
  (hit:zk P gf lb S0 encs exs ok done) (ks:List Nat) (hS0:cS ks S=some S0)
  (is:List Nat) (hX:bD is X=some (X1 s0,Xr)) (js:List Nat) (hS:cS js S=some Sb)
  (hps:∀x,(encs x).length=ps.size) (hnd:∀x (a:Act),Ag N D ρ a→Ag N [] (ρ' ++tu ps (encs x)++ρ) {tmps:=(ps.zip (encs x).toArray).foldl (fun t (p,v)=>t.setIfInBounds p v) a.tmps,defers:=[]})
  (hasg:∀(l:Nat) (b' :b8) (s:σ) (x:α) (S' :List bc) (Q' :Exit→Act→World→Prop),HQ Q' N [] .normal (ρx x++ρk) b' (X1 s) S' →qY l 1 P Q' N [] assign (ρ' ++tu ps (encs x)++ρ) b' (X1 s) S')
  (h0:I [] s0)
  (hbody:∀(l:Nat) (b' :b8) (pre:List α) (s:σ) (x:α),I pre s→ok pre x→qY l 1 P (Hc b' X1 (exs x++Sb) (I (pre++[x]))) N [] body (ρx x++ρk) b' (X1 s) (exs x++Sb))
  (k:∀(Dk:Nat) (s:σ) (xs:List α),done xs→I xs s→HQ Q N (⟨.collected Dk, #[]⟩::D) .normal ρ b (jH Dk::(X1 s++Xr)) S):
  HC P Q N D (.block id (.rangeFunc (.tmp g) ps assign body)) ρ b X S:=by
 intro w m a ha
 have m1:=m.perm (ar _ _ _ _ hX)
 have hSb:=bY _ _ _ hS
 refine wpIn_wide (n:=3).1 (wpIn_block (wpIn_rangeFunc ?_))
 intro fn hfn
 obtain⟨rec,hrec⟩:∃rec:LoopState→Loop,rec=fun st=>{state:=st,pending:=none,fn,tmps:=a.tmps,params:=ps,assign,body,defers:=w.heap.size}:=⟨_,rfl⟩
 obtain⟨l,hl⟩:∃l,l=w.heap.size+1:=⟨_,rfl⟩
 have hev:a.eval (.tmp g)= .func (.func gf) #[] lb.toArray:=ha.eval hv
 have mA:=m1.cI (r' :=jH w.heap.size) (Fr.alloc w (.deferred (some []))) (World.alloc_heap_new w _) (fun k hk=>by have hk' :k=w.heap.size:=hk;omega)
 have mB:=mA.cI (r' :=jA l (rec .ready)) (Fr.alloc _ (.loop (rec .ready))) (by rw[hl];have:=World.alloc_heap_new (w.alloc (.deferred (some []))) (.loop (rec .ready));rwa [World.size_alloc]at this) (fun k hk=>by have hk' :k=l:=hk;rw[World.size_alloc];omega)
 obtain⟨W1,hW1⟩:∃W1,W1=(w.alloc (.deferred (some []))).alloc (.loop (rec .ready)):=⟨_,rfl⟩
 rw[←hW1]at mB
 refine⟨l,[{target:=.collected w.heap.size,args:= #[]}],W1,{target:=.fn (.func gf) lb.toArray,args:= #[.func (.yield l) #[] #[]]},W1,gf,
  (.func (.yield l) #[] #[]::lb).toArray,W1, ?_, ?_,fun _ _=>trivial, ?_,(fun h=>by simp[Fence.wide]at h), ?_⟩
 ·rw[hW1,hrec,hl];exact run_enterLoop_outer _ _ _ _ _
 ·simp only[resolve,hev]
  simp[go_sem]
 ·simp[invoke,go_sem,heg]
 ·
  have hY:∀b:b8,Yields P l encs exs ok b (fun pre Y=>∃s,I pre s∧Y=ep (X1 s++(jA l (rec .ready)::jH w.heap.size::Xr))) Sb:=by
   rintro b pre x _ It S1 W hok ⟨s,hI,rfl⟩ hex hall mW
   have mU:=(mW.unpack).FO hall
   have hp:∀(s:σ) (r:Loop),(jA l r::(X1 s++(jH w.heap.size::(Xr++It)))).Perm ((X1 s++(jA l r::jH w.heap.size::Xr))++It):=fun s r=>by
    rw[List.append_assoc];exact List.perm_middle.symm
   have hq:∀(s:σ) (r:Loop),(jA l r::(X1 s++(jH w.heap.size::(Xr++It)))).Perm (X1 s++(jA l r::jH w.heap.size::(Xr++It))):=fun s r=>List.perm_middle.symm
   have hl0:W.heap[l]? =some (.loop (rec .ready)):=mU.hx (jA l (rec .ready)) (by simp)
   have hy:=run_yield (P:=P) (args:=(encs x).toArray) hl0 (by rw[hrec];simpa using hps x)
   rw[hrec]at hy
   refine⟨fn,_,assign,body,hy,roundIn_of_wpIn hfn ?_⟩
   have hS1:∀r∈exs x++Sb,r∈Sb++S1:=fun r hr=>(List.mem_append.1 hr).elim (fun h=>List.mem_append_right _ (hex r h)) (fun h=>List.mem_append_left _ h)
   have m0:=(mU.perm (hp s _).symm).perm (hq s _)
   refine hasg l ⟨W,cN (X1 s),cN (exs x++Sb)⟩ s x (exs x++Sb) _ (fun w1 m1 a1 ha1=> ?_) (fun⟨_,_,h⟩=>h) W (m0.part hS1) _ (hnd x a ha)
   have m2:=(m0.frame hS1 m1).ir (S' :=Sb++S1) (fun r hr=>List.mem_append_right _ hr)
   have hl1:w1.heap[l]? =some (.loop (rec .ready)):=m2.hx (jA l (rec .ready)) (by simp)
   refine⟨_,run_beginRound hl1 (by rw[hrec]), ?_⟩
   have m3:=((m2.perm (hq s _).symm).Eg {rec .ready with state:=.busy}).perm (hq s _)
   refine wpIn_mono (hbody l ⟨_,cN (X1 s),cN (exs x++Sb)⟩ pre s x hI hok (fun⟨_,_,h⟩=>h) _ (m3.part hS1) a1 ha1) ?_
   intro e a3 w3 q
   cases e with
   |normal=>
    obtain⟨s',hI',q⟩:=q
    have m4:=(m3.frame hS1 q).ir (S' :=Sb++S1) (fun r hr=>List.mem_append_right _ hr)
    have hl3:w3.heap[l]? =some (.loop {rec .ready with state:=.busy}):=m4.hx (jA l {rec .ready with state:=.busy}) (by simp)
    have hr:=run_endRound (P:=P) none hl3
    have e2:({{rec .ready with state:=.busy}with state:=if(none:Option Code).isNone then .ready else .done,pending:=none}:Loop)=rec .ready:=by rw[hrec];rfl
    rw[e2]at hr
    exact⟨_,_,hr,rfl,_,⟨s',hI',rfl⟩,((((m4.perm (hq s' _).symm).Eg (rec .ready)).perm (hp s' _)).pack).ir (fun r hr=>List.mem_append_right _ hr)⟩
   |ret=>exact q.elim
   |exit i=>exact q.elim
   |goto t=>exact q.elim
   |panic c=>exact q.elim
   |outgrown=>exact q.elim
  have mC:Mem b (X1 s0++(jA l (rec .ready)::jH w.heap.size::Xr)) S W1:=mB.perm ((List.Perm.cons _ List.perm_middle.symm).trans List.perm_middle.symm)
  have mD:Mem b ([ep (X1 s0++(jA l (rec .ready)::jH w.heap.size::Xr))]++[]) (fw Sb::S) W1:=(Mem.pack (X:=[]) (by simpa using mC)).o6 js hS
  have al:∀r∈fw Sb::S0,r∈fw Sb::S:=fun r hr=>by
   rcases List.mem_cons.1 hr with rfl|hr
   ·exact List.mem_cons_self ..
   ·exact List.mem_cons_of_mem _ (bY _ _ _ hS0 r hr)
  refine callsIn_wide.2 (Calls.mono (hit l ⟨W1,cN [ep (X1 s0++(jA l (rec .ready)::jH w.heap.size::Xr))],cN (fw Sb::S0)⟩ _ Sb _ (hY _) ⟨s0,h0,rfl⟩ W1 (mD.part al)) ?_)
  rintro e w2 ⟨v,_,_,rfl,⟨xs,_,rfl,rfl,rfl,hd,s,hI,rfl⟩,m2⟩
  have m3:=((mD.frame al m2).unpack).ir (S' :=S) (fun r hr=>List.mem_append_right _ (List.mem_cons_of_mem _ hr))
  have hl2:w2.heap[l]? =some (.loop (rec .ready)):=m3.hx (jA l (rec .ready)) (by simp)
  have hr:=run_endLoop (P:=P) hl2 (by rw[hrec];simp)
  have e2:(rec .ready).pending=none:=by rw[hrec]
  rw[e2]at hr
  have hp:∀(r:Loop),((X1 s++(jA l r::jH w.heap.size::Xr))++[]).Perm (jA l r::(X1 s++(jH w.heap.size::Xr))):=fun r=>by
   rw[List.append_nil];exact List.perm_middle
  refine⟨none,_,hr, ?_⟩
  refine k w.heap.size s xs hd hI _ ?_ {a with defers:=⟨.collected w.heap.size, #[]⟩::a.defers} ⟨ha.sz,by rw[←ha.df],ha.gt⟩
  exact(Mem.tY (X:=[_]) ((m3.perm (hp _)).Eg _)).perm List.perm_middle
theorem DA{N p:Nat}{D:List Deferred}{ρ:Env}{a:Act}{u:Value}(hp:p<N)(ha:Ag N D ρ a):
  Ag N [] ([]++tu #[p] [u]++ρ) {tmps:=((#[p]:Array Tmp).zip [u].toArray).foldl (fun t (p,v)=>t.setIfInBounds p v) a.tmps,defers:=[]}:=by
 have e:(((#[p]:Array Tmp).zip [u].toArray).foldl (fun t (p,v)=>t.setIfInBounds p v) a.tmps)=a.tmps.setIfInBounds p u:=by simp
 rw[e]
 have hsz:=ha.sz
 refine⟨by simpa using hsz,rfl,fun t z ht=> ?_⟩
 simp only[tu,List.nil_append,List.zip_cons_cons,List.zip_nil_right,List.cons_append,get]at ht
 show(a.tmps.setIfInBounds p u)[t]? =some z
 cases h1:Nat.beq p t with
 |true=>
  rw[h1]at ht
  have h1' :p=t:=Nat.eq_of_beq_eq_true h1
  simp only[cond_true,Option.some.injEq]at ht
  subst h1';subst ht
  rw[Array.getElem?_setIfInBounds_self_of_lt (by omega)]
 |false=>
  rw[h1]at ht
  simp only[cond_false]at ht
  have h1' :p≠t:=Nat.ne_of_beq_eq_false h1
  rw[Array.getElem?_setIfInBounds_ne h1']
  exact ha.gt t z (by simpa using ht)
end
theorem xM{P:Program}{Q:Exit→Act→World→Prop}{a:Act}{w:World}{n:Nat}{o:Oper}{next next' :Act→World→Prop}(h:o.wp P a w next Q)(hd:lC o.op=false)(hn:∀a w,next a w→next' a w):o.wpIn Fence.wide n P a w next' Q:=by
 refine⟨fun _ _=>trivial, ?_⟩
 have e:o.semAt (Fence.wide).round a.eval=execOp a.eval o:=Oper.semAt_eq _ _ _ (fun c hc=>by rw[hc]at hd;cases hd)
 rw[e]
 unfold Oper.wp at h
 generalize(execOp a.eval o).run P w=r at h
 match r,h with
 | .ok (.value v) w',h=>exact hn _ _ h
 | .ok .skip w',h=>exact hn _ _ h
 | .ok (.defer d) w',h=>exact hn _ _ h
 | .ok (.enter f args) w',h=>
  refine⟨fun h=>by simp[Fence.wide]at h,callsIn_wide.2 (Calls.mono h ?_)⟩
  intro e w'' q
  cases e with
  |returned v=>exact hn _ _ q
  |panicked c=>exact q
  |outgrown=>exact q
 | .ok (.row row args) w',h=>exact⟨fun h=>by simp[Fence.wide]at h,fun c cs _=>let⟨v,w'',r,s⟩:=h c cs;⟨v,w'',hn _ _ r,stepsIn_wide.2 s⟩⟩
 | .halt (.panic v) w',h=>exact h
def Gs(P:Program)(Q:Exit→Act→World→Prop):List Oper→Act→World→Prop
 | [],a,w=>Q .normal a w
 |o::r,a,w=>o.wpIn Fence.wide 2 P a w (Gs P Q r) Q
theorem rk{P:Program}{Q:Exit→Act→World→Prop}{ops:Array Oper}(hg:ops.toList.all (fun o=>o.guard.isNone)=true):∀(il:List Nat) (a:Act) (w:World),Gs P Q (il.filterMap fun i=>ops[i]?) a w→wpOpsIn Fence.wide 2 P ops Q il a w
 | [],a,w,h=>h
 |i::rest,a,w,h=>by
  unfold wpOpsIn
  cases ho:ops[i]? with
  |none=>rw[List.filterMap_cons,ho]at h;exact rk hg rest a w h
  |some o=>
   rw[List.filterMap_cons,ho]at h
   have hod:o.guard=none:=by
    have h1:=List.all_eq_true.1 hg o (by obtain⟨hi,he⟩:=Array.getElem?_eq_some_iff.1 ho;rw[←he];exact Array.getElem_mem_toList ..)
    simpa using h1
   show if _ then _ else _
   rw[if_pos (by simp[Region.wanted,hod])]
   exact Oper.wpIn_mono (fun a w h=>rk hg rest a w h) h
def xi(P:Program)(Q:Exit→Act→World→Prop)(N:Nat)(D:List Deferred)(l:List Oper)(ρ:Env)(b:b8)(X S:List bc):Prop:=∀w,Mem b X S w→∀a,Ag N D ρ a→Gs P Q l a w
section
variable{P:Program}{Q:Exit→Act→World→Prop}{N:Nat}{D:List Deferred}{ρ ρ' :Env}{b:b8}{X X' Xr S S' :List bc}{rest:List Oper}{op:Op}{ty:TypeId}{pos:String}{af:Array Edge}{d:Nat}{v:Value}
theorem Cy{id:Nat}{l:List Oper}(h:xi P Q N D l ρ b X S)(hg:l.all (fun o=>o.guard.isNone)=true:=by rfl)(hl:(List.range l.length).filterMap (fun i=>l.toArray[i]?)=l:=by rfl):HC P Q N D (.region id l.toArray false) ρ b X S:=fun w m a ha=>by
 refine wpIn_wide (n:=2).1 (wpIn_region (rk (by simpa using hg) _ a w ?_))
 rw[show(List.range l.toArray.size).filterMap (fun i=>l.toArray[i]?)=l from hl]
 exact h w m a ha
theorem Fp(h:∀{w},Mem b X S w→Yl P N D ρ w op ty v)(k:xi P Q N D rest ((d,v)::ρ) b X S)(hd:d<N:=by decide)(hq:lC op=false:=by rfl):xi P Q N D (⟨some d,op,ty,pos,af,none⟩::rest) ρ b X S:=fun w m a ha=>by
 refine xM (next:=fun a' w' =>a' =a.put (some d) v∧w' =w) ?_ hq ?_
 ·unfold Oper.wp
  rw[h m a (some d) pos af none ha]
  exact⟨rfl,rfl⟩
 ·rintro a' w' ⟨rfl,rfl⟩
  exact k _ m _ (ha.put hd)
theorem Hj(h:XH P Q N D ρ b X S op ty fun v X' S' =>xi P Q N D rest ((d,v)::ρ) b X' S')(hd:d<N:=by decide)(hq:lC op=false:=by rfl):xi P Q N D (⟨some d,op,ty,pos,af,none⟩::rest) ρ b X S:=fun w m a ha=>by
 refine xM (h w m a (some d) pos af none ha) hq ?_
 rintro a' w' ⟨v,rfl,X',S',m',hk⟩
 exact hk w' m' _ (ha.put hd)
theorem Cg(h:HQ Q N D .normal ρ b X S):xi P Q N D [] ρ b X S:=fun w m a ha=>h w m a ha
theorem xw(h:∀w,Mem b X S w→Mem b X' S' w)(k:xi P Q N D rest ρ b X' S'):xi P Q N D rest ρ b X S:=fun w m=>k w (h w m)
theorem rJ{p:Prop}(h:∀{w},Mem b X S w→p)(k:p→xi P Q N D rest ρ b X S):xi P Q N D rest ρ b X S:=fun w m=>k (h m) w m
theorem zH{α:Type}{l:Nat}{encs:α→List Value}{exs:α→List bc}{ok:List α→α→Prop}{J:List α→bc→Prop}{Sb:List bc}{pre:List α}{Y:bc}{f:Operand}{args:List Operand}{tys:Array TypeId}(hY:Yields P l encs exs ok b J Sb)(x:α)(hok:ok pre x)(hJ:J pre Y)(hf:ev ρ f=some (.func (.yield l) #[] #[]))(hv:mh ρ args=some (encs x))
  (i:Nat) (hi:X[i]? =some Y) (hex:∀s∈exs x,s∈S) (hSb:fw Sb∈S) (k:∀Y',J (pre++[x]) Y' →xi P Q N D rest ((d,.bool true)::ρ) b (Y' ::X.eraseIdx i) S) (hd:d<N:=by decide):
  xi P Q N D (⟨some d,.call ⟨.value f,args.toArray,tys⟩,ty,pos,af,none⟩::rest) ρ b X S:=fun w m a ha=>by
 have m1:=m.perm (ar [i] X [Y] (X.eraseIdx i) (by simp[bD,hi]))
 obtain⟨fn,tmps,assign,body,hy,hR⟩:=hY pre x Y (X.eraseIdx i) S w hok hJ hex hSb m1
 have hy' :(execOp a.eval ⟨some d,.call ⟨.value f,args.toArray,tys⟩,ty,pos,af,none⟩).run P w= .ok (.round l fn tmps assign body) w:=by
  have h1:=ha.eval hf
  have h2:=ha.gj hv
  simp[execOp,resolve,Deferred.ofValue,invoke,h1,h2,hy]
 refine⟨fun _ _=>trivial, ?_⟩
 rw[Oper.semAt_eq _ _ _ (fun c hc=>by cases hc),hy',Oper.uponIn_round]
 refine⟨fun h=>by simp[Fence.wide]at h,hR.mono ?_⟩
 rintro e w' ⟨rfl,Y',hJ',m'⟩
 exact k Y' hJ' w' m' _ (ha.put hd)
end
end Go.Eng
end
section
set_option maxRecDepth 20000
namespace Go.Proofs.YtmibdabdlgmafaaGreatDoor
open Go.Eng Go.Hx Go.Sort
structure Gf where
 b:List UInt8
 h:b.length=32
instance:Inhabited Gf:=⟨⟨List.replicate 32 0,List.length_replicate⟩⟩
end Go.Proofs.YtmibdabdlgmafaaGreatDoor
end
section
set_option maxRecDepth 20000
set_option maxHeartbeats 4000000
namespace Go.Proofs.YtmibdabdlgmafaaGreatDoor
open Go.Eng Go.Hx
abbrev It:=Gf×Int
structure IX where
 mn:Int
 av:Int
 mx:Int
 img:Gf
 its:List It
 A:Option Addr
 c:Nat
def ia(t:It):List Value:=aP t.1.b++[.int .i64 t.2]
def km(l:List It):List Value:=l.flatMap ia
theorem cE(t:It):(ia t).length=33:=by simp[ia,az,t.1.h]
theorem lG(t:It):∀u∈ia t,u.oneCell' =true:=by
 intro u hu
 rcases List.mem_append.1 hu with h|h
 ·exact ig u h
 ·rw[List.mem_singleton.1 h];rfl
theorem iX(a b:List It):km (a++b)=km a++km b:=by simp[km]
theorem n0{l:List It}:∀u∈km l,u.oneCell' =true:=by
 intro u hu
 obtain⟨t,_,h⟩:=List.mem_flatMap.1 hu
 exact lG t u h
def IX.cs(x:IX):List Value:=[.int .i64 x.mn,.int .i64 x.av,.int .i64 x.mx]++aP x.img.b++[.slice x.A x.its.length x.c]
theorem IX.eW(x:IX):x.cs.length=36:=by simp[IX.cs,az,x.img.h]
theorem IX.cQ(x:IX):∀u∈x.cs,u.oneCell' =true:=by
 intro u hu
 rcases List.mem_append.1 hu with h|h
 ·rcases List.mem_append.1 h with h|h
  ·simp only[List.mem_cons,List.not_mem_nil,or_false]at h
   rcases h with rfl|rfl|rfl <;> rfl
  ·exact ig u h
 ·rw[List.mem_singleton.1 h];rfl
theorem IX.C3(x:IX):x.cs[35]? =some (.slice x.A x.its.length x.c):=by
 have:([Value.int .i64 x.mn,.int .i64 x.av,.int .i64 x.mx]++aP x.img.b).length=35:=by simp[az,x.img.h]
 unfold IX.cs
 rw[List.getElem?_append_right (by omega),this]
 rfl
theorem ra{w:World}{A:Option Addr}{n i:Nat}{l:List It}{t:It}(h:Rd w 33 A n (km l))(hx:l[i]? =some t):∀(j:Nat) (u:Value),(aP t.1.b)[j]? =some u→w.cell? ((((A.getD d0).add (i*33)).add 0).add j)=some u:=fun j u hu=>by
 have:=fu (f:=ia) cE h hx j u (by rw[ia,List.getElem?_append_left (List.getElem?_eq_some_iff.1 hu).1];exact hu)
 rw[add_add,Nat.zero_add]
 exact this
end Go.Proofs.YtmibdabdlgmafaaGreatDoor
end
section
set_option maxRecDepth 20000
set_option maxHeartbeats 4000000
namespace Go.Proofs.YtmibdabdlgmafaaGreatDoor
open Go.Eng Go.Hx
def ints(l:List Int):List Value:=l.map (Value.int .i64)
def wU(l:List Int):Prop:=∀z∈l,-9223372036854775808≤z∧z≤9223372036854775807
theorem sM{l:List Int}{i:Nat}(h:i<l.length):(ints l)[i]? =some (.int .i64 (l.getD i 0)):=by simp[ints,List.getElem?_map,List.getElem?_eq_getElem h,List.getD]
theorem wU.at{l:List Int}(h:wU l){i:Nat}(hi:i<l.length):-9223372036854775808≤l.getD i 0∧l.getD i 0≤9223372036854775807:=by
 rw[List.getD,List.getElem?_eq_getElem hi]
 exact h _ (List.getElem_mem hi)
theorem Bm(d:RD)(bb:List UInt8):(d.put bb).2.1.length=32:=by
 unfold RD.put
 split
 ·exact eF
 ·split
  ·exact eF
  ·split
   ·exact bk _
   ·show(if _ then _ else _:List UInt8).length=32
    split
    ·exact bk _
    ·exact eF
theorem wh{P:Program}{e:TypeId}(he:P.underlying e=some (.int .i64)):∀{n:Nat} {ys:List Cell},ys.length=n→(∀i,i<n→Ty P e ((ys.drop i).take 1))→∃l:List Int,ys.map Cell.val=ints l∧l.length=n∧wU l:=by
 intro n ys hl h
 have hg:∀i,i<n→∃z:Int,ys[i]? =some (.v (.int .i64 z))∧-9223372036854775808≤z∧z≤9223372036854775807:=fun i hi=>by
  obtain⟨z,hz,hb⟩:=D8 he (h i hi)
  have h2:((ys.drop i).take 1)[0]? =some (.v (.int .i64 z)):=by rw[hz];rfl
  rw[List.getElem?_take,if_pos (by omega),List.getElem?_drop,Nat.add_zero]at h2
  exact⟨z,h2,hb⟩
 refine⟨ys.map fun y=>match y.val with| .int _ z=>z|_=>0, ?_,by simpa using hl,fun z hz=> ?_⟩
 ·apply List.ext_getElem?
  intro i
  simp only[ints,List.map_map,List.getElem?_map]
  by_cases hi:i<n
  ·obtain⟨z,hz,_⟩:=hg i hi
   rw[hz]
   simp[Cell.val]
  ·rw[List.getElem?_eq_none (by omega)]
   rfl
 ·obtain⟨y,hy,rfl⟩:=List.mem_map.1 hz
  obtain⟨i,hi⟩:=List.mem_iff_getElem?.1 hy
  have hin:i<n:=by rw[←hl];exact(List.getElem?_eq_some_iff.1 hi).1
  obtain⟨z,hz2,hb⟩:=hg i hin
  rw[hi]at hz2
  cases hz2
  exact hb
theorem BG{xs:List Cell}(h:Ty Tryz.prog 44 xs):∃A n c ys l,xs=[.s 1 A n c ys]∧ys.map Cell.val=ints l∧wU l:=by
 obtain⟨A,n,c,ys,rfl,h1,h2,h3,h4⟩:=sI Tryz.underlying44 h
 have c1:Tryz.prog.cellsOf 3=1:=by kernel_rfl
 rw[c1]at h3 h4 ⊢
 obtain⟨l,h5,h6,h7⟩:=wh Tryz.underlying3 (by omega:ys.length=n) (fun i hi=>by have:=h4 i hi;rwa [Nat.mul_one]at this)
 exact⟨A,n,c,ys,l,rfl,h5,h7⟩
end Go.Proofs.YtmibdabdlgmafaaGreatDoor
end
section
set_option maxRecDepth 20000
set_option maxHeartbeats 4000000
namespace Go.Proofs.YtmibdabdlgmafaaGreatDoor
open Go.Eng Go.Hx
theorem ml{l:List Int}{i n:Nat}(h:¬(i<l.length∧i<n))(hi:i≤l.length)(hn:i≤n):l.take i=l.take n:=by
 by_cases h1:i<l.length
 ·have:i=n:=by omega
  rw[this]
 ·rw[List.take_of_length_le (by omega),List.take_of_length_le (by omega)]
end Go.Proofs.YtmibdabdlgmafaaGreatDoor
end
section
set_option maxRecDepth 20000
set_option maxHeartbeats 4000000
namespace Go.Proofs.YtmibdabdlgmafaaGreatDoor
open Go.Eng Go.Hx
def iY:Gf:=⟨List.replicate 32 0,List.length_replicate⟩
def Ep:IX:=⟨0,0,0,iY,[],none,0⟩
def kz(z:Int):Nat:=(1+ck z 5).toNat
def iK(zl:List Int)(i:Nat):List It:=(zl.take i).map fun z=>(⟨bp (jZ (kz z)),bk _⟩,((3*kz z:Nat):Int))
theorem wW{zl:List Int}{i:Nat}(h:i<zl.length):iK zl (i+1)=iK zl i++[(⟨bp (jZ (kz (zl.getD i 0))),bk _⟩,((3*kz (zl.getD i 0):Nat):Int))]:=by
 unfold iK
 rw[List.take_succ_eq_append_getElem h,List.map_append]
 simp[List.getD,h]
theorem oZ{zl:List Int}{i:Nat}(h:i≤zl.length):(iK zl i).length=i:=by
 unfold iK
 rw[List.length_map,List.length_take]
 omega
theorem Gk{P:Program}{pl:Nat→Option (Nat×Nat)}{x:IX}(h0:pl 0=some (0,3))(h1:pl 1=some (3,32))(h2:pl 2=some (35,1)):tI P pl Ep.cs [(0,.agg [Value.int .i64 x.mn,.int .i64 x.av,.int .i64 x.mx].toArray),(1,.agg (aP x.img.b).toArray),(2,.slice x.A x.its.length x.c)] x.cs:=by
 have hi:(aP x.img.b).length=32:=by rw[az,x.img.h]
 have hz:(aP iY.b).length=32:=by rw[az,iY.h]
 have e1:bL Ep.cs 0 [Value.int .i64 x.mn,.int .i64 x.av,.int .i64 x.mx]=[Value.int .i64 x.mn,.int .i64 x.av,.int .i64 x.mx]++aP iY.b++[.slice none 0 0]:=rfl
 have e2:bL ([Value.int .i64 x.mn,.int .i64 x.av,.int .i64 x.mx]++aP iY.b++[.slice none 0 0]) 3 (aP x.img.b)=[Value.int .i64 x.mn,.int .i64 x.av,.int .i64 x.mx]++aP x.img.b++[.slice none 0 0]:=dp rfl (by rw[hi,hz])
 have e3:bL ([Value.int .i64 x.mn,.int .i64 x.av,.int .i64 x.mx]++aP x.img.b++[.slice none 0 0]) 35 [.slice x.A x.its.length x.c]=x.cs:=by
  have:=dp (a:=[Value.int .i64 x.mn,.int .i64 x.av,.int .i64 x.mx]++aP x.img.b) (b:=[Value.slice none 0 0]) (c:=[]) (vs:=[.slice x.A x.its.length x.c]) (o:=35) (by simp[hi]) rfl
  rw[List.append_nil,List.append_nil]at this
  exact this
 exact .cons h0 (aW _) rfl (by rw[IX.eW];decide) (by rw[e1];exact .cons h1 (aW _) hi (by simp[hz]) (by rw[e2];exact .cons h2 rfl rfl (by simp[hi]) (by rw[show(Value.slice x.A x.its.length x.c).cells.toList=[Value.slice x.A x.its.length x.c]from rfl,e3];exact .nil)))
theorem A0{w:World}{g:Nat}{ty:TypeId}{a b c:List Value}(h:eS w g ty (a++b++c)):∀(j:Nat) (u:Value),b[j]? =some u→w.cell? (((⟨g,0,none⟩:Addr).add a.length).add j)=some u:=fun j u hu=>by
 have hj:=(List.getElem?_eq_some_iff.1 hu).1
 have:=h.aw (a.length+j) u (by rw[List.getElem?_append_left (by rw[List.length_append];omega),List.getElem?_append_right (by omega),Nat.add_sub_cancel_left];exact hu)
 rw[add_add]
 exact this
theorem sZ{P:Program}{pl:Nat→Option (Nat×Nat)}{t:It}(h0:pl 0=some (0,32))(h1:pl 1=some (32,1)):tI P pl (ia (iY,0)) [(0,.agg (aP t.1.b).toArray),(1,.int .i64 t.2)] (ia t):=by
 have hz:(aP iY.b).length=32:=by rw[az,iY.h]
 have hn:(aP t.1.b).length=32:=by rw[az,t.1.h]
 have e1:bL (ia (iY,0)) 0 (aP t.1.b)=aP t.1.b++[.int .i64 0]:=by
  have:=dp (a:=[]) (b:=aP iY.b) (c:=[Value.int .i64 0]) (vs:=aP t.1.b) (o:=0) rfl (by rw[hn,hz])
  exact this
 have e2:bL (aP t.1.b++[.int .i64 0]) 32 [.int .i64 t.2]=ia t:=by
  have:=dp (a:=aP t.1.b) (b:=[Value.int .i64 0]) (c:=[]) (vs:=[.int .i64 t.2]) (o:=32) hn rfl
  rw[List.append_nil,List.append_nil]at this
  exact this
 exact .cons h0 (aW _) hn (by rw[cE];decide) (by rw[e1];exact .cons h1 rfl rfl (by simp[hn]) (by rw[show(Value.int .i64 t.2).cells.toList=[Value.int .i64 t.2]from rfl,e2];exact .nil))
end Go.Proofs.YtmibdabdlgmafaaGreatDoor
end
section
set_option maxRecDepth 20000
set_option maxHeartbeats 2000000
namespace Go.Proofs.YtmibdabdlgmafaaGreatDoor
open Go.Eng Go.Hx
def dm(c:List UInt8):It:=(⟨bp c,bk _⟩,((c.length:Nat):Int))
def cw(l:List UInt8)(q:Pn):List It:=(ee l q).map dm
theorem tc(w:List UInt32)(q:Pn):∀(f:Nat) (b:List UInt8),(iw w q f b).length≤f
 |0,_=>Nat.le_refl _
 |f+1,b=>by
  rw[iw]
  split
  ·exact Nat.zero_le _
  ·rw[List.length_cons];have:=tc w q f (b.drop (gH w b q));omega
theorem lR{w:List UInt32}{q:Pn}:∀{f:Nat} {b c:List UInt8},c∈iw w q f b→c.length≤b.length
 |0,_,_,h=>by rw[iw]at h;exact absurd h List.not_mem_nil
 |f+1,b,c,h=>by
  rw[iw]at h
  split at h
  ·exact absurd h List.not_mem_nil
  ·rcases List.mem_cons.1 h with h|h
   ·rw[h,List.length_take];omega
   ·have:=lR h
    rw[List.length_drop]at this
    omega
theorem qq(l:List UInt8)(q:Pn):(ee l q).length≤l.length:=tc ..
theorem AJ{B:Option Addr}{n k:Nat}{l:List UInt8}{q:Pn}(hq:q.ok)(hl:l.length=n)(hn:n≤1000000)(hk:n≤k):b6 Tryz.prog 193 [.slice B n k,.agg q.p.cs.toArray] [] [cn 1 B n (aP l)] (fun v_ X_ S_=>∃A2 c2,v_=(.slice A2 (cw l q).length c2)∧X_=[aF 100 33 (.slice A2 (cw l q).length c2) (cw l q).length (km (cw l q))]∧S_=[]):=by
 refine aI (N:=32) Tryz.func193 rfl rfl (by simp) fun b=> ?_
 refine aU (fun m=>eb (m.rd 0 rfl)) ?_
 rintro⟨hl_rb,hA_rb⟩
 refine ah<|aj<| ?_
 refine hx (bu rfl (fun g3=> ?_))
 refine aG (fun w m=>m.bs 0 rfl (show _=aE g3 75 q.p.cs from congrArg (aE _ _) (aW _))) ?_
 refine hy (fun _=>ab rfl)<|ai<|ak (X' :=[_]) (S' :=[_]) (fun _ m=>m)<|ae<|ah<|aj<|hy (fun _=>aa rfl)<|hy (fun m=>yV (aX rfl jv iy rfl ((m.aQ 0 rfl).aw)) ((rfl:_=Value.agg q.p.cs.toArray)))<| ?_
 refine hx (au rfl Tryz.call50 (sj hq hl hn hk) [] rfl [0] rfl ?_)
 rintro _ _ _ ⟨A1,c1,rs,rfl,rfl,rfl,hcs⟩
 obtain⟨hcs,hrs⟩:=hcs
 have hrl:rs.length≤n:=by
  have:=congrArg List.length hcs
  rw[List.length_map]at this
  have:=qq l q
  omega
 refine aG (fun w m=>(m.perm (ar [0] _ [_] _ rfl)).freeze) ?_
 refine aG (fun w m=>m.fp 0 rfl .own) ?_
 refine aA (fun m=>gu (m.rd 0 rfl)) ?_
 rintro⟨hl_or,hA_or⟩
 refine aG (fun w m=>m.cI (r' :=aF 100 33 (.slice none 0 0) 0 []) (.refl _ _) (Own.nil _ _ _ _) (fun k hk=>hk.elim)) ?_
 refine hy (fun _=>ab rfl)<|ai<|al (ρ' :=[(5,_),(4,_),(3,_),(0,_),(1,_)]) ⟨rfl,rfl,rfl,rfl,rfl,trivial⟩<|ak (X' :=[_,_]) (S' :=[_,_,_,_]) (fun _ m=>m)<|ae<|ah<|aj<|hy (fun _=>ab rfl)<|ai<|ae<|ah<|ah<|aj<|hy (fun _=>ab rfl)<|ai<|ae<|aK<| ?_
 refine fD (fun i A2 c2=>rs.length-i) (fun i A2 c2=>[(6,.slice A2 i c2),(7,.int .i64 (i:Nat))]) (fun i A2 c2=>[aF 100 33 (.slice A2 i c2) i (km ((rs.take i).map fun r=>dm (ba.l r)))]) (fun i A2 c2=>[]) (fun i A2 c2=>i≤rs.length) 0 none 0 [(5,_),(4,_),(3,_),(0,_),(1,_)] ⟨rfl,rfl,rfl,rfl,rfl,trivial⟩ [0] rfl [] rfl (Nat.zero_le _) ⟨rfl,rfl,trivial⟩ (fun i A2 c2 hi=> ?_)
 refine ah<|ah<|aj<|hy (fun _=>aa rfl)<|hy (fun _=>aa rfl)<|hy (fun _=>aT rfl Tryz.underlying84)<|hy (fun _=>bC rfl rfl)<|ai<|al (ρ' :=[(14,_),(6,_),(7,_),(5,_),(4,_),(3,_),(0,_),(1,_)]) ⟨rfl,rfl,rfl,rfl,rfl,rfl,rfl,rfl,trivial⟩<|ae<| ?_
 refine cj rfl (fun hlt=> ?_) (fun hlt=> ?_)
 ·obtain⟨r,hr⟩:∃r,rs[i]? =some r:=⟨_,List.getElem?_eq_getElem (by omega)⟩
  have hrn:=hrs r (List.mem_of_getElem? hr)
  have hrl2:(ba.l r).length≤n:=by
   rw[←hl]
   exact lR (w:=bm) (q:=q) (f:=l.length) (show ba.l r∈ee l q by rw[←hcs];exact List.mem_map_of_mem (List.mem_of_getElem? hr))
  have htk:(rs.take (i+1)).map (fun r=>dm (ba.l r))=(rs.take i).map (fun r=>dm (ba.l r))++[dm (ba.l r)]:=by
   obtain⟨h1,rfl⟩:=List.getElem?_eq_some_iff.1 hr
   rw[List.take_succ_eq_append_getElem h1,List.map_append]
   rfl
  refine bd (fun w m=>m.fp 2 rfl (View.row hr)) ?_
  refine aU (fun m=>eb (m.rd 0 rfl)) ?_
  rintro⟨hl_ri,hA_ri⟩
  refine aB<|ae<|ah<|aK<|cu [5,12,13] [(0,some 2),(1,some 2),(2,some 2),(3,some 0),(4,some 0),(6,some 3),(7,some 3),(8,some 3),(9,some 1),(10,some 1),(5,none),(11,some 1),(12,none),(13,none),(14,some 3)] (by kernel_rfl) (by kernel_rfl) rfl 2<|an (aa rfl)<|an (aa rfl)<|an (aa rfl)<|an (aN rfl rfl Tryz.underlying84 jk hA_or rfl (by omega))<|b5 (fun m=>aq rfl cZ ((m.rd 1 rfl).cell (show(lr rs)[i]? =some (Value.slice (ba.A r) (ba.n r) (ba.c r)) by rw[lr,List.getElem?_map,hr];rfl)))<|an (aa rfl)<|an (aa rfl)<|an (aN rfl rfl Tryz.underlying84 jk hA_or rfl (by omega))<|b5 (fun m=>aq rfl cZ ((m.rd 1 rfl).cell (show(lr rs)[i]? =some (Value.slice (ba.A r) (ba.n r) (ba.c r)) by rw[lr,List.getElem?_map,hr];rfl)))<|an (yV (aT rfl Tryz.underlying27) ((show Value.int .i64 ((ba.n r:Nat):Int)= .int .i64 (dm (ba.l r)).2 from by rw[hrn];rfl)))<| ?_
  refine di (au rfl Tryz.call56 (iM (by omega)) [] rfl [0] rfl ?_)
  rintro _ _ _ ⟨rfl,rfl,rfl⟩
  refine⟨(fun _=>wk [0,0] [0,1,2,3,4] rfl rfl), ?_⟩
  refine an (bQ iU rfl rfl (by kernel_rfl) (sZ (t:=dm (ba.l r)) nZ oo))<| ?_
  refine di (bT Tryz.underlying80 iU rfl rfl rfl (by intro v hv;rw[List.mem_singleton.1 hv];show(ia (dm (ba.l r))).toArray.size=33;rw[List.size_toArray,cE]) (by decide) (by decide) (fun g29=>⟨(fun _=>wk [1,1] [0,1,2,3,4] rfl rfl), ?_⟩))
  have hA_b29:0<1→(some (⟨g29,0,none⟩:Addr))≠none:=fun _ h=>by cases h
  refine dO (fun w m=>m.bs 0 rfl (show _=aF 100 33 (.slice (some ⟨g29,0,none⟩) 1 1) 1 (km [dm (ba.l r)])from rfl)) ?_
  refine di (bw 1 rfl rfl rfl Tryz.underlying80 Tryz.underlying80 (by exact .inl rfl) iU rfl (fun m=>Src.bW (m.ord 0 rfl)) n0 (by unfold maxLen;omega) (by omega) (fun u=>⟨(fun h=>absurd h (by decide)), ?_⟩))
  refine b4 (fun m=>(m.own 0 rfl).slice) ?_
  rintro⟨A_z,c_z,rfl,hc_z⟩
  refine b4 (fun m=>(m.ord 0 rfl).2.1) fun hA_z=> ?_
  refine dO (fun w m=>m.bs 0 rfl (show _=aF 100 33 (.slice A_z (i+1) c_z) (i+1) (km ((rs.take (i+1)).map fun r=>dm (ba.l r)))from congrArg (aF _ _ _ _) (by rw[htk,iX]))) ?_
  refine an (ab rfl)<|bo<|al (ρ' :=[(6,_),(14,_),(7,_),(5,_),(4,_),(3,_),(0,_),(1,_)]) ⟨rfl,rfl,rfl,rfl,rfl,rfl,rfl,rfl,trivial⟩<|ak (X' :=[_,_,_]) (S' :=[_,_,_,_,_]) (fun _ m=>m)<|aR<|ae<|aj<|hy (fun _=>aa rfl)<|hy (fun _=>aL rfl rfl (bx (by omega) (by omega)))<|hy (fun _=>ab rfl)<|ai<|al (ρ' :=[(7,_),(6,_),(14,_),(5,_),(4,_),(3,_),(0,_),(1,_)]) ⟨rfl,rfl,rfl,rfl,rfl,rfl,rfl,rfl,trivial⟩<| ?_
  refine fz (i+1) A_z c_z ⟨rfl,rfl,rfl,rfl,rfl,rfl,rfl,trivial⟩ [0,1] rfl [1,2,3,4] rfl (by omega) (by omega)
 ·obtain rfl:i=rs.length:=by omega
  rw[List.take_length]
  have hit:(rs.map fun r=>dm (ba.l r))=cw l q:=by rw[cw,←hcs,List.map_map];rfl
  have hrl3:rs.length=(cw l q).length:=by rw[←hit,List.length_map]
  rw[hit,hrl3]
  refine bK<|ao<|ao<|aC<|ae<|ah<|aj<|hy (fun _=>aa rfl)<|hy (fun _=>ab rfl)<|ai<|al (ρ' :=[(4,_),(14,_),(6,_),(7,_),(5,_),(3,_),(0,_),(1,_)]) ⟨rfl,rfl,rfl,rfl,rfl,rfl,rfl,rfl,trivial⟩<|ae<|aS<| ?_
  exact a6 trivial rfl rfl [0] rfl [] rfl ⟨_,_,rfl,rfl,rfl⟩
end Go.Proofs.YtmibdabdlgmafaaGreatDoor
end
section
set_option maxRecDepth 20000
set_option maxHeartbeats 2000000
namespace Go.Proofs.YtmibdabdlgmafaaGreatDoor
open Go.Eng Go.Hx
theorem zT{q:Pn}(hq:q.ok){l:List UInt8}{rs:List ba}{cur:List UInt8}(h1:rs.map ba.l=(ic q l).1)(h2:cur=(ic q l).2):rs.map ba.l++(if cur=[]then []else [cur])=ee l q:=by
 rw[h1,h2];exact ue hq l
theorem uj{q:Pn}{l c:List UInt8}(h:c∈ee l q):c.length≤l.length:=lR h
theorem Ev{gp gb:Nat}{q:Pn}{B:Option Addr}{n k:Nat}{l:List UInt8}(hq:q.ok)(hl:l.length=n)(hn:n≤1000000):zk (α:=ba) Tryz.prog 282 [.pointer (some ⟨gp,0,none⟩),.pointer (some ⟨gb,0,none⟩)] [aE gp 75 q.p.cs,aE gb 27 [.slice B n k],cn 1 B n (aP l)] (fun x_=>[.slice x_.A x_.n x_.c]) (fun x_=>[cn 1 x_.A x_.n (aP x_.l)]) (fun pre_ x_=>pre_.length<n∧x_.l.length≤n) (fun xs_=>xs_.map ba.l=ee l q):=by
 refine AI (N:=38) Tryz.func282 rfl rfl (by simp) fun l_ b J_ Sb_ Y_ hY_ hJ_=> ?_
 refine aU (fun m=>eb (m.rd 3 rfl)) ?_
 rintro⟨hl_rb,hA_rb⟩
 refine ah<|aj<|hy (fun m=>yV (aX rfl jv iy rfl ((m.re 1 rfl).aw)) ((rfl:_=Value.agg q.p.cs.toArray)))<| ?_
 refine hx (au rfl Tryz.call283 (F5 hq (q:=q)) [] rfl [] rfl ?_)
 rintro _ _ _ ⟨gc,gr,rfl,rfl,rfl⟩
 refine hy (fun _=>aa rfl)<|hy (fun _=>aH rfl rfl)<|hy (fun _=>aH rfl rfl)<|hy (fun _=>ab rfl)<|hy (fun _=>ab rfl)<|ai<|al (ρ' :=[(5,_),(4,_),(0,_),(1,_),(2,_)]) ⟨rfl,rfl,rfl,rfl,rfl,trivial⟩<|ak (X' :=[_,_,_]) (S' :=[_,_,_,_]) (fun _ m=>m)<|ae<|ah<|ah<|aj<|hy (fun _=>aa rfl)<|hy (fun _=>dF rfl rfl)<|ai<|al (ρ' :=[(15,_),(5,_),(4,_),(0,_),(1,_),(2,_)]) ⟨rfl,rfl,rfl,rfl,rfl,rfl,trivial⟩<|ae<| ?_
 refine dj rfl (rfl) ?_
 refine aB<|ae<|ah<|ah<|aj<|hy (fun _=>aa rfl)<|hy (fun m=>aq rfl cZ (ax (m.re 2 rfl) rfl))<| ?_
 refine hx (au rfl Tryz.call284 (AF hq ui hl hn (q:=q)) [0,0] rfl [3] rfl ?_)
 rintro _ _ _ ⟨A1,c1,rs,A,c,cur,s,rfl,rfl,rfl,hw⟩
 obtain⟨hw1,hw2,hw3,hw4,hw5⟩:=hw
 have hall:=zT hq hw1 hw2
 have hmem:∀r∈rs,r.l.length≤n:=fun r hr=>by
  rw[←hl]
  exact uj (q:=q) (by rw[←hall];exact List.mem_append_left _ (List.mem_map_of_mem hr))
 refine aA (fun m=>(m.ord 0 rfl).2.1) fun hA_z=> ?_
 refine hy (fun _=>aT rfl Tryz.underlying84)<|hy (fun _=>aa rfl)<|ai<|al (ρ' :=[(20,_),(19,_),(18,_),(15,_),(5,_),(4,_),(0,_),(1,_),(2,_)]) ⟨rfl,rfl,rfl,rfl,rfl,rfl,rfl,rfl,rfl,trivial⟩<|ak (X' :=[_,_,_,_,_]) (S' :=[_,_,_,_,_]) (fun _ m=>m)<|ae<|aK<| ?_
 refine jS (fun i Y=>rs.length-i) (fun i Y=>[(20,.int .i64 (i:Nat))]) (fun i Y=>[Y]) (fun i Y=>[]) (fun i Y=>i≤rs.length∧J_ (rs.take i) Y) 0 Y_ [(19,_),(18,_),(15,_),(5,_),(4,_),(0,_),(1,_),(2,_)] ⟨rfl,rfl,rfl,rfl,rfl,rfl,rfl,rfl,trivial⟩ [4] rfl [] rfl (⟨Nat.zero_le _,hJ_⟩) ⟨rfl,trivial⟩ (fun i Y ⟨hi,hJ⟩=> ?_)
 refine ah<|aj<|hy (fun _=>bC rfl rfl)<|ai<|ae<|ah<| ?_
 refine cj rfl (fun hlt=> ?_) (fun hlt=> ?_)
 ·have hir:i<rs.length:=by omega
  obtain⟨r,hr⟩:∃r,rs[i]? =some r:=⟨_,List.getElem?_eq_getElem hir⟩
  have hrm:=List.mem_of_getElem? hr
  have htk:rs.take (i+1)=rs.take i++[r]:=by
   obtain⟨h1,rfl⟩:=List.getElem?_eq_some_iff.1 hr
   exact List.take_succ_eq_append_getElem h1
  refine bd (fun w m=>m.fp 0 rfl (View.row hr)) ?_
  refine aU (fun m=>eb (m.rd 0 rfl)) ?_
  rintro⟨hl_rt,hA_rt⟩
  refine aB<|ae<|ah<|aK<|ah<|aj<|hy (fun _=>aN rfl rfl Tryz.underlying84 jk hA_z rfl (by omega))<|hy (fun m=>aq rfl cZ ((m.ord 1 rfl).cell (show(lr rs)[i]? =some (Value.slice r.A r.n r.c) by rw[lr,List.getElem?_map,hr];rfl)))<|hy (fun _=>ab rfl)<|ai<|al (ρ' :=[(7,_),(21,_),(20,_),(19,_),(18,_),(15,_),(5,_),(4,_),(0,_),(1,_),(2,_)]) ⟨rfl,rfl,rfl,rfl,rfl,rfl,rfl,rfl,rfl,rfl,rfl,trivial⟩<|ae<|ah<|Cy<|Fp (fun _=>aa rfl)<|Fp (fun _=>aa rfl)<| ?_
  refine zH hY_ r (⟨by rw[List.length_take];omega,hmem r hrm⟩:(rs.take i).length<n∧r.l.length≤n) hJ rfl rfl 0 rfl (fun s_ hs_=>by rw[List.mem_singleton.1 hs_];exact List.mem_of_getElem? (i:=0) rfl) (List.mem_of_getElem? (i:=2) rfl) fun Y1 hJ1=> ?_
  rw[←htk]at hJ1
  refine Fp (fun _=>(nR rfl))<|Cg<|al (ρ' :=[(27,_),(7,_),(21,_),(20,_),(19,_),(18,_),(15,_),(5,_),(4,_),(0,_),(1,_),(2,_)]) ⟨rfl,rfl,rfl,rfl,rfl,rfl,rfl,rfl,rfl,rfl,rfl,rfl,trivial⟩<|ak (X' :=[_,_,_,_,_]) (S' :=[_,_,_,_,_,_]) (fun _ m=>m)<|ae<| ?_
  refine dj rfl (rfl) ?_
  refine aB<|aR<|ae<|aj<|hy (fun _=>aL rfl rfl (bx (by omega) (by omega)))<|hy (fun _=>aa rfl)<|ai<|al (ρ' :=[(20,_),(27,_),(7,_),(21,_),(19,_),(18,_),(15,_),(5,_),(4,_),(0,_),(1,_),(2,_)]) ⟨rfl,rfl,rfl,rfl,rfl,rfl,rfl,rfl,rfl,rfl,rfl,rfl,trivial⟩<| ?_
  refine fW (i+1) Y1 ⟨rfl,rfl,rfl,rfl,rfl,rfl,rfl,rfl,rfl,trivial⟩ [0,0,0,0,0] rfl [1,2,3,4,5] rfl (⟨by omega,hJ1⟩) (by omega)
 ·obtain rfl:i=rs.length:=by omega
  rw[List.take_length]at hJ
  refine bK<|ao<|ao<|aC<|ae<|ah<|aj<|hy (fun _=>aa rfl)<| ?_
  refine hx (au rfl Tryz.call285 (xZ hw4) [2,2] rfl [] rfl ?_)
  rintro _ _ _ ⟨rfl,rfl,rfl⟩
  refine hy (fun _=>ab rfl)<|ai<|al (ρ' :=[(8,_),(21,_),(20,_),(19,_),(18,_),(15,_),(5,_),(4,_),(0,_),(1,_),(2,_)]) ⟨rfl,rfl,rfl,rfl,rfl,rfl,rfl,rfl,rfl,rfl,rfl,trivial⟩<|ak (X' :=[_,_,_,_,_]) (S' :=[_,_,_,_,_]) (fun _ m=>m)<|ae<|ah<|aj<|hy (fun _=>aa rfl)<|hy (fun _=>aT rfl Tryz.underlying27)<|hy (fun _=>cy rfl rfl)<|ai<|al (ρ' :=[(33,_),(8,_),(21,_),(20,_),(19,_),(18,_),(15,_),(5,_),(4,_),(0,_),(1,_),(2,_)]) ⟨rfl,rfl,rfl,rfl,rfl,rfl,rfl,rfl,rfl,rfl,rfl,rfl,trivial⟩<|ae<| ?_
  refine cj rfl (fun hpos=> ?_) (fun hpos=> ?_)
  ·have hcl:0<cur.length:=by omega
   have hne:cur≠ []:=fun e=>by rw[e]at hcl;exact absurd hcl (by decide)
   rw[if_neg hne]at hall
   have hcn:cur.length≤n:=by
    rw[←hl]
    exact uj (q:=q) (by rw[←hall];simp)
   refine Cy<|Fp (fun _=>aa rfl)<|Fp (fun _=>aa rfl)<| ?_
   refine Hj (cK rfl Tryz.call117 (mo (by omega)) [] rfl (.x 4 rfl .own .nil) ?_)
   rintro _ _ _ ⟨v,rfl,rfl,rfl⟩
   refine⟨rfl, ?_⟩
   refine rJ (fun m=>(m.own 0 rfl).slice) ?_
   rintro⟨A_x2,c_x2,rfl,hc_x2⟩
   refine rJ (fun m=>(m.ord 0 rfl).2.1) fun hA_x2=> ?_
   refine xw (fun w m=>(m.perm (ar [0] _ [_] _ rfl)).freeze) ?_
   refine xw (fun w m=>m.fp 0 rfl .own) ?_
   refine rJ (fun m=>eb (m.rd 0 rfl)) ?_
   rintro⟨hl_x2r,hA_x2r⟩
   refine zH hY_ (⟨A_x2,List.length cur,c_x2,cur⟩:ba) (⟨by omega,hcn⟩:rs.length<n∧cur.length≤n) hJ rfl rfl 2 rfl (fun s_ hs_=>by rw[List.mem_singleton.1 hs_];exact List.mem_of_getElem? (i:=0) rfl) (List.mem_of_getElem? (i:=3) rfl) fun Y1 hJ1=> ?_
   refine Cg<|al (ρ' :=[(33,_),(8,_),(21,_),(20,_),(19,_),(18,_),(15,_),(5,_),(4,_),(0,_),(1,_),(2,_)]) ⟨rfl,rfl,rfl,rfl,rfl,rfl,rfl,rfl,rfl,rfl,rfl,rfl,trivial⟩<|ak (X' :=[_,_,_,_,_]) (S' :=[_,_,_,_,_,_,_]) (fun _ m=>m)<| ?_
   exact fa trivial rfl [0] rfl [] rfl ⟨(rs++[⟨A_x2,List.length cur,c_x2,cur⟩]),Y1,rfl,rfl,rfl,(by rw[List.map_append];exact hall),hJ1⟩
  ·have hcl:cur.length=0:=by omega
   rw[if_pos (List.eq_nil_of_length_eq_zero hcl),List.append_nil]at hall
   refine aB<| ?_
   exact fa trivial rfl [2] rfl [] rfl ⟨rs,Y,rfl,rfl,rfl,hall,hJ⟩
theorem EI{B:Option Addr}{n k:Nat}{q:Pn}:b6 Tryz.prog 244 [.slice B n k,.agg q.p.cs.toArray] [] [] (fun v_ X_ S_=>∃gb gp,v_=(.func (.func 282) #[] #[.pointer (some ⟨gp,0,none⟩),.pointer (some ⟨gb,0,none⟩)])∧X_=[aE gp 75 q.p.cs,aE gb 27 [.slice B n k]]∧S_=[]):=by
 refine aI (N:=6) Tryz.func244 rfl rfl (by simp) fun b=> ?_
 refine ah<|aj<| ?_
 refine hx (bu rfl (fun g2=> ?_))
 refine hx (bu rfl (fun g3=> ?_))
 refine hy (fun _=>ab rfl)<|ai<|ak (X' :=[_,_]) (S' :=[]) (fun _ m=>m)<|ae<|ah<|aj<|hy (fun _=>ff rfl rfl)<|hy (fun _=>ab rfl)<|ai<|al (ρ' :=[(4,_),(3,_),(2,_),(0,_),(1,_)]) ⟨rfl,rfl,rfl,rfl,rfl,trivial⟩<|ae<|aS<| ?_
 refine ak (fun w m=>m.bs 1 rfl (show _=aE g2 27 [.slice B n k]from rfl)) ?_
 refine ak (fun w m=>m.bs 1 rfl (show _=aE g3 75 q.p.cs from congrArg (aE _ _) (aW _))) ?_
 exact a6 trivial rfl rfl [0,0] rfl [] rfl ⟨g2,g3,rfl,rfl,rfl⟩
theorem Bi{B:Option Addr}{n k:Nat}{l:List UInt8}{q:Pn}(hq:q.ok)(hl:l.length=n)(hn:n≤1000000):b6 Tryz.prog 194 [.slice B n k,.agg q.p.cs.toArray] [] [cn 1 B n (aP l),dG] (fun v_ X_ S_=>∃A2 c2,v_=(.tuple #[.slice A2 (cw l q).length c2,.int .i64 0])∧X_=[aF 100 33 (.slice A2 (cw l q).length c2) (cw l q).length (km (cw l q))]∧S_=[]):=by
 refine u9 (N:=24) Tryz.func194 rfl rfl (by simp) fun b=> ?_
 refine aU (fun m=>eb (m.rd 0 rfl)) ?_
 rintro⟨hl_rb,hA_rb⟩
 refine ah<|aj<| ?_
 refine hx (bu rfl (fun g3=> ?_))
 refine aG (fun w m=>m.bs 0 rfl (show _=aE g3 75 q.p.cs from congrArg (aE _ _) (aW _))) ?_
 refine hy (fun _=>ab rfl)<|hy (fun _=>ab rfl)<|ai<|ak (X' :=[_]) (S' :=[_,_]) (fun _ m=>m)<|ae<|ah<|ah<|aj<|hy (fun m=>yV (aX rfl jv iy rfl ((m.aQ 0 rfl).aw)) ((rfl:_=Value.agg q.p.cs.toArray)))<| ?_
 refine hx (au rfl Tryz.call192 (n9 (p:=q.p)) [] rfl [] rfl ?_)
 rintro _ _ _ ⟨rfl,rfl,rfl⟩
 refine hy (fun _=>eE rfl)<|ai<|al (ρ' :=[(10,_),(5,_),(4,_),(3,_),(0,_),(1,_)]) ⟨rfl,rfl,rfl,rfl,rfl,rfl,trivial⟩<|ak (X' :=[_]) (S' :=[_,_]) (fun _ m=>m)<|ae<| ?_
 refine dj rfl ((decide_eq_false (fun h=>h hq.may))) ?_
 refine aB<|ae<|ah<|aj<| ?_
 refine hx (bh GF (fun g6=> ?_))
 refine ai<|ak (X' :=[_,_]) (S' :=[_,_]) (fun _ m=>m)<|ae<|ah<|ah<|aj<|hy (fun _=>aa rfl)<|hy (fun m=>yV (aX rfl jv iy rfl ((m.aQ 1 rfl).aw)) ((rfl:_=Value.agg q.p.cs.toArray)))<| ?_
 refine hx (au rfl Tryz.call244 (EI (q:=q) (n:=n) (k:=k) (B:=B)) [] rfl [] rfl ?_)
 rintro _ _ _ ⟨gb,gp,rfl,rfl,rfl⟩
 refine ai<|al (ρ' :=[(13,_),(6,_),(10,_),(5,_),(4,_),(3,_),(0,_),(1,_)]) ⟨rfl,rfl,rfl,rfl,rfl,rfl,rfl,rfl,trivial⟩<|ak (X' :=[_,_,_,_]) (S' :=[_,_]) (fun _ m=>m)<|ae<| ?_
 refine bd (fun w m=>m.bs 2 rfl (show _=aE g6 80 [.slice none 0 0]from rfl)) ?_
 refine bd (fun w m=>m.cI (r' :=aF 100 33 (.slice none 0 0) 0 []) (.refl _ _) (Own.nil _ _ _ _) (fun k hk=>hk.elim)) ?_
 refine bd (fun w m=>(m.perm (ar [3] _ [_] _ rfl)).freeze) ?_
 refine bd (fun w m=>(m.perm (ar [2] _ [_] _ rfl)).freeze) ?_
 refine Bf (σ:=Option Addr×Nat×List It) (α:=ba) (ρ' :=[]) (fun s_:Option Addr×Nat×List It=>[aE g6 80 [.slice s_.1 s_.2.2.length s_.2.1],aF 100 33 (.slice s_.1 s_.2.2.length s_.2.1) s_.2.2.length (km s_.2.2)]) (none,0,[]) (fun pre_ s_=>s_.2.2=pre_.map (fun r=>dm (ba.l r))) (fun x_=>[.slice x_.A x_.n x_.c]) (fun x_=>[cn 1 x_.A x_.n (aP x_.l)]) (fun pre_ x_=>pre_.length<n∧x_.l.length≤n) (fun xs_=>xs_.map ba.l=ee l q) (fun x_=>[(7,.slice x_.A x_.n x_.c)]) [(13,_),(6,_),(10,_),(5,_),(4,_),(3,_),(0,_),(1,_)] ⟨rfl,rfl,rfl,rfl,rfl,rfl,rfl,rfl,trivial⟩ rfl Tryz.call282 (Ev hq hl hn) [0,1,2] rfl [1,0] rfl [0,1,2,3] rfl (fun _=>rfl) (fun _ _ ha_=>DA (by decide) ha_) (fun l_ b_ s_ x_ S_ Q_ h_=> ?_) rfl (fun l_ b pre_ s_ x_ hI_ hok_=> ?_) (fun Dk_ s_ xs_ hd_ hI_=> ?_)
 ·exact oD (hy (fun _=>ab rfl) ((ai (by refine al ?_ h_;exact⟨rfl,rfl,rfl,rfl,rfl,rfl,rfl,rfl,rfl,trivial⟩))))
 ·obtain⟨A,c,its⟩:=s_
  obtain⟨A1,n1,c1,l1⟩:=x_
  obtain⟨hpre,hl1⟩:=hok_
  try dsimp only
  refine Ak (fun m=>eb (m.rd 0 rfl)) ?_
  rintro⟨hl_e,hA_e⟩
  dsimp only at hI_ hl1
  have hil:its.length<n:=by rw[hI_,List.length_map];exact hpre
  have hn1:l1.length=n1:=hl_e
  refine rU<|yD [2,6,7,8] [(0,some 2),(1,some 0),(3,some 1),(4,some 1),(2,none),(5,some 1),(6,none),(7,none),(8,none)] (by kernel_rfl) (by kernel_rfl) rfl 2<|b5 (fun m=>aq rfl tD (ax (m.aQ 0 rfl) rfl))<|an (aa rfl)<|an (aa rfl)<|an (yV (aT rfl Tryz.underlying27) ((show Value.int .i64 ((n1:Nat):Int)= .int .i64 (dm l1).2 from by rw[←hn1];rfl)))<| ?_
  refine di (au rfl Tryz.call102 (ri (by omega)) [] rfl [0,4] rfl ?_)
  rintro _ _ _ ⟨rfl,rfl,rfl⟩
  refine⟨(fun _=>wk [0,0] [0,1,2,3,4] rfl rfl), ?_⟩
  refine an (bQ iU rfl rfl (by kernel_rfl) (sZ (t:=dm l1) nZ oo))<| ?_
  refine di (bT Tryz.underlying80 iU rfl rfl rfl (by intro v hv;rw[List.mem_singleton.1 hv];show(ia (dm l1)).toArray.size=33;rw[List.size_toArray,cE]) (by decide) (by decide) (fun g21=>⟨(fun _=>wk [1,1] [0,1,2,3,4] rfl rfl), ?_⟩))
  have hA_b21:0<1→(some (⟨g21,0,none⟩:Addr))≠none:=fun _ h=>by cases h
  refine dO (fun w m=>m.bs 0 rfl (show _=aF 100 33 (.slice (some ⟨g21,0,none⟩) 1 1) 1 (km [dm l1])from rfl)) ?_
  refine di (bw 2 rfl rfl rfl Tryz.underlying80 Tryz.underlying80 (by exact .inl rfl) iU rfl (fun m=>Src.bW (m.ord 0 rfl)) n0 (by unfold maxLen;omega) (by omega) (fun u=>⟨(fun h=>absurd h (by decide)), ?_⟩))
  refine b4 (fun m=>(m.own 0 rfl).slice) ?_
  rintro⟨A_z,c_z,rfl,hc_z⟩
  refine b4 (fun m=>(m.ord 0 rfl).2.1) fun hA_z=> ?_
  have hli:(its++[dm l1]).length=its.length+1:=by simp
  refine dO (fun w m=>m.bs 0 rfl (show _=aF 100 33 (.slice A_z (its.length+1) c_z) (its.length+1) (km (its++[dm l1]))from congrArg (aF _ _ _ _) (by rw[iX]))) ?_
  rw[←hli]
  refine fS (c5 2 rfl rfl rfl E2 rfl (by first|exact Nat.le_of_ble_eq_true rfl|simp) ⟨(fun h=>absurd h (by decide)), ?_⟩)
  refine bo<|al (ρ' :=[(7,_),(13,_),(6,_),(10,_),(5,_),(4,_),(3,_),(0,_),(1,_)]) ⟨rfl,rfl,rfl,rfl,rfl,rfl,rfl,rfl,rfl,trivial⟩<|ak (X' :=[_,_,_]) (S' :=[_,_,_,_,_]) (fun _ m=>m)<|aR<| ?_
  refine ak (fun w m=>m.bs 0 rfl (show _=aE g6 80 [.slice A_z (its++[dm l1]).length c_z]from rfl)) ?_
  exact GX (A_z,c_z,its++[dm l1]) (by show its++[dm l1]=_;rw[hI_,List.map_append];rfl) [0,0] rfl [0,1,2,3,4] rfl
 ·obtain⟨A,c,its⟩:=s_
  try dsimp only
  dsimp only at hI_ hd_
  have hit:its=cw l q:=by rw[hI_,cw,←hd_,List.map_map];rfl
  subst hit
  refine ae<|ah<|aj<|hy (fun m=>aq rfl tD (ax (m.aQ 1 rfl) rfl))<|hy (fun _=>ab rfl)<|hy (fun _=>ab rfl)<|ai<|al (ρ' :=[(5,_),(4,_),(13,_),(6,_),(10,_),(3,_),(0,_),(1,_)]) ⟨rfl,rfl,rfl,rfl,rfl,rfl,rfl,rfl,trivial⟩<|ae<|aS<| ?_
  refine C5 trivial [0] rfl ?_
  exact qH trivial rfl rfl rfl [1] rfl [] rfl ⟨A,c,rfl,rfl,rfl⟩
end Go.Proofs.YtmibdabdlgmafaaGreatDoor
end
section
set_option maxRecDepth 20000
set_option maxHeartbeats 2000000
namespace Go.Proofs.YtmibdabdlgmafaaGreatDoor
open Go.Eng Go.Hx
def zO(l:List UInt8)(q:Pn)(A:Option Addr)(c:Nat):IX:=⟨q.a,q.b,q.m,⟨bp l,bk _⟩,cw l q,A,c⟩
theorem C8{B:Option Addr}{n k:Nat}{l:List UInt8}{q:Pn}(hq:q.ok)(hl:l.length=n)(hn:n≤1000000)(hk:n≤k):b6 Tryz.prog 127 [.slice B n k,.agg q.p.cs.toArray] [] [cn 1 B n (aP l)] (fun v_ X_ S_=>∃A2 c2,v_=(.agg (zO l q A2 c2).cs.toArray)∧X_=[]∧S_=[cn 33 A2 (cw l q).length (km (cw l q))]):=by
 refine aI (N:=12) Tryz.func127 rfl rfl (by simp) fun b=> ?_
 refine aU (fun m=>eb (m.rd 0 rfl)) ?_
 rintro⟨hl_rb,hA_rb⟩
 refine ah<|aj<| ?_
 refine hx (bu rfl (fun g3=> ?_))
 refine aG (fun w m=>m.bs 0 rfl (show _=aE g3 75 q.p.cs from congrArg (aE _ _) (aW _))) ?_
 refine hx (bh Fj (fun g4=> ?_))
 refine ai<|ak (X' :=[_,_]) (S' :=[_]) (fun _ m=>m)<|ae<|ah<|cu [2,5,7] [(0,some 2),(1,some 0),(3,some 1),(4,some 1),(2,none),(5,none),(6,some 2),(7,none)] (by kernel_rfl) (by kernel_rfl) rfl 2<|b5 (fun m=>yV (aX rfl jv iy rfl ((m.aQ 1 rfl).aw)) ((rfl:_=Value.agg q.p.cs.toArray)))<|an (aa rfl)<|an (aa rfl)<|b5 (fun m=>yV (aX rfl jv iy rfl ((m.aQ 1 rfl).aw)) ((rfl:_=Value.agg q.p.cs.toArray)))<| ?_
 refine di (au rfl Tryz.call56 (iM (by omega)) [] rfl [0] rfl ?_)
 rintro _ _ _ ⟨rfl,rfl,rfl⟩
 refine⟨(fun _=>wk [0,0] [0] rfl rfl), ?_⟩
 refine di (au rfl Tryz.call193 (AJ hq hl hn hk) [] rfl [0] rfl ?_)
 rintro _ _ _ ⟨A2,c2,rfl,rfl,rfl⟩
 refine⟨(fun _=>wk [1,1] [0] rfl rfl), ?_⟩
 refine dO (fun w m=>(m.perm (ar [0] _ [_] _ rfl)).freeze) ?_
 refine dO (fun w m=>m.fp 0 rfl .own) ?_
 refine an (bQ Fj rfl rfl (by kernel_rfl) (Gk (x:=zO l q A2 c2) De DG Di))<| ?_
 refine fS (a8 0 rfl rfl rfl EV (IX.eW _) (IX.cQ _) rfl ⟨(fun h=>absurd h (by decide)), ?_⟩)
 refine bo<|al (ρ' :=[(4,_),(3,_),(0,_),(1,_)]) ⟨rfl,rfl,rfl,rfl,trivial⟩<|ak (X' :=[_,_]) (S' :=[_,_,_]) (fun _ m=>m)<|ae<|aS<| ?_
 exact eJ trivial rfl rfl G1 EV (IX.eW _) (fun m=>(m.aQ 0 rfl).aw) [] rfl [0] rfl ⟨A2,c2,rfl,rfl,rfl⟩
end Go.Proofs.YtmibdabdlgmafaaGreatDoor
end
section
set_option maxRecDepth 20000
set_option maxHeartbeats 2000000
namespace Go.Proofs.YtmibdabdlgmafaaGreatDoor
open Go.Eng Go.Hx
def dy:List It→Int→List UInt8→Option (Int×Int)
 | [],_,_=>none
 |t::r,off,nm=>if t.1.b=nm then some (off,t.2)else dy r (off+t.2) nm
def gg(q:Pn):List (List UInt8)→Nat→List UInt8→Option (Nat×Int×Int)
 | [],_,_=>none
 |t::r,i,nm=>match dy (cw t q) 0 nm with
  |some (o,s)=>some (i,o,s)
  |none=>gg q r (i+1) nm
def jz(its:List It)(k:Nat):Int:=((its.take k).map (·.2)).sum
theorem pZ{w:List UInt32}{q:Pn}(hq:q.ok):∀{f:Nat} {b:List UInt8},b.length≤f→(iw w q f b).flatten=b
 |0,b,h=>by
  have:b=[]:=List.length_eq_zero_iff.1 (by omega)
  rw[this];rfl
 |f+1,b,h=>by
  rw[iw]
  split
  ·next e=>rw[e];rfl
  ·next e=>
   have hp:1≤b.length:=Nat.pos_of_ne_zero fun h0=>e (List.length_eq_zero_iff.1 h0)
   have:=iZ (w:=w) hq hp
   rw[List.flatten_cons,pZ hq (by rw[List.length_drop];omega),List.take_append_drop]
theorem ud{q:Pn}(hq:q.ok)(b:List UInt8):(ee b q).flatten=b:=pZ hq (Nat.le_refl _)
theorem wY{l:List UInt8}{q:Pn}(k:Nat):jz (cw l q) k=((((ee l q).take k).flatten.length:Nat):Int):=by
 unfold jz cw
 rw[←List.map_take,List.map_map]
 generalize(ee l q).take k=cs
 induction cs with
 |nil=>rfl
 |cons c r ih=>
  rw[List.map_cons,List.sum_cons,ih,List.flatten_cons,List.length_append]
  show((c.length:Nat):Int)+_=_
  omega
theorem q9{l:List UInt8}{q:Pn}(hq:q.ok)(k:Nat):0≤jz (cw l q) k∧jz (cw l q) k≤l.length:=by
 rw[wY]
 have h:((ee l q).take k).flatten++((ee l q).drop k).flatten=l:=by rw[←List.flatten_append,List.take_append_drop,ud hq]
 have:=congrArg List.length h
 rw[List.length_append]at this
 omega
theorem qc{its:List It}{k:Nat}{t:It}(h:its[k]? =some t):jz its (k+1)=jz its k+t.2:=by
 obtain⟨h1,rfl⟩:=List.getElem?_eq_some_iff.1 h
 unfold jz
 rw[List.take_succ_eq_append_getElem h1,List.map_append,List.sum_append]
 simp
end Go.Proofs.YtmibdabdlgmafaaGreatDoor
end
section
namespace Go.Eng
open Go.RowKit
section
variable{P:Program}{N:Nat}{D:List Deferred}{ρ:Env}{w:World}{x y:Operand}{ty t t' e:TypeId}{v:Value}{k:IntKind}{i:Int}
end
section
variable{P:Program}{t:TypeId}{d:Nat}
theorem tT{z:Int}(ht:P.underlying t=some (.int .i64))(h1:-9223372036854775808≤z)(h2:z≤9223372036854775807):P.keyLits (d+1) t [.int .i64 z]=some [.int .i64 z]:=by
 unfold Program.keyLits
 rw[ht]
 have hw:(Lit.int .i64 z).wf=true:=by
  simp[Lit.wf,IntKind.min,IntKind.max,IntKind.signed,IntKind.bits]
  omega
 simp[hw]
theorem wz {fs : Array Field} {cs : List Value} {ls : List (List Lit)} (ht : P.underlying t = some (.struct fs)) (hl : cs.length = P.cellsOf t) (hn : fs.all (·.name != "_") = true)
    (hm:(fs.toList.mapM fun f=>P.keyLits d f.type ((cs.drop f.offset).take (P.cellsOf f.type)))=some ls):P.keyLits (d+1) t cs=some ls.flatten:=by
  rw[Program.keyLits.eq_def]
  simp only[ht]
  rw[if_pos ⟨hl,hn⟩,hm]
  rfl
theorem mapM_some{α β:Type}{f:α→Option β}:∀{l:List α} {g:List β},l.map f=g.map some→l.mapM f=some g
 | [],[],_=>rfl
 | [],_::_,h=>by simp at h
 |_::_,[],h=>by simp at h
 |a::r,b::s,h=>by
  simp only[List.map_cons,List.cons.injEq]at h
  rw[List.mapM_cons,h.1,mapM_some h.2]
  rfl
end
end Go.Eng
end
