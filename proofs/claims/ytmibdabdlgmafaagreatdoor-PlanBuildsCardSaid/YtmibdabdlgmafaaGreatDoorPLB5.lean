/- Part. -/
import Derived.Test.YtmibdabdlgmafaaGreatDoorPLB4
import Derived.OrdersIn
import Derived.Sort.Grow
import Derived.Shelf.SlSortCmp.NoneTotal
import Derived.Ground.SlsfProg
import Derived.Test.YtmibdabdlgmafaaGreatDoorProg
set_option linter.all false
section
set_option maxRecDepth 20000
set_option maxHeartbeats 4000000
namespace Go.Proofs.YtmibdabdlgmafaaGreatDoor
open Go.Eng Go.Hx
def Ap(f:List UInt8):Int:=match ij f with|none=>-1|some k=>(k:Nat)
theorem kI{f:List UInt8}(h:ij f=none):Ap f=-1:=by unfold Ap;rw[h]
theorem qP{f:List UInt8}{k:Nat}(h:ij f=some k):Ap f=(k:Nat):=by unfold Ap;rw[h]
theorem Gk{A:Option Addr}{n c:Nat}{f:List UInt8}(hl:f.length=n)(hn:n≤10000000):cf Tryz.prog 216 [.slice A n c] [] [cz 1 A n (aT f)] (fun v_ X_ S_=>v_=(.int .i64 (Ap f))∧X_=[]∧S_=[]):=by
 have hv:oG (f.drop 2)=(f.getD 2 0).toNat+256*(f.getD 3 0).toNat+65536*(f.getD 4 0).toNat+16777216*(f.getD 5 0).toNat:=by simp[oG,List.getD]
 have b0:=(f.getD 2 0).toNat_lt
 have b1:=(f.getD 3 0).toNat_lt
 have b2:=(f.getD 4 0).toNat_lt
 have b3:=(f.getD 5 0).toNat_lt
 have h76:(((f.getD 0 0).toNat:Int)≠76)↔f.getD 0 0≠76:=by
  constructor
  ·intro h e;rw[e]at h;exact h rfl
  ·intro h e;exact h (UInt8.toNat_inj.1 (by rw[show(76:UInt8).toNat=76 from rfl];omega))
 refine aK (N:=40) Tryz.func216 rfl rfl (by simp) fun b=> ?_
 refine aQ (fun m=>ek (m.rd 0 rfl)) ?_
 rintro⟨hl_r,hA_r⟩
 by_cases h1:f.length<10
 ·rw[kI (if_pos (.inl h1))]
  refine ae<|ah<|aG rfl<|ag<|aa<|ae<|ae<|ah<|au rfl<|hy (fun _=>a6 rfl Tryz.underlying27)<|hy (fun _=>yT (bx rfl rfl) ((decide_eq_true (by omega))))<|au rfl<|aJ rfl rfl rfl (by decide)<|aJ rfl rfl rfl (by decide)<|aJ rfl rfl rfl (by decide)<|aJ rfl rfl rfl (by decide)<|hy (fun _=>bz rfl rfl)<|au rfl<|aJ rfl rfl rfl (by decide)<|aJ rfl rfl rfl (by decide)<|aJ rfl rfl rfl (by decide)<|aJ rfl rfl rfl (by decide)<|hy (fun _=>bz rfl rfl)<|ag<|az [17,2,0] rfl<|aa<| ?_
  refine fx rfl (rfl) ?_
  refine ae<|ah<|aG rfl<|ag<|aa<|aR<|aq<| ?_
  exact bc trivial rfl rfl [] rfl [] rfl ⟨rfl,rfl,rfl⟩
 ·by_cases h2:f.getD 0 0≠76
  ·rw[kI (if_pos (.inr (.inl h2)))]
   refine ae<|ah<|aG rfl<|ag<|aa<|ae<|ae<|ah<|au rfl<|hy (fun _=>a6 rfl Tryz.underlying27)<|hy (fun _=>yF (bx rfl rfl) ((decide_eq_false (by omega))))<|au rfl<|bQ (o:=_) rfl rfl rfl (fun _=>ai rfl)<|bQ (o:=_) rfl rfl rfl (fun _=>aS rfl rfl Tryz.underlying27 dJ hA_r (show((0:Nat):Int)=0 from rfl) (by omega))<|bQ (o:=_) rfl rfl rfl (fun m=>ak rfl iV ((m.rd 0 rfl).cell (bO (by omega))))<|bQ (o:=_) rfl rfl rfl (fun _=>yT (de rfl rfl) ((decide_eq_true (h76.2 h2))))<|hy (fun _=>bn rfl rfl)<|au rfl<|aJ rfl rfl rfl (by decide)<|aJ rfl rfl rfl (by decide)<|aJ rfl rfl rfl (by decide)<|aJ rfl rfl rfl (by decide)<|hy (fun _=>bz rfl rfl)<|ag<|az [17,2,0] rfl<|aa<| ?_
   refine fx rfl (rfl) ?_
   refine ae<|ah<|aG rfl<|ag<|aa<|aR<|aq<| ?_
   exact bc trivial rfl rfl [] rfl [] rfl ⟨rfl,rfl,rfl⟩
  ·by_cases h3:1<(f.getD 1 0).toNat
   ·rw[kI (if_pos (.inr (.inr h3)))]
    refine ae<|ah<|aG rfl<|ag<|aa<|ae<|ae<|ah<|au rfl<|hy (fun _=>a6 rfl Tryz.underlying27)<|hy (fun _=>yF (bx rfl rfl) ((decide_eq_false (by omega))))<|au rfl<|bQ (o:=_) rfl rfl rfl (fun _=>ai rfl)<|bQ (o:=_) rfl rfl rfl (fun _=>aS rfl rfl Tryz.underlying27 dJ hA_r (show((0:Nat):Int)=0 from rfl) (by omega))<|bQ (o:=_) rfl rfl rfl (fun m=>ak rfl iV ((m.rd 0 rfl).cell (bO (by omega))))<|bQ (o:=_) rfl rfl rfl (fun _=>yF (de rfl rfl) ((decide_eq_false (fun q=>h2 (h76.1 q)))))<|hy (fun _=>bn rfl rfl)<|au rfl<|bQ (o:=_) rfl rfl rfl (fun _=>ai rfl)<|bQ (o:=_) rfl rfl rfl (fun _=>aS rfl rfl Tryz.underlying27 dJ hA_r (show((1:Nat):Int)=1 from rfl) (by omega))<|bQ (o:=_) rfl rfl rfl (fun m=>ak rfl iV ((m.rd 0 rfl).cell (bO (by omega))))<|bQ (o:=_) rfl rfl rfl (fun _=>yT (cw rfl rfl) ((decide_eq_true (by omega))))<|hy (fun _=>bn rfl rfl)<|ag<|az [17,2,0] rfl<|aa<| ?_
    refine fx rfl (rfl) ?_
    refine ae<|ah<|aG rfl<|ag<|aa<|aR<|aq<| ?_
    exact bc trivial rfl rfl [] rfl [] rfl ⟨rfl,rfl,rfl⟩
   ·refine ae<|ah<|aG rfl<|ag<|aa<|ae<|ae<|ah<|au rfl<|hy (fun _=>a6 rfl Tryz.underlying27)<|hy (fun _=>yF (bx rfl rfl) ((decide_eq_false (by omega))))<|au rfl<|bQ (o:=_) rfl rfl rfl (fun _=>ai rfl)<|bQ (o:=_) rfl rfl rfl (fun _=>aS rfl rfl Tryz.underlying27 dJ hA_r (show((0:Nat):Int)=0 from rfl) (by omega))<|bQ (o:=_) rfl rfl rfl (fun m=>ak rfl iV ((m.rd 0 rfl).cell (bO (by omega))))<|bQ (o:=_) rfl rfl rfl (fun _=>yF (de rfl rfl) ((decide_eq_false (fun q=>h2 (h76.1 q)))))<|hy (fun _=>bn rfl rfl)<|au rfl<|bQ (o:=_) rfl rfl rfl (fun _=>ai rfl)<|bQ (o:=_) rfl rfl rfl (fun _=>aS rfl rfl Tryz.underlying27 dJ hA_r (show((1:Nat):Int)=1 from rfl) (by omega))<|bQ (o:=_) rfl rfl rfl (fun m=>ak rfl iV ((m.rd 0 rfl).cell (bO (by omega))))<|bQ (o:=_) rfl rfl rfl (fun _=>yF (cw rfl rfl) ((decide_eq_false (by omega))))<|hy (fun _=>bn rfl rfl)<|ag<|az [17,2,0] rfl<|aa<| ?_
    refine dm rfl (rfl) ?_
    have hL:ij f=some (oG (f.drop 2)):=if_neg (fun q=>q.elim h1 (fun q=>q.elim h2 h3))
    rw[qP hL]
    refine aB<|aa<|ae<|cA [] [(0,some 0),(1,some 0),(2,some 0),(3,some 0),(4,some 0),(5,some 0),(6,some 0),(7,some 0),(8,some 0),(9,some 0),(10,some 0),(11,some 0),(12,some 0),(13,some 0),(14,some 0),(15,some 0),(16,some 0),(17,some 0),(18,some 0),(19,some 0),(20,some 0),(21,some 0),(22,some 0)] (by kernel_rfl) (by kernel_rfl) rfl 99<|aj (ai rfl)<|aj (aS rfl rfl Tryz.underlying27 dJ hA_r (show((2:Nat):Int)=2 from rfl) (by omega))<|bV (fun m=>ak rfl iV ((m.rd 0 rfl).cell (bO (by omega))))<|aj (b8 rfl Tryz.underlying5 Tryz.underlying3 (AX _))<|aj (ai rfl)<|aj (aS rfl rfl Tryz.underlying27 dJ hA_r (show((3:Nat):Int)=3 from rfl) (by omega))<|bV (fun m=>ak rfl iV ((m.rd 0 rfl).cell (bO (by omega))))<|aj (b8 rfl Tryz.underlying5 Tryz.underlying3 (AX _))<|aj (gz rfl rfl (bE (by omega) (by omega)))<|aj (aO rfl rfl (bE (by omega) (by omega)))<|aj (ai rfl)<|aj (aS rfl rfl Tryz.underlying27 dJ hA_r (show((4:Nat):Int)=4 from rfl) (by omega))<|bV (fun m=>ak rfl iV ((m.rd 0 rfl).cell (bO (by omega))))<|aj (b8 rfl Tryz.underlying5 Tryz.underlying3 (AX _))<|aj (gz rfl rfl (bE (by omega) (by omega)))<|aj (aO rfl rfl (bE (by omega) (by omega)))<|aj (ai rfl)<|aj (aS rfl rfl Tryz.underlying27 dJ hA_r (show((5:Nat):Int)=5 from rfl) (by omega))<|bV (fun m=>ak rfl iV ((m.rd 0 rfl).cell (bO (by omega))))<|aj (b8 rfl Tryz.underlying5 Tryz.underlying3 (AX _))<|aj (gz rfl rfl (bE (by omega) (by omega)))<|aj (yV (aO rfl rfl (bE (by omega) (by omega))) ((show Value.int .i64 (((f.getD 2 0).toNat:Int)+256*((f.getD 3 0).toNat:Int)+65536*((f.getD 4 0).toNat:Int)+16777216*((f.getD 5 0).toNat:Int))= .int .i64 (oG (f.drop 2):Nat) by rw[hv];congr 1)))<|aj (ay rfl)<|bp<|az [2,17,0] rfl<|aa<|aR<| ?_
    exact bc trivial rfl rfl [] rfl [] rfl ⟨rfl,rfl,rfl⟩
theorem l5{f u:List UInt8}{k:Nat}(h:x1 f k=(u,0)):gH f k=if u.length≠k then([],2)else if jA (dj u)≠f.drop (f.length-4)then([],7)else(u,0):=by
 unfold gH
 rw[h]
 exact if_neg (by simp)
theorem zM{f:List UInt8}{k:Nat}(h:(x1 f k).2≠0):gH f k=([],2):=by
 unfold gH
 exact if_pos h
theorem E0{A:Option Addr}{n c:Nat}{f:List UInt8}{most:Int}(hc:n≤c)(hl:f.length=n)(hn:n≤10000000)(hm:most≤1000000):cf Tryz.prog 156 [.slice A n c,.int .i64 most] [] [cz 1 A n (aT f)] (fun v_ X_ S_=>∃A1 c1,v_=(.tuple #[.slice A1 (c7 f most).1.length c1,.int .i64 (c7 f most).2])∧X_=[]∧S_=[cz 1 A1 (c7 f most).1.length (aT (c7 f most).1)]∧((c7 f most).1.length≤c1)):=by
 refine aK (N:=48) Tryz.func156 rfl rfl (by simp) fun b=> ?_
 refine aQ (fun m=>ek (m.rd 0 rfl)) ?_
 rintro⟨hl_r,hA_r⟩
 refine ae<|ah<|aG rfl<|aG rfl<|ag<|aa<|ae<|ah<|au rfl<| ?_
 refine hx (an rfl Tryz.call216 (Gk hl hn) [] rfl [0] rfl ?_)
 rintro _ _ _ ⟨rfl,rfl,rfl⟩
 refine aG rfl<|ag<|az [6,5,4,0,1] rfl<|aY rfl rfl<|aa<|ae<|ae<|ah<|au rfl<|hy (fun _=>bx rfl rfl)<|ag<|az [12,6,5,4,0,1] rfl<|aa<| ?_
 rcases hL:ij f with _|k
 ·refine fx rfl ((decide_eq_true (by rw[kI hL];decide))) ?_
  rw[(p8 hL)]
  refine ae<|ah<|aG rfl<|aG rfl<|ag<|aa<|aR<|aq<| ?_
  refine bd (fun w m=>m.o7 (r' :=cz 1 none 0 []) (.refl _ _) (Rd.nil _ _ _) (fun k hk=>absurd rfl hk.1)) ?_
  have hA_z:0<0→(none:Option Addr)≠none:=fun h=>absurd h (by decide)
  exact cQ trivial rfl rfl rfl [] rfl [0] rfl ⟨none,0,rfl,rfl,rfl,(Nat.le_refl _)⟩
 ·rw[qP hL]
  refine dm rfl ((decide_eq_false (by omega))) ?_
  refine aB<|aa<|ae<|ae<|ah<|au rfl<|au rfl<|hy (fun _=>cw rfl rfl)<|ag<|az [15,12,6,5,4,0,1] rfl<|aa<| ?_
  refine cu rfl (fun hfar=> ?_) (fun hfar=> ?_)
  ·rw[(qS hL (by omega))]
   refine ae<|ah<|aG rfl<|aG rfl<|ag<|aa<|aR<|aq<| ?_
   refine bd (fun w m=>m.o7 (r' :=cz 1 none 0 []) (.refl _ _) (Rd.nil _ _ _) (fun k hk=>absurd rfl hk.1)) ?_
   have hA_z:0<0→(none:Option Addr)≠none:=fun h=>absurd h (by decide)
   exact cQ trivial rfl rfl rfl [] rfl [0] rfl ⟨none,0,rfl,rfl,rfl,(Nat.le_refl _)⟩
  ·obtain⟨h10,hk32⟩:=tH hL
   have hopen:=s3 hL (by omega)
   refine a8 (fun w m=>m.ew 0 rfl (View.sub (n:=n) (c:=c) (k:=6) (m:=n-4-6) (by omega) (by omega))) ?_
   refine aQ (fun m=>ek (m.rd 0 rfl)) ?_
   rintro⟨hl_p,hA_p⟩
   have hbl:n-4-6=(dA f).length:=by unfold dA;rw[List.length_take,List.length_drop];omega
   have hb2:(f.drop 6).take (n-4-6)=dA f:=by unfold dA;rw[show n-4-6=f.length-10 by omega]
   rw[hb2]
   refine aB<|aa<|ae<|ah<|au rfl<|au rfl<|hy (fun _=>a6 rfl Tryz.underlying27)<|hy (fun _=>ct rfl rfl (bE (by omega) (by omega)))<|hy (fun _=>eA rfl rfl rfl Tryz.underlying27 dJ (show((6:Nat):Int)=6 from rfl) (show((n-4:Nat):Int)=_ by omega) (by omega) (by omega))<|aG rfl<|ag<|az [7,15,12,6,5,4,0,1] rfl<|aa<|ae<|ae<|ah<|au rfl<|hy (fun _=>aS rfl rfl Tryz.underlying27 dJ hA_r (show((1:Nat):Int)=1 from rfl) (by omega))<|hy (fun m=>ak rfl iV ((m.rd 1 rfl).cell (bO (by omega))))<|hy (fun _=>cD rfl rfl)<|ag<|az [24,7,15,12,6,5,4,0,1] rfl<|aa<| ?_
   refine cu rfl (fun h1=> ?_) (fun h1=> ?_)
   ·have hf1:f.getD 1 0=1:=UInt8.toNat_inj.1 (by rw[show(1:UInt8).toNat=1 from rfl];omega)
    have hun:x1 f k=kF k (dA f) []:=if_pos hf1
    refine ae<|ah<|au rfl<|au rfl<| ?_
    refine hx (an rfl Tryz.call217 (As (show n-4-6≤c-6 by omega) (by omega) hbl.symm (show(k:Int)≤10000000 by omega) (l:=(dA f))) [] rfl [0] rfl ?_)
    rintro _ _ _ ⟨v,nn,rfl,rfl,rfl⟩
    refine aC (fun m=>(m.own 0 rfl).slice) ?_
    rintro⟨A_x,c_x,rfl,hc_x⟩
    refine aC (fun m=>(m.ord 0 rfl).2.1) fun hA_x=> ?_
    refine hx (ba nZ (fun g8=> ?_))
    refine cF (a7 0 rfl rfl rfl jk rfl jU rfl ?_)
    refine ag<|az [8,24,7,15,12,6,5,4,0,1] rfl<|aY rfl rfl<|aa<|ae<|ae<|ah<|hy (fun _=>ax rfl B1 (by decide))<|hy (fun m=>ak rfl k4 (ar (m.aN 0 rfl) (i:=2) rfl))<|hy (fun _=>de rfl rfl)<|ag<|az [30,8,24,7,15,12,6,5,4,0,1] rfl<|aa<| ?_
    refine cu rfl (fun he=> ?_) (fun he=> ?_)
    ·have hz:c7 f most=([],2):=by rw[hopen,zM (by rw[hun];exact he)]
     rw[hz]
     refine ae<|ah<|aG rfl<|aG rfl<|ag<|aa<|aR<|aq<|aq<| ?_
     refine bd (fun w m=>m.o7 (r' :=cz 1 none 0 []) (.refl _ _) (Rd.nil _ _ _) (fun k hk=>absurd rfl hk.1)) ?_
     have hA_z:0<0→(none:Option Addr)≠none:=fun h=>absurd h (by decide)
     exact cQ trivial rfl rfl rfl [] rfl [0] rfl ⟨none,0,rfl,rfl,rfl,(Nat.le_refl _)⟩
    ·have he:=Decidable.not_not.1 he
     have hun2:x1 f k=((kF k (dA f) []).1,0):=by rw[hun];exact Prod.ext rfl he
     refine a8 (fun w m=>(m.perm (ao [1] _ [_] _ rfl)).freeze) ?_
     refine a8 (fun w m=>m.ew 0 rfl .own) ?_
     generalize(kF k (dA f) []).1=u at hc_x hA_x hun2 ⊢
     refine aB<|aa<|ah<|hy (fun _=>ax rfl Bf (by decide))<|hy (fun m=>ak rfl di (ar (m.aN 0 rfl) (i:=0) rfl))<|aG rfl<|ag<|az [7,30,8,24,15,12,6,5,4,0,1] rfl<|aa<|ae<|ae<|ah<|au rfl<|hy (fun _=>a6 rfl Tryz.underlying27)<|au rfl<|hy (fun _=>de rfl rfl)<|ag<|az [36,7,30,8,24,15,12,6,5,4,0,1] rfl<|aa<| ?_
     refine cu rfl (fun h36=> ?_) (fun h36=> ?_)
     ·have hz:c7 f most=([],2):=by rw[hopen,l5 hun2];exact if_pos (by omega)
      rw[hz]
      refine ae<|ah<|aG rfl<|aG rfl<|ag<|aa<|aR<|aq<| ?_
      refine bd (fun w m=>m.o7 (r' :=cz 1 none 0 []) (.refl _ _) (Rd.nil _ _ _) (fun k hk=>absurd rfl hk.1)) ?_
      have hA_z:0<0→(none:Option Addr)≠none:=fun h=>absurd h (by decide)
      exact cQ trivial rfl rfl rfl [] rfl [0] rfl ⟨none,0,rfl,rfl,rfl,(Nat.le_refl _)⟩
     ·have hlu:(u).length=k:=by omega
      have hgo:c7 f most=if jA (dj u)≠f.drop (f.length-4)then([],7)else(u,0):=by rw[hopen,l5 hun2];exact if_neg (fun q=>q hlu)
      refine a8 (fun w m=>m.ew 3 rfl (View.drop (n:=n) (c:=c) (k:=n-4) (by omega) (by omega))) ?_
      refine aQ (fun m=>ek (m.rd 0 rfl)) ?_
      rintro⟨hl_e4,hA_e4⟩
      refine aB<|aa<|ae<|ae<|cA [1,2] [(0,some 0),(3,some 2),(4,some 2),(5,some 2),(6,some 2),(7,some 2),(8,some 2),(1,none),(2,none),(9,some 2)] (by kernel_rfl) (by kernel_rfl) rfl 99<|aj (ai rfl)<|aj (ai rfl)<|aj (ai rfl)<|aj (a6 rfl Tryz.underlying27)<|aj (ct rfl rfl (bE (by omega) (by omega)))<|aj (ef rfl rfl Tryz.underlying27 dJ (show((n-4:Nat):Int)=_ by omega) (by omega))<|bV (fun m=>kj rfl Tryz.underlying27 Tryz.underlying5 Tryz.underlying9 (m.rd 0 rfl))<| ?_
      refine dk (an rfl Tryz.call161 (w9 hc_x (by omega) rfl (l:=u)) [] rfl [1] rfl ?_)
      rintro _ _ _ ⟨v2,rfl,rfl,rfl⟩
      refine⟨(fun _=>wk [1] [0,1,2,3,4] rfl rfl), ?_⟩
      refine bU (fun m=>(m.own 0 rfl).slice) ?_
      rintro⟨A_x2,c_x2,rfl,hc_x2⟩
      refine bU (fun m=>(m.ord 0 rfl).2.1) fun hA_x2=> ?_
      refine B5 (fun _=>wk [1] [0,1,2,3,4] rfl rfl) (fun m=>kj rfl Tryz.underlying27 Tryz.underlying5 Tryz.underlying9 (m.ord 0 rfl))<|aj (ma rfl rfl)<|bp<|az [46,36,7,30,8,24,15,12,6,5,4,0,1] rfl<|aY rfl rfl<|aa<| ?_
      refine cu rfl (fun h46=> ?_) (fun h46=> ?_)
      ·have hz:c7 f most=([],7):=by rw[hgo];exact if_pos (fun e=>h46 (by rw[e,hl]))
       rw[hz]
       refine ae<|ah<|aG rfl<|aG rfl<|ag<|aa<|aR<|aq<| ?_
       refine bd (fun w m=>m.o7 (r' :=cz 1 none 0 []) (.refl _ _) (Rd.nil _ _ _) (fun k hk=>absurd rfl hk.1)) ?_
       have hA_z:0<0→(none:Option Addr)≠none:=fun h=>absurd h (by decide)
       exact cQ trivial rfl rfl rfl [] rfl [0] rfl ⟨none,0,rfl,rfl,rfl,(Nat.le_refl _)⟩
      ·have h46:=cR.1 (Decidable.not_not.1 h46)
       have hz:c7 f most=(u,0):=by rw[hgo];exact if_neg (fun q=>q (by rw[h46,hl]))
       rw[hz]
       refine aB<|aa<|ae<|ah<|au rfl<|aG rfl<|aG rfl<|ag<|az [5,4,46,36,7,30,8,24,15,12,6,0,1] rfl<|aa<|aR<| ?_
       exact cQ trivial rfl rfl rfl [] rfl [1] rfl ⟨_,_,rfl,rfl,rfl,hc_x⟩
   ·have hf1:¬f.getD 1 0=1:=fun q=>h1 (by rw[q];rfl)
    have hun:x1 f k=(dA f,0):=if_neg hf1
    rw[hbl]
    refine aB<|aa<|ae<|ae<|ah<|au rfl<|hy (fun _=>a6 rfl Tryz.underlying27)<|au rfl<|hy (fun _=>de rfl rfl)<|ag<|az [36,24,7,15,12,6,5,4,0,1] rfl<|aa<| ?_
    refine cu rfl (fun h36=> ?_) (fun h36=> ?_)
    ·have hz:c7 f most=([],2):=by rw[hopen,l5 hun];exact if_pos (by omega)
     rw[hz]
     refine ae<|ah<|aG rfl<|aG rfl<|ag<|aa<|aR<|aq<| ?_
     refine bd (fun w m=>m.o7 (r' :=cz 1 none 0 []) (.refl _ _) (Rd.nil _ _ _) (fun k hk=>absurd rfl hk.1)) ?_
     have hA_z:0<0→(none:Option Addr)≠none:=fun h=>absurd h (by decide)
     exact cQ trivial rfl rfl rfl [] rfl [0] rfl ⟨none,0,rfl,rfl,rfl,(Nat.le_refl _)⟩
    ·have hlu:((dA f)).length=k:=by omega
     have hgo:c7 f most=if jA (dj (dA f))≠f.drop (f.length-4)then([],7)else((dA f),0):=by rw[hopen,l5 hun];exact if_neg (fun q=>q hlu)
     refine a8 (fun w m=>m.ew 1 rfl (View.drop (n:=n) (c:=c) (k:=n-4) (by omega) (by omega))) ?_
     refine aQ (fun m=>ek (m.rd 0 rfl)) ?_
     rintro⟨hl_e4,hA_e4⟩
     refine aB<|aa<|ae<|ae<|cA [1,2] [(0,some 0),(3,some 2),(4,some 2),(5,some 2),(6,some 2),(7,some 2),(8,some 2),(1,none),(2,none),(9,some 2)] (by kernel_rfl) (by kernel_rfl) rfl 99<|aj (ai rfl)<|aj (ai rfl)<|aj (ai rfl)<|aj (a6 rfl Tryz.underlying27)<|aj (ct rfl rfl (bE (by omega) (by omega)))<|aj (ef rfl rfl Tryz.underlying27 dJ (show((n-4:Nat):Int)=_ by omega) (by omega))<|bV (fun m=>kj rfl Tryz.underlying27 Tryz.underlying5 Tryz.underlying9 (m.rd 0 rfl))<| ?_
     refine dk (an rfl Tryz.call161 (w9 (show(dA f).length≤c-6 by omega) (by omega) rfl (l:=(dA f))) [] rfl [1] rfl ?_)
     rintro _ _ _ ⟨v,rfl,rfl,rfl⟩
     refine⟨(fun _=>wk [] [0,1,2] rfl rfl), ?_⟩
     refine bU (fun m=>(m.own 0 rfl).slice) ?_
     rintro⟨A_x,c_x,rfl,hc_x⟩
     refine bU (fun m=>(m.ord 0 rfl).2.1) fun hA_x=> ?_
     refine B5 (fun _=>wk [] [0,1,2] rfl rfl) (fun m=>kj rfl Tryz.underlying27 Tryz.underlying5 Tryz.underlying9 (m.ord 0 rfl))<|aj (ma rfl rfl)<|bp<|az [46,36,24,7,15,12,6,5,4,0,1] rfl<|aY rfl rfl<|aa<| ?_
     refine cu rfl (fun h46=> ?_) (fun h46=> ?_)
     ·have hz:c7 f most=([],7):=by rw[hgo];exact if_pos (fun e=>h46 (by rw[e,hl]))
      rw[hz]
      refine ae<|ah<|aG rfl<|aG rfl<|ag<|aa<|aR<|aq<| ?_
      refine bd (fun w m=>m.o7 (r' :=cz 1 none 0 []) (.refl _ _) (Rd.nil _ _ _) (fun k hk=>absurd rfl hk.1)) ?_
      have hA_z:0<0→(none:Option Addr)≠none:=fun h=>absurd h (by decide)
      exact cQ trivial rfl rfl rfl [] rfl [0] rfl ⟨none,0,rfl,rfl,rfl,(Nat.le_refl _)⟩
     ·have h46:=cR.1 (Decidable.not_not.1 h46)
      have hz:c7 f most=((dA f),0):=by rw[hgo];exact if_neg (fun q=>q (by rw[h46,hl]))
      rw[hz]
      refine aB<|aa<|ae<|ah<|au rfl<|aG rfl<|aG rfl<|ag<|az [5,4,46,36,24,7,15,12,6,0,1] rfl<|aa<|aR<| ?_
      exact cQ trivial rfl rfl rfl [] rfl [1] rfl ⟨_,_,rfl,rfl,rfl,(show(dA f).length≤c-6 by omega)⟩
end Go.Proofs.YtmibdabdlgmafaaGreatDoor
end
section
set_option maxRecDepth 20000
namespace Go.Proofs.YtmibdabdlgmafaaGreatDoor
open Go.Eng Go.Hx
theorem iX{x:UInt32}{n:Nat}(hn:n≤32):cf Tryz.prog 204 [Wd x,.int .i64 (n:Int)] [] [] (fun v_ X_ S_=>v_=(Wd (ix n x))∧X_=[]∧S_=[]):=by
 refine aK (N:=18) Tryz.func204 rfl rfl (by simp) fun b=> ?_
 refine ae<|ah<|aG rfl<|ag<|aa<|ae<|ae<|ah<|aG rfl<|ag<|aa<|aM<| ?_
 refine kv (fun i y=>n-i) (fun i y=>[(0,Wd y),(5,.int .i64 (i:Nat))]) (fun i y=>[]) (fun i y=>[]) (fun i y=>i≤n∧y=ix i x) 0 x [(4,_),(1,_)] ⟨rfl,rfl,trivial⟩ [] rfl [] rfl (⟨Nat.zero_le _,(xE x).symm⟩) ⟨rfl,rfl,trivial⟩ (fun i y ⟨hin,hyv⟩=> ?_)
 refine ae<|ae<|ah<|au rfl<|au rfl<|hy (fun _=>bx rfl rfl)<|ag<|az [8,0,5,4,1] rfl<|aa<| ?_
 refine cu rfl (fun h=> ?_) (fun h=> ?_)
 ·refine aB<|aa<|ae<|aM<|ah<|au rfl<|hy (fun _=>nb (b:=2) (by decide) rfl rfl)<|au rfl<|hy (fun _=>vu (b:=2) (by decide) rfl rfl)<|hy (fun _=>lC (b:=2147483648) rfl rfl)<|hy (fun _=>yV (c9 rfl rfl) ((rfl:_=Wd (sK y))))<|aG rfl<|ag<|az [0,8,5,4,1] rfl<|aW<|aa<|ah<|au rfl<|hy (fun _=>aO rfl rfl (bE (by omega) (by omega)))<|aG rfl<|ag<|az [5,0,8,4,1] rfl<| ?_
  refine hC (i+1) (sK y) ⟨rfl,rfl,rfl,rfl,trivial⟩ [] rfl [] rfl (⟨by omega,by rw[hyv,xp (by omega)]⟩) (by omega)
 ·obtain rfl:i=n:=by omega
  subst hyv
  refine bH<|al<|al<|aD<|aa<|ae<|ah<|au rfl<|aG rfl<|ag<|az [4,8,0,5,1] rfl<|aa<|aR<| ?_
  exact bc trivial rfl rfl [] rfl [] rfl ⟨rfl,rfl,rfl⟩
theorem Fb{A:Option Addr}{n c:Nat}{l:List UInt8}{i:Nat}(hi:i+4≤n)(hn:n≤1000000000000):cf Tryz.prog 203 [.slice A n c,.int .i64 (i:Int)] [] [cz 1 A n (aT l)] (fun v_ X_ S_=>v_=(Wd (kC l i))∧X_=[]∧S_=[]):=by
 refine aK (N:=34) Tryz.func203 rfl rfl (by simp) fun b=> ?_
 refine aQ (fun m=>ek (m.rd 0 rfl)) ?_
 rintro⟨hl_r,hA_r⟩
 have hl:l.length=n:=hl_r
 refine ae<|ah<|aG rfl<|ag<|aa<|ae<|cA [] [(0,some 0),(1,some 0),(2,some 0),(3,some 0),(4,some 0),(5,some 0),(6,some 0),(7,some 0),(8,some 0),(9,some 0),(10,some 0),(11,some 0),(12,some 0),(13,some 0),(14,some 0),(15,some 0),(16,some 0),(17,some 0),(18,some 0),(19,some 0),(20,some 0),(21,some 0),(22,some 0),(23,some 0),(24,some 0),(25,some 0),(26,some 0),(27,some 0),(28,some 0),(29,some 0)] (by kernel_rfl) (by kernel_rfl) rfl 99<|aj (ai rfl)<|aj (ai rfl)<|aj (aS rfl rfl Tryz.underlying27 dJ hA_r rfl (by omega))<|bV (fun m=>ak rfl iV ((m.rd 0 rfl).cell (bO (by omega))))<|aj (yk rfl Tryz.underlying5 Tryz.underlying166)<|aj (lC (b:=16777216) rfl rfl)<|aj (ai rfl)<|aj (ai rfl)<|aj (aO rfl rfl (bE (by omega) (by omega)))<|aj (aS rfl rfl Tryz.underlying27 dJ hA_r (show((i+1:Nat):Int)=_ by omega) (by omega))<|bV (fun m=>ak rfl iV ((m.rd 0 rfl).cell (bO (by omega))))<|aj (yk rfl Tryz.underlying5 Tryz.underlying166)<|aj (lC (b:=65536) rfl rfl)<|aj (c9 rfl rfl)<|aj (ai rfl)<|aj (ai rfl)<|aj (aO rfl rfl (bE (by omega) (by omega)))<|aj (aS rfl rfl Tryz.underlying27 dJ hA_r (show((i+2:Nat):Int)=_ by omega) (by omega))<|bV (fun m=>ak rfl iV ((m.rd 0 rfl).cell (bO (by omega))))<|aj (yk rfl Tryz.underlying5 Tryz.underlying166)<|aj (lC (b:=256) rfl rfl)<|aj (c9 rfl rfl)<|aj (ai rfl)<|aj (ai rfl)<|aj (aO rfl rfl (bE (by omega) (by omega)))<|aj (aS rfl rfl Tryz.underlying27 dJ hA_r (show((i+3:Nat):Int)=_ by omega) (by omega))<|bV (fun m=>ak rfl iV ((m.rd 0 rfl).cell (bO (by omega))))<|aj (yk rfl Tryz.underlying5 Tryz.underlying166)<|aj (yV (c9 rfl rfl) ((show Wd ((l.getD i 0).toUInt32*16777216+(l.getD (i+1) 0).toUInt32*65536+(l.getD (i+2) 0).toUInt32*256+(l.getD (i+3) 0).toUInt32)=Wd (kC l i) by rw[xf])))<|aj (ay rfl)<|bp<|az [4,0,1] rfl<|aa<|aR<| ?_
 exact bc trivial rfl rfl [] rfl [] rfl ⟨rfl,rfl,rfl⟩
theorem B4:cf Tryz.prog 202 [] [] [] (fun v_ X_ S_=>∃v,v_=v∧X_=[aI 166 1 v 64 (dL fv)]∧S_=[]):=by
 refine aK (N:=2) Tryz.func202 rfl rfl (by simp) fun b=> ?_
 refine ae<|ah<|aG rfl<|ag<|aa<|ae<|ah<| ?_
 refine hx (b5 Tryz.underlying215 k7 rfl rfl rfl (by decide) (by decide) (by decide) (fun g1=> ?_))
 have hA_b1:0<64→(some (⟨g1,0,none⟩:Addr))≠none:=fun _ h=>by cases h
 refine aG rfl<|ag<|az [0] rfl<|aY rfl rfl<|aa<|aR<| ?_
 refine bd (fun w m=>m.bw 0 rfl (show _=aI 166 1 (.slice (some ⟨g1,0,none⟩) 64 64) 64 (dL fv)from rfl)) ?_
 exact bc trivial rfl rfl [0] rfl [] rfl ⟨_,rfl,rfl,rfl⟩
theorem CN{H:Option Addr}{hc:Nat}{A:Option Addr}{c:Nat}{l:List UInt8}{h:List UInt32}(hcc:64≤c)(hh:h.length=8):cf Tryz.prog 142 [.slice H 8 hc,.slice A 64 c] [] [cz 1 H 8 (dL h),cz 1 A 64 (aT l)] (fun v_ X_ S_=>∃u,v_=u∧X_=[aI 166 1 u 8 (dL (ea h l))]∧S_=[]):=by
 refine aK (N:=230) Tryz.func142 rfl rfl (by simp) fun b=> ?_
 refine aQ (fun m=>eU (m.rd 0 rfl)) ?_
 rintro⟨hl_q,hA_q⟩
 refine aQ (fun m=>ek (m.rd 1 rfl)) ?_
 rintro⟨hl_r,hA_r⟩
 have hl:l.length=64:=hl_r
 refine ae<|ah<|aG rfl<|ag<|aa<|ae<|ah<| ?_
 refine hx (an rfl Tryz.call202 (B4) [] rfl [] rfl ?_)
 rintro _ _ _ ⟨v,rfl,rfl,rfl⟩
 refine aC (fun m=>(m.own 0 rfl).slice) ?_
 rintro⟨A_x,c_x,rfl,hc_x⟩
 refine aC (fun m=>(m.ord 0 rfl).2.1) fun hA_x=> ?_
 refine aG rfl<|ag<|az [5,4,0,1] rfl<|aY rfl rfl<|aa<|ae<|ah<|aG rfl<|ag<|aa<|ae<|ae<|ah<|aG rfl<|ag<|aa<|aM<| ?_
 refine a8 (fun w m=>m.cL (r' :=aI 166 1 (.slice none 0 0) 0 []) (.refl _ _) (Own.nil _ _ _ _) (fun k hk=>hk.elim)) ?_
 refine a8 (fun w m=>m.bw 0 rfl (show _=aI 166 1 (.slice none 0 0) 0 (dL (wl l 0))from rfl)) ?_
 refine gh (fun i A1 c1=>16-i) (fun i A1 c1=>[(6,.slice A1 i c1),(7,.int .i64 (i:Nat))]) (fun i A1 c1=>[aI 166 1 (.slice A1 i c1) i (dL (wl l i))]) (fun i A1 c1=>[]) (fun i A1 c1=>i≤16) 0 none 0 [(5,_),(4,_),(0,_),(1,_)] ⟨rfl,rfl,rfl,rfl,trivial⟩ [0] rfl [] rfl (Nat.zero_le _) ⟨rfl,rfl,trivial⟩ (fun i A1 c1 hI=> ?_)
 refine ae<|ae<|ah<|au rfl<|hy (fun _=>bx rfl rfl)<|ag<|az [21,6,7,5,4,0,1] rfl<|aa<| ?_
 refine cu rfl (fun hlt=> ?_) (fun hlt=> ?_)
 ·have hws:wl l (i+1)=wl l i++[kC l (4*i)]:=by rw[wl,if_pos (by omega)]
  refine aB<|aa<|ae<|aM<|ah<|au rfl<|au rfl<|au rfl<|hy (fun _=>gz rfl rfl (bE (by omega) (by omega)))<| ?_
  rw[show(4:Int)*(i:Int)=((4*i:Nat):Int) by omega]
  refine hx (an rfl Tryz.call203 (Fb (by omega) (by omega) (i:=4*i)) [] rfl [1] rfl ?_)
  rintro _ _ _ ⟨rfl,rfl,rfl⟩
  refine hx (b5 Tryz.underlying215 k7 rfl rfl rfl (by simp[Value.cells,B8]) (by decide) (by decide) (fun g29=> ?_))
  have hA_b29:0<1→(some (⟨g29,0,none⟩:Addr))≠none:=fun _ h=>by cases h
  refine aH (fun w m=>m.bw 0 rfl (show _=aI 166 1 (.slice (some ⟨g29,0,none⟩) 1 1) 1 (dL [kC l (4*i)])from rfl)) ?_
  refine hx (bC 1 rfl rfl rfl Tryz.underlying215 Tryz.underlying215 (by exact .inl rfl) k7 rfl (fun m=>Src.b9 (m.ord 0 rfl)) gy (by unfold maxLen;omega) (by omega) (fun u=> ?_))
  refine aC (fun m=>(m.own 0 rfl).slice) ?_
  rintro⟨A_o,c_o,rfl,hc_o⟩
  refine aC (fun m=>(m.ord 0 rfl).2.1) fun hA_o=> ?_
  refine aH (fun w m=>m.bw 0 rfl (show _=aI 166 1 (.slice A_o (i+1) c_o) (i+1) (dL (wl l (i+1)))from by rw[hws,ly])) ?_
  refine aG rfl<|ag<|az [6,21,7,5,4,0,1] rfl<|aY rfl rfl<|aW<|aa<|ah<|au rfl<|hy (fun _=>aO rfl rfl (bE (by omega) (by omega)))<|aG rfl<|ag<|az [7,6,21,5,4,0,1] rfl<| ?_
  refine gj (i+1) A_o c_o ⟨rfl,rfl,rfl,rfl,rfl,rfl,trivial⟩ [0,1] rfl [0,1] rfl (by omega) (by omega)
 ·obtain rfl:i=16:=by omega
  refine bH<|al<|al<|aD<|aa<|ae<|ae<|ah<|aG rfl<|ag<|aa<|aM<| ?_
  refine gh (fun i A1 c1=>64-i) (fun i A1 c1=>[(6,.slice A1 i c1),(8,.int .i64 (i:Nat))]) (fun i A1 c1=>[aI 166 1 (.slice A1 i c1) i (dL (wl l i))]) (fun i A1 c1=>[]) (fun i A1 c1=>16≤i∧i≤64) 16 A1 c1 [(21,_),(7,_),(5,_),(4,_),(0,_),(1,_)] ⟨rfl,rfl,rfl,rfl,rfl,rfl,trivial⟩ [0] rfl [] rfl (⟨Nat.le_refl _,by decide⟩) ⟨rfl,rfl,trivial⟩ (fun i A1 c1 ⟨hi16,hi64⟩=> ?_)
  have hwl:=fo l i
  refine aQ (fun m=>(m.ord 0 rfl).2.1) fun hA_o=> ?_
  refine ae<|ae<|ah<|au rfl<|hy (fun _=>bx rfl rfl)<|ag<|az [32,6,8,21,7,5,4,0,1] rfl<|aa<| ?_
  refine cu rfl (fun hlt=> ?_) (fun hlt=> ?_)
  ·have hws:wl l (i+1)=wl l i++[lV (wl l i) i]:=by rw[wl,if_neg (by omega)]
   refine aB<|aa<|ae<|aM<|ae<|cA [5,11] [(0,some 0),(1,some 2),(2,some 0),(3,some 0),(4,some 0),(6,some 1),(7,some 1),(8,some 1),(9,some 1),(10,some 1),(13,some 2),(14,some 2),(15,some 2),(16,some 2),(17,some 2),(18,some 2),(5,none),(11,none),(12,some 2),(19,some 2),(20,some 2)] (by kernel_rfl) (by kernel_rfl) rfl 99<|aj (ai rfl)<|aj (ai rfl)<|aj (ct rfl rfl (bE (by omega) (by omega)))<|aj (aS rfl rfl Tryz.underlying215 bB hA_o (show((i-15:Nat):Int)=_ by omega) (by omega))<|bV (fun m=>ak rfl bM ((m.ord 0 rfl).cell (j:=i-15) (bo (by omega))))<|aj (ai rfl)<|aj (ai rfl)<|aj (ct rfl rfl (bE (by omega) (by omega)))<|aj (aS rfl rfl Tryz.underlying215 bB hA_o (show((i-15:Nat):Int)=_ by omega) (by omega))<|bV (fun m=>ak rfl bM ((m.ord 0 rfl).cell (j:=i-15) (bo (by omega))))<|aj (ai rfl)<|aj (ai rfl)<|aj (ct rfl rfl (bE (by omega) (by omega)))<|aj (aS rfl rfl Tryz.underlying215 bB hA_o (show((i-15:Nat):Int)=_ by omega) (by omega))<|bV (fun m=>ak rfl bM ((m.ord 0 rfl).cell (j:=i-15) (bo (by omega))))<|aj (nb (b:=8) (by decide) rfl rfl)<| ?_
   refine dk (an rfl Tryz.call204 (iX (by omega) (n:=7)) [] rfl [] rfl ?_)
   rintro _ _ _ ⟨rfl,rfl,rfl⟩
   refine⟨(fun _=>wk [0,0] [0,1] rfl rfl), ?_⟩
   refine dk (an rfl Tryz.call204 (iX (by omega) (n:=18)) [] rfl [] rfl ?_)
   rintro _ _ _ ⟨rfl,rfl,rfl⟩
   refine⟨(fun _=>wk [0,0] [0,1] rfl rfl), ?_⟩
   refine aj (cW rfl rfl)<|aj (cW rfl rfl)<|aj (ay rfl)<|bp<|az [9,32,6,8,21,7,5,4,0,1] rfl<|aY rfl rfl<|aa<|ae<|cA [5,11] [(0,some 0),(1,some 2),(2,some 0),(3,some 0),(4,some 0),(6,some 1),(7,some 1),(8,some 1),(9,some 1),(10,some 1),(13,some 2),(14,some 2),(15,some 2),(16,some 2),(17,some 2),(18,some 2),(5,none),(11,none),(12,some 2),(19,some 2),(20,some 2)] (by kernel_rfl) (by kernel_rfl) rfl 99<|aj (ai rfl)<|aj (ai rfl)<|aj (ct rfl rfl (bE (by omega) (by omega)))<|aj (aS rfl rfl Tryz.underlying215 bB hA_o (show((i-2:Nat):Int)=_ by omega) (by omega))<|bV (fun m=>ak rfl bM ((m.ord 0 rfl).cell (j:=i-2) (bo (by omega))))<|aj (ai rfl)<|aj (ai rfl)<|aj (ct rfl rfl (bE (by omega) (by omega)))<|aj (aS rfl rfl Tryz.underlying215 bB hA_o (show((i-2:Nat):Int)=_ by omega) (by omega))<|bV (fun m=>ak rfl bM ((m.ord 0 rfl).cell (j:=i-2) (bo (by omega))))<|aj (ai rfl)<|aj (ai rfl)<|aj (ct rfl rfl (bE (by omega) (by omega)))<|aj (aS rfl rfl Tryz.underlying215 bB hA_o (show((i-2:Nat):Int)=_ by omega) (by omega))<|bV (fun m=>ak rfl bM ((m.ord 0 rfl).cell (j:=i-2) (bo (by omega))))<|aj (nb (b:=1024) (by decide) rfl rfl)<| ?_
   refine dk (an rfl Tryz.call204 (iX (by omega) (n:=17)) [] rfl [] rfl ?_)
   rintro _ _ _ ⟨rfl,rfl,rfl⟩
   refine⟨(fun _=>wk [0,0] [0,1] rfl rfl), ?_⟩
   refine dk (an rfl Tryz.call204 (iX (by omega) (n:=19)) [] rfl [] rfl ?_)
   rintro _ _ _ ⟨rfl,rfl,rfl⟩
   refine⟨(fun _=>wk [0,0] [0,1] rfl rfl), ?_⟩
   refine aj (cW rfl rfl)<|aj (cW rfl rfl)<|aj (ay rfl)<|bp<|az [10,9,32,6,8,21,7,5,4,0,1] rfl<|aY rfl rfl<|aa<|cA [5,16,17] [(0,some 2),(1,some 3),(2,some 3),(3,some 3),(4,some 3),(6,some 3),(8,some 3),(9,some 3),(10,some 3),(11,some 3),(12,some 1),(14,some 1),(5,none),(7,some 1),(13,some 1),(15,some 1),(16,none),(17,none),(18,some 3)] (by kernel_rfl) (by kernel_rfl) rfl 2<|aj (ai rfl)<|aj (ai rfl)<|aj (ai rfl)<|aj (ct rfl rfl (bE (by omega) (by omega)))<|aj (aS rfl rfl Tryz.underlying215 bB hA_o (show((i-16:Nat):Int)=_ by omega) (by omega))<|aj (ai rfl)<|aj (ai rfl)<|aj (ai rfl)<|aj (ct rfl rfl (bE (by omega) (by omega)))<|aj (aS rfl rfl Tryz.underlying215 bB hA_o (show((i-7:Nat):Int)=_ by omega) (by omega))<|bV (fun m=>ak rfl bM ((m.ord 0 rfl).cell (j:=i-7) (bo (by omega))))<|aj (ai rfl)<|B5 (fun _=>wk [0,0] [0,1] rfl rfl) (fun m=>ak rfl bM ((m.ord 0 rfl).cell (j:=i-16) (bo (by omega))))<|aj (c9 rfl rfl)<|aj (c9 rfl rfl)<|aj (yV (c9 rfl rfl) ((rfl:_=Wd (lV (wl l i) i))))<| ?_
   refine dk (b5 Tryz.underlying215 k7 rfl rfl rfl (by exact tM (l:=[_])) (by decide) (by decide) (fun g91=>⟨(fun _=>wk [1,1] [0,1] rfl rfl), ?_⟩))
   have hA_b91:0<1→(some (⟨g91,0,none⟩:Addr))≠none:=fun _ h=>by cases h
   refine dU (fun w m=>m.bw 0 rfl (show _=aI 166 1 (.slice (some ⟨g91,0,none⟩) 1 1) 1 (dL [lV (wl l i) i])from rfl)) ?_
   refine dk (bC 1 rfl rfl rfl Tryz.underlying215 Tryz.underlying215 (by exact .inl rfl) k7 rfl (fun m=>Src.b9 (m.ord 0 rfl)) gy (by unfold maxLen;omega) (by omega) (fun u=>⟨(fun h=>absurd h (by decide)), ?_⟩))
   refine bU (fun m=>(m.own 0 rfl).slice) ?_
   rintro⟨A_o,c_o,rfl,hc_o⟩
   refine bU (fun m=>(m.ord 0 rfl).2.1) fun hA_o=> ?_
   refine dU (fun w m=>m.bw 0 rfl (show _=aI 166 1 (.slice A_o (i+1) c_o) (i+1) (dL (wl l (i+1)))from by rw[hws,ly])) ?_
   refine aj (ay rfl)<|bp<|az [6,10,9,32,8,21,7,5,4,0,1] rfl<|aY rfl rfl<|aW<|aa<|ah<|au rfl<|hy (fun _=>aO rfl rfl (bE (by omega) (by omega)))<|aG rfl<|ag<|az [8,6,10,9,32,21,7,5,4,0,1] rfl<| ?_
   refine gj (i+1) A_o c_o ⟨rfl,rfl,rfl,rfl,rfl,rfl,rfl,rfl,trivial⟩ [0,1] rfl [0,1] rfl (⟨by omega,by omega⟩) (by omega)
  ·obtain rfl:i=64:=by omega
   obtain⟨W,hW⟩:∃W,wl l 64=W:=⟨_,rfl⟩
   have hw64:W.length=64:=by rw[←hW];exact fo l 64
   rw[hW]
   refine bH<|al<|al<|aD<|aa<|ae<|ah<|aG rfl<|ag<|aa<|ae<|ah<|au rfl<|au rfl<| ?_
   refine aH (fun w m=>m.cL (r' :=aI 166 1 (.slice none 0 0) 0 []) (.refl _ _) (Own.nil _ _ _ _) (fun k hk=>hk.elim)) ?_
   refine hx (bC 0 rfl rfl rfl Tryz.underlying215 Tryz.underlying215 (by exact .inl rfl) k7 rfl (fun m=>Src.b9 (m.rd 0 rfl)) gy (by unfold maxLen;omega) (by omega) (fun u=> ?_))
   refine aC (fun m=>(m.own 0 rfl).slice) ?_
   rintro⟨A_v,c_v,rfl,hc_v⟩
   refine aC (fun m=>(m.ord 0 rfl).2.1) fun hA_v=> ?_
   refine aH (fun w m=>m.bw 0 rfl (show _=aI 166 1 (.slice A_v 8 c_v) 8 (dL (kn W h 0))from rfl)) ?_
   refine aG rfl<|ag<|az [11,32,6,8,21,7,5,4,0,1] rfl<|aY rfl rfl<|aa<|ae<|ae<|ah<|aG rfl<|ag<|aa<|aM<| ?_
   refine gh (fun i A2 c2=>64-i) (fun i A2 c2=>[(11,.slice A2 8 c2),(12,.int .i64 (i:Nat))]) (fun i A2 c2=>[aI 166 1 (.slice A2 8 c2) 8 (dL (kn W h i))]) (fun i A2 c2=>[]) (fun i A2 c2=>i≤64) 0 A_v c_v [(32,_),(6,_),(8,_),(21,_),(7,_),(5,_),(4,_),(0,_),(1,_)] ⟨rfl,rfl,rfl,rfl,rfl,rfl,rfl,rfl,rfl,trivial⟩ [0] rfl [] rfl (Nat.zero_le _) ⟨rfl,rfl,trivial⟩ (fun i A2 c2 hi64=> ?_)
   have hv:=kh (w:=W) hh i
   have hro:fv.length=64:=rfl
   refine aQ (fun m=>(m.ord 0 rfl).2.1) fun hA_v=> ?_
   refine aQ (fun m=>(m.ord 2 rfl).2.1) fun hA_x=> ?_
   refine aQ (fun m=>(m.ord 1 rfl).2.1) fun hA_o=> ?_
   refine ae<|ae<|ah<|au rfl<|hy (fun _=>bx rfl rfl)<|ag<|az [97,11,12,32,6,8,21,7,5,4,0,1] rfl<|aa<| ?_
   refine cu rfl (fun hlt=> ?_) (fun hlt=> ?_)
   ·generalize hvd:kn W h i=v at hv ⊢
    refine aB<|aa<|ae<|aM<|ae<|cA [3,7,12] [(0,some 3),(1,some 0),(2,some 0),(4,some 1),(5,some 1),(6,some 1),(9,some 2),(10,some 2),(11,some 2),(3,none),(7,none),(8,some 3),(12,none),(13,some 3),(14,some 3)] (by kernel_rfl) (by kernel_rfl) rfl 99<|aj (ai rfl)<|aj (aS rfl rfl Tryz.underlying215 bB hA_v (show((4:Nat):Int)=4 from rfl) (by omega))<|bV (fun m=>ak rfl bM ((m.ord 0 rfl).cell (j:=4) (bo (by omega))))<|aj (ai rfl)<|aj (aS rfl rfl Tryz.underlying215 bB hA_v (show((4:Nat):Int)=4 from rfl) (by omega))<|bV (fun m=>ak rfl bM ((m.ord 0 rfl).cell (j:=4) (bo (by omega))))<|aj (ai rfl)<|aj (aS rfl rfl Tryz.underlying215 bB hA_v (show((4:Nat):Int)=4 from rfl) (by omega))<|bV (fun m=>ak rfl bM ((m.ord 0 rfl).cell (j:=4) (bo (by omega))))<| ?_
    refine dk (an rfl Tryz.call204 (iX (by omega) (n:=6)) [] rfl [] rfl ?_)
    rintro _ _ _ ⟨rfl,rfl,rfl⟩
    refine⟨(fun _=>wk [0,0,0] [0,1] rfl rfl), ?_⟩
    refine dk (an rfl Tryz.call204 (iX (by omega) (n:=11)) [] rfl [] rfl ?_)
    rintro _ _ _ ⟨rfl,rfl,rfl⟩
    refine⟨(fun _=>wk [0,0,0] [0,1] rfl rfl), ?_⟩
    refine aj (cW rfl rfl)<| ?_
    refine dk (an rfl Tryz.call204 (iX (by omega) (n:=25)) [] rfl [] rfl ?_)
    rintro _ _ _ ⟨rfl,rfl,rfl⟩
    refine⟨(fun _=>wk [0,0,0] [0,1] rfl rfl), ?_⟩
    refine aj (yV (cW rfl rfl) ((rfl:_=Wd (turns 6 11 25 (v_ v 4)))))<|aj (ay rfl)<|bp<|az [13,97,11,12,32,6,8,21,7,5,4,0,1] rfl<|aY rfl rfl<|aa<|ae<|cA [] [(0,some 0),(1,some 0),(2,some 0),(3,some 0),(4,some 0),(5,some 0),(6,some 0),(7,some 0),(8,some 0),(9,some 0),(10,some 0),(11,some 0),(12,some 0),(13,some 0),(14,some 0),(15,some 0),(16,some 0)] (by kernel_rfl) (by kernel_rfl) rfl 99<|aj (ai rfl)<|aj (aS rfl rfl Tryz.underlying215 bB hA_v (show((4:Nat):Int)=4 from rfl) (by omega))<|bV (fun m=>ak rfl bM ((m.ord 0 rfl).cell (j:=4) (bo (by omega))))<|aj (ai rfl)<|aj (aS rfl rfl Tryz.underlying215 bB hA_v (show((5:Nat):Int)=5 from rfl) (by omega))<|bV (fun m=>ak rfl bM ((m.ord 0 rfl).cell (j:=5) (bo (by omega))))<|aj (iw rfl rfl)<|aj (ai rfl)<|aj (aS rfl rfl Tryz.underlying215 bB hA_v (show((4:Nat):Int)=4 from rfl) (by omega))<|bV (fun m=>ak rfl bM ((m.ord 0 rfl).cell (j:=4) (bo (by omega))))<|aj (B0 rfl rfl)<|aj (ai rfl)<|aj (aS rfl rfl Tryz.underlying215 bB hA_v (show((6:Nat):Int)=6 from rfl) (by omega))<|bV (fun m=>ak rfl bM ((m.ord 0 rfl).cell (j:=6) (bo (by omega))))<|aj (iw rfl rfl)<|aj (cW rfl rfl)<|aj (ay rfl)<|bp<|az [14,13,97,11,12,32,6,8,21,7,5,4,0,1] rfl<|aa<|ae<|cA [] [(0,some 0),(1,some 0),(2,some 0),(3,some 0),(4,some 0),(5,some 0),(6,some 0),(7,some 0),(8,some 0),(9,some 0),(10,some 0),(11,some 0),(12,some 0),(13,some 0),(14,some 0),(15,some 0),(16,some 0),(17,some 0)] (by kernel_rfl) (by kernel_rfl) rfl 99<|aj (ai rfl)<|aj (aS rfl rfl Tryz.underlying215 bB hA_v (show((7:Nat):Int)=7 from rfl) (by omega))<|bV (fun m=>ak rfl bM ((m.ord 0 rfl).cell (j:=7) (bo (by omega))))<|aj (ai rfl)<|aj (c9 rfl rfl)<|aj (ai rfl)<|aj (c9 rfl rfl)<|aj (ai rfl)<|aj (ai rfl)<|aj (aS rfl rfl Tryz.underlying215 bB hA_x rfl (by omega))<|bV (fun m=>ak rfl bM ((m.ord 2 rfl).cell (j:=i) (bo (by omega))))<| ?_
    generalize hk:fv.getD i 0=k
    refine aj (c9 rfl rfl)<|aj (ai rfl)<|aj (ai rfl)<|aj (aS rfl rfl Tryz.underlying215 bB hA_o rfl (by omega))<|bV (fun m=>ak rfl bM ((m.ord 1 rfl).cell (j:=i) (bo (by omega))))<|aj (yV (c9 rfl rfl) ((rfl:_=Wd (rt v k (W.getD i 0)))))<|aj (ay rfl)<|bp<|az [15,14,13,97,11,12,32,6,8,21,7,5,4,0,1] rfl<|aa<|ae<|cA [3,7,12] [(0,some 3),(1,some 0),(2,some 0),(4,some 1),(5,some 1),(6,some 1),(9,some 2),(10,some 2),(11,some 2),(3,none),(7,none),(8,some 3),(12,none),(13,some 3),(14,some 3)] (by kernel_rfl) (by kernel_rfl) rfl 99<|aj (ai rfl)<|aj (aS rfl rfl Tryz.underlying215 bB hA_v (show((0:Nat):Int)=0 from rfl) (by omega))<|bV (fun m=>ak rfl bM ((m.ord 0 rfl).cell (j:=0) (bo (by omega))))<|aj (ai rfl)<|aj (aS rfl rfl Tryz.underlying215 bB hA_v (show((0:Nat):Int)=0 from rfl) (by omega))<|bV (fun m=>ak rfl bM ((m.ord 0 rfl).cell (j:=0) (bo (by omega))))<|aj (ai rfl)<|aj (aS rfl rfl Tryz.underlying215 bB hA_v (show((0:Nat):Int)=0 from rfl) (by omega))<|bV (fun m=>ak rfl bM ((m.ord 0 rfl).cell (j:=0) (bo (by omega))))<| ?_
    refine dk (an rfl Tryz.call204 (iX (by omega) (n:=2)) [] rfl [] rfl ?_)
    rintro _ _ _ ⟨rfl,rfl,rfl⟩
    refine⟨(fun _=>wk [0,0,0] [0,1] rfl rfl), ?_⟩
    refine dk (an rfl Tryz.call204 (iX (by omega) (n:=13)) [] rfl [] rfl ?_)
    rintro _ _ _ ⟨rfl,rfl,rfl⟩
    refine⟨(fun _=>wk [0,0,0] [0,1] rfl rfl), ?_⟩
    refine aj (cW rfl rfl)<| ?_
    refine dk (an rfl Tryz.call204 (iX (by omega) (n:=22)) [] rfl [] rfl ?_)
    rintro _ _ _ ⟨rfl,rfl,rfl⟩
    refine⟨(fun _=>wk [0,0,0] [0,1] rfl rfl), ?_⟩
    refine aj (yV (cW rfl rfl) ((rfl:_=Wd (turns 2 13 22 (v_ v 0)))))<|aj (ay rfl)<|bp<|az [16,15,14,13,97,11,12,32,6,8,21,7,5,4,0,1] rfl<|aY rfl rfl<|aa<|ae<|cA [] [(0,some 0),(1,some 0),(2,some 0),(3,some 0),(4,some 0),(5,some 0),(6,some 0),(7,some 0),(8,some 0),(9,some 0),(10,some 0),(11,some 0),(12,some 0),(13,some 0),(14,some 0),(15,some 0),(16,some 0),(17,some 0),(18,some 0),(19,some 0),(20,some 0),(21,some 0),(22,some 0),(23,some 0)] (by kernel_rfl) (by kernel_rfl) rfl 99<|aj (ai rfl)<|aj (aS rfl rfl Tryz.underlying215 bB hA_v (show((0:Nat):Int)=0 from rfl) (by omega))<|bV (fun m=>ak rfl bM ((m.ord 0 rfl).cell (j:=0) (bo (by omega))))<|aj (ai rfl)<|aj (aS rfl rfl Tryz.underlying215 bB hA_v (show((1:Nat):Int)=1 from rfl) (by omega))<|bV (fun m=>ak rfl bM ((m.ord 0 rfl).cell (j:=1) (bo (by omega))))<|aj (iw rfl rfl)<|aj (ai rfl)<|aj (aS rfl rfl Tryz.underlying215 bB hA_v (show((0:Nat):Int)=0 from rfl) (by omega))<|bV (fun m=>ak rfl bM ((m.ord 0 rfl).cell (j:=0) (bo (by omega))))<|aj (ai rfl)<|aj (aS rfl rfl Tryz.underlying215 bB hA_v (show((2:Nat):Int)=2 from rfl) (by omega))<|bV (fun m=>ak rfl bM ((m.ord 0 rfl).cell (j:=2) (bo (by omega))))<|aj (iw rfl rfl)<|aj (cW rfl rfl)<|aj (ai rfl)<|aj (aS rfl rfl Tryz.underlying215 bB hA_v (show((1:Nat):Int)=1 from rfl) (by omega))<|bV (fun m=>ak rfl bM ((m.ord 0 rfl).cell (j:=1) (bo (by omega))))<|aj (ai rfl)<|aj (aS rfl rfl Tryz.underlying215 bB hA_v (show((2:Nat):Int)=2 from rfl) (by omega))<|bV (fun m=>ak rfl bM ((m.ord 0 rfl).cell (j:=2) (bo (by omega))))<|aj (iw rfl rfl)<|aj (cW rfl rfl)<|aj (ay rfl)<|bp<|az [17,16,15,14,13,97,11,12,32,6,8,21,7,5,4,0,1] rfl<|aa<|cA [28] [(0,some 0),(1,some 0),(2,some 0),(3,some 0),(4,some 0),(5,some 0),(6,some 0),(7,some 0),(8,some 0),(9,some 0),(10,some 0),(11,some 0),(12,some 0),(13,some 0),(14,some 0),(15,some 0),(16,some 0),(17,some 0),(18,some 0),(19,some 0),(20,some 0),(21,some 0),(22,some 0),(23,some 0),(24,some 0),(25,some 0),(26,some 0),(27,some 0),(28,none),(29,some 1)] (by kernel_rfl) (by kernel_rfl) rfl 99<|aj (ai rfl)<|aj (ai rfl)<|aj (c9 rfl rfl)<|aj (ai rfl)<|aj (yV (c9 rfl rfl) ((show Wd (rt v k (W.getD i 0)+turns 2 13 22 (v_ v 0)+((v_ v 0 &&& v_ v 1) ^^^ (v_ v 0 &&& v_ v 2) ^^^ (v_ v 1 &&& v_ v 2)))=Wd (rt v k (W.getD i 0)+ru v) by rw[UInt32.add_assoc];rfl)))<|aj (ai rfl)<|aj (aS rfl rfl Tryz.underlying215 bB hA_v (show((0:Nat):Int)=0 from rfl) (by omega))<|bV (fun m=>ak rfl bM ((m.ord 0 rfl).cell (j:=0) (bo (by omega))))<|aj (ai rfl)<|aj (aS rfl rfl Tryz.underlying215 bB hA_v (show((1:Nat):Int)=1 from rfl) (by omega))<|bV (fun m=>ak rfl bM ((m.ord 0 rfl).cell (j:=1) (bo (by omega))))<|aj (ai rfl)<|aj (aS rfl rfl Tryz.underlying215 bB hA_v (show((2:Nat):Int)=2 from rfl) (by omega))<|bV (fun m=>ak rfl bM ((m.ord 0 rfl).cell (j:=2) (bo (by omega))))<|aj (ai rfl)<|aj (aS rfl rfl Tryz.underlying215 bB hA_v (show((3:Nat):Int)=3 from rfl) (by omega))<|bV (fun m=>ak rfl bM ((m.ord 0 rfl).cell (j:=3) (bo (by omega))))<|aj (ai rfl)<|aj (c9 rfl rfl)<|aj (ai rfl)<|aj (aS rfl rfl Tryz.underlying215 bB hA_v (show((4:Nat):Int)=4 from rfl) (by omega))<|bV (fun m=>ak rfl bM ((m.ord 0 rfl).cell (j:=4) (bo (by omega))))<|aj (ai rfl)<|aj (aS rfl rfl Tryz.underlying215 bB hA_v (show((5:Nat):Int)=5 from rfl) (by omega))<|bV (fun m=>ak rfl bM ((m.ord 0 rfl).cell (j:=5) (bo (by omega))))<|aj (ai rfl)<|aj (aS rfl rfl Tryz.underlying215 bB hA_v (show((6:Nat):Int)=6 from rfl) (by omega))<|bV (fun m=>ak rfl bM ((m.ord 0 rfl).cell (j:=6) (bo (by omega))))<| ?_
    refine dk (b5 Tryz.underlying215 k7 rfl rfl rfl (by exact tM (l:=[_,_,_,_,_,_,_,_])) (by decide) (by decide) (fun g212=>⟨(fun _=>wk [1,1,1] [0,1] rfl rfl), ?_⟩))
    have hA_b212:0<8→(some (⟨g212,0,none⟩:Addr))≠none:=fun _ h=>by cases h
    refine aj (ay rfl)<|bp<|az [11,17,16,15,14,13,97,12,32,6,8,21,7,5,4,0,1] rfl<|aY rfl rfl<|aW<|aa<|ah<|au rfl<|hy (fun _=>aO rfl rfl (bE (by omega) (by omega)))<|aG rfl<|ag<|az [12,11,17,16,15,14,13,97,32,6,8,21,7,5,4,0,1] rfl<| ?_
    refine bd (fun w m=>m.bw 0 rfl (show _=aI 166 1 (.slice (some ⟨g212,0,none⟩) 8 8) 8 (dL (kn W h (i+1)))from by rw[kn,hvd,hk];rfl)) ?_
    refine gj (i+1) (some ⟨g212,0,none⟩) 8 ⟨rfl,rfl,rfl,rfl,rfl,rfl,rfl,rfl,rfl,rfl,rfl,trivial⟩ [0,1,1] rfl [0,1] rfl (by omega) (by omega)
   ·obtain rfl:i=64:=by omega
    generalize hvv:kn W h 64=v at hv ⊢
    refine a8 (fun w m=>m.bw 0 rfl (show _=aI 166 1 (.slice A2 8 c2) 8 (dL (fL v h 0))from by rw[qV])) ?_
    refine bH<|al<|al<|aD<|aa<|ae<|ae<|ah<|aG rfl<|ag<|aa<|aM<| ?_
    refine dD (fun j=>8-j) (fun j=>[(18,.int .i64 (j:Nat))]) (fun j=>[aI 166 1 (.slice A2 8 c2) 8 (dL (fL v h j))]) (fun j=>[]) (fun j=>j≤8) 0 [(97,_),(11,_),(12,_),(32,_),(6,_),(8,_),(21,_),(7,_),(5,_),(4,_),(0,_),(1,_)] ⟨rfl,rfl,rfl,rfl,rfl,rfl,rfl,rfl,rfl,rfl,rfl,rfl,trivial⟩ [0] rfl [] rfl (Nat.zero_le _) ⟨rfl,trivial⟩ (fun j hj8=> ?_)
    have hsl:(fL v h j).length=v.length:=by simp[fL]
    refine ae<|ae<|ah<|au rfl<|hy (fun _=>bx rfl rfl)<|ag<|az [214,18,97,11,12,32,6,8,21,7,5,4,0,1] rfl<|aa<| ?_
    refine cu rfl (fun hj=> ?_) (fun hj=> ?_)
    ·refine aB<|aa<|ae<|aM<|cA [12] [(0,some 0),(1,some 0),(2,some 0),(3,some 0),(4,some 0),(5,some 0),(6,some 0),(7,some 0),(8,some 0),(9,some 0),(10,some 0),(11,some 0),(12,none)] (by kernel_rfl) (by kernel_rfl) rfl 0<|aj (ai rfl)<|aj (ai rfl)<|aj (ai rfl)<|aj (ai rfl)<|aj (aS rfl rfl Tryz.underlying215 bB hA_v rfl (by omega))<|bV (fun m=>ak rfl bM ((m.ord 0 rfl).cell (j:=j) (bo (by omega))))<|aj (ai rfl)<|aj (ai rfl)<|aj (aS rfl rfl Tryz.underlying215 bB hA_q rfl (by omega))<|bV (fun m=>ak rfl bM ((m.rd 0 rfl).cell (j:=j) (bo (by omega))))<|aj (yV (c9 rfl rfl) ((rfl:_=Wd (v_ (fL v h j) j+v_ h j))))<|aj (aS rfl rfl Tryz.underlying215 bB hA_v rfl (by omega))<| ?_
     refine gi (uQ 0 rfl rfl rfl bB rfl (by omega) ⟨(fun h=>absurd h (by decide)), ?_⟩)
     refine bp<|az [214,18,97,11,12,32,6,8,21,7,5,4,0,1] rfl<|aY rfl rfl<|aW<|aa<|ah<|au rfl<|hy (fun _=>aO rfl rfl (bE (by omega) (by omega)))<|aG rfl<|ag<|az [18,214,97,11,12,32,6,8,21,7,5,4,0,1] rfl<| ?_
     refine bd (fun w m=>m.bw 0 rfl (show _=aI 166 1 (.slice A2 8 c2) 8 (dL (fL v h (j+1)))from by rw[rS,qK (by omega)])) ?_
     refine cH (j+1) ⟨rfl,rfl,rfl,rfl,rfl,rfl,rfl,rfl,rfl,rfl,rfl,rfl,rfl,trivial⟩ [0,0,0] rfl [0,1] rfl (by omega) (by omega)
    ·obtain rfl:j=8:=by omega
     have hB:fL v h 8=ea h l:=by rw[ea,hW,hvv]
     rw[hB]
     refine bH<|al<|al<|aD<|aa<|ae<|ah<|au rfl<|aG rfl<|ag<|az [4,214,18,97,11,12,32,6,8,21,7,5,0,1] rfl<|aa<|aR<| ?_
     exact bc trivial rfl rfl [0] rfl [] rfl ⟨_,rfl,rfl,rfl⟩
end Go.Proofs.YtmibdabdlgmafaaGreatDoor
end
section
set_option maxRecDepth 20000
namespace Go.Proofs.YtmibdabdlgmafaaGreatDoor
open Go.Eng Go.Hx
def lI(n:Nat):Nat→Nat
 |0=>n
 |i+1=>lI n i/256
theorem pD(n:Nat):∀i,lI n i=n/256 ^ i
 |0=>by simp[lI]
 |i+1=>by rw[lI,pD n i,Nat.div_div_eq_div_mul,Nat.pow_succ]
def pZ(n i:Nat):List UInt8:=List.replicate (8-i) 0++(sE n).drop (8-i)
theorem kH(n:Nat):(sE n).length=8:=by simp[sE]
theorem zD(n i:Nat)(h:i≤8):(pZ n i).length=8:=by
 rw[pZ,List.length_append,List.length_replicate,List.length_drop,kH];omega
theorem xF{n i:Nat}(hi:i<8):(pZ n i).set (7-i) (UInt8.ofNat (lI n i % 256))=pZ n (i+1):=by
 have e:UInt8.ofNat (lI n i % 256)=UInt8.ofNat (n/256 ^ i):=by
  rw[pD];apply UInt8.toNat_inj.1;simp
 rw[e]
 obtain⟨k,hk⟩:∃k,8-i=k+1:=⟨7-i,by omega⟩
 have h7:7-i=k:=by omega
 have hd:(sE n).drop k=UInt8.ofNat (n/256 ^ i)::(sE n).drop (k+1):=by
  rw[List.drop_eq_getElem_cons (by rw[kH];omega)]
  congr 1
  simp only[sE,List.getElem_map,List.getElem_range]
  congr 3;omega
 rw[pZ,pZ,hk,h7,show 8-(i+1)=k by omega,hd,List.replicate_succ',List.append_assoc,List.set_append_right _ _ (by simp)]
 simp
theorem Ct{A:Option Addr}{n c:Nat}{l:List UInt8}(hn:n≤140737488351232):cf Tryz.prog 141 [.slice A n c] [] [cz 1 A n (aT l)] (fun v_ X_ S_=>∃v,v_=v∧X_=[aI 5 1 v (ja l).length (aT (ja l))]∧S_=[]):=by
 have hz64:ir n<64:=Nat.mod_lt _ (by decide)
 have hzp:(n+(1+ir n)) % 64=56:=by unfold ir;omega
 have hzm:∀j,j<ir n→(n+(1+j)) % 64≠56:=fun j hj=>by unfold ir at hj;omega
 refine aK (N:=39) Tryz.func141 rfl rfl (by simp) fun b=> ?_
 refine aQ (fun m=>ek (m.rd 0 rfl)) ?_
 rintro⟨hl_r,hA_r⟩
 have hl:l.length=n:=hl_r
 refine ae<|ah<|aG rfl<|ag<|aa<|ae<|ah<|aG rfl<|ag<|aa<|ae<|ah<|au rfl<|au rfl<| ?_
 refine aH (fun w m=>m.cL (r' :=aI 5 1 (.slice none 0 0) 0 []) (.refl _ _) (Own.nil _ _ _ _) (fun k hk=>hk.elim)) ?_
 refine hx (bC 0 rfl rfl rfl Tryz.underlying27 Tryz.underlying27 (by exact .inl rfl) fh rfl (fun m=>Src.b9 (m.rd 0 rfl)) bl (by unfold maxLen;omega) (by omega) (fun u=> ?_))
 refine aC (fun m=>(m.own 0 rfl).slice) ?_
 rintro⟨A_o,c_o,rfl,hc_o⟩
 refine aC (fun m=>(m.ord 0 rfl).2.1) fun hA_o=> ?_
 rw[Nat.zero_add]
 refine aG rfl<|ag<|az [3,2,0] rfl<|aY rfl rfl<|aa<|ae<|ah<|au rfl<| ?_
 refine hx (b5 Tryz.underlying27 fh rfl rfl rfl (by simp[Value.cells,B8]) (by decide) (by decide) (fun g11=> ?_))
 have hA_b11:0<1→(some (⟨g11,0,none⟩:Addr))≠none:=fun _ h=>by cases h
 refine aH (fun w m=>m.bw 0 rfl (show _=aI 5 1 (.slice (some ⟨g11,0,none⟩) 1 1) 1 (aT [128])from rfl)) ?_
 refine hx (bC 1 rfl rfl rfl Tryz.underlying27 Tryz.underlying27 (by exact .inl rfl) fh rfl (fun m=>Src.b9 (m.ord 0 rfl)) bl (by unfold maxLen;omega) (by omega) (fun u2=> ?_))
 refine aC (fun m=>(m.own 0 rfl).slice) ?_
 rintro⟨A_o2,c_o2,rfl,hc_o⟩
 refine aC (fun m=>(m.ord 0 rfl).2.1) fun hA_o=> ?_
 refine aH (fun w m=>m.bw 0 rfl (show _=aI 5 1 (.slice A_o2 (n+1+0) c_o2) (n+1+0) (aT (l++128::List.replicate 0 0))from by simp[aT])) ?_
 refine aG rfl<|ag<|az [3,2,0] rfl<|aY rfl rfl<|aa<|ae<|aM<| ?_
 refine gh (fun j A1 cc=>ir n-j) (fun j A1 cc=>[(3,.slice A1 (n+1+j) cc)]) (fun j A1 cc=>[aI 5 1 (.slice A1 (n+1+j) cc) (n+1+j) (aT (l++128::List.replicate j 0))]) (fun j A1 cc=>[]) (fun j A1 cc=>j≤ir n) 0 A_o2 c_o2 [(2,_),(0,_)] ⟨rfl,rfl,trivial⟩ [0] rfl [] rfl (Nat.zero_le _) ⟨rfl,trivial⟩ (fun j A1 cc hjz=> ?_)
 refine ae<|ae<|ah<|au rfl<|hy (fun _=>a6 rfl Tryz.underlying27)<|hy (fun _=>hZ rfl rfl (by omega) (by omega))<|hy (fun _=>de rfl rfl)<|ag<|az [16,3,2,0] rfl<|aa<| ?_
 refine cu rfl (fun hne=> ?_) (fun hne=> ?_)
 ·have hj:j<ir n:=by
   rcases Nat.lt_or_eq_of_le hjz with h|h
   ·exact h
   ·rw[←h]at hzp;omega
  refine aB<|aa<|aM<|ah<|au rfl<| ?_
  refine hx (b5 Tryz.underlying27 fh rfl rfl rfl (by simp[Value.cells,B8]) (by decide) (by decide) (fun g18=> ?_))
  have hA_b18:0<1→(some (⟨g18,0,none⟩:Addr))≠none:=fun _ h=>by cases h
  refine aH (fun w m=>m.bw 0 rfl (show _=aI 5 1 (.slice (some ⟨g18,0,none⟩) 1 1) 1 (aT [0])from rfl)) ?_
  refine hx (bC 1 rfl rfl rfl Tryz.underlying27 Tryz.underlying27 (by exact .inl rfl) fh rfl (fun m=>Src.b9 (m.ord 0 rfl)) bl (by unfold maxLen;omega) (by omega) (fun u3=> ?_))
  refine aC (fun m=>(m.own 0 rfl).slice) ?_
  rintro⟨A_o3,c_o3,rfl,hc_o⟩
  refine aC (fun m=>(m.ord 0 rfl).2.1) fun hA_o=> ?_
  refine aG rfl<|ag<|az [3,16,2,0] rfl<|aY rfl rfl<|aW<| ?_
  refine bd (fun w m=>m.bw 0 rfl (show _=aI 5 1 (.slice A_o3 (n+1+(j+1)) c_o3) (n+1+(j+1)) (aT (l++128::List.replicate (j+1) 0))from by rw[List.replicate_succ'];simp[aT,Nat.add_assoc])) ?_
  refine gj (j+1) A_o3 c_o3 ⟨rfl,rfl,rfl,trivial⟩ [0,1] rfl [0] rfl (by omega) (by omega)
 ·have hj:j=ir n:=by
   refine Decidable.byContradiction fun hn=> ?_
   have:=hzm j (by omega)
   omega
  subst hj
  refine bH<|al<|al<|aD<|aa<|ae<|ah<|au rfl<|hy (fun _=>a6 rfl Tryz.underlying27)<|hy (fun _=>yV (gz rfl rfl (bE (by omega) (by omega))) ((show Value.int .i64 (8*(n:Int))= .int .i64 ((lI (8*n) 0:Nat):Int) by rw[lI];congr 1)))<|aG rfl<|ag<|az [4,16,3,2,0] rfl<|aa<|ae<|ah<| ?_
  refine hx (CG (n:=8) Tryz.underlying27 fh rfl rfl rfl (by decide) (by decide) (fun g23=> ?_))
  have hA_b23:∀{n:Nat},0<n→(some (⟨g23,0,none⟩:Addr))≠none:=fun _ h=>by cases h
  refine aG rfl<|ag<|az [5,4,16,3,2,0] rfl<|aY rfl rfl<|aa<|ae<|ae<|ah<| ?_
  refine aH (fun w m=>m.bw 0 rfl (show _=aE g23 5 (aT (pZ (8*n) 0))from by rw[pZ,List.drop_of_length_le (by rw[kH];decide),List.append_nil];rfl)) ?_
  refine aG rfl<|ag<|aa<|aM<| ?_
  refine dD (fun i=>8-i) (fun i=>[(4,.int .i64 ((lI (8*n) i:Nat):Int)),(6,.int .i64 (7-(i:Int)))]) (fun i=>[aE g23 5 (aT (pZ (8*n) i))]) (fun i=>[]) (fun i=>i≤8) 0 [(5,_),(16,_),(3,_),(2,_),(0,_)] ⟨rfl,rfl,rfl,rfl,rfl,trivial⟩ [0] rfl [] rfl (Nat.zero_le _) ⟨rfl,rfl,trivial⟩ (fun i hi8=> ?_)
  have hq:lI (8*n) i≤8*n:=by rw[pD];exact Nat.div_le_self ..
  have hbl:=zD (8*n) i hi8
  refine ae<|ae<|ah<|au rfl<|hy (fun _=>eO rfl rfl)<|ag<|az [25,4,6,5,16,3,2,0] rfl<|aa<| ?_
  refine cu rfl (fun hi=> ?_) (fun hi=> ?_)
  ·refine aB<|aa<|ae<|aM<|ae<|ah<|au rfl<|au rfl<|au rfl<|hy (fun _=>hZ rfl rfl (by omega) (by omega))<|hy (fun _=>b8 rfl Tryz.underlying3 Tryz.underlying5 (show IntKind.u8.wrap (((lI (8*n) i:Nat):Int) % 256)=((UInt8.ofNat (lI (8*n) i % 256)).toNat:Int)from iM (lI (8*n) i % 256)))<|hy (fun _=>aS rfl rfl Tryz.underlying27 dJ hA_b23 (show((7-i:Nat):Int)=_ by omega) (by omega))<| ?_
   refine cF (bZ 0 rfl rfl rfl dJ rfl (by rw[aA,hbl];omega) ?_)
   refine ag<|az [25,4,6,5,16,3,2,0] rfl<|aY rfl rfl<|aa<|ah<|au rfl<|hy (fun _=>yV (kd rfl rfl (by omega) (by omega) (bE (by omega) (by omega))) ((show Value.int .i64 (((lI (8*n) i:Nat):Int)/256)= .int .i64 ((lI (8*n) (i+1):Nat):Int)from rfl)))<|aG rfl<|ag<|az [4,25,6,5,16,3,2,0] rfl<|aW<|aa<|ah<|au rfl<|hy (fun _=>yV (ct rfl rfl (bE (by omega) (by omega))) ((show Value.int .i64 (7-(i:Int)-1)= .int .i64 (7-((i+1:Nat):Int))from congrArg (Value.int .i64) (by omega))))<|aG rfl<|ag<|az [6,4,25,5,16,3,2,0] rfl<| ?_
   refine bd (fun w m=>m.bw 0 rfl (show _=aE g23 5 (aT (pZ (8*n) (i+1)))from by rw[Nat.zero_add,←xF (by omega),rW];rfl)) ?_
   refine cH (i+1) ⟨rfl,rfl,rfl,rfl,rfl,rfl,rfl,trivial⟩ [0,0,0] rfl [0] rfl (by omega) (by omega)
  ·obtain rfl:i=8:=by omega
   have hpl:(ja l).length=n+1+ir n+8:=by
    simp only[ja,List.length_append,List.length_cons,List.length_replicate,kH,hl];omega
   refine a8 (fun w m=>m.bw 0 rfl (show _=aE g23 5 (aT (sE (8*n)))from by simp[pZ])) ?_
   refine bH<|al<|al<|aD<|aa<|ae<|ah<|au rfl<|au rfl<| ?_
   refine hx (bC 1 rfl rfl rfl Tryz.underlying27 Tryz.underlying27 (by exact .inl rfl) fh rfl (fun m=>Src.b9 (Rd.lG (m.aN 0 rfl) (by rw[aA,kH]))) bl (by unfold maxLen;omega) (by omega) (fun u3=> ?_))
   refine aC (fun m=>(m.own 0 rfl).slice) ?_
   rintro⟨A_o3,c_o3,rfl,hc_o⟩
   refine aC (fun m=>(m.ord 0 rfl).2.1) fun hA_o=> ?_
   refine aH (fun w m=>m.bw 0 rfl (show _=aI 5 1 (.slice A_o3 (ja l).length c_o3) (ja l).length (aT (ja l))from by rw[hpl,ja,hl];simp[aT])) ?_
   refine aG rfl<|ag<|az [2,25,4,6,5,16,3,0] rfl<|aY rfl rfl<|aa<|aR<| ?_
   exact bc trivial rfl rfl [0] rfl [] rfl ⟨_,(by rw[hpl]),rfl,rfl⟩
theorem yS{p r:List UInt8}{k:Nat}{a x:UInt8}(hp:p.length=k):(aT (p++x::r)).set k (B8 a)=aT (p++[a]++r):=by
 subst hp
 simp[aT,List.set_append]
def qw(x:UInt32):Nat→UInt32
 |0=>x
 |j+1=>qw x j/256
theorem tt(x:UInt32):∀j,(qw x j).toNat=x.toNat/256 ^ j
 |0=>by simp[qw]
 |j+1=>by
  rw[qw,UInt32.toNat_div,tt x j,Nat.pow_succ,←Nat.div_div_eq_div_mul];rfl
theorem D6(x:UInt32){r:Nat}(hr:r<4):(AV x)[r]? =some (UInt8.ofNat (qw x (3-r) % 256).toNat):=by
 have h256:(256:UInt32).toNat=256:=rfl
 have e:∀k,UInt8.ofNat ((qw x k % 256).toNat)=UInt8.ofNat (x.toNat/256 ^ k):=fun k=>by
  rw[UInt32.toNat_mod,tt,h256]
  apply UInt8.toNat_inj.1;simp
 rw[e]
 match r,hr with
 |0,_=>simp[AV,UInt32.toNat_div]
 |1,_=>simp[AV,UInt32.toNat_div]
 |2,_=>simp[AV,UInt32.toNat_div]
 |3,_=>simp[AV]
theorem qD:∀(h:List UInt32) (q r:Nat),q<h.length→r<4→(eE h)[4*q+r]? =(AV (h.getD q 0))[r]?
 |a::t,0,r,hq,hr=>by
  rw[eE,List.flatMap_cons,List.getElem?_append_left (by show 4*0+r<4;omega)]
  simp
 |a::t,q+1,r,hq,hr=>by
  rw[eE,List.flatMap_cons,List.getElem?_append_right (by show 4≤_;omega),show 4*(q+1)+r-(AV a).length=4*q+r by show 4*(q+1)+r-4=_;omega]
  have:=qD t q r (by simpa using hq) hr
  simpa[eE]using this
theorem jq{A:Option Addr}{n c:Nat}{l:List UInt8}(hn:n≤140737488351232):cf Tryz.prog 56 [.slice A n c] [] [cz 1 A n (aT l)] (fun v_ X_ S_=>v_=(.agg (aT (bA l)).toArray)∧X_=[]∧S_=[]):=by
 refine aK (N:=49) Tryz.func56 rfl rfl (by simp) fun b=> ?_
 refine aQ (fun m=>ek (m.rd 0 rfl)) ?_
 rintro⟨hl_r,hA_r⟩
 refine ae<|ah<| ?_
 refine hx (ba fw (fun g2=> ?_))
 refine ag<|aY rfl rfl<|aa<|ae<|ah<| ?_
 refine hx (b5 Tryz.underlying215 k7 rfl rfl rfl (by decide) (by decide) (by decide) (fun g10=> ?_))
 have hA_b10:0<8→(some (⟨g10,0,none⟩:Addr))≠none:=fun _ h=>by cases h
 refine aH (fun w m=>m.bw 0 rfl (show _=aI 166 1 (.slice (some ⟨g10,0,none⟩) 8 8) 8 (dL (fm lN ((ja l).take (64*0))))from by rw[Nat.mul_zero,List.take_zero];rfl)) ?_
 refine aG rfl<|ag<|az [3,2,0] rfl<|aY rfl rfl<|aa<|ae<|ah<|au rfl<| ?_
 refine hx (an rfl Tryz.call141 (Ct (by omega)) [] rfl [0] rfl ?_)
 rintro _ _ _ ⟨v,rfl,rfl,rfl⟩
 refine aC (fun m=>(m.own 0 rfl).slice) ?_
 rintro⟨A_x,c_x,rfl,hc_x⟩
 refine aC (fun m=>(m.ord 0 rfl).2.1) fun hA_x=> ?_
 refine aG rfl<|ag<|az [4,3,2,0] rfl<|aY rfl rfl<|aa<|ae<|ae<|ah<|aG rfl<|ag<|aa<|aM<| ?_
 have hpl:=oo l
 have hpb:(ja l).length≤140737488352000:=by
  have:l.length=n:=hl_r
  have hz:ir l.length<64:=Nat.mod_lt _ (by decide)
  simp only[ja,List.length_append,List.length_cons,List.length_replicate,kH];omega
 obtain⟨K,hK⟩:∃K,(ja l).length=64*K:=⟨(ja l).length/64,by omega⟩
 generalize hP:ja l=P at hpl hpb hK hc_x hA_x ⊢
 refine a8 (fun w m=>(m.perm (ao [0] _ [_] _ rfl)).freeze) ?_
 refine a8 (fun w m=>m.ew 0 rfl .own) ?_
 refine aQ (fun m=>ek (m.rd 0 rfl)) ?_
 rintro⟨hl_xr,hA_xr⟩
 refine gh (fun k H hc=>K-k) (fun k H hc=>[(3,.slice H 8 hc),(5,.int .i64 ((64*k:Nat):Int))]) (fun k H hc=>[aI 166 1 (.slice H 8 hc) 8 (dL (fm lN (P.take (64*k))))]) (fun k H hc=>[]) (fun k H hc=>k≤K) 0 (some ⟨g10,0,none⟩) 8 [(4,_),(2,_),(0,_)] ⟨rfl,rfl,rfl,trivial⟩ [0] rfl [] rfl (Nat.zero_le _) ⟨rfl,rfl,trivial⟩ (fun k H hc hkK=> ?_)
 have hh:=mg (h:=lN) (P.take (64*k)) rfl
 refine ae<|ae<|ah<|au rfl<|au rfl<|hy (fun _=>a6 rfl Tryz.underlying27)<|hy (fun _=>bx rfl rfl)<|ag<|az [16,3,5,4,2,0] rfl<|aa<| ?_
 refine cu rfl (fun hlt=> ?_) (fun hlt=> ?_)
 ·have hk:k<K:=by omega
  refine a8 (fun w m=>m.ew 0 rfl (View.sub (k:=64*k) (m:=64) hc_x (by omega))) ?_
  refine aQ (fun m=>ek (m.rd 0 rfl)) ?_
  rintro⟨hl_r64,hA_r64⟩
  refine aB<|aa<|ae<|aM<|ah<|au rfl<|au rfl<|au rfl<|au rfl<|hy (fun _=>aO rfl rfl (bE (by omega) (by omega)))<|hy (fun _=>yV (eA rfl rfl rfl Tryz.underlying27 dJ (show((64*k:Nat):Int)=_ by omega) (show((64*k+64:Nat):Int)=_ by omega) (by omega) (by omega)) ((show Value.slice (if c_x=64*k then A_x else A_x.map (·.add (64*k*1))) (64*k+64-64*k) (c_x-64*k)= .slice (if c_x=64*k then A_x else A_x.map (·.add (64*k*1))) 64 (c_x-64*k) by rw[Nat.add_sub_cancel_left])))<| ?_
  refine hx (cS rfl Tryz.call142 (CN (by omega) hh (h:=(fm lN (P.take (64*k))))) [] rfl (.x 0 rfl .own (.s 0 rfl .nil)) ?_)
  rintro _ _ _ ⟨u,rfl,rfl,rfl⟩
  refine⟨rfl, ?_⟩
  refine aC (fun m=>(m.own 0 rfl).slice) ?_
  rintro⟨A_y,c_y,rfl,hc_y⟩
  refine aC (fun m=>(m.ord 0 rfl).2.1) fun hA_y=> ?_
  refine aG rfl<|ag<|az [3,16,5,4,2,0] rfl<|aY rfl rfl<|aW<|aa<|ah<|au rfl<|hy (fun _=>yV (aO rfl rfl (bE (by omega) (by omega))) ((show Value.int .i64 (((64*k:Nat):Int)+64)= .int .i64 ((64*(k+1):Nat):Int)from congrArg (Value.int .i64) (by omega))))<|aG rfl<|ag<|az [5,3,16,4,2,0] rfl<| ?_
  have hfs:ea (fm lN (P.take (64*k))) ((P.drop (64*k)).take 64)=fm lN (P.take (64*(k+1))):=by
   rw[←pV (by rw[List.length_take];omega) (by rw[List.length_take,List.length_drop];omega),←List.take_add]
   rfl
  rw[hfs]
  refine gj (k+1) A_y c_y ⟨rfl,rfl,rfl,rfl,rfl,trivial⟩ [0,1] rfl [1,2,3] rfl (by omega) (by omega)
 ·obtain rfl:k=K:=by omega
  have hfl:fm lN (P.take (64*k))=fm lN P:=by rw[List.take_of_length_le (by omega)]
  rw[hfl]at hh ⊢
  have hsha:bA l=eE (fm lN P):=by rw[bA,hP]
  have hdl:=mo hh
  generalize fm lN P=F at hh hsha hdl ⊢
  refine aQ (fun m=>(m.ord 0 rfl).2.1) fun hA_b10=> ?_
  refine bH<|al<|al<|aD<|aa<|ae<|ah<| ?_
  refine hx (ba fw (fun g6=> ?_))
  refine ag<|aY rfl rfl<|aa<|ae<|ae<|ah<|aG rfl<|ag<|aa<|aM<| ?_
  refine a8 (fun w m=>m.bw 0 rfl (show _=aE g6 53 (aT ((eE F).take 0++List.replicate (32-0) 0))from rfl)) ?_
  refine dD (fun i=>32-i) (fun i=>[(7,.int .i64 (i:Nat))]) (fun i=>[aE g6 53 (aT ((eE F).take i++List.replicate (32-i) 0))]) (fun i=>[]) (fun i=>i≤32) 0 [(6,_),(16,_),(3,_),(5,_),(4,_),(2,_),(0,_)] ⟨rfl,rfl,rfl,rfl,rfl,rfl,rfl,trivial⟩ [0] rfl [] rfl (Nat.zero_le _) ⟨rfl,trivial⟩ (fun i hi32=> ?_)
  refine ae<|ae<|ah<|au rfl<|hy (fun _=>bx rfl rfl)<|ag<|az [27,7,6,16,3,5,4,2,0] rfl<|aa<| ?_
  refine cu rfl (fun hi=> ?_) (fun hi=> ?_)
  ·refine aB<|aa<|ae<|aM<|ae<|ah<|au rfl<|au rfl<|hy (fun _=>kd rfl rfl (by omega) (by omega) (bE (by omega) (by omega)))<|hy (fun _=>aS rfl rfl Tryz.underlying215 bB hA_b10 (show((i/4:Nat):Int)=_ by omega) (by omega))<|hy (fun m=>yV (ak rfl bM ((m.ord 1 rfl).cell (j:=i/4) (bo (by omega)))) ((rfl:_=Wd (qw (F.getD (i/4) 0) 0))))<|aG rfl<|ag<|az [8,27,7,6,16,3,5,4,2,0] rfl<|aa<|ae<|ae<|ah<|au rfl<|hy (fun _=>yV (hZ rfl rfl (by omega) (by omega)) ((show Value.int .i64 ((i:Int) % 4)= .int .i64 (((i % 4+0:Nat)):Int)from congrArg (Value.int .i64) (by omega))))<|aG rfl<|ag<|az [9,8,27,7,6,16,3,5,4,2,0] rfl<|aa<|aM<| ?_
   refine dD (fun j=>3-j) (fun j=>[(8,Wd (qw (F.getD (i/4) 0) j)),(9,.int .i64 ((i % 4+j:Nat):Int))]) (fun j=>[]) (fun j=>[]) (fun j=>i % 4+j≤3) 0 [(27,_),(7,_),(6,_),(16,_),(3,_),(5,_),(4,_),(2,_),(0,_)] ⟨rfl,rfl,rfl,rfl,rfl,rfl,rfl,rfl,rfl,trivial⟩ [] rfl [] rfl ((by omega)) ⟨rfl,rfl,trivial⟩ (fun j hj3=> ?_)
   refine ae<|ae<|ah<|au rfl<|hy (fun _=>bx rfl rfl)<|ag<|az [38,8,9,27,7,6,16,3,5,4,2,0] rfl<|aa<| ?_
   refine cu rfl (fun hj=> ?_) (fun hj=> ?_)
   ·refine aB<|aa<|ae<|aM<|ah<|au rfl<|hy (fun _=>yV (nb (b:=256) (by decide) rfl rfl) ((rfl:_=Wd (qw (F.getD (i/4) 0) (j+1)))))<|aG rfl<|ag<|az [8,38,9,27,7,6,16,3,5,4,2,0] rfl<|aW<|aa<|ah<|au rfl<|hy (fun _=>yV (aO rfl rfl (bE (by omega) (by omega))) ((show Value.int .i64 (((i % 4+j:Nat):Int)+1)= .int .i64 ((i % 4+(j+1):Nat):Int)from congrArg (Value.int .i64) (by omega))))<|aG rfl<|ag<|az [9,8,38,27,7,6,16,3,5,4,2,0] rfl<| ?_
    refine cH (j+1) ⟨rfl,rfl,rfl,rfl,rfl,rfl,rfl,rfl,rfl,rfl,rfl,trivial⟩ [0,0,0] rfl [0,1,2] rfl (by omega) (by omega)
   ·have hj:j=3-i % 4:=by omega
    subst hj
    have hbyte:(eE F)[i]? =some (UInt8.ofNat (qw (F.getD (i/4) 0) (3-i % 4) % 256).toNat):=by
     rw[←D6 _ (by omega),←qD F (i/4) (i % 4) (by omega) (by omega)]
     congr 1;omega
    have hri:List.replicate (32-i) (0:UInt8)=0::List.replicate (32-(i+1)) 0:=by rw[show 32-i=(32-(i+1))+1 by omega];rfl
    have hti:(eE F).take (i+1)=(eE F).take i++[UInt8.ofNat (qw (F.getD (i/4) 0) (3-i % 4) % 256).toNat]:=by
     rw[List.take_add_one,hbyte];rfl
    refine bH<|al<|al<|aD<|aa<|ah<|au rfl<|au rfl<|hy (fun _=>vu (b:=256) (by decide) rfl rfl)<|hy (fun _=>AA rfl Tryz.underlying166 Tryz.underlying5)<|hy (fun _=>bS rfl rfl Tryz.underlying53 dJ rfl (by omega))<| ?_
    refine cF (bZ 0 rfl rfl rfl dJ rfl (by rw[aA,List.length_append,List.length_take,List.length_replicate];omega) ?_)
    refine ag<|az [38,8,9,27,7,6,16,3,5,4,2,0] rfl<|aY rfl rfl<|aW<|aa<|ah<|au rfl<|hy (fun _=>aO rfl rfl (bE (by omega) (by omega)))<|aG rfl<|ag<|az [7,38,8,9,27,6,16,3,5,4,2,0] rfl<| ?_
    refine bd (fun w m=>m.bw 0 rfl (show _=aE g6 53 (aT ((eE F).take (i+1)++List.replicate (32-(i+1)) 0))from by rw[hri,Nat.zero_add,hti];exact congrArg (aE _ _) (yS (by rw[List.length_take];omega)))) ?_
    refine cH (i+1) ⟨rfl,rfl,rfl,rfl,rfl,rfl,rfl,rfl,trivial⟩ [0,0,0] rfl [0,1,2] rfl (by omega) (by omega)
  ·obtain rfl:i=32:=by omega
   refine a8 (fun w m=>m.bw 0 rfl (show _=aE g6 53 (aT (bA l))from by rw[List.take_of_length_le (by omega),←hsha];simp)) ?_
   refine bH<|al<|al<|aD<|aa<|ae<|ah<|hy (fun m=>yV (aP rfl cB b7 (by rw[aA,bq]) ((m.aN 0 rfl).aw)) ((rfl:_=Value.agg (aT (bA l)).toArray)))<| ?_
   refine cF (a7 2 rfl rfl rfl b7 (by rw[aA,bq]) bl rfl ?_)
   refine ag<|az [27,7,6,16,3,5,4,2,0] rfl<|aY rfl rfl<|aa<|aR<| ?_
   exact eZ trivial rfl rfl cB b7 (by rw[aA,bq]) (fun m=>(m.aN 0 rfl).aw) [] rfl [] rfl ⟨rfl,rfl,rfl⟩
end Go.Proofs.YtmibdabdlgmafaaGreatDoor
end
section
set_option maxRecDepth 20000
set_option maxHeartbeats 4000000
namespace Go.Proofs.YtmibdabdlgmafaaGreatDoor
open Go.Eng Go.Hx
theorem vA{nm:List UInt8}(hm:nm.length=32):cf Tryz.prog 98 [.agg (aT nm).toArray] [] [] (fun v_ X_ S_=>v_=(.string (strOf (bW nm)))∧X_=[]∧S_=[]):=by
 have hhl:(cG nm).length=64:=by rw[dW,hm]
 refine aK (N:=6) Tryz.func98 rfl rfl (by simp) fun b=> ?_
 refine ae<|ah<| ?_
 refine hx (br rfl (fun g1=> ?_))
 refine aH (fun w m=>m.bw 0 rfl (show _=aE g1 53 (aT nm)from congrArg (aE _ _) (aV _))) ?_
 refine aG rfl<|ag<|aY rfl rfl<|aa<|ae<|ah<|hy (fun m=>aP rfl cB b7 (by rw[aA];exact hm) ((m.aN 0 rfl).aw))<| ?_
 refine hx (an rfl Tryz.call111 (wY hm) [] rfl [] rfl ?_)
 rintro _ _ _ ⟨rfl,rfl,rfl⟩
 refine hy (fun _=>yV (iB rfl rfl (iJ (a:=[116,47]) (b:=cG nm) (by simp[hhl]))) ((show Value.string (strOf [116,47]++strOf (cG nm))= .string (strOf (bW nm))from congrArg Value.string (cX _ _))))<|aG rfl<|ag<|az [2,1,0] rfl<|aY rfl rfl<|aa<|aR<| ?_
 exact bc trivial rfl rfl [] rfl [] rfl ⟨rfl,rfl,rfl⟩
theorem Dp{x:RX}{kk:Nat}{nm:List UInt8}(ok:yJ x.d kk)(hkk:kk≤100000)(hm:nm.length=32)(hrd:(x.d.cJ (bI nm)).length≤10000000):cf Tryz.prog 74 [.agg x.cs.toArray,.agg (aT nm).toArray] [] [eg x,dF] (fun v_ X_ S_=>v_=(.tuple #[.string (strOf (x.d.ik nm)),.int .i64 (x.d.fu nm)])∧X_=[]∧S_=[]):=by
 have h32:(aT nm).length=32:=by rw[aA,hm]
 refine aK (N:=34) Tryz.func74 rfl rfl (by simp) fun b=> ?_
 refine ae<|ah<| ?_
 refine hx (br rfl (fun g2=> ?_))
 refine aH (fun w m=>m.bw 0 rfl (show _=aE g2 39 x.cs from congrArg (aE _ _) (aV _))) ?_
 refine hx (br rfl (fun g3=> ?_))
 refine aH (fun w m=>m.bw 0 rfl (show _=aE g3 53 (aT nm)from congrArg (aE _ _) (aV _))) ?_
 refine aG rfl<|aG rfl<|ag<|aY rfl rfl<|aa<|ae<|cA [2,3] [(0,some 1),(1,some 0),(2,none),(3,none),(4,some 2),(5,some 2),(6,some 2),(7,some 2),(8,some 2)] (by kernel_rfl) (by kernel_rfl) rfl 99<|bV (fun m=>yV (aP rfl cK bT rfl ((m.aN 1 rfl).aw)) ((rfl:_=Value.agg x.cs.toArray)))<|bV (fun m=>aP rfl cB b7 h32 ((m.aN 0 rfl).aw))<| ?_
 refine dk (an rfl Tryz.call29 (vK hm) [] rfl [] rfl ?_)
 rintro _ _ _ ⟨rfl,rfl,rfl⟩
 refine⟨(fun _=>wk [0,0] [0,1] rfl rfl), ?_⟩
 refine dk (an rfl Tryz.call91 (AU ok hkk (p:=(bI nm))) [] rfl [0] rfl ?_)
 rintro _ _ _ ⟨rfl,rfl,rfl⟩
 refine⟨(fun _=>wk [0,0] [0,1] rfl rfl), ?_⟩
 refine aj (ai rfl)<|aj (aF rfl rfl)<|aj (aF rfl rfl)<|aj (ay rfl)<|aj (ay rfl)<|bp<|az [7,6,5,4,3,2,0,1] rfl<|aY rfl rfl<|aa<|ae<|ae<|ah<|au rfl<|hy (fun _=>de rfl rfl)<|ag<|az [18,7,6,5,4,3,2,0,1] rfl<|aa<| ?_
 refine cu rfl (fun h=> ?_) (fun h=> ?_)
 ·rw[jm h,jX (by rw[jm h];exact h)]
  refine ae<|ah<|au rfl<|aG rfl<|aG rfl<|ag<|az [5,4,18,7,6,3,2,0,1] rfl<|aa<|aR<|aq<| ?_
  exact cQ trivial rfl rfl rfl [] rfl [] rfl ⟨rfl,rfl,rfl⟩
 ·have h1:=Decidable.not_not.1 h
  have hbs:(bytesOf (strOf (x.d.cJ (bI nm)))).length=(x.d.cJ (bI nm)).length:=rfl
  have hol:=nu (f:=x.d.cJ (bI nm)) (most:=4096) (by decide)
  refine aB<|aa<|ae<|ah<|au rfl<| ?_
  refine hx (yh rfl Tryz.underlying9 Tryz.underlying27 Tryz.underlying5 (show(x.d.cJ (bI nm)).length≤maxLen by unfold maxLen;omega) (fun v22=> ?_))
  refine aC (fun m=>(m.own 0 rfl).slice) ?_
  rintro⟨A_b22,c_b22,rfl,hc_b22⟩
  refine aC (fun m=>(m.ord 0 rfl).2.1) fun hA_b22=> ?_
  refine aH (fun w m=>m.bw 0 rfl (show _=aI 5 1 (.slice A_b22 (x.d.cJ (bI nm)).length c_b22) (x.d.cJ (bI nm)).length (aT (x.d.cJ (bI nm)))from rfl)) ?_
  refine aH (fun w m=>(m.perm (ao [0] _ [_] _ rfl)).freeze) ?_
  refine aH (fun w m=>m.ew 0 rfl .own) ?_
  refine hx (an rfl Tryz.call156 (E0 hc_b22 rfl hrd (show(4096:Int)≤1000000 by decide) (f:=(x.d.cJ (bI nm)))) [] rfl [0] rfl ?_)
  rintro _ _ _ ⟨A1,c1,rfl,rfl,rfl,hp⟩
  refine aC (fun m=>ek (m.rd 0 rfl)) ?_
  rintro⟨hl_q,hA_q⟩
  refine au rfl<|hy (fun _=>aF rfl rfl)<|hy (fun _=>aF rfl rfl)<|aG rfl<|aG rfl<|ag<|az [9,8,18,7,6,5,4,3,2,0,1] rfl<|aY rfl rfl<|aa<|ae<|ae<|ah<|au rfl<|hy (fun _=>de rfl rfl)<|ag<|az [27,9,8,18,7,6,5,4,3,2,0,1] rfl<|aa<| ?_
  refine cu rfl (fun h2=> ?_) (fun h2=> ?_)
  ·have hE:=mK (d:=x.d) (nm:=nm) h1 (.inl h2)
   rw[hE,jX (by rw[hE];decide)]
   refine ae<|ah<|aG rfl<|aG rfl<|ag<|aa<|aR<|aq<| ?_
   exact cQ trivial rfl rfl rfl [] rfl [] rfl ⟨rfl,rfl,rfl⟩
  ·have h2:=Decidable.not_not.1 h2
   refine aB<|aa<|ae<|ae<|cA [1] [(0,some 0),(2,some 1),(1,none),(3,some 1)] (by kernel_rfl) (by kernel_rfl) rfl 99<|aj (ai rfl)<|bV (fun m=>aP rfl cB b7 h32 ((m.aN 0 rfl).aw))<| ?_
   refine dk (an rfl Tryz.call56 (jq (by omega)) [] rfl [0] rfl ?_)
   rintro _ _ _ ⟨rfl,rfl,rfl⟩
   refine⟨(fun _=>wk [0,0] [0,1,2,3,4] rfl rfl), ?_⟩
   refine aj (oR rfl rfl (bq _) hm)<|bp<|az [31,27,9,8,18,7,6,5,4,3,2,0,1] rfl<|aY rfl rfl<|aa<| ?_
   refine cu rfl (fun h3=> ?_) (fun h3=> ?_)
   ·have hE:=mK (d:=x.d) (nm:=nm) h1 (.inr h3)
    rw[hE,jX (by rw[hE];decide)]
    refine ae<|ah<|aG rfl<|aG rfl<|ag<|aa<|aR<|aq<| ?_
    exact cQ trivial rfl rfl rfl [] rfl [] rfl ⟨rfl,rfl,rfl⟩
   ·have hE:=vx (d:=x.d) (nm:=nm) h1 (fun q=>q.elim (fun q=>q h2) h3)
    rw[hE,rl hE]
    refine aB<|aa<|ae<|ah<|au rfl<|hy (fun m=>kj rfl Tryz.underlying27 Tryz.underlying5 Tryz.underlying9 (m.rd 0 rfl))<|aG rfl<|aG rfl<|ag<|az [5,4,31,27,9,8,18,7,6,3,2,0,1] rfl<|aa<|aR<| ?_
    exact cQ trivial rfl rfl rfl [] rfl [] rfl ⟨rfl,rfl,rfl⟩
theorem DZ{d:RD}{bb:List UInt8}(h:d.bP (bW (bA bb)) (cj bb)≠0):d.iZ bb=(d.write (bW (bA bb)) (cj bb),d.bP (bW (bA bb)) (cj bb)):=by
 unfold RD.iZ
 rw[gQ]
 exact if_pos h
theorem Eh{d:RD}{bb:List UInt8}(h:d.bP (bW (bA bb)) (cj bb)=0)(h2:(d.write (bW (bA bb)) (cj bb)).dy≠0):d.iZ bb=((d.write (bW (bA bb)) (cj bb)).sync,(d.write (bW (bA bb)) (cj bb)).dy):=by
 unfold RD.iZ
 rw[gQ,if_neg (by show¬d.bP _ _≠0;rw[h];decide),gQ]
 exact if_pos h2
theorem D3{d:RD}{bb:List UInt8}(h:d.bP (bW (bA bb)) (cj bb)=0)(h2:(d.write (bW (bA bb)) (cj bb)).dy=0)(h3:(d.write (bW (bA bb)) (cj bb)).sync.ca (bW (bA bb)) (bI (bA bb))≠0):d.iZ bb=((d.write (bW (bA bb)) (cj bb)).sync.rename (bW (bA bb)) (bI (bA bb)),(d.write (bW (bA bb)) (cj bb)).sync.ca (bW (bA bb)) (bI (bA bb))):=by
 unfold RD.iZ
 rw[gQ,if_neg (by show¬d.bP _ _≠0;rw[h];decide),gQ,if_neg (by show¬(d.write _ _).dy≠0;rw[h2];decide),gQ]
 exact if_pos h3
theorem EN{d:RD}{bb:List UInt8}(h:d.bP (bW (bA bb)) (cj bb)=0)(h2:(d.write (bW (bA bb)) (cj bb)).dy=0)(h3:(d.write (bW (bA bb)) (cj bb)).sync.ca (bW (bA bb)) (bI (bA bb))=0):d.iZ bb=(((d.write (bW (bA bb)) (cj bb)).sync.rename (bW (bA bb)) (bI (bA bb))).sync,((d.write (bW (bA bb)) (cj bb)).sync.rename (bW (bA bb)) (bI (bA bb))).dy):=by
 unfold RD.iZ
 rw[gQ,if_neg (by show¬d.bP _ _≠0;rw[h];decide),gQ,if_neg (by show¬(d.write _ _).dy≠0;rw[h2];decide),gQ,if_neg (by show¬((d.write _ _).sync).ca _ _≠0;rw[h3];decide),gQ]
 by_cases h4:(lK (rH (bW (bA bb)) (bI (bA bb)) (lK (rF (bW (bA bb)) (cj bb) d).1).1).1).2=0
 ·rw[if_neg (fun q=>q h4)]
  exact Prod.ext rfl h4.symm
 ·rw[if_pos h4];rfl
theorem ml{d:RD}{bb:List UInt8}(hn:¬4096<bb.length)(h6:d.fu (bA bb)≠6)(h0:d.fu (bA bb)≠0){d' :RD}{e:Int}(h:d.iZ bb=(d',e)):d.put bb=(d',if e=0 then bA bb else dQ,e):=by
 unfold RD.put;rw[if_neg hn,if_neg h6,if_neg h0,h]
theorem rh{x:RX}{kk:Nat}{A:Option Addr}{n c:Nat}{bb:List UInt8}(hD:x.d.ok kk)(hkk:kk≤90000)(hc:n≤c)(hl:bb.length=n)(hn:n≤100000):cf Tryz.prog 26 [.agg x.cs.toArray,.slice A n c] [] [eg x,cz 1 A n (aT bb),dF] (fun v_ X_ S_=>∃y,v_=(.tuple #[.agg y.cs.toArray,.agg (aT (x.d.put bb).2.1).toArray,.int .i64 (x.d.put bb).2.2])∧X_=[]∧S_=[eg y]∧(y.d=(x.d.put bb).1)):=by
 have hm:=bq bb
 have h32:(aT (bA bb)).length=32:=by rw[aA,hm]
 have z32:(aT dQ).length=32:=by rw[aA,eY]
 obtain⟨s0,s1⟩:=pX bb
 have hrd:(x.d.cJ (bI (bA bb))).length≤10000000:=by
  obtain⟨st,hst⟩:=hD
  have:=hst.u9 (bI (bA bb))
  omega
 have ok1:=hD.write (p:=bW (bA bb)) (l:=cj bb) (by omega)
 have okr:=hD.C7
 have okr1:=ok1.C7
 have okr2:=ok1.sync.C7
 have okr3:=ok1.sync.rename (a:=bW (bA bb)) (c:=bI (bA bb))|>.C7
 refine aK (N:=74) Tryz.func26 rfl rfl (by simp) fun b=> ?_
 refine aQ (fun m=>ek (m.rd 1 rfl)) ?_
 rintro⟨hl_rb,hA_rb⟩
 refine ae<|ah<| ?_
 refine hx (br rfl (fun g2=> ?_))
 refine aH (fun w m=>m.bw 0 rfl (show _=aE g2 39 x.cs from congrArg (aE _ _) (aV _))) ?_
 refine hx (ba mR (fun g4=> ?_))
 refine hx (ba fw (fun g5=> ?_))
 refine aG rfl<|ag<|aY rfl rfl<|aa<|ae<|ae<|ah<|au rfl<|hy (fun _=>a6 rfl Tryz.underlying27)<|hy (fun _=>cw rfl rfl)<|ag<|az [12,6,5,4,2,0,1] rfl<|aa<| ?_
 refine cu rfl (fun hbig=> ?_) (fun hbig=> ?_)
 ·have e0:x.d.put bb=(x.d,dQ,3):=vR (by omega)
  rw[e0]
  refine ae<|ah<|hy (fun m=>yV (aP rfl cK bT rfl ((m.aN 2 rfl).aw)) ((rfl:_=Value.agg x.cs.toArray)))<|hy (fun _=>yV (ej fw rfl (by kernel_rfl)) ((rfl:_=Value.agg (aT dQ).toArray)))<| ?_
  refine cF (a7 1 rfl rfl rfl bT rfl cx rfl ?_)
  refine cF (a7 1 rfl rfl rfl b7 z32 bl rfl ?_)
  refine aG rfl<|ag<|az [6,12,5,4,2,0,1] rfl<|aY rfl rfl<|aa<|aR<|aq<| ?_
  exact fg trivial rfl rfl rfl rfl cK bT rfl (fun m=>(m.aN 1 rfl).aw) cB b7 z32 (fun m=>(m.aN 0 rfl).aw) [] rfl [0] rfl ⟨x,rfl,rfl,rfl,rfl⟩
 ·have hbg:¬4096<bb.length:=by omega
  refine aB<|aa<|ae<|ah<|au rfl<| ?_
  refine hx (an rfl Tryz.call56 (jq (by omega)) [] rfl [1] rfl ?_)
  rintro _ _ _ ⟨rfl,rfl,rfl⟩
  refine hx (ba fw (fun g7=> ?_))
  refine cF (a7 0 rfl rfl rfl b7 h32 bl rfl ?_)
  refine ag<|az [7,12,6,5,4,2,0,1] rfl<|aY rfl rfl<|aa<|ae<|ah<|hy (fun m=>yV (aP rfl cK bT rfl ((m.aN 3 rfl).aw)) ((rfl:_=Value.agg x.cs.toArray)))<|hy (fun m=>aP rfl cB b7 h32 ((m.aN 0 rfl).aw))<| ?_
  refine hx (an rfl Tryz.call74 (Dp okr (by omega) hm hrd) [] rfl [0,2] rfl ?_)
  rintro _ _ _ ⟨rfl,rfl,rfl⟩
  refine au rfl<|hy (fun _=>aF rfl rfl)<|hy (fun _=>aF rfl rfl)<|aG rfl<|aG rfl<|ag<|az [9,7,12,6,5,4,2,0,1] rfl<|aY rfl rfl<|aa<|ae<|ae<|ah<|au rfl<|hy (fun _=>cD rfl rfl)<|ag<|az [24,9,7,12,6,5,4,2,0,1] rfl<|aa<| ?_
  refine cu rfl (fun h0=> ?_) (fun h0=> ?_)
  ·have e0:x.d.put bb=(x.d,bA bb,0):=by unfold RD.put;rw[if_neg hbg,if_neg (by rw[h0];decide),if_pos h0]
   rw[e0]
   refine ae<|AM [0,1,2,3] (.alt 0 (.alt 1 (.alt 2 (.alt 3 (.take 4 4<|.done) (.stop)) (.stop)) (.alt 2 (.alt 1 (.alt 3 (.take 4 4<|.done) (.stop)) (.stop)) (.stop))) (.alt 1 (.alt 0 (.alt 2 (.alt 3 (.take 4 4<|.done) (.stop)) (.stop)) (.stop)) (.stop))) (by kernel_rfl) (by kernel_rfl) rfl 1<| ?_
   refine jM ?_ ?_
   ·refine oA<|pA (fun m=>yV (aP rfl cK bT rfl ((m.aN 3 rfl).aw)) ((rfl:_=Value.agg x.cs.toArray)))<|And.intro (fun _=>wk [0,0,0,0] [0,1,2] rfl rfl)<| ?_
    refine jM ?_ ?_
    ·refine oA<|pA (fun m=>aP rfl cB b7 h32 ((m.aN 0 rfl).aw))<|And.intro (fun h=>absurd h (by decide))<| ?_
     refine gP (a7 2 rfl rfl rfl bT rfl cx rfl ⟨(fun h=>absurd h (by decide)), ?_⟩)
     refine gP (a7 2 rfl rfl rfl b7 h32 bl rfl ⟨(fun h=>absurd h (by decide)), ?_⟩)
     refine ei (ay rfl)<|j2<|az [6,24,9,7,12,5,4,2,0,1] rfl<|aY rfl rfl<|aa<|aR<|aq<| ?_
     exact fg trivial rfl rfl rfl rfl cK bT rfl (fun m=>(m.aN 1 rfl).aw) cB b7 h32 (fun m=>(m.aN 0 rfl).aw) [] rfl [0] rfl ⟨x,rfl,rfl,rfl,rfl⟩
    ·refine gP (a7 2 rfl rfl rfl bT rfl cx rfl ⟨(fun h=>absurd h (by decide)), ?_⟩)
     refine oA<|pA (fun m=>aP rfl cB b7 h32 ((m.aN 1 rfl).aw))<|And.intro (fun h=>absurd h (by decide))<| ?_
     refine gP (a7 2 rfl rfl rfl b7 h32 bl rfl ⟨(fun h=>absurd h (by decide)), ?_⟩)
     refine ei (ay rfl)<|j2<|az [6,24,9,7,12,5,4,2,0,1] rfl<|aY rfl rfl<|aa<|aR<|aq<| ?_
     exact fg trivial rfl rfl rfl rfl cK bT rfl (fun m=>(m.aN 1 rfl).aw) cB b7 h32 (fun m=>(m.aN 0 rfl).aw) [] rfl [0] rfl ⟨x,rfl,rfl,rfl,rfl⟩
   ·refine oA<|pA (fun m=>aP rfl cB b7 h32 ((m.aN 0 rfl).aw))<|And.intro (fun _=>wk [0,0,0,0] [0,1,2] rfl rfl)<|oA<|pA (fun m=>yV (aP rfl cK bT rfl ((m.aN 3 rfl).aw)) ((rfl:_=Value.agg x.cs.toArray)))<|And.intro (fun h=>absurd h (by decide))<| ?_
    refine gP (a7 2 rfl rfl rfl bT rfl cx rfl ⟨(fun h=>absurd h (by decide)), ?_⟩)
    refine gP (a7 2 rfl rfl rfl b7 h32 bl rfl ⟨(fun h=>absurd h (by decide)), ?_⟩)
    refine ei (ay rfl)<|j2<|az [6,24,9,7,12,5,4,2,0,1] rfl<|aY rfl rfl<|aa<|aR<|aq<| ?_
    exact fg trivial rfl rfl rfl rfl cK bT rfl (fun m=>(m.aN 1 rfl).aw) cB b7 h32 (fun m=>(m.aN 0 rfl).aw) [] rfl [0] rfl ⟨x,rfl,rfl,rfl,rfl⟩
  ·refine aB<|aa<|ae<|ae<|ah<|au rfl<|hy (fun _=>cD rfl rfl)<|ag<|az [28,24,9,7,12,6,5,4,2,0,1] rfl<|aa<| ?_
   refine cu rfl (fun h6=> ?_) (fun h6=> ?_)
   ·have e0:x.d.put bb=(x.d,dQ,6):=by unfold RD.put;rw[if_neg hbg,if_pos h6]
    rw[e0,h6]
    refine ae<|ah<|hy (fun m=>yV (aP rfl cK bT rfl ((m.aN 3 rfl).aw)) ((rfl:_=Value.agg x.cs.toArray)))<|hy (fun _=>yV (ej fw rfl (by kernel_rfl)) ((rfl:_=Value.agg (aT dQ).toArray)))<|au rfl<| ?_
    refine cF (a7 2 rfl rfl rfl bT rfl cx rfl ?_)
    refine cF (a7 2 rfl rfl rfl b7 z32 bl rfl ?_)
    refine aG rfl<|ag<|az [6,28,24,9,7,12,5,4,2,0,1] rfl<|aY rfl rfl<|aa<|aR<|aq<| ?_
    exact fg trivial rfl rfl rfl rfl cK bT rfl (fun m=>(m.aN 1 rfl).aw) cB b7 z32 (fun m=>(m.aN 0 rfl).aw) [] rfl [0] rfl ⟨x,rfl,rfl,rfl,rfl⟩
   ·refine aB<|aa<|ae<|cA [2,4,5,6,10] [(0,some 3),(1,some 0),(3,some 1),(2,none),(4,none),(5,none),(6,none),(7,some 4),(8,some 4),(9,some 5),(10,none),(11,some 5)] (by kernel_rfl) (by kernel_rfl) rfl 4<|bV (fun m=>yV (aP rfl cK bT rfl ((m.aN 3 rfl).aw)) ((rfl:_=Value.agg x.cs.toArray)))<|bV (fun m=>aP rfl cB b7 h32 ((m.aN 0 rfl).aw))<|aj (ai rfl)<| ?_
    refine dk (an rfl Tryz.call98 (vA hm) [] rfl [] rfl ?_)
    rintro _ _ _ ⟨rfl,rfl,rfl⟩
    refine⟨(fun _=>wk [0,0,0,0] [0,1,2] rfl rfl), ?_⟩
    refine dk (an rfl Tryz.call81 (Fg hc (by omega) hl) [] rfl [1] rfl ?_)
    rintro _ _ _ ⟨v,rfl,rfl,rfl⟩
    refine⟨(fun _=>wk [1,1,1,1] [0,1,2] rfl rfl), ?_⟩
    refine bU (fun m=>(m.own 0 rfl).slice) ?_
    rintro⟨A_x,c_x,rfl,hc_x⟩
    refine bU (fun m=>(m.ord 0 rfl).2.1) fun hA_x=> ?_
    refine B5 (fun _=>wk [1,1,1,1] [0,1,2] rfl rfl) (fun m=>kj rfl Tryz.underlying27 Tryz.underlying5 Tryz.underlying9 (m.ord 0 rfl))<| ?_
    refine dk (an rfl Tryz.call31 (BO okr (by omega) (by rw[k9 hm];decide) (by omega) (p:=(bW (bA bb))) (bb:=(cj bb))) [] rfl [0] rfl ?_)
    rintro _ _ _ ⟨y,rfl,rfl,rfl,hd1⟩
    refine⟨(fun _=>wk [1,1,1,1] [1,2,3] rfl rfl), ?_⟩
    refine aj (ai rfl)<|aj (aF rfl rfl)<|aj (aF rfl rfl)<| ?_
    refine gi (a7 4 rfl rfl rfl bT rfl cx rfl ⟨(fun h=>absurd h (by decide)), ?_⟩)
    refine aj (ay rfl)<|bp<|az [9,28,24,7,12,6,5,4,2,0,1] rfl<|aY rfl rfl<|aa<|ae<|ae<|ah<|au rfl<|hy (fun _=>cD rfl rfl)<|ag<|az [43,9,28,24,7,12,6,5,4,2,0,1] rfl<|aa<| ?_
    refine cu rfl (fun h1=> ?_) (fun h1=> ?_)
    ·refine ah<|hy (fun m=>yV (aP rfl cK bT rfl ((m.aN 0 rfl).aw)) ((rfl:_=Value.agg y.cs.toArray)))<| ?_
     refine hx (an rfl Tryz.call99 (yR (by rw[hd1];exact okr1)) [] rfl [0] rfl ?_)
     rintro _ _ _ ⟨y2,rfl,rfl,rfl,hd2⟩
     refine au rfl<|hy (fun _=>aF rfl rfl)<|hy (fun _=>aF rfl rfl)<| ?_
     refine cF (a7 0 rfl rfl rfl bT rfl cx rfl ?_)
     refine aG rfl<|ag<|az [9,43,28,24,7,12,6,5,4,2,0,1] rfl<|aY rfl rfl<|aa<|ae<|ae<|ah<|au rfl<|hy (fun _=>cD rfl rfl)<|ag<|az [50,9,43,28,24,7,12,6,5,4,2,0,1] rfl<|aa<| ?_
     refine cu rfl (fun h2=> ?_) (fun h2=> ?_)
     ·refine cA [2,4,5,9] [(0,some 2),(1,some 0),(3,some 1),(2,none),(4,none),(5,none),(6,some 3),(7,some 3),(8,some 4),(9,none),(10,some 4)] (by kernel_rfl) (by kernel_rfl) rfl 3<|bV (fun m=>yV (aP rfl cK bT rfl ((m.aN 0 rfl).aw)) ((rfl:_=Value.agg y2.cs.toArray)))<|bV (fun m=>aP rfl cB b7 h32 ((m.aN 2 rfl).aw))<|bV (fun m=>aP rfl cB b7 h32 ((m.aN 2 rfl).aw))<| ?_
      refine dk (an rfl Tryz.call98 (vA hm) [] rfl [] rfl ?_)
      rintro _ _ _ ⟨rfl,rfl,rfl⟩
      refine⟨(fun _=>wk [0,0,0,0,0] [0,1,2,3,4] rfl rfl), ?_⟩
      refine dk (an rfl Tryz.call29 (vK hm) [] rfl [] rfl ?_)
      rintro _ _ _ ⟨rfl,rfl,rfl⟩
      refine⟨(fun _=>wk [0,0,0,0,0] [0,1,2,3,4] rfl rfl), ?_⟩
      refine dk (an rfl Tryz.call100 (zp (by rw[hd2,hd1];exact okr2) (show kk+1≤100000 by omega) (by rw[lq hm];decide) (a:=(bW (bA bb))) (c:=(bI (bA bb)))) [] rfl [0] rfl ?_)
      rintro _ _ _ ⟨y3,rfl,rfl,rfl,hd3⟩
      refine⟨(fun _=>wk [0,0,0,0,0] [1,2,3,4,5] rfl rfl), ?_⟩
      refine aj (ai rfl)<|aj (aF rfl rfl)<|aj (aF rfl rfl)<| ?_
      refine gi (a7 0 rfl rfl rfl bT rfl cx rfl ⟨(fun h=>absurd h (by decide)), ?_⟩)
      refine aj (ay rfl)<|bp<|az [9,50,43,28,24,7,12,6,5,4,2,0,1] rfl<|aY rfl rfl<|aa<|ae<|ae<|ah<|au rfl<|hy (fun _=>cD rfl rfl)<|ag<|az [61,9,50,43,28,24,7,12,6,5,4,2,0,1] rfl<|aa<| ?_
      refine cu rfl (fun h3=> ?_) (fun h3=> ?_)
      ·have hP:=EN (d:=x.d) (bb:=bb) h1 (by rw[←hd1];exact h2) (by rw[←hd1,←hd2];exact h3)
       rw[←hd1,←hd2,←hd3]at hP
       have e0:=ml hbg h6 h0 hP
       refine ah<|hy (fun m=>yV (aP rfl cK bT rfl ((m.aN 0 rfl).aw)) ((rfl:_=Value.agg y3.cs.toArray)))<| ?_
       refine hx (an rfl Tryz.call99 (yR (by rw[hd3,hd2,hd1];exact okr3)) [] rfl [0] rfl ?_)
       rintro _ _ _ ⟨y4,rfl,rfl,rfl,hd4⟩
       refine au rfl<|hy (fun _=>aF rfl rfl)<|hy (fun _=>aF rfl rfl)<| ?_
       refine cF (a7 0 rfl rfl rfl bT rfl cx rfl ?_)
       refine aG rfl<|ag<|az [9,61,50,43,28,24,7,12,6,5,4,2,0,1] rfl<|aY rfl rfl<|aa<|ae<|ae<|ah<|au rfl<|hy (fun _=>de rfl rfl)<|ag<|az [68,9,61,50,43,28,24,7,12,6,5,4,2,0,1] rfl<|aa<| ?_
       rw[←hd4]at e0
       refine cu rfl (fun h4=> ?_) (fun h4=> ?_)
       ·rw[if_neg h4]at e0
        rw[e0]
        refine ae<|ah<|hy (fun m=>yV (aP rfl cK bT rfl ((m.aN 0 rfl).aw)) ((rfl:_=Value.agg y4.cs.toArray)))<|hy (fun _=>yV (ej fw rfl (by kernel_rfl)) ((rfl:_=Value.agg (aT dQ).toArray)))<|au rfl<| ?_
        refine cF (a7 4 rfl rfl rfl bT rfl cx rfl ?_)
        refine cF (a7 4 rfl rfl rfl b7 z32 bl rfl ?_)
        refine aG rfl<|ag<|az [6,68,9,61,50,43,28,24,7,12,5,4,2,0,1] rfl<|aY rfl rfl<|aa<|aR<|aq<| ?_
        exact fg trivial rfl rfl rfl rfl cK bT rfl (fun m=>(m.aN 1 rfl).aw) cB b7 z32 (fun m=>(m.aN 0 rfl).aw) [] rfl [0] rfl ⟨y4,rfl,rfl,rfl,rfl⟩
       ·have h4:=Decidable.not_not.1 h4
        rw[if_pos h4,h4]at e0
        rw[e0]
        refine aB<|aa<|ae<|AM [0,1,2,3] (.alt 0 (.alt 1 (.alt 2 (.alt 3 (.take 4 4<|.done) (.stop)) (.stop)) (.alt 2 (.alt 1 (.alt 3 (.take 4 4<|.done) (.stop)) (.stop)) (.stop))) (.alt 1 (.alt 0 (.alt 2 (.alt 3 (.take 4 4<|.done) (.stop)) (.stop)) (.stop)) (.stop))) (by kernel_rfl) (by kernel_rfl) rfl 1<| ?_
        refine jM ?_ ?_
        ·refine oA<|pA (fun m=>yV (aP rfl cK bT rfl ((m.aN 0 rfl).aw)) ((rfl:_=Value.agg y4.cs.toArray)))<|And.intro (fun _=>wk [0,0,0,0,0] [0,1,2,3,4,5,6] rfl rfl)<| ?_
         refine jM ?_ ?_
         ·refine oA<|pA (fun m=>aP rfl cB b7 h32 ((m.aN 2 rfl).aw))<|And.intro (fun h=>absurd h (by decide))<| ?_
          refine gP (a7 4 rfl rfl rfl bT rfl cx rfl ⟨(fun h=>absurd h (by decide)), ?_⟩)
          refine gP (a7 4 rfl rfl rfl b7 h32 bl rfl ⟨(fun h=>absurd h (by decide)), ?_⟩)
          refine ei (ay rfl)<|j2<|az [6,68,9,61,50,43,28,24,7,12,5,4,2,0,1] rfl<|aY rfl rfl<|aa<|aR<| ?_
          exact fg trivial rfl rfl rfl rfl cK bT rfl (fun m=>(m.aN 1 rfl).aw) cB b7 h32 (fun m=>(m.aN 0 rfl).aw) [] rfl [0] rfl ⟨y4,rfl,rfl,rfl,rfl⟩
         ·refine gP (a7 4 rfl rfl rfl bT rfl cx rfl ⟨(fun h=>absurd h (by decide)), ?_⟩)
          refine oA<|pA (fun m=>aP rfl cB b7 h32 ((m.aN 3 rfl).aw))<|And.intro (fun h=>absurd h (by decide))<| ?_
          refine gP (a7 4 rfl rfl rfl b7 h32 bl rfl ⟨(fun h=>absurd h (by decide)), ?_⟩)
          refine ei (ay rfl)<|j2<|az [6,68,9,61,50,43,28,24,7,12,5,4,2,0,1] rfl<|aY rfl rfl<|aa<|aR<| ?_
          exact fg trivial rfl rfl rfl rfl cK bT rfl (fun m=>(m.aN 1 rfl).aw) cB b7 h32 (fun m=>(m.aN 0 rfl).aw) [] rfl [0] rfl ⟨y4,rfl,rfl,rfl,rfl⟩
        ·refine oA<|pA (fun m=>aP rfl cB b7 h32 ((m.aN 2 rfl).aw))<|And.intro (fun _=>wk [0,0,0,0,0] [0,1,2,3,4,5,6] rfl rfl)<|oA<|pA (fun m=>yV (aP rfl cK bT rfl ((m.aN 0 rfl).aw)) ((rfl:_=Value.agg y4.cs.toArray)))<|And.intro (fun h=>absurd h (by decide))<| ?_
         refine gP (a7 4 rfl rfl rfl bT rfl cx rfl ⟨(fun h=>absurd h (by decide)), ?_⟩)
         refine gP (a7 4 rfl rfl rfl b7 h32 bl rfl ⟨(fun h=>absurd h (by decide)), ?_⟩)
         refine ei (ay rfl)<|j2<|az [6,68,9,61,50,43,28,24,7,12,5,4,2,0,1] rfl<|aY rfl rfl<|aa<|aR<| ?_
         exact fg trivial rfl rfl rfl rfl cK bT rfl (fun m=>(m.aN 1 rfl).aw) cB b7 h32 (fun m=>(m.aN 0 rfl).aw) [] rfl [0] rfl ⟨y4,rfl,rfl,rfl,rfl⟩
      ·have hP:=D3 (d:=x.d) (bb:=bb) h1 (by rw[←hd1];exact h2) (by rw[←hd1,←hd2];exact h3)
       rw[←hd1,←hd2,←hd3]at hP
       have e0:=ml hbg h6 h0 hP
       rw[if_neg h3]at e0
       rw[e0]
       refine aB<|aa<|ae<|ae<|ah<|au rfl<|hy (fun _=>de rfl rfl)<|ag<|az [68,61,9,50,43,28,24,7,12,6,5,4,2,0,1] rfl<|aa<| ?_
       refine fx rfl ((decide_eq_true h3)) ?_
       refine ae<|ah<|hy (fun m=>yV (aP rfl cK bT rfl ((m.aN 0 rfl).aw)) ((rfl:_=Value.agg y3.cs.toArray)))<|hy (fun _=>yV (ej fw rfl (by kernel_rfl)) ((rfl:_=Value.agg (aT dQ).toArray)))<|au rfl<| ?_
       refine cF (a7 4 rfl rfl rfl bT rfl cx rfl ?_)
       refine cF (a7 4 rfl rfl rfl b7 z32 bl rfl ?_)
       refine aG rfl<|ag<|az [6,68,61,9,50,43,28,24,7,12,5,4,2,0,1] rfl<|aY rfl rfl<|aa<|aR<|aq<| ?_
       exact fg trivial rfl rfl rfl rfl cK bT rfl (fun m=>(m.aN 1 rfl).aw) cB b7 z32 (fun m=>(m.aN 0 rfl).aw) [] rfl [0] rfl ⟨y3,rfl,rfl,rfl,rfl⟩
     ·have hP:=Eh (d:=x.d) (bb:=bb) h1 (by rw[←hd1];exact h2)
      rw[←hd1,←hd2]at hP
      have e0:=ml hbg h6 h0 hP
      rw[if_neg h2]at e0
      rw[e0]
      refine aB<|aa<|ae<|ae<|ah<|au rfl<|hy (fun _=>cD rfl rfl)<|ag<|az [61,50,9,43,28,24,7,12,6,5,4,2,0,1] rfl<|aa<| ?_
      refine dm rfl ((decide_eq_false h2)) ?_
      refine aB<|aa<|ae<|ae<|ah<|au rfl<|hy (fun _=>de rfl rfl)<|ag<|az [68,61,50,9,43,28,24,7,12,6,5,4,2,0,1] rfl<|aa<| ?_
      refine fx rfl ((decide_eq_true h2)) ?_
      refine ae<|ah<|hy (fun m=>yV (aP rfl cK bT rfl ((m.aN 0 rfl).aw)) ((rfl:_=Value.agg y2.cs.toArray)))<|hy (fun _=>yV (ej fw rfl (by kernel_rfl)) ((rfl:_=Value.agg (aT dQ).toArray)))<|au rfl<| ?_
      refine cF (a7 4 rfl rfl rfl bT rfl cx rfl ?_)
      refine cF (a7 4 rfl rfl rfl b7 z32 bl rfl ?_)
      refine aG rfl<|ag<|az [6,68,61,50,9,43,28,24,7,12,5,4,2,0,1] rfl<|aY rfl rfl<|aa<|aR<|aq<| ?_
      exact fg trivial rfl rfl rfl rfl cK bT rfl (fun m=>(m.aN 1 rfl).aw) cB b7 z32 (fun m=>(m.aN 0 rfl).aw) [] rfl [0] rfl ⟨y2,rfl,rfl,rfl,rfl⟩
    ·have hP:=DZ (d:=x.d) (bb:=bb) h1
     have e0:=ml hbg h6 h0 hP
     rw[if_neg h1]at e0
     rw[e0,←hd1]
     refine aB<|aa<|ae<|ae<|ah<|au rfl<|hy (fun _=>cD rfl rfl)<|ag<|az [50,43,9,28,24,7,12,6,5,4,2,0,1] rfl<|aa<| ?_
     refine dm rfl ((decide_eq_false h1)) ?_
     refine aB<|aa<|ae<|ae<|ah<|au rfl<|hy (fun _=>cD rfl rfl)<|ag<|az [61,50,43,9,28,24,7,12,6,5,4,2,0,1] rfl<|aa<| ?_
     refine dm rfl ((decide_eq_false h1)) ?_
     refine aB<|aa<|ae<|ae<|ah<|au rfl<|hy (fun _=>de rfl rfl)<|ag<|az [68,61,50,43,9,28,24,7,12,6,5,4,2,0,1] rfl<|aa<| ?_
     refine fx rfl ((decide_eq_true h1)) ?_
     refine ae<|ah<|hy (fun m=>yV (aP rfl cK bT rfl ((m.aN 0 rfl).aw)) ((rfl:_=Value.agg y.cs.toArray)))<|hy (fun _=>yV (ej fw rfl (by kernel_rfl)) ((rfl:_=Value.agg (aT dQ).toArray)))<|au rfl<| ?_
     refine cF (a7 4 rfl rfl rfl bT rfl cx rfl ?_)
     refine cF (a7 4 rfl rfl rfl b7 z32 bl rfl ?_)
     refine aG rfl<|ag<|az [6,68,61,50,43,9,28,24,7,12,5,4,2,0,1] rfl<|aY rfl rfl<|aa<|aR<|aq<| ?_
     exact fg trivial rfl rfl rfl rfl cK bT rfl (fun m=>(m.aN 1 rfl).aw) cB b7 z32 (fun m=>(m.aN 0 rfl).aw) [] rfl [0] rfl ⟨y,rfl,rfl,rfl,rfl⟩
end Go.Proofs.YtmibdabdlgmafaaGreatDoor
end
section
set_option maxRecDepth 100000
namespace Go.Hx
def GH(b:List UInt8)(w:List UInt32):Bool:=(List.range 64).all fun i=>w.getD i 0 == (if i<16 then kC b (4*i)else lV w i)
theorem wR{b:List UInt8}{w:List UInt32}(hl:w.length=64)(h:GH b w=true):∀n,n≤64→wl b n=w.take n
 |0,_=>by simp[wl]
 |n+1,hn=>by
  have ih:=wR hl h n (by omega)
  have hc:w.getD n 0=(if n<16 then kC b (4*n)else lV w n):=by
   have:=List.all_eq_true.1 h n (List.mem_range.2 (by omega))
   exact eq_of_beq this
  have hg:∀j,j<n→(w.take n).getD j 0=w.getD j 0:=fun j hj=>by simp only[List.getD,List.getElem?_take,if_pos hj]
  have hw:w.take (n+1)=w.take n++[w.getD n 0]:=by
   rw[List.take_add_one,List.getElem?_eq_getElem (by omega)]
   simp[List.getD,List.getElem?_eq_getElem (show n<w.length by omega)]
  rw[wl,ih,hw,hc]
  congr 2
  split
  ·rfl
  ·unfold lV
   rw[hg _ (by omega),hg _ (by omega),hg _ (by omega),hg _ (by omega)]
def Bm(w v:List UInt32):List (List UInt32)→List UInt32→List UInt32→Bool
 | [],_,_=>true
 |y::r,k,u=>y == Hh v (k.getD 0 0) (u.getD 0 0) && Bm w y r k.tail u.tail
theorem ti{w v:List UInt32}:∀(t:List (List UInt32)) (n:Nat) (s:List UInt32),kn w v n=s→Bm w s t (fv.drop n) (w.drop n)=true→kn w v (n+t.length)=(s::t).getLastD []
 | [],n,s,hs,_=>by simpa using hs
 |y::r,n,s,hs,h=>by
  simp only[Bm,Bool.and_eq_true]at h
  have e:kn w v (n+1)=y:=by
   rw[eq_of_beq h.1,kn,hs]
   simp only[List.getD,List.getElem?_drop,Nat.add_zero]
  have:=ti r (n+1) y e (by rw[←List.tail_drop,←List.tail_drop];exact h.2)
  rw[List.length_cons,show n+(r.length+1)=n+1+r.length by omega,this]
  rfl
theorem sv{b m:List UInt8}{w:List UInt32}{t:List (List UInt32)}(hp:ja b=m)(hm:m.length=64)(hw:w.length=64)(ht:t.length=64)(h1:GH m w=true)(h2:Bm w lN t fv w=true):
  bA b=eE (fL ((lN::t).getLastD []) lN 8):=by
 have e1:fm lN m=ea lN m:=by
  unfold fm
  rw[hm]
  show nR 0 (ea lN (m.take 64)) (m.drop 64)=_
  rw[List.take_of_length_le (by omega)]
  rfl
 have e2:wl m 64=w:=by rw[wR hw h1 64 (Nat.le_refl _),List.take_of_length_le (by omega)]
 have e3:=ti (w:=w) (v:=lN) t 0 lN rfl (by simpa using h2)
 rw[Nat.zero_add,ht]at e3
 unfold bA
 rw[hp,e1,ea,e2,e3]
end Go.Hx
end
section
set_option maxRecDepth 20000
namespace Go.Proofs.YtmibdabdlgmafaaGreatDoor
open Go.Eng Go.Hx
structure Pm where
 mn:Int
 av:Int
 mx:Int
def Pm.cs(p:Pm):List Value:=[.int .i64 p.mn,.int .i64 p.av,.int .i64 p.mx]
theorem Pm.one{p:Pm}:∀u∈p.cs,u.oneCell' =true:=by
 intro u hu
 simp only[Pm.cs,List.mem_cons,List.not_mem_nil,or_false]at hu
 rcases hu with rfl|rfl|rfl <;> rfl
def Pm.may(p:Pm):Prop:=0<p.mn∧p.mn≤p.av∧p.av≤p.mx∧p.mx<4097
instance(p:Pm):Decidable p.may:=by unfold Pm.may;infer_instance
structure Pn where
 a:Nat
 b:Nat
 m:Nat
def Pn.p(q:Pn):Pm:=⟨q.a,q.b,q.m⟩
structure Pn.ok(q:Pn):Prop where
 h1:1≤q.a
 h2:q.a≤q.b
 h3:q.b≤q.m
 h4:q.m≤4096
def fE(p:Pm):Pn:=⟨(1+cN p.mn 12).toNat,(1+cN p.mn 12+cN p.av 20).toNat,(1+cN p.mn 12+cN p.av 20+cN p.mx 40).toNat⟩
theorem yq(p:Pm):(fE p).p=⟨1+cN p.mn 12,1+cN p.mn 12+cN p.av 20,1+cN p.mn 12+cN p.av 20+cN p.mx 40⟩:=by
 have h1:=dp p.mn 12 (by decide)
 have h2:=dp p.av 20 (by decide)
 have h3:=dp p.mx 40 (by decide)
 unfold fE Pn.p
 simp only[Pm.mk.injEq]
 omega
theorem sZ(p:Pm):(fE p).ok∧(fE p).m≤70:=by
 have h1:=dp p.mn 12 (by decide)
 have h2:=dp p.av 20 (by decide)
 have h3:=dp p.mx 40 (by decide)
 refine⟨⟨?_, ?_, ?_, ?_⟩, ?_⟩ <;> simp only[fE] <;> omega
def jL(n:Nat):Nat:=2 ^ Nat.log2 n
theorem sJ(n:Nat):0<jL n:=Nat.two_pow_pos _
theorem BV{n j:Nat}(h1:2 ^ j≤n)(h2:n<2*2 ^ j):jL n=2 ^ j:=by
 have hn:n≠0:=fun e=>by rw[e]at h1;exact absurd h1 (Nat.not_le.2 (Nat.two_pow_pos _))
 unfold jL
 congr 1
 have a:=(Nat.le_log2 hn).2 h1
 have b:=(Nat.log2_lt (k:=j+1) hn).2 (by rw[Nat.pow_succ];omega)
 omega
theorem xV{n:Nat}(h1:1≤n)(h2:n≤1000000):cf Tryz.prog 200 [.int .i64 (n:Int)] [] [] (fun v_ X_ S_=>v_=(.int .i64 (jL n:Nat))∧X_=[]∧S_=[]):=by
 refine aK (N:=11) Tryz.func200 rfl rfl (by simp) fun b=> ?_
 refine ae<|ah<|aG rfl<|ag<|aa<|ae<|ah<|aG rfl<|ag<|aa<|ae<|aM<| ?_
 refine dD (fun j=>n-j) (fun j=>[(3,.int .i64 ((2 ^ j:Nat):Int))]) (fun j=>[]) (fun j=>[]) (fun j=>2 ^ j≤n) 0 [(2,_),(0,_)] ⟨rfl,rfl,trivial⟩ [] rfl [] rfl (h1) ⟨rfl,trivial⟩ (fun j hj=> ?_)
 have hpos:(0:Int)≤((2 ^ j:Nat):Int):=Int.natCast_nonneg _
 have hjn:j<n:=Nat.lt_of_lt_of_le Nat.lt_two_pow_self hj
 refine ae<|ae<|ah<|au rfl<|hy (fun _=>yV (gz rfl rfl (bE (by omega) (by omega))) ((show Value.int .i64 (2*((2 ^ j:Nat):Int))= .int .i64 ((2 ^ (j+1):Nat):Int)from by rw[Nat.pow_succ];congr 1;omega)))<|au rfl<|hy (fun _=>jo rfl rfl)<|ag<|az [7,3,2,0] rfl<|aa<| ?_
 refine cu rfl (fun hle=> ?_) (fun hle=> ?_)
 ·have hle2:2 ^ (j+1)≤n:=by omega
  refine aB<|aa<|aM<|ah<|au rfl<|hy (fun _=>yV (gz rfl rfl (bE (by omega) (by omega))) ((show Value.int .i64 (2*((2 ^ j:Nat):Int))= .int .i64 ((2 ^ (j+1):Nat):Int)from by rw[Nat.pow_succ];congr 1;omega)))<|aG rfl<|ag<|az [3,7,2,0] rfl<|aW<| ?_
  refine cH (j+1) ⟨rfl,rfl,rfl,trivial⟩ [] rfl [] rfl (hle2) (by omega)
 ·have hp:jL n=2 ^ j:=BV hj (by rw[←Nat.mul_comm,←Nat.pow_succ];omega)
  rw[hp]
  refine bH<|al<|al<|aD<|aa<|ae<|ah<|au rfl<|aG rfl<|ag<|az [2,7,3,0] rfl<|aa<|aR<| ?_
  exact bc trivial rfl rfl [] rfl [] rfl ⟨rfl,rfl,rfl⟩
theorem wJ{p:Pm}:cf Tryz.prog 138 [.agg p.cs.toArray] [] [] (fun v_ X_ S_=>v_=(.bool (decide p.may))∧X_=[]∧S_=[]):=by
 refine aK (N:=25) Tryz.func138 rfl rfl (by simp) fun b=> ?_
 refine ae<|ah<| ?_
 refine hx (br rfl (fun g1=> ?_))
 refine aH (fun w m=>m.bw 0 rfl (show _=aE g1 75 p.cs from congrArg (aE _ _) (aV _))) ?_
 by_cases h0:0<p.mn
 ·by_cases h1:p.mn≤p.av
  ·by_cases h2:p.av≤p.mx
   ·rw[show decide p.may=decide (p.mx<4097)from decide_eq_decide.2 ⟨fun h=>h.2.2.2,fun h=>⟨h0,h1,h2,h⟩⟩]
    refine aG rfl<|ag<|aY rfl rfl<|aa<|ae<|ah<|hy (fun _=>ax rfl dT (by decide))<|hy (fun m=>ak rfl cY (ar (m.aN 0 rfl) (i:=0) rfl))<|hy (fun _=>yT (cw rfl rfl) ((decide_eq_true h0)))<|au rfl<|bQ (o:=_) rfl rfl rfl (fun _=>ax rfl dT (by decide))<|bQ (o:=_) rfl rfl rfl (fun m=>ak rfl cY (ar (m.aN 0 rfl) (i:=0) rfl))<|bQ (o:=_) rfl rfl rfl (fun _=>ax rfl gk (by decide))<|bQ (o:=_) rfl rfl rfl (fun m=>ak rfl cY (ar (m.aN 0 rfl) (i:=1) rfl))<|bQ (o:=_) rfl rfl rfl (fun _=>yT (jo rfl rfl) ((decide_eq_true h1)))<|hy (fun _=>bz rfl rfl)<|au rfl<|bQ (o:=_) rfl rfl rfl (fun _=>ax rfl gk (by decide))<|bQ (o:=_) rfl rfl rfl (fun m=>ak rfl cY (ar (m.aN 0 rfl) (i:=1) rfl))<|bQ (o:=_) rfl rfl rfl (fun _=>ax rfl eW (by decide))<|bQ (o:=_) rfl rfl rfl (fun m=>ak rfl cY (ar (m.aN 0 rfl) (i:=2) rfl))<|bQ (o:=_) rfl rfl rfl (fun _=>yT (jo rfl rfl) ((decide_eq_true h2)))<|hy (fun _=>bz rfl rfl)<|au rfl<|bQ (o:=_) rfl rfl rfl (fun _=>ax rfl eW (by decide))<|bQ (o:=_) rfl rfl rfl (fun m=>ak rfl cY (ar (m.aN 0 rfl) (i:=2) rfl))<|bQ (o:=_) rfl rfl rfl (fun _=>bx rfl rfl)<|hy (fun _=>bz rfl rfl)<|aG rfl<|ag<|az [2,1,0] rfl<|aa<|aR<| ?_
    exact bc trivial rfl rfl [] rfl [] rfl ⟨rfl,rfl,rfl⟩
   ·rw[decide_eq_false (show¬p.may from fun h=>h2 h.2.2.1)]
    refine aG rfl<|ag<|aa<|ae<|ah<|hy (fun _=>ax rfl dT (by decide))<|hy (fun m=>ak rfl cY (ar (m.aN 0 rfl) rfl))<|hy (fun _=>yT (cw rfl rfl) ((decide_eq_true h0)))<|au rfl<|bQ (o:=_) rfl rfl rfl (fun _=>ax rfl dT (by decide))<|bQ (o:=_) rfl rfl rfl (fun m=>ak rfl cY (ar (m.aN 0 rfl) rfl))<|bQ (o:=_) rfl rfl rfl (fun _=>ax rfl gk (by decide))<|bQ (o:=_) rfl rfl rfl (fun m=>ak rfl cY (ar (m.aN 0 rfl) rfl))<|bQ (o:=_) rfl rfl rfl (fun _=>yT (jo rfl rfl) ((decide_eq_true h1)))<|hy (fun _=>bz rfl rfl)<|au rfl<|bQ (o:=_) rfl rfl rfl (fun _=>ax rfl gk (by decide))<|bQ (o:=_) rfl rfl rfl (fun m=>ak rfl cY (ar (m.aN 0 rfl) rfl))<|bQ (o:=_) rfl rfl rfl (fun _=>ax rfl eW (by decide))<|bQ (o:=_) rfl rfl rfl (fun m=>ak rfl cY (ar (m.aN 0 rfl) rfl))<|bQ (o:=_) rfl rfl rfl (fun _=>yF (jo rfl rfl) ((decide_eq_false h2)))<|hy (fun _=>bz rfl rfl)<|au rfl<|aJ rfl rfl rfl (by decide)<|aJ rfl rfl rfl (by decide)<|aJ rfl rfl rfl (by decide)<|hy (fun _=>bn rfl rfl)<|aG rfl<|ag<|az [2,1,0] rfl<|aa<|aR<| ?_
    exact bc trivial rfl rfl [] rfl [] rfl ⟨rfl,rfl,rfl⟩
  ·rw[decide_eq_false (show¬p.may from fun h=>h1 h.2.1)]
   refine aG rfl<|ag<|aa<|ae<|ah<|hy (fun _=>ax rfl dT (by decide))<|hy (fun m=>ak rfl cY (ar (m.aN 0 rfl) rfl))<|hy (fun _=>yT (cw rfl rfl) ((decide_eq_true h0)))<|au rfl<|bQ (o:=_) rfl rfl rfl (fun _=>ax rfl dT (by decide))<|bQ (o:=_) rfl rfl rfl (fun m=>ak rfl cY (ar (m.aN 0 rfl) rfl))<|bQ (o:=_) rfl rfl rfl (fun _=>ax rfl gk (by decide))<|bQ (o:=_) rfl rfl rfl (fun m=>ak rfl cY (ar (m.aN 0 rfl) rfl))<|bQ (o:=_) rfl rfl rfl (fun _=>yF (jo rfl rfl) ((decide_eq_false h1)))<|hy (fun _=>bz rfl rfl)<|au rfl<|aJ rfl rfl rfl (by decide)<|aJ rfl rfl rfl (by decide)<|aJ rfl rfl rfl (by decide)<|aJ rfl rfl rfl (by decide)<|aJ rfl rfl rfl (by decide)<|hy (fun _=>bn rfl rfl)<|au rfl<|aJ rfl rfl rfl (by decide)<|aJ rfl rfl rfl (by decide)<|aJ rfl rfl rfl (by decide)<|hy (fun _=>bn rfl rfl)<|aG rfl<|ag<|az [2,1,0] rfl<|aa<|aR<| ?_
   exact bc trivial rfl rfl [] rfl [] rfl ⟨rfl,rfl,rfl⟩
 ·rw[decide_eq_false (show¬p.may from fun h=>h0 h.1)]
  refine aG rfl<|ag<|aa<|ae<|ah<|hy (fun _=>ax rfl dT (by decide))<|hy (fun m=>ak rfl cY (ar (m.aN 0 rfl) rfl))<|hy (fun _=>yF (cw rfl rfl) ((decide_eq_false h0)))<|au rfl<|aJ rfl rfl rfl (by decide)<|aJ rfl rfl rfl (by decide)<|aJ rfl rfl rfl (by decide)<|aJ rfl rfl rfl (by decide)<|aJ rfl rfl rfl (by decide)<|hy (fun _=>bn rfl rfl)<|au rfl<|aJ rfl rfl rfl (by decide)<|aJ rfl rfl rfl (by decide)<|aJ rfl rfl rfl (by decide)<|aJ rfl rfl rfl (by decide)<|aJ rfl rfl rfl (by decide)<|hy (fun _=>bn rfl rfl)<|au rfl<|aJ rfl rfl rfl (by decide)<|aJ rfl rfl rfl (by decide)<|aJ rfl rfl rfl (by decide)<|hy (fun _=>bn rfl rfl)<|aG rfl<|ag<|az [2,1,0] rfl<|aa<|aR<| ?_
  exact bc trivial rfl rfl [] rfl [] rfl ⟨rfl,rfl,rfl⟩
theorem Fw{p:Pm}(h1:-9223372036854775808≤p.mn∧p.mn≤9223372036854775807)(h2:-9223372036854775808≤p.av∧p.av≤9223372036854775807)(h3:-9223372036854775808≤p.mx∧p.mx≤9223372036854775807):cf Tryz.prog 125 [.agg p.cs.toArray] [] [] (fun v_ X_ S_=>v_=(.agg (fE p).p.cs.toArray)∧X_=[]∧S_=[]):=by
 have a1:=dp p.mn 12 (by decide)
 have a2:=dp p.av 20 (by decide)
 have a3:=dp p.mx 40 (by decide)
 rw[yq]
 refine aK (N:=22) Tryz.func125 rfl rfl (by simp) fun b=> ?_
 refine ae<|ah<| ?_
 refine hx (br rfl (fun g1=> ?_))
 refine aH (fun w m=>m.bw 0 rfl (show _=aE g1 75 p.cs from congrArg (aE _ _) (aV _))) ?_
 refine hx (ba y5 (fun g2=> ?_))
 refine ag<|aY rfl rfl<|aa<|ae<|ah<|hy (fun _=>ax rfl dT (by decide))<|hy (fun m=>ak rfl cY (ar (m.aN 1 rfl) (i:=0) rfl))<| ?_
 refine hx (an rfl Tryz.call16 (iN h1.1 h1.2 (by decide) (n:=p.mn) (m:=12)) [] rfl [] rfl ?_)
 rintro _ _ _ ⟨rfl,rfl,rfl⟩
 refine hy (fun _=>aO rfl rfl (bE (by omega) (by omega)))<|aG rfl<|ag<|az [3,2,1,0] rfl<|aY rfl rfl<|aa<|ae<|ah<|au rfl<|hy (fun _=>ax rfl gk (by decide))<|hy (fun m=>ak rfl cY (ar (m.aN 1 rfl) (i:=1) rfl))<| ?_
 refine hx (an rfl Tryz.call16 (iN h2.1 h2.2 (by decide) (n:=p.av) (m:=20)) [] rfl [] rfl ?_)
 rintro _ _ _ ⟨rfl,rfl,rfl⟩
 refine hy (fun _=>aO rfl rfl (bE (by omega) (by omega)))<|aG rfl<|ag<|az [4,3,2,1,0] rfl<|aY rfl rfl<|aa<|ae<|ah<|au rfl<|au rfl<|au rfl<|hy (fun _=>ax rfl eW (by decide))<|hy (fun m=>ak rfl cY (ar (m.aN 1 rfl) (i:=2) rfl))<| ?_
 refine hx (an rfl Tryz.call16 (iN h3.1 h3.2 (by decide) (n:=p.mx) (m:=40)) [] rfl [] rfl ?_)
 rintro _ _ _ ⟨rfl,rfl,rfl⟩
 refine hy (fun _=>aO rfl rfl (bE (by omega) (by omega)))<|hy (fun _=>b6 y5 rfl rfl (by kernel_rfl) (.cons (o:=0) (sz:=1) (by kernel_rfl) rfl rfl (Nat.le_of_ble_eq_true rfl) (.cons (o:=1) (sz:=1) (by kernel_rfl) rfl rfl (Nat.le_of_ble_eq_true rfl) (.cons (o:=2) (sz:=1) (by kernel_rfl) rfl rfl (Nat.le_of_ble_eq_true rfl) .nil))))<| ?_
 refine cF (a7 0 rfl rfl rfl gg rfl (Pm.one (p:=⟨_,_,_⟩)) rfl ?_)
 refine ag<|az [4,3,2,1,0] rfl<|aY rfl rfl<|aa<|aR<| ?_
 exact eZ trivial rfl rfl gK gg rfl (fun m=>(m.aN 0 rfl).aw) [] rfl [] rfl ⟨rfl,rfl,rfl⟩
end Go.Proofs.YtmibdabdlgmafaaGreatDoor
end
section
set_option maxRecDepth 20000
namespace Go.Proofs.YtmibdabdlgmafaaGreatDoor
open Go.Eng Go.Hx
def oy(w:List UInt32)(b:List UInt8)(q:Pn)(k:Nat):Prop:=k=q.m∨eh w (b.take k) % UInt32.ofNat (jL q.b)=0
instance(w:List UInt32)(b:List UInt8)(q:Pn)(k:Nat):Decidable (oy w b q k):=by unfold oy;infer_instance
def eT(w:List UInt32)(b:List UInt8)(q:Pn):Nat→Nat→Nat
 |_,0=>b.length
 |k,f+1=>if k<b.length then(if oy w b q k then k else eT w b q (k+1) f)else b.length
def ig(w:List UInt32)(b:List UInt8)(q:Pn):Nat:=eT w b q q.a (b.length+1)
theorem qF(w:List UInt32)(b:List UInt8)(q:Pn):∀(f k:Nat),eT w b q k f≤b.length
 |0,_=>Nat.le_refl _
 |f+1,k=>by
  rw[eT]
  split
  ·split
   ·omega
   ·exact qF w b q f (k+1)
  ·exact Nat.le_refl _
theorem pI{w:List UInt32}{b:List UInt8}{q:Pn}:∀(f k:Nat),1≤k→1≤b.length→1≤eT w b q k f
 |0,_,_,h=>h
 |f+1,k,hk,h=>by
  rw[eT]
  split
  ·split
   ·exact hk
   ·exact pI f (k+1) (by omega) h
  ·exact h
theorem qp(w:List UInt32)(b:List UInt8)(q:Pn):ig w b q≤b.length:=qF ..
theorem jR{w:List UInt32}{b:List UInt8}{q:Pn}(hq:q.ok)(h:1≤b.length):1≤ig w b q:=pI _ _ hq.h1 h
theorem CM(n:Nat):Value.int .u32 (IntKind.u32.wrap (n:Int))=Wd (UInt32.ofNat n):=by
 rw[wrap32];rfl
theorem Dy{A B:Option Addr}{c n k:Nat}{w:List UInt32}{l:List UInt8}{q:Pn}(hq:q.ok)(hw:w.length=256)(hl:l.length=n)(hn:n≤1000000)(hk:n≤k):cf Tryz.prog 137 [.slice A 256 c,.slice B n k,.agg q.p.cs.toArray] [] [cz 1 A 256 (dL w),cz 1 B n (aT l)] (fun v_ X_ S_=>v_=(.int .i64 (ig w l q:Nat))∧X_=[]∧S_=[]):=by
 have q1:=hq.h1
 have q2:=hq.h2
 have q3:=hq.h3
 have q4:=hq.h4
 refine aK (N:=38) Tryz.func137 rfl rfl (by simp) fun b=> ?_
 refine aQ (fun m=>eU (m.rd 0 rfl)) ?_
 rintro⟨hl_rw,hA_rw⟩
 refine aQ (fun m=>ek (m.rd 1 rfl)) ?_
 rintro⟨hl_rb,hA_rb⟩
 refine ae<|ah<| ?_
 refine hx (br rfl (fun g5=> ?_))
 refine aH (fun w m=>m.bw 0 rfl (show _=aE g5 75 q.p.cs from congrArg (aE _ _) (aV _))) ?_
 refine aG rfl<|ag<|aY rfl rfl<|aa<|ae<|ah<|hy (fun _=>ax rfl gk (by decide))<|hy (fun m=>ak rfl cY (ar (m.aN 0 rfl) (i:=1) (show q.p.cs[1]? =some (Value.int .i64 (q.b:Nat))from rfl)))<| ?_
 refine hx (an rfl Tryz.call200 (xV (by omega) (by omega) (n:=q.b)) [] rfl [] rfl ?_)
 rintro _ _ _ ⟨rfl,rfl,rfl⟩
 refine hy (fun _=>yV (b8 rfl Tryz.underlying3 Tryz.underlying166 rfl) ((CM (jL q.b))))<|aG rfl<|ag<|az [7,6,5,0,1,2] rfl<|aY rfl rfl<|aa<|ae<|ae<|ah<|hy (fun _=>ax rfl dT (by decide))<|hy (fun m=>ak rfl cY (ar (m.aN 0 rfl) (i:=0) (show q.p.cs[0]? =some (Value.int .i64 (q.a:Nat))from rfl)))<|aG rfl<|ag<|az [8,7,6,5,0,1,2] rfl<|aa<|aM<| ?_
 have hm0:(UInt32.ofNat (jL q.b)).toNat≠0:=by
  have h1:=sJ q.b
  have h2:jL q.b≤q.b:=Nat.log2_self_le (by omega)
  rw[UInt32.toNat_ofNat',Nat.mod_eq_of_lt (by omega)]
  omega
 refine kv (fun k2 f=>n-k2) (fun k2 f=>[(8,.int .i64 (k2:Nat))]) (fun k2 f=>[]) (fun k2 f=>[]) (fun k2 f=>eT w l q k2 f=ig w l q∧n<k2+f) q.a (l.length+1) [(7,_),(5,_),(0,_),(1,_),(2,_)] ⟨rfl,rfl,rfl,rfl,rfl,trivial⟩ [] rfl [] rfl (⟨rfl,by omega⟩) ⟨rfl,trivial⟩ (fun k2 f ⟨hf,hnf⟩=> ?_)
 refine ae<|ae<|ah<|au rfl<|au rfl<|hy (fun _=>a6 rfl Tryz.underlying27)<|hy (fun _=>bx rfl rfl)<|ag<|az [18,8,7,5,0,1,2] rfl<|aa<| ?_
 refine cu rfl (fun hlt=> ?_) (fun hlt=> ?_)
 ·obtain⟨f,rfl⟩:∃f',f=f' +1:=⟨f-1,by omega⟩
  rw[eT,if_pos (by omega)]at hf
  by_cases h1:k2=q.m
  ·rw[if_pos (.inl h1)]at hf
   rw[←hf]
   refine aB<|aa<|ae<|aM<|ae<|ah<|au rfl<|hy (fun _=>ax rfl eW (by decide))<|hy (fun m=>ak rfl cY (ar (m.aN 0 rfl) (i:=2) (show q.p.cs[2]? =some (Value.int .i64 (q.m:Nat))from rfl)))<|hy (fun _=>yT (cD rfl rfl) ((decide_eq_true (by rw[h1]))))<|au rfl<|aJ rfl rfl rfl (by decide)<|aJ rfl rfl rfl (by decide)<|aJ rfl rfl rfl (by decide)<|aJ rfl rfl rfl (by decide)<|aJ rfl rfl rfl (by decide)<|aJ rfl rfl rfl (by decide)<|aJ rfl rfl rfl (by decide)<|aJ rfl rfl rfl (by decide)<|hy (fun _=>bz rfl rfl)<|ag<|az [34,18,8,7,5,0,1,2] rfl<|aa<| ?_
   refine fx rfl (rfl) ?_
   refine ae<|ah<|au rfl<|aG rfl<|ag<|az [6,34,18,8,7,5,0,1,2] rfl<|aa<|aR<|aU<|aq<|aq<|aU<|aq<| ?_
   exact bc trivial rfl rfl [] rfl [] rfl ⟨rfl,rfl,rfl⟩
  ·refine a8 (fun w m=>m.ew 1 rfl (View.take (k:=k2) (by omega))) ?_
   refine aQ (fun m=>ek (m.rd 0 rfl)) ?_
   rintro⟨hl_rt,hA_rt⟩
   refine aB<|aa<|ae<|aM<|ae<|ah<|au rfl<|hy (fun _=>ax rfl eW (by decide))<|hy (fun m=>ak rfl cY (ar (m.aN 0 rfl) (i:=2) (show q.p.cs[2]? =some (Value.int .i64 (q.m:Nat))from rfl)))<|hy (fun _=>yF (cD rfl rfl) ((decide_eq_false (by omega))))<|au rfl<|bQ (o:=_) rfl rfl rfl (fun _=>ai rfl)<|bQ (o:=_) rfl rfl rfl (fun _=>ai rfl)<|bQ (o:=_) rfl rfl rfl (fun _=>ai rfl)<|bQ (o:=_) rfl rfl rfl (fun _=>mT rfl rfl Tryz.underlying27 dJ rfl (by omega))<| ?_
   refine G6 (o:=_) rfl rfl rfl (an rfl Tryz.call201 (xa hw (by rw[List.length_take];omega) (by omega)) [] rfl [1,0] rfl ?_)
   rintro _ _ _ ⟨rfl,rfl,rfl⟩
   refine bQ (o:=_) rfl rfl rfl (fun _=>ai rfl)<| ?_
   refine bQ (o:=_) rfl rfl rfl (fun m=>vu hm0 rfl rfl) ?_
   refine bQ (o:=_) rfl rfl rfl (fun _=>cD rfl rfl)<|hy (fun _=>bn rfl rfl)<|ag<|az [34,18,8,7,5,0,1,2] rfl<|aY rfl rfl<|aa<| ?_
   refine cu rfl (fun hz=> ?_) (fun hz=> ?_)
   ·have hz2:eh w (l.take k2) % UInt32.ofNat (jL q.b)=0:=UInt32.toNat_inj.1 (by show _=0;have:=hz;omega)
    rw[if_pos (.inr hz2)]at hf
    rw[←hf]
    refine ae<|ah<|au rfl<|aG rfl<|ag<|az [6,34,18,8,7,5,0,1,2] rfl<|aa<|aR<|aU<|aq<|aq<|aU<|aq<| ?_
    exact bc trivial rfl rfl [] rfl [] rfl ⟨rfl,rfl,rfl⟩
   ·have hz2:¬oy w l q k2:=fun h=>h.elim h1 (fun h=>hz (by rw[h];rfl))
    rw[if_neg hz2]at hf
    refine aB<|aW<|aa<|ah<|au rfl<|hy (fun _=>aO rfl rfl (bE (by omega) (by omega)))<|aG rfl<|ag<|az [8,34,18,7,5,0,1,2] rfl<| ?_
    refine hC (k2+1) f ⟨rfl,rfl,rfl,rfl,rfl,rfl,trivial⟩ [0] rfl [1,2] rfl (⟨hf,by omega⟩) (by omega)
 ·have hf:l.length=ig w l q:=by
   rw[←hf]
   cases f with
   |zero=>rfl
   |succ f=>rw[eT,if_neg (by omega)]
  rw[hl]at hf
  rw[←hf]
  refine bH<|al<|al<|aD<|aa<|ae<|ah<|au rfl<|hy (fun _=>a6 rfl Tryz.underlying27)<|aG rfl<|ag<|az [6,18,8,7,5,0,1,2] rfl<|aa<|aR<| ?_
  exact bc trivial rfl rfl [] rfl [] rfl ⟨rfl,rfl,rfl⟩
end Go.Proofs.YtmibdabdlgmafaaGreatDoor
end
section
set_option maxRecDepth 20000
set_option maxHeartbeats 2000000
namespace Go.Proofs.YtmibdabdlgmafaaGreatDoor
open Go.Eng Go.Hx
def jd(w:List UInt32)(q:Pn):Nat→List UInt8→List (List UInt8)
 |0,_=>[]
 |f+1,b=>if b=[]then []else b.take (ig w b q)::jd w q f (b.drop (ig w b q))
def eJ(b:List UInt8)(q:Pn):List (List UInt8):=jd bu q b.length b
theorem s8{w:List UInt32}{q:Pn}:∀{f:Nat},jd w q f []=[]
 |0=>rfl
 |f+1=>by rw[jd,if_pos rfl]
theorem View.Aw:View (fB []) (dI []):=.of (fun w h r hr=>absurd hr List.not_mem_nil) (fun k hk=>by obtain⟨r,hr,_⟩:=hk;exact absurd hr List.not_mem_nil)
theorem View.kB{rs:List bh}{r:bh}(hc:r.n≤r.c):View (fB [dI rs,cz 1 r.A r.n (aT r.l)]) (dI (rs++[r])):=.of (fun w h x hx=>by
  rcases List.mem_append.1 hx with hx|hx
  ·exact h (dI rs) (List.mem_cons_self ..) x hx
  ·rw[List.mem_singleton.1 hx];exact⟨h (cz 1 r.A r.n (aT r.l)) (List.mem_cons_of_mem _ (List.mem_cons_self ..)),hc⟩) (fun k hk=>by
  obtain⟨x,hx,hf⟩:=hk
  rcases List.mem_append.1 hx with hx|hx
  ·exact⟨dI rs,List.mem_cons_self ..,x,hx,hf⟩
  ·rw[List.mem_singleton.1 hx]at hf;exact⟨cz 1 r.A r.n (aT r.l),List.mem_cons_of_mem _ (List.mem_cons_self ..),hf⟩)
def lf(rs:List bh):List Value:=rs.map bh.val
theorem oP{rs:List bh}:∀u∈lf rs,u.oneCell' =true:=by
 intro u hu
 obtain⟨r,_,rfl⟩:=List.mem_map.1 hu
 rfl
theorem jI(a b:List bh):lf (a++b)=lf a++lf b:=by simp[lf]
theorem pL{B:Option Addr}{n k:Nat}{l:List UInt8}{q:Pn}(hq:q.ok)(hl:l.length=n)(hn:n≤1000000)(hk:n≤k):cf Tryz.prog 50 [.slice B n k,.agg q.p.cs.toArray] [] [cz 1 B n (aT l)] (fun v_ X_ S_=>∃A1 c1 rs,v_=(.slice A1 (List.length rs) c1)∧X_=[aI 27 1 (.slice A1 (List.length rs) c1) (List.length rs) (lf rs)]∧S_=[dI rs]∧(rs.map bh.l=eJ l q∧∀r∈rs,r.n=r.l.length)):=by
 refine aK (N:=26) Tryz.func50 rfl rfl (by simp) fun b=> ?_
 refine aQ (fun m=>ek (m.rd 0 rfl)) ?_
 rintro⟨hl_rb,hA_rb⟩
 refine ae<|ah<| ?_
 refine hx (br rfl (fun g3=> ?_))
 refine aH (fun w m=>m.bw 0 rfl (show _=aE g3 75 q.p.cs from congrArg (aE _ _) (aV _))) ?_
 refine aG rfl<|ag<|aY rfl rfl<|aa<|ae<|ah<| ?_
 refine hx (an rfl Tryz.call136 (B3) [] rfl [] rfl ?_)
 rintro _ _ _ ⟨A,c,rfl,rfl,rfl⟩
 refine aH (fun w m=>(m.perm (ao [0] _ [_] _ rfl)).freeze) ?_
 refine aH (fun w m=>m.ew 0 rfl .own) ?_
 refine aC (fun m=>eU (m.rd 0 rfl)) ?_
 rintro⟨hl_or,hA_or⟩
 refine aH (fun w m=>m.cL (r' :=aI 27 1 (.slice none 0 0) 0 []) (.refl _ _) (Own.nil _ _ _ _) (fun k hk=>hk.elim)) ?_
 refine aH (S' :=fB []::_) (fun w m=>m.nA [] rfl) ?_
 refine aH (fun w m=>m.ew 0 rfl View.Aw) ?_
 refine aG rfl<|ag<|az [5,4,3,0,1] rfl<|aY rfl rfl<|aa<|ae<|ah<|aG rfl<|ag<|aa<|ae<|aM<| ?_
 refine ry (fun s f rs A1 c1=>f) (fun s f rs A1 c1=>[(0,.slice (bh.A s) (bh.n s) (bh.c s)),(6,.slice A1 (List.length rs) c1)]) (fun s f rs A1 c1=>[aI 27 1 (.slice A1 (List.length rs) c1) (List.length rs) (lf rs)]) (fun s f rs A1 c1=>[cz 1 (bh.A s) (bh.n s) (aT (bh.l s)),dI rs]) (fun s f rs A1 c1=>bh.n s=(bh.l s).length∧bh.n s≤bh.c s∧bh.n s≤f∧rs.map bh.l++jd bu q f (bh.l s)=eJ l q∧(∀r∈rs,r.n=r.l.length)∧List.length rs+bh.n s≤n) ⟨B,n,k,l⟩ n [] none 0 [(5,_),(4,_),(3,_),(1,_)] ⟨rfl,rfl,rfl,rfl,trivial⟩ [0] rfl [4,0] rfl (⟨hl.symm,hk,Nat.le_refl _,by rw[←hl];rfl,fun r h=>absurd h List.not_mem_nil,by simp⟩) ⟨rfl,rfl,trivial⟩ (fun s f rs A1 c1 ⟨hsl,hsc,hsf,vq,hrs,hrn⟩=> ?_)
 refine ae<|ae<|ah<|au rfl<|hy (fun _=>a6 rfl Tryz.underlying27)<|hy (fun _=>cw rfl rfl)<|ag<|az [11,0,6,5,4,3,1] rfl<|aa<| ?_
 refine cu rfl (fun h0=> ?_) (fun h0=> ?_)
 ·have hpos:1≤(bh.l s).length:=by omega
  obtain⟨f,rfl⟩:∃f',f=f' +1:=⟨f-1,by omega⟩
  rw[jd,if_neg (fun e=>by rw[e]at hpos;exact absurd hpos (by decide))]at vq
  have k1:=jR (w:=bu) hq hpos
  have k2:=qp bu (bh.l s) q
  obtain⟨kf,hkf⟩:∃kf,kf=ig bu (bh.l s) q:=⟨_,rfl⟩
  refine aB<|aa<|aM<|ae<|ah<|au rfl<|au rfl<|hy (fun m=>yV (aP rfl gK gg rfl ((m.aN 1 rfl).aw)) ((rfl:_=Value.agg q.p.cs.toArray)))<| ?_
  refine hx (an rfl Tryz.call137 (Dy hq bs hsl.symm (by omega) hsc) [] rfl [4,0] rfl ?_)
  rintro _ _ _ ⟨rfl,rfl,rfl⟩
  rw[←hkf]at vq k1 k2
  rw[←hkf]
  refine aH (fun w m=>m.ew 0 rfl (View.take (k:=kf) (by omega))) ?_
  refine aC (fun m=>ek (m.rd 0 rfl)) ?_
  rintro⟨hl_rt,hA_rt⟩
  refine aH (fun w m=>m.ew 1 rfl (View.drop (k:=kf) hsc (by omega))) ?_
  refine aC (fun m=>ek (m.rd 0 rfl)) ?_
  rintro⟨hl_rd,hA_rd⟩
  obtain⟨r,hr⟩:∃r:bh,r=⟨bh.A s,kf,bh.c s,(bh.l s).take kf⟩:=⟨_,rfl⟩
  refine aH (S' :=fB [dI rs,cz 1 (bh.A s) kf (aT ((bh.l s).take kf))]::_) (fun w m=>m.nA [3,1] rfl) ?_
  refine aH (fun w m=>m.ew 0 rfl (View.kB (rs:=rs) (r:=⟨bh.A s,kf,bh.c s,(bh.l s).take kf⟩) (by show kf≤bh.c s;omega))) ?_
  rw[←hr]
  refine aG rfl<|ag<|az [7,11,0,6,5,4,3,1] rfl<|aY rfl rfl<|aa<|ae<|ah<|au rfl<|au rfl<|au rfl<|hy (fun _=>mT rfl rfl Tryz.underlying27 dJ rfl (by omega))<| ?_
  refine hx (b5 Tryz.underlying84 ku rfl rfl rfl (by simp[Value.cells,B8]) (by decide) (by decide) (fun g20=> ?_))
  have hA_b20:0<1→(some (⟨g20,0,none⟩:Addr))≠none:=fun _ h=>by cases h
  have hlr:(rs++[r]).length=rs.length+1:=by simp
  have hcut2:(rs++[r]).map bh.l++jd bu q f ((bh.l s).drop kf)=eJ l q:=by rw[←vq,List.map_append,hr];simp
  have hrs2:∀x∈rs++[r],bh.n x=(bh.l x).length:=fun x hx=>by
   rcases List.mem_append.1 hx with hx|hx
   ·exact hrs x hx
   ·rw[List.mem_singleton.1 hx,hr]
    show kf=((bh.l s).take kf).length
    rw[List.length_take]
    omega
  refine aH (fun w m=>m.bw 0 rfl (show _=aI 27 1 (.slice (some ⟨g20,0,none⟩) 1 1) 1 (lf [r])from(by rw[hr];rfl))) ?_
  refine hx (bC 1 rfl rfl rfl Tryz.underlying84 Tryz.underlying84 (by exact .inl rfl) ku rfl (fun m=>Src.b9 (m.ord 0 rfl)) oP (by unfold maxLen;omega) (by omega) (fun u=> ?_))
  refine aC (fun m=>(m.own 0 rfl).slice) ?_
  rintro⟨A_z,c_z,rfl,hc_z⟩
  refine aC (fun m=>(m.ord 0 rfl).2.1) fun hA_z=> ?_
  refine aH (fun w m=>m.bw 0 rfl (show _=aI 27 1 (.slice A_z (List.length rs+1) c_z) (List.length rs+1) (lf (rs++[r]))from congrArg (aI _ _ _ _) (by rw[jI]))) ?_
  rw[←hlr]
  refine aG rfl<|ag<|az [6,7,11,0,5,4,3,1] rfl<|aY rfl rfl<|aa<|ah<|au rfl<|au rfl<|hy (fun _=>ef rfl rfl Tryz.underlying27 dJ rfl (by omega))<|aG rfl<|ag<|az [0,6,7,11,5,4,3,1] rfl<|aW<| ?_
  refine nJ ⟨(if bh.c s=kf then bh.A s else(bh.A s).map (·.add (kf*1))),bh.n s-kf,bh.c s-kf,(bh.l s).drop kf⟩ f (rs++[r]) A_z c_z ⟨rfl,rfl,rfl,rfl,rfl,rfl,trivial⟩ [0,1] rfl [2,0,6,7,8,9,10] rfl (⟨by show bh.n s-kf=_;rw[List.length_drop];omega,by show bh.n s-kf≤bh.c s-kf;omega,by show bh.n s-kf≤f;omega,hcut2,hrs2,by rw[hlr];show _+(bh.n s-kf)≤n;omega⟩) (by omega)
 ·have hnil:bh.l s=[]:=List.length_eq_zero_iff.1 (by omega)
  rw[hnil,s8,List.append_nil]at vq
  refine bH<|al<|al<|aD<|aa<|ae<|ah<|au rfl<|aG rfl<|ag<|az [4,11,0,6,5,3,1] rfl<|aa<|aR<| ?_
  exact bc trivial rfl rfl [0] rfl [1] rfl ⟨A1,c1,rs,rfl,rfl,rfl,⟨vq,hrs⟩⟩
end Go.Proofs.YtmibdabdlgmafaaGreatDoor
end
section
set_option maxRecDepth 20000
namespace Go.Proofs.YtmibdabdlgmafaaGreatDoor
open Go.Eng Go.Hx
theorem oW{p:Pm}:cf Tryz.prog 192 [.agg p.cs.toArray] [] [] (fun v_ X_ S_=>v_=(.bool (decide p.may))∧X_=[]∧S_=[]):=by
 refine aK (N:=25) Tryz.func192 rfl rfl (by simp) fun b=> ?_
 refine ae<|ah<| ?_
 refine hx (br rfl (fun g1=> ?_))
 refine aH (fun w m=>m.bw 0 rfl (show _=aE g1 75 p.cs from congrArg (aE _ _) (aV _))) ?_
 by_cases h0:p.mn≥1
 ·by_cases h1:p.av≥p.mn
  ·by_cases h2:p.mx≥p.av
   ·rw[show decide p.may=decide (p.mx≤4096)from decide_eq_decide.2 ⟨fun h=>by have:=h.2.2.2;omega,fun h=>⟨by omega,h1,h2,by omega⟩⟩]
    refine aG rfl<|ag<|aY rfl rfl<|aa<|ae<|ah<|hy (fun _=>ax rfl dT (by decide))<|hy (fun m=>ak rfl cY (ar (m.aN 0 rfl) (i:=0) rfl))<|hy (fun _=>yT (eO rfl rfl) ((decide_eq_true h0)))<|au rfl<|bQ (o:=_) rfl rfl rfl (fun _=>ax rfl gk (by decide))<|bQ (o:=_) rfl rfl rfl (fun m=>ak rfl cY (ar (m.aN 0 rfl) (i:=1) rfl))<|bQ (o:=_) rfl rfl rfl (fun _=>ax rfl dT (by decide))<|bQ (o:=_) rfl rfl rfl (fun m=>ak rfl cY (ar (m.aN 0 rfl) (i:=0) rfl))<|bQ (o:=_) rfl rfl rfl (fun _=>yT (eO rfl rfl) ((decide_eq_true h1)))<|hy (fun _=>bz rfl rfl)<|au rfl<|bQ (o:=_) rfl rfl rfl (fun _=>ax rfl eW (by decide))<|bQ (o:=_) rfl rfl rfl (fun m=>ak rfl cY (ar (m.aN 0 rfl) (i:=2) rfl))<|bQ (o:=_) rfl rfl rfl (fun _=>ax rfl gk (by decide))<|bQ (o:=_) rfl rfl rfl (fun m=>ak rfl cY (ar (m.aN 0 rfl) (i:=1) rfl))<|bQ (o:=_) rfl rfl rfl (fun _=>yT (eO rfl rfl) ((decide_eq_true h2)))<|hy (fun _=>bz rfl rfl)<|au rfl<|bQ (o:=_) rfl rfl rfl (fun _=>ax rfl eW (by decide))<|bQ (o:=_) rfl rfl rfl (fun m=>ak rfl cY (ar (m.aN 0 rfl) (i:=2) rfl))<|bQ (o:=_) rfl rfl rfl (fun _=>jo rfl rfl)<|hy (fun _=>bz rfl rfl)<|aG rfl<|ag<|az [2,1,0] rfl<|aa<|aR<| ?_
    exact bc trivial rfl rfl [] rfl [] rfl ⟨rfl,rfl,rfl⟩
   ·rw[decide_eq_false (show¬p.may from fun h=>h2 h.2.2.1)]
    refine aG rfl<|ag<|aa<|ae<|ah<|hy (fun _=>ax rfl dT (by decide))<|hy (fun m=>ak rfl cY (ar (m.aN 0 rfl) rfl))<|hy (fun _=>yT (eO rfl rfl) ((decide_eq_true h0)))<|au rfl<|bQ (o:=_) rfl rfl rfl (fun _=>ax rfl gk (by decide))<|bQ (o:=_) rfl rfl rfl (fun m=>ak rfl cY (ar (m.aN 0 rfl) rfl))<|bQ (o:=_) rfl rfl rfl (fun _=>ax rfl dT (by decide))<|bQ (o:=_) rfl rfl rfl (fun m=>ak rfl cY (ar (m.aN 0 rfl) rfl))<|bQ (o:=_) rfl rfl rfl (fun _=>yT (eO rfl rfl) ((decide_eq_true h1)))<|hy (fun _=>bz rfl rfl)<|au rfl<|bQ (o:=_) rfl rfl rfl (fun _=>ax rfl eW (by decide))<|bQ (o:=_) rfl rfl rfl (fun m=>ak rfl cY (ar (m.aN 0 rfl) rfl))<|bQ (o:=_) rfl rfl rfl (fun _=>ax rfl gk (by decide))<|bQ (o:=_) rfl rfl rfl (fun m=>ak rfl cY (ar (m.aN 0 rfl) rfl))<|bQ (o:=_) rfl rfl rfl (fun _=>yF (eO rfl rfl) ((decide_eq_false h2)))<|hy (fun _=>bz rfl rfl)<|au rfl<|aJ rfl rfl rfl (by decide)<|aJ rfl rfl rfl (by decide)<|aJ rfl rfl rfl (by decide)<|hy (fun _=>bn rfl rfl)<|aG rfl<|ag<|az [2,1,0] rfl<|aa<|aR<| ?_
    exact bc trivial rfl rfl [] rfl [] rfl ⟨rfl,rfl,rfl⟩
  ·rw[decide_eq_false (show¬p.may from fun h=>h1 h.2.1)]
   refine aG rfl<|ag<|aa<|ae<|ah<|hy (fun _=>ax rfl dT (by decide))<|hy (fun m=>ak rfl cY (ar (m.aN 0 rfl) rfl))<|hy (fun _=>yT (eO rfl rfl) ((decide_eq_true h0)))<|au rfl<|bQ (o:=_) rfl rfl rfl (fun _=>ax rfl gk (by decide))<|bQ (o:=_) rfl rfl rfl (fun m=>ak rfl cY (ar (m.aN 0 rfl) rfl))<|bQ (o:=_) rfl rfl rfl (fun _=>ax rfl dT (by decide))<|bQ (o:=_) rfl rfl rfl (fun m=>ak rfl cY (ar (m.aN 0 rfl) rfl))<|bQ (o:=_) rfl rfl rfl (fun _=>yF (eO rfl rfl) ((decide_eq_false h1)))<|hy (fun _=>bz rfl rfl)<|au rfl<|aJ rfl rfl rfl (by decide)<|aJ rfl rfl rfl (by decide)<|aJ rfl rfl rfl (by decide)<|aJ rfl rfl rfl (by decide)<|aJ rfl rfl rfl (by decide)<|hy (fun _=>bn rfl rfl)<|au rfl<|aJ rfl rfl rfl (by decide)<|aJ rfl rfl rfl (by decide)<|aJ rfl rfl rfl (by decide)<|hy (fun _=>bn rfl rfl)<|aG rfl<|ag<|az [2,1,0] rfl<|aa<|aR<| ?_
   exact bc trivial rfl rfl [] rfl [] rfl ⟨rfl,rfl,rfl⟩
 ·rw[decide_eq_false (show¬p.may from fun h=>h0 (by have:=h.1;omega))]
  refine aG rfl<|ag<|aa<|ae<|ah<|hy (fun _=>ax rfl dT (by decide))<|hy (fun m=>ak rfl cY (ar (m.aN 0 rfl) rfl))<|hy (fun _=>yF (eO rfl rfl) ((decide_eq_false h0)))<|au rfl<|aJ rfl rfl rfl (by decide)<|aJ rfl rfl rfl (by decide)<|aJ rfl rfl rfl (by decide)<|aJ rfl rfl rfl (by decide)<|aJ rfl rfl rfl (by decide)<|hy (fun _=>bn rfl rfl)<|au rfl<|aJ rfl rfl rfl (by decide)<|aJ rfl rfl rfl (by decide)<|aJ rfl rfl rfl (by decide)<|aJ rfl rfl rfl (by decide)<|aJ rfl rfl rfl (by decide)<|hy (fun _=>bn rfl rfl)<|au rfl<|aJ rfl rfl rfl (by decide)<|aJ rfl rfl rfl (by decide)<|aJ rfl rfl rfl (by decide)<|hy (fun _=>bn rfl rfl)<|aG rfl<|ag<|az [2,1,0] rfl<|aa<|aR<| ?_
  exact bc trivial rfl rfl [] rfl [] rfl ⟨rfl,rfl,rfl⟩
theorem Pn.ok.may{q:Pn}(h:q.ok):q.p.may:=by
 have h1:=h.h1;have h2:=h.h2;have h3:=h.h3;have h4:=h.h4
 unfold Pm.may Pn.p
 simp only
 omega
def len8:List UInt8:=(List.range 256).map fun n=>if n=0 then 0 else UInt8.ofNat (Nat.log2 n+1)
theorem len8_get{n:Nat}(h1:1≤n)(hn:n<256):len8[n]? =some (UInt8.ofNat (Nat.log2 n+1)):=by
 unfold len8
 rw[List.getElem?_map,List.getElem?_range hn,Option.map_some,if_neg (by omega)]
theorem tr{n:Nat}(hn:n<256):Nat.log2 n<8:=by
 by_cases h:n=0
 ·subst h;decide
 ·exact(Nat.log2_lt h).2 (by omega)
theorem uU{n:Nat}(h:256≤n):Nat.log2 n=8+Nat.log2 (n/256):=by
 have h0:n/256≠0:=by omega
 have h1:2 ^ Nat.log2 (n/256)≤n/256:=Nat.log2_self_le h0
 have h2:n/256<2 ^ (Nat.log2 (n/256)+1):=(Nat.log2_lt h0).1 (Nat.lt_succ_self _)
 generalize Nat.log2 (n/256)=k at h1 h2 ⊢
 have h3:8+k≤Nat.log2 n:=(Nat.le_log2 (by omega)).2 (by rw[Nat.pow_add];show 256*2 ^ k≤n;omega)
 have h4:Nat.log2 n<8+(k+1):=(Nat.log2_lt (by omega)).2 (by rw[Nat.pow_add];show n<256*2 ^ (k+1);omega)
 omega
theorem yt{n:Nat}(h:n<18446744073709551616):IntKind.u64.wrap (n:Int)=(n:Int):=by
 simp[IntKind.wrap,IntKind.signed,IntKind.bits]
 omega
theorem wH{n:Nat}(h:n<256):IntKind.u8.wrap (n:Int)=(n:Int):=by
 simp[IntKind.wrap,IntKind.signed,IntKind.bits]
 omega
theorem qO{d:Array UInt8}{n:Nat}(hd:d.toList=len8)(h1:1≤n)(hn:n<256):d[n]? =some (UInt8.ofNat (Nat.log2 n+1)):=by
 rw[←Array.getElem?_toList,hd];exact len8_get h1 hn
theorem qY{k:Nat}(hk:k<8):IntKind.i64.wrap (((UInt8.ofNat (k+1)).toNat:Nat):Int)=((k+1:Nat):Int):=by
 have:(UInt8.ofNat (k+1)).toNat=k+1:=by rw[UInt8.toNat_ofNat',Nat.mod_eq_of_lt (by omega)]
 rw[this]
 exact bE (by omega) (by omega)
theorem z6{n:Nat}(h1:1≤n)(hn:n<65536):cf Tryz.prog 255 [.int .u64 (n:Int)] [] [] (fun v_ X_ S_=>v_=(.int .i64 ((Nat.log2 n+1:Nat):Int))∧X_=[]∧S_=[]):=by
 refine aK (N:=25) Tryz.func255 rfl rfl (by simp) fun b=> ?_
 refine ae<|ah<|aG rfl<|ag<|aa<|ae<|ae<|ah<|au rfl<|hy (fun _=>eO rfl rfl)<|ag<|az [4,2,0] rfl<|aa<| ?_
 refine dm rfl ((decide_eq_false (by omega))) ?_
 refine aB<|aa<|ae<|ae<|ah<|au rfl<|hy (fun _=>eO rfl rfl)<|ag<|az [8,4,2,0] rfl<|aa<| ?_
 refine dm rfl ((decide_eq_false (by omega))) ?_
 refine aB<|aa<|ae<|ae<|ah<|au rfl<|hy (fun _=>eO rfl rfl)<|ag<|az [14,8,4,2,0] rfl<|aa<| ?_
 refine cu rfl (fun h8=> ?_) (fun h8=> ?_)
 ·have hn8:n/256<256:=by omega
  have hk:=tr hn8
  have hs:=uU (n:=n) (by omega)
  refine ae<|ah<|au rfl<|hy (fun _=>yV (mE (p:=256) rfl rfl (by decide) (by decide) (by decide)) ((show Value.int .u64 ((n:Int)/256)= .int .u64 ((n/256:Nat):Int)from rfl)))<|aG rfl<|ag<|az [0,14,8,4,2] rfl<|aa<|ah<|au rfl<|hy (fun _=>aO rfl rfl (bE (by omega) (by omega)))<|aG rfl<|ag<|az [2,0,14,8,4] rfl<|aa<|ae<|ah<|au rfl<|au rfl<|hy (fun _=>b8 rfl Tryz.underlying310 Tryz.underlying5 (wH hn8))<|hy (fun _=>jl rfl rfl Tryz.underlying9 rfl (qO (by kernel_rfl) (by omega) hn8))<|hy (fun _=>b8 rfl Tryz.underlying5 Tryz.underlying3 (qY hk))<|hy (fun _=>yV (aO rfl rfl (bE (by omega) (by omega))) ((show Value.int .i64 (0+8+((Nat.log2 (n/256)+1:Nat):Int))= .int .i64 ((Nat.log2 n+1:Nat):Int) by rw[hs];exact congrArg (Value.int .i64) (by omega))))<|aG rfl<|ag<|az [2,0,14,8,4] rfl<|aa<|aR<| ?_
  exact bc trivial rfl rfl [] rfl [] rfl ⟨rfl,rfl,rfl⟩
 ·have hn8:n<256:=by omega
  have hk:=tr hn8
  refine aB<|aa<|ae<|ah<|au rfl<|au rfl<|hy (fun _=>b8 rfl Tryz.underlying310 Tryz.underlying5 (wH hn8))<|hy (fun _=>jl rfl rfl Tryz.underlying9 rfl (qO (by kernel_rfl) h1 hn8))<|hy (fun _=>b8 rfl Tryz.underlying5 Tryz.underlying3 (qY hk))<|hy (fun _=>yV (aO rfl rfl (bE (by omega) (by omega))) ((show Value.int .i64 (0+((Nat.log2 n+1:Nat):Int))= .int .i64 ((Nat.log2 n+1:Nat):Int)from congrArg (Value.int .i64) (by omega))))<|aG rfl<|ag<|az [2,14,8,4,0] rfl<|aa<|aR<| ?_
  exact bc trivial rfl rfl [] rfl [] rfl ⟨rfl,rfl,rfl⟩
theorem Du{n:Nat}(h1:1≤n)(hn:n<65536):cf Tryz.prog 207 [.int .u64 (n:Int)] [] [] (fun v_ X_ S_=>v_=(.int .i64 ((Nat.log2 n+1:Nat):Int))∧X_=[]∧S_=[]):=by
 refine aK (N:=8) Tryz.func207 rfl rfl (by simp) fun b=> ?_
 refine ae<|ah<|aG rfl<|ag<|aa<|ae<| ?_
 refine dm rfl (rfl) ?_
 refine aB<|aa<|ae<|ah<|au rfl<| ?_
 refine hx (an rfl Tryz.call255 (z6 h1 hn (n:=n)) [] rfl [] rfl ?_)
 rintro _ _ _ ⟨rfl,rfl,rfl⟩
 refine aG rfl<|ag<|az [2,0] rfl<|aY rfl rfl<|aa<|aR<| ?_
 exact bc trivial rfl rfl [] rfl [] rfl ⟨rfl,rfl,rfl⟩
theorem Eb{P:Program}{N:Nat}{D:List Deferred}{ρ:Env}{w:World}{x y:Operand}{ty t t' :TypeId}{a b:UInt32}(hx:ev ρ x=some (Wd a))(hy:ev ρ y=some (Wd b)):Yl P N D ρ w (.binOp .sub t x y t') ty (Wd (a-b)):=ct hx hy (by
 have ha:=a.toNat_lt
 have hb:=b.toNat_lt
 rw[UInt32.toNat_sub]
 simp[IntKind.wrap,IntKind.signed,IntKind.bits]
 omega)
def nT(q:Pn):UInt32:=UInt32.ofNat (jL q.b)-1
theorem zY{q:Pn}(hq:q.ok)(x:UInt32):x &&& nT q=0↔x % UInt32.ofNat (jL q.b)=0:=by
 have h1:=hq.h1;have h2:=hq.h2;have h3:=hq.h3;have h4:=hq.h4
 have hp:jL q.b≤q.b:=Nat.log2_self_le (by omega)
 have hp0:=sJ q.b
 have e1:(UInt32.ofNat (jL q.b)).toNat=jL q.b:=by rw[UInt32.toNat_ofNat',Nat.mod_eq_of_lt (by omega)]
 have e2:(nT q).toNat=jL q.b-1:=by
  unfold nT
  rw[UInt32.toNat_sub,e1]
  show(4294967296-1+jL q.b) % 4294967296=_
  omega
 rw[←UInt32.toNat_inj,←UInt32.toNat_inj,UInt32.toNat_and,UInt32.toNat_mod,e1,e2]
 unfold jL
 rw[Nat.and_two_pow_sub_one_eq_mod]
theorem FZ{q:Pn}(hq:q.ok):cf Tryz.prog 302 [.agg q.p.cs.toArray] [] [] (fun v_ X_ S_=>v_=(Wd (nT q))∧X_=[]∧S_=[]):=by
 have h1:=hq.h1
 have h2:=hq.h2
 have h3:=hq.h3
 have h4:=hq.h4
 have hl12:Nat.log2 q.b<32:=(Nat.log2_lt (by omega)).2 (by omega)
 refine aK (N:=13) Tryz.func302 rfl rfl (by simp) fun b=> ?_
 refine ae<|ah<| ?_
 refine hx (br rfl (fun g1=> ?_))
 refine aH (fun w m=>m.bw 0 rfl (show _=aE g1 75 q.p.cs from congrArg (aE _ _) (aV _))) ?_
 refine aG rfl<|ag<|aY rfl rfl<|aa<|ae<|ae<|ah<|hy (fun m=>yV (aP rfl gK gg rfl ((m.aN 0 rfl).aw)) ((rfl:_=Value.agg q.p.cs.toArray)))<| ?_
 refine hx (an rfl Tryz.call192 (oW (p:=q.p)) [] rfl [] rfl ?_)
 rintro _ _ _ ⟨rfl,rfl,rfl⟩
 refine hy (fun _=>eu rfl)<|ag<|az [5,2,1,0] rfl<|aY rfl rfl<|aa<| ?_
 refine dm rfl ((decide_eq_false (fun h=>h hq.may))) ?_
 refine aB<|aa<|ae<|ah<|hy (fun _=>ax rfl gk (by decide))<|hy (fun m=>ak rfl cY (ar (m.aN 0 rfl) (i:=1) (show q.p.cs[1]? =some (Value.int .i64 (q.b:Nat))from rfl)))<|hy (fun _=>b8 rfl Tryz.underlying3 Tryz.underlying263 (yt (by omega)))<| ?_
 refine hx (an rfl Tryz.call207 (Du (by omega) (by omega) (n:=q.b)) [] rfl [] rfl ?_)
 rintro _ _ _ ⟨rfl,rfl,rfl⟩
 refine hy (fun _=>yV (ct rfl rfl (bE (by omega) (by omega))) ((show Value.int .i64 (((Nat.log2 q.b+1:Nat):Int)-1)= .int .i64 ((Nat.log2 q.b:Nat):Int)from congrArg (Value.int .i64) (by omega))))<|hy (fun _=>(su (a:=1) (k:=Nat.log2 q.b) hl12 rfl rfl))<|hy (fun _=>yV ((Eb (b:=1) rfl rfl)) ((show Wd (UInt32.ofNat ((1:UInt32).toNat*2 ^ Nat.log2 q.b)-1)=Wd (nT q) by unfold nT jL;rw[show(1:UInt32).toNat=1 from rfl,Nat.one_mul])))<|aG rfl<|ag<|az [2,5,1,0] rfl<|aY rfl rfl<|aa<|aR<| ?_
 exact bc trivial rfl rfl [] rfl [] rfl ⟨rfl,rfl,rfl⟩
def AY(q:Pn)(gr:Nat)(A:Option Addr)(n c:Nat):List Value:=[.int .i64 (q.a:Int),.int .i64 (q.b:Int),.int .i64 (q.m:Int),Wd (nT q),.pointer (some ⟨gr,0,none⟩),.slice A n c]
theorem GO{q:Pn}(hq:q.ok):cf Tryz.prog 283 [.agg q.p.cs.toArray] [] [] (fun v_ X_ S_=>∃gc gr,v_=(.tuple #[.pointer (some ⟨gc,0,none⟩),.int .i64 0])∧X_=[aE gc 389 (AY q gr none 0 0),km gr kE []]∧S_=[]):=by
 refine aK (N:=13) Tryz.func283 rfl rfl (by simp) fun b=> ?_
 refine ae<|ah<| ?_
 refine hx (br rfl (fun g1=> ?_))
 refine aH (fun w m=>m.bw 0 rfl (show _=aE g1 75 q.p.cs from congrArg (aE _ _) (aV _))) ?_
 refine aG rfl<|aG rfl<|ag<|aY rfl rfl<|aa<|ae<|ae<|ah<|hy (fun m=>yV (aP rfl gK gg rfl ((m.aN 0 rfl).aw)) ((rfl:_=Value.agg q.p.cs.toArray)))<| ?_
 refine hx (an rfl Tryz.call192 (oW (p:=q.p)) [] rfl [] rfl ?_)
 rintro _ _ _ ⟨rfl,rfl,rfl⟩
 refine hy (fun _=>eu rfl)<|ag<|az [6,3,2,1,0] rfl<|aY rfl rfl<|aa<| ?_
 refine dm rfl ((decide_eq_false (fun h=>h hq.may))) ?_
 refine aB<|aa<|ae<|cA [2,3,5] [(0,some 2),(1,some 0),(2,none),(3,none),(4,some 2),(5,none),(6,some 3),(7,some 3)] (by kernel_rfl) (by kernel_rfl) rfl 99<|bV (fun m=>yV (aP rfl gK gg rfl ((m.aN 0 rfl).aw)) ((rfl:_=Value.agg q.p.cs.toArray)))<|bV (fun m=>yV (aP rfl gK gg rfl ((m.aN 0 rfl).aw)) ((rfl:_=Value.agg q.p.cs.toArray)))<| ?_
 refine dk (an rfl Tryz.call302 (FZ hq (q:=q)) [] rfl [] rfl ?_)
 rintro _ _ _ ⟨rfl,rfl,rfl⟩
 refine⟨(fun _=>wk [0] [] rfl rfl), ?_⟩
 refine dk (an rfl Tryz.call303 (xy) [] rfl [] rfl ?_)
 rintro _ _ _ ⟨g,rfl,rfl,rfl⟩
 refine⟨(fun _=>wk [1] [] rfl rfl), ?_⟩
 refine aj (yV (b6 Fp rfl rfl (by kernel_rfl) (.cons (o:=0) (sz:=3) (by kernel_rfl) rfl rfl (Nat.le_of_ble_eq_true rfl) (.cons (o:=3) (sz:=1) (by kernel_rfl) rfl rfl (Nat.le_of_ble_eq_true rfl) (.cons (o:=4) (sz:=1) (by kernel_rfl) rfl rfl (Nat.le_of_ble_eq_true rfl) .nil)))) ((rfl:_=Value.agg (AY q g none 0 0).toArray)))<| ?_
 refine dk (br rfl (fun g12=>⟨(fun _=>wk [2] [] rfl rfl), ?_⟩))
 refine aj (ay rfl)<|aj (ay rfl)<|bp<|az [3,2,6,1,0] rfl<|aY rfl rfl<|aa<|aR<| ?_
 refine bd (fun w m=>m.bw 0 rfl (show _=aE g12 389 (AY q g none 0 0)from congrArg (aE _ _) (aV _))) ?_
 exact cQ trivial rfl rfl rfl [0,0] rfl [] rfl ⟨g12,g,rfl,rfl,rfl⟩
end Go.Proofs.YtmibdabdlgmafaaGreatDoor
end
section
namespace Go.Proofs.YtmibdabdlgmafaaGreatDoor
open Go.Eng Go.Hx
def fy(q:Pn)(cur:List UInt8):Prop:=cur.length=q.m∨(q.a≤cur.length∧eh bu cur &&& nT q=0)
instance(q:Pn)(cur:List UInt8):Decidable (fy q cur):=by unfold fy;infer_instance
def dS(q:Pn)(st:List (List UInt8)×List UInt8)(x:UInt8):List (List UInt8)×List UInt8:=if fy q (st.2++[x])then(st.1++[st.2++[x]],[])else(st.1,st.2++[x])
def iP(q:Pn)(l:List UInt8):List (List UInt8)×List UInt8:=l.foldl (dS q) ([],[])
theorem uN(q:Pn)(l:List UInt8)(x:UInt8):iP q (l++[x])=dS q (iP q l) x:=by simp[iP]
theorem eK{l:List UInt8}{i:Nat}(h:i<l.length):l.take (i+1)=l.take i++[l.getD i 0]:=by
 rw[List.take_add_one,List.getD,List.getElem?_eq_getElem h];rfl
theorem nQ{w:List UInt32}{b:List UInt8}{q:Pn}:∀(f k:Nat),b.length<k+f→(∀j,k≤j→j<eT w b q k f→¬oy w b q j)∧(eT w b q k f<b.length→oy w b q (eT w b q k f)∧k≤eT w b q k f)
 |0,k,h=>by
  rw[eT]
  exact⟨fun j h1 h2=>by omega,fun h1=>absurd h1 (Nat.lt_irrefl _)⟩
 |f+1,k,h=>by
  rw[eT]
  split
  ·split
   ·next h1 h2=>exact⟨fun j h3 h4=>by omega,fun _=>⟨h2,Nat.le_refl _⟩⟩
   ·next h1 h2=>
    obtain⟨h3,h4⟩:=nQ (w:=w) (b:=b) (q:=q) f (k+1) (by omega)
    refine⟨fun j h5 h6=> ?_,fun h5=>⟨(h4 h5).1,by have:=(h4 h5).2;omega⟩⟩
    by_cases e:j=k
    ·rw[e];exact h2
    ·exact h3 j (by omega) h6
  ·exact⟨fun j h1 h2=>by omega,fun h1=>absurd h1 (Nat.lt_irrefl _)⟩
theorem o9{q:Pn}(hq:q.ok){b:List UInt8}{k:Nat}(hk:k≤b.length)(ha:q.a≤k):fy q (b.take k)↔oy bu b q k:=by
 unfold fy oy
 rw[List.length_take,Nat.min_eq_left hk,zY hq]
 exact⟨fun h=>h.imp id (fun h=>h.2),fun h=>h.imp id (fun h=>⟨ha,h⟩)⟩
theorem sa{q:Pn}(hq:q.ok){b:List UInt8}{k:Nat}(hk:k≤b.length)(ha:k<q.a):¬fy q (b.take k):=by
 have h2:=hq.h2;have h3:=hq.h3
 unfold fy
 rw[List.length_take,Nat.min_eq_left hk]
 rintro(h|h) <;> omega
theorem tG{q:Pn}{b:List UInt8}{outs:List (List UInt8)}:∀(j:Nat),j≤b.length→(∀i,1≤i→i≤j→¬fy q (b.take i))→(b.take j).foldl (dS q) (outs,[])=(outs,b.take j)
 |0,_,_=>by simp
 |j+1,hj,h=>by
  have ih:=tG (outs:=outs) j (by omega) (fun i h1 h2=>h i h1 (by omega))
  have hc:=h (j+1) (by omega) (Nat.le_refl _)
  rw[eK (by omega)]at hc ⊢
  rw[List.foldl_append,ih]
  show dS q (outs,b.take j) _=_
  unfold dS
  rw[if_neg hc]
def xS(st:List (List UInt8)×List UInt8):List (List UInt8):=st.1++(if st.2=[]then []else [st.2])
theorem qz{q:Pn}(hq:q.ok):∀(f:Nat) (b:List UInt8) (outs:List (List UInt8)),b.length≤f→xS (b.foldl (dS q) (outs,[]))=outs++jd bu q f b
 |0,b,outs,h=>by
  obtain rfl:b=[]:=List.eq_nil_of_length_eq_zero (by omega)
  simp[xS,jd]
 |f+1,b,outs,h=>by
  by_cases hb:b=[]
  ·subst hb
   simp[xS,jd]
  ·have hb1:1≤b.length:=by
    have:b.length≠0:=fun e=>hb (List.eq_nil_of_length_eq_zero e)
    omega
   rw[jd,if_neg hb]
   have k1:=jR (w:=bu) hq hb1
   have k2:=qp bu b q
   obtain⟨h3,h4⟩:=nQ (w:=bu) (b:=b) (q:=q) (b.length+1) q.a (by omega)
   have hK:eT bu b q q.a (b.length+1)=ig bu b q:=rfl
   rw[hK]at h3 h4
   generalize ig bu b q=K at k1 k2 h3 h4
   have hno:∀i,1≤i→i≤K-1→¬fy q (b.take i):=fun i h1 h2=>by
    by_cases ha:i<q.a
    ·exact sa hq (by omega) ha
    ·rw[o9 hq (by omega) (by omega)]
     exact h3 i (by omega) (by omega)
   have hrun:=tG (q:=q) (b:=b) (outs:=outs) (K-1) (by omega) hno
   have mz:(b.take K).foldl (dS q) (outs,[])=if fy q (b.take K)then(outs++[b.take K],[])else(outs,b.take K):=by
    have e:b.take K=b.take (K-1)++[b.getD (K-1) 0]:=by
     have:=eK (l:=b) (i:=K-1) (by omega)
     rwa [show K-1+1=K by omega]at this
    rw[e,List.foldl_append,hrun]
    rfl
   by_cases hlt:K<b.length
   ·obtain⟨h5,h6⟩:=h4 hlt
    rw[if_pos ((o9 hq (by omega) h6).2 h5)]at mz
    have ih:=qz hq f (b.drop K) (outs++[b.take K]) (by rw[List.length_drop];omega)
    have e:b.foldl (dS q) (outs,[])=(b.drop K).foldl (dS q) (outs++[b.take K],[]):=by
     have:b=b.take K++b.drop K:=(List.take_append_drop K b).symm
     rw[this,List.foldl_append,←this,mz]
    rw[e,ih,List.append_assoc]
    rfl
   ·have hKl:K=b.length:=by omega
    subst hKl
    rw[List.take_of_length_le (Nat.le_refl _)]at mz ⊢
    rw[List.drop_of_length_le (Nat.le_refl _),s8,mz]
    split
    ·simp[xS]
    ·simp[xS,hb]
theorem uL{q:Pn}(hq:q.ok)(l:List UInt8):xS (iP q l)=eJ l q:=by
 have:=qz hq l.length l [] (Nat.le_refl _)
 rwa [List.nil_append]at this
end Go.Proofs.YtmibdabdlgmafaaGreatDoor
end
section
namespace Go.Eng
open Go.RowKit
section
variable{P:Program}{Q:Exit→Act→World→Prop}{N:Nat}{D:List Deferred}{ρ:Env}{b:cg}{X Xr S:List bg}{c:Code}
theorem Ef{α β γ δ ε ζ η θ:Type}(μ:α→β→γ→δ→ε→ζ→η→θ→Nat)(R:α→β→γ→δ→ε→ζ→η→θ→Env)(X1 S1:α→β→γ→δ→ε→ζ→η→θ→List bg)(I:α→β→γ→δ→ε→ζ→η→θ→Prop)(a0:α)(b_0:β)(c_0:γ)(d_0:δ)(e_0:ε)(f_0:ζ)(g_0:η)(h_0:θ)(ρk:Env)(hk:eb ρk ρ)(is:List Nat)(hX:bN is X=some (X1 a0 b_0 c_0 d_0 e_0 f_0 g_0 h_0,Xr))(js:List Nat)(hS:dh js S=some (S1 a0 b_0 c_0 d_0 e_0 f_0 g_0 h_0))(hI:I a0 b_0 c_0 d_0 e_0 f_0 g_0 h_0)(hs:eb (R a0 b_0 c_0 d_0 e_0 f_0 g_0 h_0) ρ)
  (round:∀a b_ c_ d_ e_ f_ g_ h_,I a b_ c_ d_ e_ f_ g_ h_→HC P (Exit.then (fun a' w' =>∃x y z u v_ t_ s_ r_,Ag N D (R x y z u v_ t_ s_ r_++ρk) a' ∧Mem b (X1 x y z u v_ t_ s_ r_++Xr) (S1 x y z u v_ t_ s_ r_++S) w' ∧I x y z u v_ t_ s_ r_∧μ x y z u v_ t_ s_ r_<μ a b_ c_ d_ e_ f_ g_ h_) Q) N D c (R a b_ c_ d_ e_ f_ g_ h_++ρk) b (X1 a b_ c_ d_ e_ f_ g_ h_++Xr) (S1 a b_ c_ d_ e_ f_ g_ h_++S)):HC P Q N D (.loop c) ρ b X S:=
 od (ι:=α×β×γ×δ×ε×ζ×η×θ) (fun i=>μ i.1 i.2.1 i.2.2.1 i.2.2.2.1 i.2.2.2.2.1 i.2.2.2.2.2.1 i.2.2.2.2.2.2.1 i.2.2.2.2.2.2.2) (fun i=>R i.1 i.2.1 i.2.2.1 i.2.2.2.1 i.2.2.2.2.1 i.2.2.2.2.2.1 i.2.2.2.2.2.2.1 i.2.2.2.2.2.2.2) (fun i=>X1 i.1 i.2.1 i.2.2.1 i.2.2.2.1 i.2.2.2.2.1 i.2.2.2.2.2.1 i.2.2.2.2.2.2.1 i.2.2.2.2.2.2.2) (fun i=>S1 i.1 i.2.1 i.2.2.1 i.2.2.2.1 i.2.2.2.2.1 i.2.2.2.2.2.1 i.2.2.2.2.2.2.1 i.2.2.2.2.2.2.2) (fun i=>I i.1 i.2.1 i.2.2.1 i.2.2.2.1 i.2.2.2.2.1 i.2.2.2.2.2.1 i.2.2.2.2.2.2.1 i.2.2.2.2.2.2.2) (a0,b_0,c_0,d_0,e_0,f_0,g_0,h_0) ρk hk is hX js hS hI hs fun i hi w m a ha=>Code.wp_mono (fun e a' w' q=>by
  cases e <;> first|exact q|(obtain⟨x,y,z,u,v_,t_,s_,r_,h⟩:=q;exact⟨(x,y,z,u,v_,t_,s_,r_),h⟩)) (round i.1 i.2.1 i.2.2.1 i.2.2.2.1 i.2.2.2.2.1 i.2.2.2.2.2.1 i.2.2.2.2.2.2.1 i.2.2.2.2.2.2.2 hi w m a ha)
theorem si{α β γ δ ε ζ η θ:Type}{M:Nat}{μ:α→β→γ→δ→ε→ζ→η→θ→Nat}{R:α→β→γ→δ→ε→ζ→η→θ→Env}{X1 S1:α→β→γ→δ→ε→ζ→η→θ→List bg}{Xr Sr:List bg}{ρ0:Env}{I:α→β→γ→δ→ε→ζ→η→θ→Prop}(x:α)(y:β)(z:γ)(u:δ)(v_:ε)(t_:ζ)(s_:η)(r_:θ)(hs:eb (R x y z u v_ t_ s_ r_++ρ0) ρ)(is:List Nat){Xz:List bg}(hX:bN is X=some (X1 x y z u v_ t_ s_ r_++Xr,Xz))(js:List Nat)(hS:dh js S=some (S1 x y z u v_ t_ s_ r_++Sr))(hI:I x y z u v_ t_ s_ r_)(hlt:μ x y z u v_ t_ s_ r_<M):
  HQ (Exit.then (fun a' w' =>∃x y z u v_ t_ s_ r_,Ag N D (R x y z u v_ t_ s_ r_++ρ0) a' ∧Mem b (X1 x y z u v_ t_ s_ r_++Xr) (S1 x y z u v_ t_ s_ r_++Sr) w' ∧I x y z u v_ t_ s_ r_∧μ x y z u v_ t_ s_ r_<M) Q) N D .normal ρ b X S:=
 fun w m a ha=>⟨x,y,z,u,v_,t_,s_,r_,ha.sub hs.sub,((m.perm (ao _ _ _ _ hX)).jw).iT (cb _ _ _ hS),hI,hlt⟩
end
end Go.Eng
end
section
set_option maxRecDepth 20000
set_option maxHeartbeats 2000000
namespace Go.Proofs.YtmibdabdlgmafaaGreatDoor
open Go.Eng Go.Hx
theorem yy{g gr:Nat}{q:Pn}{A:Option Addr}{n c:Nat}{s:fG}{l:List UInt8}(hs:s.ok l):cf Tryz.prog 285 [.pointer (some ⟨g,0,none⟩)] [aE g 389 (AY q gr A n c),km gr s l] [] (fun v_ X_ S_=>v_=(.slice A n c)∧X_=[aE g 389 (AY q gr none 0 0),km gr s []]∧S_=[]):=by
 refine aK (N:=17) Tryz.func285 rfl rfl (by simp) fun b=> ?_
 refine ae<|ah<|aG rfl<|ag<|aa<|ae<|ah<|au rfl<|hy (fun _=>aL rfl)<|hy (fun _=>ax rfl me (by decide))<|hy (fun m=>ak rfl di (ar (m.aN 0 rfl) rfl))<|aG rfl<|ag<|az [3,2,0] rfl<|aa<|ae<|ah<|au rfl<|hy (fun _=>aL rfl)<|hy (fun _=>ax rfl me (by decide))<| ?_
 refine cF (bZ 0 rfl rfl rfl je rfl (by first|exact Nat.le_of_ble_eq_true rfl|simp) ?_)
 refine aH (fun w m=>m.bw 0 rfl (show _=aE g 389 (AY q gr none 0 0)from rfl)) ?_
 refine ag<|az [3,2,0] rfl<|aY rfl rfl<|aa<|ae<|ah<|au rfl<|hy (fun _=>aL rfl)<|hy (fun _=>ax rfl vJ (by decide))<|hy (fun m=>ak rfl Di (ar (m.aN 0 rfl) rfl))<| ?_
 refine hx (an rfl Tryz.call305 (Cm hs) [1] rfl [] rfl ?_)
 rintro _ _ _ ⟨rfl,rfl,rfl⟩
 refine ag<|az [3,2,0] rfl<|aY rfl rfl<|aa<|ae<|ah<|au rfl<|aG rfl<|ag<|az [2,3,0] rfl<|aa<|aR<| ?_
 exact bc trivial rfl rfl [1,0] rfl [] rfl ⟨rfl,rfl,rfl⟩
theorem Cb{g gr:Nat}{q:Pn}{B:Option Addr}{n k:Nat}{s0:fG}{l:List UInt8}(hq:q.ok)(hs0:s0.ok [])(hl:l.length=n)(hn:n≤1000000):cf Tryz.prog 284 [.pointer (some ⟨g,0,none⟩),.slice B n k] [aE g 389 (AY q gr none 0 0),km gr s0 []] [cz 1 B n (aT l)] (fun v_ X_ S_=>∃A1 c1 rs A c cur s,v_=(.slice A1 (List.length rs) c1)∧X_=[aI 27 1 (.slice A1 (List.length rs) c1) (List.length rs) (lf rs),aE g 389 (AY q gr A (List.length cur) c),km gr s cur,aI 5 1 (.slice A (List.length cur) c) (List.length cur) (aT cur)]∧S_=[dI rs]∧(rs.map bh.l=(iP q l).1∧cur=(iP q l).2∧(∀r∈rs,r.n=r.l.length)∧s.ok cur∧rs.length+cur.length≤n)):=by
 have q1:=hq.h1
 have q2:=hq.h2
 have q3:=hq.h3
 have q4:=hq.h4
 refine aK (N:=72) Tryz.func284 rfl rfl (by simp) fun b=> ?_
 refine aQ (fun m=>ek (m.rd 0 rfl)) ?_
 rintro⟨hl_rb,hA_rb⟩
 refine a8 (fun w m=>m.cL (r' :=aI 27 1 (.slice none 0 0) 0 []) (.refl _ _) (Own.nil _ _ _ _) (fun k hk=>hk.elim)) ?_
 refine a8 (fun w m=>m.cL (r' :=aI 5 1 (.slice none 0 0) 0 []) (.refl _ _) (Own.nil _ _ _ _) (fun k hk=>hk.elim)) ?_
 refine a8 (S' :=fB []::_) (fun w m=>m.nA [] rfl) ?_
 refine a8 (fun w m=>m.ew 0 rfl View.Aw) ?_
 refine ae<|ah<|aG rfl<|ag<|aa<|ae<|ah<|au rfl<|hy (fun _=>aL rfl)<|hy (fun _=>ax rfl vJ (by decide))<|hy (fun m=>ak rfl Di (ar (m.aN 2 rfl) rfl))<|hy (fun _=>fD rfl rfl)<|aG rfl<|ag<|az [5,4,0,1] rfl<|aa<|ae<|ah<|aG rfl<|ag<|aa<|ae<|ae<|ah<|au rfl<|hy (fun _=>a6 rfl Tryz.underlying27)<|au rfl<|ag<|aa<|aM<| ?_
 refine Ef (fun i rs A1 c1 A c cur s=>n-i) (fun i rs A1 c1 A c cur s=>[(18,.int .i64 (i:Nat)),(6,.slice A1 (List.length rs) c1)]) (fun i rs A1 c1 A c cur s=>[aI 27 1 (.slice A1 (List.length rs) c1) (List.length rs) (lf rs),aE g 389 (AY q gr A (List.length cur) c),km gr s cur,aI 5 1 (.slice A (List.length cur) c) (List.length cur) (aT cur)]) (fun i rs A1 c1 A c cur s=>[dI rs]) (fun i rs A1 c1 A c cur s=>i≤n∧rs.map bh.l=(iP q (l.take i)).1∧cur=(iP q (l.take i)).2∧(∀r∈rs,r.n=r.l.length)∧s.ok cur∧rs.length+cur.length≤i) 0 [] none 0 none 0 [] s0 [(17,_),(16,_),(5,_),(4,_),(0,_),(1,_)] ⟨rfl,rfl,rfl,rfl,rfl,rfl,trivial⟩ [1,1,1,0] rfl [0] rfl (⟨Nat.zero_le _,rfl,rfl,fun r h=>absurd h List.not_mem_nil,hs0,Nat.le_refl _⟩) ⟨rfl,rfl,trivial⟩ (fun i rs A1 c1 A c cur s ⟨hi,hrs,hcur,hrn,hs,hlen⟩=> ?_)
 refine ae<|ah<|hy (fun _=>bx rfl rfl)<|ag<|aa<|ae<| ?_
 refine cu rfl (fun hlt=> ?_) (fun hlt=> ?_)
 ·have hil:i<l.length:=by omega
  have hsc:=uN q (l.take i) (l.getD i 0)
  rw[←eK hil]at hsc
  obtain⟨e,he⟩:∃e,e=l.getD i 0:=⟨_,rfl⟩
  have hce:(cur++[e]).length=cur.length+1:=by simp
  rw[←he]at hsc
  refine aB<|aa<|ae<|aM<|ae<|ah<|hy (fun _=>aS rfl rfl Tryz.underlying27 dJ hA_rb rfl (by omega))<|hy (fun m=>yV (ak rfl iV ((m.rd 3 rfl).cell (bO (by omega)))) ((show Value.int .u8 (((l.getD i 0).toNat:Nat):Int)=B8 e by rw[he];rfl)))<|aG rfl<|ag<|az [8,19,18,6,17,16,5,4,0,1] rfl<|aa<|ae<|ah<|au rfl<|au rfl<| ?_
  refine hx (eG rfl rfl Tryz.call304 (FU hs (by omega) (c:=e) (l:=cur)) [2] rfl [] rfl ?_)
  rintro _ _ _ ⟨s1,rfl,rfl,rfl,hp⟩
  refine aG rfl<|ag<|az [9,8,19,18,6,17,16,5,4,0,1] rfl<|aY rfl rfl<|aa<|ae<|ah<|au rfl<|au rfl<|hy (fun _=>aL rfl)<|hy (fun _=>ax rfl me (by decide))<|hy (fun m=>ak rfl di (ar (m.aN 2 rfl) rfl))<|au rfl<| ?_
  refine hx (b5 Tryz.underlying27 fh rfl rfl rfl (by simp[Value.cells,B8]) (by decide) (by decide) (fun g31=> ?_))
  have hA_b31:0<1→(some (⟨g31,0,none⟩:Addr))≠none:=fun _ h=>by cases h
  refine aH (fun w m=>m.bw 0 rfl (show _=aI 5 1 (.slice (some ⟨g31,0,none⟩) 1 1) 1 (aT [e])from rfl)) ?_
  refine hx (bC 4 rfl rfl rfl Tryz.underlying27 Tryz.underlying27 (by exact .inl rfl) fh rfl (fun m=>Src.b9 (m.ord 0 rfl)) bl (by unfold maxLen;omega) (by omega) (fun u=> ?_))
  refine aC (fun m=>(m.own 0 rfl).slice) ?_
  rintro⟨A_o,c_o,rfl,hc_o⟩
  refine aC (fun m=>(m.ord 0 rfl).2.1) fun hA_o=> ?_
  refine aH (fun w m=>m.bw 0 rfl (show _=aI 5 1 (.slice A_o (List.length (cur++[e])) c_o) (List.length (cur++[e])) (aT (cur++[e]))from(by rw[hce];simp[aT]))) ?_
  refine hy (fun _=>aL rfl)<|hy (fun _=>ax rfl me (by decide))<| ?_
  refine cF (bZ 4 rfl rfl rfl je rfl (by first|exact Nat.le_of_ble_eq_true rfl|simp) ?_)
  refine aH (fun w m=>m.bw 0 rfl (show _=aE g 389 (AY q gr A_o (List.length (cur++[e])) c_o)from(by rw[hce];rfl))) ?_
  refine ag<|az [9,8,19,18,6,17,16,5,4,0,1] rfl<|aY rfl rfl<|aa<|ae<|ah<|au rfl<|hy (fun _=>aL rfl)<|hy (fun _=>ax rfl me (by decide))<|hy (fun m=>ak rfl di (ar (m.aN 0 rfl) rfl))<|hy (fun _=>a6 rfl Tryz.underlying27)<|aG rfl<|ag<|az [10,9,8,19,18,6,17,16,5,4,0,1] rfl<|aa<|ae<| ?_
  by_cases h1:(cur++[e]).length=q.m
  ·refine ah<|au rfl<|au rfl<|hy (fun _=>aL rfl)<|hy (fun _=>ax rfl mj (by decide))<|hy (fun _=>ax rfl eW (by decide))<|hy (fun m=>ak rfl cY (ar (m.aN 0 rfl) rfl))<|hy (fun _=>yT (cD rfl rfl) ((decide_eq_true (by rw[h1]))))<|au rfl<|aJ rfl rfl rfl (by decide)<|aJ rfl rfl rfl (by decide)<|aJ rfl rfl rfl (by decide)<|aJ rfl rfl rfl (by decide)<|aJ rfl rfl rfl (by decide)<|aJ rfl rfl rfl (by decide)<|aJ rfl rfl rfl (by decide)<|aJ rfl rfl rfl (by decide)<|dZ rfl rfl rfl<|dZ rfl rfl rfl<|dZ rfl rfl rfl<|dZ rfl rfl rfl<|dZ rfl rfl rfl<|dZ rfl rfl rfl<|dZ rfl rfl rfl<|aJ rfl rfl rfl (by decide)<|hy (fun _=>bz rfl rfl)<|ag<|az [64,10,9,8,19,18,6,17,16,5,4,0,1] rfl<|aa<| ?_
   refine fx rfl (rfl) ?_
   have hcn:fy q (cur++[e]):=(.inl h1)
   have hstep:iP q (l.take (i+1))=(rs.map bh.l++[cur++[e]],[]):=by rw[hsc];unfold dS;rw[←hcur,if_pos hcn,hrs]
   refine ah<|au rfl<|au rfl<| ?_
   refine hx (an rfl Tryz.call285 (yy hp (l:=(cur++[e]))) [0,2] rfl [] rfl ?_)
   rintro _ _ _ ⟨rfl,rfl,rfl⟩
   refine aH (fun w m=>(m.perm (ao [2] _ [_] _ rfl)).freeze) ?_
   refine aH (fun w m=>m.ew 0 rfl .own) ?_
   refine aH (S' :=fB [dI rs,cz 1 A_o (List.length (cur++[e])) (aT (cur++[e]))]::_) (fun w m=>m.nA [2,0] rfl) ?_
   refine aH (fun w m=>m.ew 0 rfl (View.kB (rs:=rs) (r:=⟨A_o,List.length (cur++[e]),c_o,cur++[e]⟩) (by show(cur++[e]).length≤c_o;omega))) ?_
   obtain⟨r,hr⟩:∃r:bh,r=⟨A_o,List.length (cur++[e]),c_o,cur++[e]⟩:=⟨_,rfl⟩
   rw[←hr]
   have hlr:(rs++[r]).length=rs.length+1:=by simp
   refine hx (b5 Tryz.underlying84 ku rfl rfl rfl (by simp[Value.cells,B8]) (by decide) (by decide) (fun g68=> ?_))
   have hA_b68:0<1→(some (⟨g68,0,none⟩:Addr))≠none:=fun _ h=>by cases h
   refine aH (fun w m=>m.bw 0 rfl (show _=aI 27 1 (.slice (some ⟨g68,0,none⟩) 1 1) 1 (lf [r])from(by rw[hr];rfl))) ?_
   refine hx (bC 4 rfl rfl rfl Tryz.underlying84 Tryz.underlying84 (by exact .inl rfl) ku rfl (fun m=>Src.b9 (m.ord 0 rfl)) oP (by unfold maxLen;omega) (by omega) (fun u2=> ?_))
   refine aC (fun m=>(m.own 0 rfl).slice) ?_
   rintro⟨A_z,c_z,rfl,hc_z⟩
   refine aC (fun m=>(m.ord 0 rfl).2.1) fun hA_z=> ?_
   refine aH (fun w m=>m.bw 0 rfl (show _=aI 27 1 (.slice A_z (List.length rs+1) c_z) (List.length rs+1) (lf (rs++[r]))from congrArg (aI _ _ _ _) (by rw[jI]))) ?_
   rw[←hlr]
   refine aH (fun w m=>m.cL (r' :=aI 5 1 (.slice none 0 0) 0 []) (.refl _ _) (Own.nil _ _ _ _) (fun k hk=>hk.elim)) ?_
   refine aG rfl<|ag<|az [6,64,10,9,8,19,18,17,16,5,4,0,1] rfl<|aY rfl rfl<|aW<|aa<|ah<|hy (fun _=>aO rfl rfl (bE (by omega) (by omega)))<|au rfl<|ag<|az [18,6,64,10,9,8,19,17,16,5,4,0,1] rfl<| ?_
   have hrn2:∀x∈rs++[r],bh.n x=(bh.l x).length:=fun x hx=>by
    rcases List.mem_append.1 hx with hx|hx
    ·exact hrn x hx
    ·rw[List.mem_singleton.1 hx,hr]
   refine si (i+1) (rs++[r]) A_z c_z none 0 [] s1 ⟨rfl,rfl,rfl,rfl,rfl,rfl,rfl,rfl,trivial⟩ [1,2,2,0] rfl [0,5,6,7] rfl (⟨by omega,by rw[hstep,List.map_append,hr];rfl,by rw[hstep],hrn2,hp.clear,by rw[hlr];show _+0≤_;omega⟩) (by omega)
  ·by_cases h2:q.a≤(cur++[e]).length
   ·refine ah<|au rfl<|au rfl<|hy (fun _=>aL rfl)<|hy (fun _=>ax rfl mj (by decide))<|hy (fun _=>ax rfl eW (by decide))<|hy (fun m=>ak rfl cY (ar (m.aN 0 rfl) rfl))<|hy (fun _=>yF (cD rfl rfl) ((decide_eq_false (by omega))))<|au rfl<|bQ (o:=_) rfl rfl rfl (fun _=>ai rfl)<|bQ (o:=_) rfl rfl rfl (fun _=>ai rfl)<|bQ (o:=_) rfl rfl rfl (fun _=>aL rfl)<|bQ (o:=_) rfl rfl rfl (fun _=>ax rfl mj (by decide))<|bQ (o:=_) rfl rfl rfl (fun _=>ax rfl dT (by decide))<|bQ (o:=_) rfl rfl rfl (fun m=>ak rfl cY (ar (m.aN 0 rfl) rfl))<|bQ (o:=_) rfl rfl rfl (fun _=>yT (eO rfl rfl) ((decide_eq_true (by omega))))<|bQ (o:=_) rfl rfl rfl (fun _=>ai rfl)<|bQ (o:=_) rfl rfl rfl (fun _=>ai rfl)<|bQ (o:=_) rfl rfl rfl (fun _=>ai rfl)<|bQ (o:=_) rfl rfl rfl (fun _=>aL rfl)<|bQ (o:=_) rfl rfl rfl (fun _=>ax rfl A0 (by decide))<|bQ (o:=_) rfl rfl rfl (fun m=>ak rfl bM (ar (m.aN 0 rfl) rfl))<|bQ (o:=_) rfl rfl rfl (fun _=>iw rfl rfl)<|bQ (o:=_) rfl rfl rfl (fun _=>cD rfl rfl)<|bQ (o:=_) rfl rfl rfl (fun _=>bz rfl rfl)<|hy (fun _=>bn rfl rfl)<|ag<|az [64,10,9,8,19,18,6,17,16,5,4,0,1] rfl<|aa<| ?_
    refine cu rfl (fun hz=> ?_) (fun hz=> ?_)
    ·have hcn:fy q (cur++[e]):=.inr ⟨h2,UInt32.toNat_inj.1 (by show _=0;have:=hz;omega)⟩
     have hstep:iP q (l.take (i+1))=(rs.map bh.l++[cur++[e]],[]):=by rw[hsc];unfold dS;rw[←hcur,if_pos hcn,hrs]
     refine ah<|au rfl<|au rfl<| ?_
     refine hx (an rfl Tryz.call285 (yy hp (l:=(cur++[e]))) [0,2] rfl [] rfl ?_)
     rintro _ _ _ ⟨rfl,rfl,rfl⟩
     refine aH (fun w m=>(m.perm (ao [2] _ [_] _ rfl)).freeze) ?_
     refine aH (fun w m=>m.ew 0 rfl .own) ?_
     refine aH (S' :=fB [dI rs,cz 1 A_o (List.length (cur++[e])) (aT (cur++[e]))]::_) (fun w m=>m.nA [2,0] rfl) ?_
     refine aH (fun w m=>m.ew 0 rfl (View.kB (rs:=rs) (r:=⟨A_o,List.length (cur++[e]),c_o,cur++[e]⟩) (by show(cur++[e]).length≤c_o;omega))) ?_
     obtain⟨r,hr⟩:∃r:bh,r=⟨A_o,List.length (cur++[e]),c_o,cur++[e]⟩:=⟨_,rfl⟩
     rw[←hr]
     have hlr:(rs++[r]).length=rs.length+1:=by simp
     refine hx (b5 Tryz.underlying84 ku rfl rfl rfl (by simp[Value.cells,B8]) (by decide) (by decide) (fun g68=> ?_))
     have hA_b68:0<1→(some (⟨g68,0,none⟩:Addr))≠none:=fun _ h=>by cases h
     refine aH (fun w m=>m.bw 0 rfl (show _=aI 27 1 (.slice (some ⟨g68,0,none⟩) 1 1) 1 (lf [r])from(by rw[hr];rfl))) ?_
     refine hx (bC 4 rfl rfl rfl Tryz.underlying84 Tryz.underlying84 (by exact .inl rfl) ku rfl (fun m=>Src.b9 (m.ord 0 rfl)) oP (by unfold maxLen;omega) (by omega) (fun u2=> ?_))
     refine aC (fun m=>(m.own 0 rfl).slice) ?_
     rintro⟨A_z,c_z,rfl,hc_z⟩
     refine aC (fun m=>(m.ord 0 rfl).2.1) fun hA_z=> ?_
     refine aH (fun w m=>m.bw 0 rfl (show _=aI 27 1 (.slice A_z (List.length rs+1) c_z) (List.length rs+1) (lf (rs++[r]))from congrArg (aI _ _ _ _) (by rw[jI]))) ?_
     rw[←hlr]
     refine aH (fun w m=>m.cL (r' :=aI 5 1 (.slice none 0 0) 0 []) (.refl _ _) (Own.nil _ _ _ _) (fun k hk=>hk.elim)) ?_
     refine aG rfl<|ag<|az [6,64,10,9,8,19,18,17,16,5,4,0,1] rfl<|aY rfl rfl<|aW<|aa<|ah<|hy (fun _=>aO rfl rfl (bE (by omega) (by omega)))<|au rfl<|ag<|az [18,6,64,10,9,8,19,17,16,5,4,0,1] rfl<| ?_
     have hrn2:∀x∈rs++[r],bh.n x=(bh.l x).length:=fun x hx=>by
      rcases List.mem_append.1 hx with hx|hx
      ·exact hrn x hx
      ·rw[List.mem_singleton.1 hx,hr]
     refine si (i+1) (rs++[r]) A_z c_z none 0 [] s1 ⟨rfl,rfl,rfl,rfl,rfl,rfl,rfl,rfl,trivial⟩ [1,2,2,0] rfl [0,5,6,7] rfl (⟨by omega,by rw[hstep,List.map_append,hr];rfl,by rw[hstep],hrn2,hp.clear,by rw[hlr];show _+0≤_;omega⟩) (by omega)
    ·have hcn:¬fy q (cur++[e]):=fun h=>h.elim h1 (fun h=>hz (by rw[h.2];rfl))
     have hstep:iP q (l.take (i+1))=(rs.map bh.l,cur++[e]):=by rw[hsc];unfold dS;rw[←hcur,if_neg hcn,hrs]
     refine aB<|aW<|aa<|ah<|hy (fun _=>aO rfl rfl (bE (by omega) (by omega)))<|au rfl<|ag<|az [18,64,10,9,8,19,6,17,16,5,4,0,1] rfl<| ?_
     refine si (i+1) rs A1 c1 A_o c_o (cur++[e]) s1 ⟨rfl,rfl,rfl,rfl,rfl,rfl,rfl,rfl,trivial⟩ [4,0,2,0] rfl [0,1,2,3] rfl (⟨by omega,by rw[hstep],by rw[hstep],hrn,hp,by omega⟩) (by omega)
   ·refine ah<|au rfl<|au rfl<|hy (fun _=>aL rfl)<|hy (fun _=>ax rfl mj (by decide))<|hy (fun _=>ax rfl eW (by decide))<|hy (fun m=>ak rfl cY (ar (m.aN 0 rfl) rfl))<|hy (fun _=>yF (cD rfl rfl) ((decide_eq_false (by omega))))<|au rfl<|bQ (o:=_) rfl rfl rfl (fun _=>ai rfl)<|bQ (o:=_) rfl rfl rfl (fun _=>ai rfl)<|bQ (o:=_) rfl rfl rfl (fun _=>aL rfl)<|bQ (o:=_) rfl rfl rfl (fun _=>ax rfl mj (by decide))<|bQ (o:=_) rfl rfl rfl (fun _=>ax rfl dT (by decide))<|bQ (o:=_) rfl rfl rfl (fun m=>ak rfl cY (ar (m.aN 0 rfl) rfl))<|bQ (o:=_) rfl rfl rfl (fun _=>yF (eO rfl rfl) ((decide_eq_false (by omega))))<|bQ (o:=_) rfl rfl rfl (fun _=>ai rfl)<|aJ rfl rfl rfl (by decide)<|aJ rfl rfl rfl (by decide)<|aJ rfl rfl rfl (by decide)<|aJ rfl rfl rfl (by decide)<|aJ rfl rfl rfl (by decide)<|aJ rfl rfl rfl (by decide)<|aJ rfl rfl rfl (by decide)<|bQ (o:=_) rfl rfl rfl (fun _=>bn rfl rfl)<|hy (fun _=>bn rfl rfl)<|ag<|az [64,10,9,8,19,18,6,17,16,5,4,0,1] rfl<|aa<| ?_
    refine dm rfl (rfl) ?_
    have hcn:¬fy q (cur++[e]):=fun h=>h.elim h1 (fun h=>h2 h.1)
    have hstep:iP q (l.take (i+1))=(rs.map bh.l,cur++[e]):=by rw[hsc];unfold dS;rw[←hcur,if_neg hcn,hrs]
    refine aB<|aW<|aa<|ah<|hy (fun _=>aO rfl rfl (bE (by omega) (by omega)))<|au rfl<|ag<|az [18,64,10,9,8,19,6,17,16,5,4,0,1] rfl<| ?_
    refine si (i+1) rs A1 c1 A_o c_o (cur++[e]) s1 ⟨rfl,rfl,rfl,rfl,rfl,rfl,rfl,rfl,trivial⟩ [4,0,2,0] rfl [0,1,2,3] rfl (⟨by omega,by rw[hstep],by rw[hstep],hrn,hp,by omega⟩) (by omega)
 ·obtain rfl:i=n:=by omega
  rw[List.take_of_length_le (by omega)]at hrs hcur
  refine bH<|al<|al<|aD<|aa<|ae<|ah<|au rfl<|aG rfl<|ag<|az [4,19,18,6,17,16,5,0,1] rfl<|aa<|aR<| ?_
  exact bc trivial rfl rfl [0,0,0,0] rfl [0] rfl ⟨A1,c1,rs,A,c,cur,s,rfl,rfl,rfl,⟨hrs,hcur,hrn,hs,hlen⟩⟩
end Go.Proofs.YtmibdabdlgmafaaGreatDoor
end
section
namespace Go.Eng
open Go.RowKit
def jH(l:Nat)(r:Loop):bg where
 db k:=k=l
 holds w:=w.heap[l]? =some (.loop r)
 gV:=fun{S w w'} f h e=>by
  have hlt:=(Array.getElem?_eq_some_iff.1 e).1
  exact(f.block l hlt (h l rfl)).trans e
 low:=fun{w k} e hk=>by
  have hk' :k=l:=hk
  rw[hk'];exact(Array.getElem?_eq_some_iff.1 e).1
theorem xt(w:World)(l:Nat)(o:Obj):Fr (fun k=>k=l) w (w.putObj l o):=⟨rfl,rfl,rfl,by simp,fun k _ hk=>World.putObj_heap_other hk⟩
theorem Mem.DM{b:cg}{X S:List bg}{w:World}{l:Nat}{r:Loop}(r' :Loop)(m:Mem b (jH l r::X) S w):Mem b (jH l r' ::X) S (w.putObj l (.loop r')):=by
 have hl:w.heap[l]? =some (.loop r):=m.hx (jH l r) (by simp)
 exact m.change (r' :=jH l r') (xt w l _) (World.putObj_heap_same (Array.getElem?_eq_some_iff.1 hl).1) (fun k hk=>.inl hk)
theorem Mem.GD{b:cg}{X S L:List bg}{w:World}(m:Mem b X S w)(h:fB L∈S):Mem b X (L++S) w:=
 ⟨m.fr,m.xx,fun x hx s hs k hk hk' =>by
  rcases List.mem_append.1 hs with hs|hs
  ·exact m.xs x hx _ h k hk ⟨s,hs,hk'⟩
  ·exact m.xs x hx s hs k hk hk',m.hx,fun s hs=>by
  rcases List.mem_append.1 hs with hs|hs
  ·exact m.hs _ h s hs
  ·exact m.hs s hs,m.nx,fun s hs k hk=>by
  rcases List.mem_append.1 hs with hs|hs
  ·exact m.ns _ h k ⟨s,hs,hk⟩
  ·exact m.ns s hs k hk⟩
def Yields{α:Type}(P:Program)(l:Nat)(encs:α→List Value)(exs:α→List bg)(ok:List α→α→Prop)(b:cg)(J:List α→bg→Prop)(Sb:List bg):Prop:=
 ∀(pre:List α) (x:α) (Y:bg) (It S:List bg) (W:World),ok pre x→J pre Y→(∀s∈exs x,s∈S)→fB Sb∈S→Mem b (Y::It) S W→
  YieldAt Fence.wide 1 P l (encs x).toArray W fun e W' =>e= .returned (.bool true)∧∃Y',J (pre++[x]) Y' ∧Mem b (Y' ::It) S W'
def yO{α:Type}(P:Program)(g:Nat)(lb:List Value)(S0:List bg)(encs:α→List Value)(exs:α→List bg)(ok:List α→α→Prop)(done:List α→Prop):Prop:=
 ∀(l:Nat) (b:cg) (J:List α→bg→Prop) (Sb:List bg) (Y:bg),Yields P l encs exs ok b J Sb→J [] Y→∀w,Mem b [Y] (fB Sb::S0) w→
  Calls P g (.func (.yield l) #[] #[]::lb).toArray w (RB b fun v X' S' =>∃xs Y',v= .tuple #[]∧X' =[Y']∧S' =[]∧done xs∧J xs Y')
theorem B9{α:Type}{P:Program}{f:Nat}{fn:Func}{c:Code}{vs:List Value}{N:Nat}{S0:List bg}{encs:α→List Value}{exs:α→List bg}{ok:List α→α→Prop}{done:List α→Prop}(hf:P.funcs[f]? =some fn)(hb:fn.body=some c)(hN:fn.ntmps=N)(hl:vs.length+1≤N)
  (h:∀(l:Nat) (b:cg) (J:List α→bg→Prop) (Sb:List bg) (Y:bg),Yields P l encs exs ok b J Sb→J [] Y→HC P (bodyPost P fn (RB b fun v X' S' =>∃xs Y',v= .tuple #[]∧X' =[Y']∧S' =[]∧done xs∧J xs Y')) N [] c (fI (.func (.yield l) #[] #[]::vs) 0) b [Y] (fB Sb::S0)):
  yO P f vs S0 encs exs ok done:=fun l b J Sb Y hY hJ w m=>enter hf hb hN hl (h l b J Sb Y hY hJ w m)
def Ic{σ:Type}(b:cg)(X1:σ→List bg)(S:List bg)(I:σ→Prop):Exit→Act→World→Prop
 | .normal,_,w=>∃s,I s∧Mem b (X1 s) S w
 |_,_,_=>False
theorem HI{σ:Type}{b:cg}{X1:σ→List bg}{Sb:List bg}{I:σ→Prop}{N:Nat}{D:List Deferred}{ρ:Env}{X S Xz:List bg}(s:σ)(hi:I s)(is:List Nat)(hX:bN is X=some (X1 s,Xz))(js:List Nat)(hS:dh js S=some Sb):
  HQ (Ic b X1 Sb I) N D .normal ρ b X S:=fun w m a ha=>⟨s,hi,m.out is hX js hS⟩
section
variable{P:Program}{Q:Exit→Act→World→Prop}{N:Nat}{D:List Deferred}{ρ ρ' :Env}{b:cg}{X X' Xr S S' Sb S0:List bg}
theorem Co{α σ:Type}{g gf id:Nat}{ps:Array Tmp}{assign body:Code}{lb:List Value}(X1:σ→List bg)(s0:σ)(I:List α→σ→Prop)(encs:α→List Value)(exs:α→List bg)(ok:List α→α→Prop)(done:List α→Prop)(ρx:α→Env)(ρk:Env)(hk:eb ρk ρ)
  (hv:get ρ g=some (.func (.func gf) #[] lb.toArray)) (heg:∀args w,(callFunc gf args).run P w= .ok (.enter gf args) w)
  (hit:yO P gf lb S0 encs exs ok done) (ks:List Nat) (hS0:dh ks S=some S0)
  (is:List Nat) (hX:bN is X=some (X1 s0,Xr)) (js:List Nat) (hS:dh js S=some Sb)
  (hps:∀x,(encs x).length=ps.size) (hnd:∀x (a:Act),Ag N D ρ a→Ag N [] (ρ' ++th ps (encs x)++ρ) {tmps:=(ps.zip (encs x).toArray).foldl (fun t (p,v)=>t.setIfInBounds p v) a.tmps,defers:=[]})
  (hasg:∀(l:Nat) (b' :cg) (s:σ) (x:α) (S' :List bg) (Q' :Exit→Act→World→Prop),HQ Q' N [] .normal (ρx x++ρk) b' (X1 s) S' →r7 l 1 P Q' N [] assign (ρ' ++th ps (encs x)++ρ) b' (X1 s) S')
  (h0:I [] s0)
  (hbody:∀(l:Nat) (b' :cg) (pre:List α) (s:σ) (x:α),I pre s→ok pre x→r7 l 1 P (Ic b' X1 (exs x++Sb) (I (pre++[x]))) N [] body (ρx x++ρk) b' (X1 s) (exs x++Sb))
  (k:∀(Dk:Nat) (s:σ) (xs:List α),done xs→I xs s→HQ Q N (⟨.collected Dk, #[]⟩::D) .normal ρ b (j9 Dk::(X1 s++Xr)) S):
  HC P Q N D (.block id (.rangeFunc (.tmp g) ps assign body)) ρ b X S:=by
 intro w m a ha
 have m1:=m.perm (ao _ _ _ _ hX)
 have hSb:=cb _ _ _ hS
 refine wpIn_wide (n:=3).1 (wpIn_block (wpIn_rangeFunc ?_))
 intro fn hfn
 obtain⟨rec,hrec⟩:∃rec:LoopState→Loop,rec=fun st=>{state:=st,pending:=none,fn,tmps:=a.tmps,params:=ps,assign,body,defers:=w.heap.size}:=⟨_,rfl⟩
 obtain⟨l,hl⟩:∃l,l=w.heap.size+1:=⟨_,rfl⟩
 have hev:a.eval (.tmp g)= .func (.func gf) #[] lb.toArray:=ha.eval hv
 have mA:=m1.cL (r' :=j9 w.heap.size) (Fr.alloc w (.deferred (some []))) (World.alloc_heap_new w _) (fun k hk=>by have hk' :k=w.heap.size:=hk;omega)
 have mB:=mA.cL (r' :=jH l (rec .ready)) (Fr.alloc _ (.loop (rec .ready))) (by rw[hl];have:=World.alloc_heap_new (w.alloc (.deferred (some []))) (.loop (rec .ready));rwa [World.size_alloc]at this) (fun k hk=>by have hk' :k=l:=hk;rw[World.size_alloc];omega)
 obtain⟨W1,hW1⟩:∃W1,W1=(w.alloc (.deferred (some []))).alloc (.loop (rec .ready)):=⟨_,rfl⟩
 rw[←hW1]at mB
 refine⟨l,[{target:=.collected w.heap.size,args:= #[]}],W1,{target:=.fn (.func gf) lb.toArray,args:= #[.func (.yield l) #[] #[]]},W1,gf,
  (.func (.yield l) #[] #[]::lb).toArray,W1, ?_, ?_,fun _ _=>trivial, ?_,(fun h=>by simp[Fence.wide]at h), ?_⟩
 ·rw[hW1,hrec,hl];exact run_enterLoop_outer _ _ _ _ _
 ·simp only[resolve,hev]
  simp[go_sem]
 ·simp[invoke,go_sem,heg]
 ·
  have hY:∀b:cg,Yields P l encs exs ok b (fun pre Y=>∃s,I pre s∧Y=eD (X1 s++(jH l (rec .ready)::j9 w.heap.size::Xr))) Sb:=by
   rintro b pre x _ It S1 W hok ⟨s,hI,rfl⟩ hex hall mW
   have mU:=(mW.unpack).GD hall
   have hp:∀(s:σ) (r:Loop),(jH l r::(X1 s++(j9 w.heap.size::(Xr++It)))).Perm ((X1 s++(jH l r::j9 w.heap.size::Xr))++It):=fun s r=>by
    rw[List.append_assoc];exact List.perm_middle.symm
   have hq:∀(s:σ) (r:Loop),(jH l r::(X1 s++(j9 w.heap.size::(Xr++It)))).Perm (X1 s++(jH l r::j9 w.heap.size::(Xr++It))):=fun s r=>List.perm_middle.symm
   have hl0:W.heap[l]? =some (.loop (rec .ready)):=mU.hx (jH l (rec .ready)) (by simp)
   have hy:=run_yield (P:=P) (args:=(encs x).toArray) hl0 (by rw[hrec];simpa using hps x)
   rw[hrec]at hy
   refine⟨fn,_,assign,body,hy,roundIn_of_wpIn hfn ?_⟩
   have hS1:∀r∈exs x++Sb,r∈Sb++S1:=fun r hr=>(List.mem_append.1 hr).elim (fun h=>List.mem_append_right _ (hex r h)) (fun h=>List.mem_append_left _ h)
   have m0:=(mU.perm (hp s _).symm).perm (hq s _)
   refine hasg l ⟨W,c6 (X1 s),c6 (exs x++Sb)⟩ s x (exs x++Sb) _ (fun w1 m1 a1 ha1=> ?_) (fun⟨_,_,h⟩=>h) W (m0.part hS1) _ (hnd x a ha)
   have m2:=(m0.frame hS1 m1).iT (S' :=Sb++S1) (fun r hr=>List.mem_append_right _ hr)
   have hl1:w1.heap[l]? =some (.loop (rec .ready)):=m2.hx (jH l (rec .ready)) (by simp)
   refine⟨_,run_beginRound hl1 (by rw[hrec]), ?_⟩
   have m3:=((m2.perm (hq s _).symm).DM {rec .ready with state:=.busy}).perm (hq s _)
   refine wpIn_mono (hbody l ⟨_,c6 (X1 s),c6 (exs x++Sb)⟩ pre s x hI hok (fun⟨_,_,h⟩=>h) _ (m3.part hS1) a1 ha1) ?_
   intro e a3 w3 q
   cases e with
   |normal=>
    obtain⟨s',hI',q⟩:=q
    have m4:=(m3.frame hS1 q).iT (S' :=Sb++S1) (fun r hr=>List.mem_append_right _ hr)
    have hl3:w3.heap[l]? =some (.loop {rec .ready with state:=.busy}):=m4.hx (jH l {rec .ready with state:=.busy}) (by simp)
    have hr:=run_endRound (P:=P) none hl3
    have e2:({{rec .ready with state:=.busy}with state:=if(none:Option Code).isNone then .ready else .done,pending:=none}:Loop)=rec .ready:=by rw[hrec];rfl
    rw[e2]at hr
    exact⟨_,_,hr,rfl,_,⟨s',hI',rfl⟩,((((m4.perm (hq s' _).symm).DM (rec .ready)).perm (hp s' _)).pack).iT (fun r hr=>List.mem_append_right _ hr)⟩
   |ret=>exact q.elim
   |exit i=>exact q.elim
   |goto t=>exact q.elim
   |panic c=>exact q.elim
   |outgrown=>exact q.elim
  have mC:Mem b (X1 s0++(jH l (rec .ready)::j9 w.heap.size::Xr)) S W1:=mB.perm ((List.Perm.cons _ List.perm_middle.symm).trans List.perm_middle.symm)
  have mD:Mem b ([eD (X1 s0++(jH l (rec .ready)::j9 w.heap.size::Xr))]++[]) (fB Sb::S) W1:=(Mem.pack (X:=[]) (by simpa using mC)).nA js hS
  have j7:∀r∈fB Sb::S0,r∈fB Sb::S:=fun r hr=>by
   rcases List.mem_cons.1 hr with rfl|hr
   ·exact List.mem_cons_self ..
   ·exact List.mem_cons_of_mem _ (cb _ _ _ hS0 r hr)
  refine callsIn_wide.2 (Calls.mono (hit l ⟨W1,c6 [eD (X1 s0++(jH l (rec .ready)::j9 w.heap.size::Xr))],c6 (fB Sb::S0)⟩ _ Sb _ (hY _) ⟨s0,h0,rfl⟩ W1 (mD.part j7)) ?_)
  rintro e w2 ⟨v,_,_,rfl,⟨xs,_,rfl,rfl,rfl,hd,s,hI,rfl⟩,m2⟩
  have m3:=((mD.frame j7 m2).unpack).iT (S' :=S) (fun r hr=>List.mem_append_right _ (List.mem_cons_of_mem _ hr))
  have hl2:w2.heap[l]? =some (.loop (rec .ready)):=m3.hx (jH l (rec .ready)) (by simp)
  have hr:=run_endLoop (P:=P) hl2 (by rw[hrec];simp)
  have e2:(rec .ready).pending=none:=by rw[hrec]
  rw[e2]at hr
  have hp:∀(r:Loop),((X1 s++(jH l r::j9 w.heap.size::Xr))++[]).Perm (jH l r::(X1 s++(j9 w.heap.size::Xr))):=fun r=>by
   rw[List.append_nil];exact List.perm_middle
  refine⟨none,_,hr, ?_⟩
  refine k w.heap.size s xs hd hI _ ?_ {a with defers:=⟨.collected w.heap.size, #[]⟩::a.defers} ⟨ha.sz,by rw[←ha.df],ha.gt⟩
  exact(Mem.uP (X:=[_]) ((m3.perm (hp _)).DM _)).perm List.perm_middle
theorem Eg{N p:Nat}{D:List Deferred}{ρ:Env}{a:Act}{u:Value}(hp:p<N)(ha:Ag N D ρ a):
  Ag N [] ([]++th #[p] [u]++ρ) {tmps:=((#[p]:Array Tmp).zip [u].toArray).foldl (fun t (p,v)=>t.setIfInBounds p v) a.tmps,defers:=[]}:=by
 have e:(((#[p]:Array Tmp).zip [u].toArray).foldl (fun t (p,v)=>t.setIfInBounds p v) a.tmps)=a.tmps.setIfInBounds p u:=by simp
 rw[e]
 have hsz:=ha.sz
 refine⟨by simpa using hsz,rfl,fun t z ht=> ?_⟩
 simp only[th,List.nil_append,List.zip_cons_cons,List.zip_nil_right,List.cons_append,get]at ht
 show(a.tmps.setIfInBounds p u)[t]? =some z
 cases h1:Nat.beq p t with
 |true=>
  rw[h1]at ht
  have h1' :p=t:=Nat.eq_of_beq_eq_true h1
  simp only[cond_true,Option.some.injEq]at ht
  subst h1';subst ht
  rw[Array.getElem?_setIfInBounds_self_of_lt (by omega)]
 |false=>
  rw[h1]at ht
  simp only[cond_false]at ht
  have h1' :p≠t:=Nat.ne_of_beq_eq_false h1
  rw[Array.getElem?_setIfInBounds_ne h1']
  exact ha.gt t z (by simpa using ht)
end
theorem Am{P:Program}{Q:Exit→Act→World→Prop}{a:Act}{w:World}{n:Nat}{o:Oper}{next next' :Act→World→Prop}(h:o.wp P a w next Q)(hd:mJ o.op=false)(hn:∀a w,next a w→next' a w):o.wpIn Fence.wide n P a w next' Q:=by
 refine⟨fun _ _=>trivial, ?_⟩
 have e:o.semAt (Fence.wide).round a.eval=execOp a.eval o:=Oper.semAt_eq _ _ _ (fun c hc=>by rw[hc]at hd;cases hd)
 rw[e]
 unfold Oper.wp at h
 generalize(execOp a.eval o).run P w=r at h
 match r,h with
 | .ok (.value v) w',h=>exact hn _ _ h
 | .ok .skip w',h=>exact hn _ _ h
 | .ok (.defer d) w',h=>exact hn _ _ h
 | .ok (.enter f args) w',h=>
  refine⟨fun h=>by simp[Fence.wide]at h,callsIn_wide.2 (Calls.mono h ?_)⟩
  intro e w'' q
  cases e with
  |returned v=>exact hn _ _ q
  |panicked c=>exact q
  |outgrown=>exact q
 | .ok (.row row args) w',h=>exact⟨fun h=>by simp[Fence.wide]at h,fun c cs _=>let⟨v,w'',r,s⟩:=h c cs;⟨v,w'',hn _ _ r,stepsIn_wide.2 s⟩⟩
 | .halt (.panic v) w',h=>exact h
def Hi(P:Program)(Q:Exit→Act→World→Prop):List Oper→Act→World→Prop
 | [],a,w=>Q .normal a w
 |o::r,a,w=>o.wpIn Fence.wide 2 P a w (Hi P Q r) Q
theorem rT{P:Program}{Q:Exit→Act→World→Prop}{ops:Array Oper}(hg:ops.toList.all (fun o=>o.guard.isNone)=true):∀(il:List Nat) (a:Act) (w:World),Hi P Q (il.filterMap fun i=>ops[i]?) a w→wpOpsIn Fence.wide 2 P ops Q il a w
 | [],a,w,h=>h
 |i::rest,a,w,h=>by
  unfold wpOpsIn
  cases ho:ops[i]? with
  |none=>rw[List.filterMap_cons,ho]at h;exact rT hg rest a w h
  |some o=>
   rw[List.filterMap_cons,ho]at h
   have hod:o.guard=none:=by
    have h1:=List.all_eq_true.1 hg o (by obtain⟨hi,he⟩:=Array.getElem?_eq_some_iff.1 ho;rw[←he];exact Array.getElem_mem_toList ..)
    simpa using h1
   show if _ then _ else _
   rw[if_pos (by simp[Region.wanted,hod])]
   exact Oper.wpIn_mono (fun a w h=>rT hg rest a w h) h
def x9(P:Program)(Q:Exit→Act→World→Prop)(N:Nat)(D:List Deferred)(l:List Oper)(ρ:Env)(b:cg)(X S:List bg):Prop:=∀w,Mem b X S w→∀a,Ag N D ρ a→Hi P Q l a w
section
variable{P:Program}{Q:Exit→Act→World→Prop}{N:Nat}{D:List Deferred}{ρ ρ' :Env}{b:cg}{X X' Xr S S' :List bg}{rest:List Oper}{op:Op}{ty:TypeId}{pos:String}{af:Array Edge}{d:Nat}{v:Value}
theorem Dq{id:Nat}{l:List Oper}(h:x9 P Q N D l ρ b X S)(hg:l.all (fun o=>o.guard.isNone)=true:=by rfl)(hl:(List.range l.length).filterMap (fun i=>l.toArray[i]?)=l:=by rfl):HC P Q N D (.region id l.toArray false) ρ b X S:=fun w m a ha=>by
 refine wpIn_wide (n:=2).1 (wpIn_region (rT (by simpa using hg) _ a w ?_))
 rw[show(List.range l.toArray.size).filterMap (fun i=>l.toArray[i]?)=l from hl]
 exact h w m a ha
theorem F9(h:∀{w},Mem b X S w→Yl P N D ρ w op ty v)(k:x9 P Q N D rest ((d,v)::ρ) b X S)(hd:d<N:=by decide)(hq:mJ op=false:=by rfl):x9 P Q N D (⟨some d,op,ty,pos,af,none⟩::rest) ρ b X S:=fun w m a ha=>by
 refine Am (next:=fun a' w' =>a' =a.put (some d) v∧w' =w) ?_ hq ?_
 ·unfold Oper.wp
  rw[h m a (some d) pos af none ha]
  exact⟨rfl,rfl⟩
 ·rintro a' w' ⟨rfl,rfl⟩
  exact k _ m _ (ha.put hd)
theorem Im(h:XH P Q N D ρ b X S op ty fun v X' S' =>x9 P Q N D rest ((d,v)::ρ) b X' S')(hd:d<N:=by decide)(hq:mJ op=false:=by rfl):x9 P Q N D (⟨some d,op,ty,pos,af,none⟩::rest) ρ b X S:=fun w m a ha=>by
 refine Am (h w m a (some d) pos af none ha) hq ?_
 rintro a' w' ⟨v,rfl,X',S',m',hk⟩
 exact hk w' m' _ (ha.put hd)
theorem Dj(h:HQ Q N D .normal ρ b X S):x9 P Q N D [] ρ b X S:=fun w m a ha=>h w m a ha
theorem AP(h:∀w,Mem b X S w→Mem b X' S' w)(k:x9 P Q N D rest ρ b X' S'):x9 P Q N D rest ρ b X S:=fun w m=>k w (h w m)
theorem rO{p:Prop}(h:∀{w},Mem b X S w→p)(k:p→x9 P Q N D rest ρ b X S):x9 P Q N D rest ρ b X S:=fun w m=>k (h m) w m
theorem zh{α:Type}{l:Nat}{encs:α→List Value}{exs:α→List bg}{ok:List α→α→Prop}{J:List α→bg→Prop}{Sb:List bg}{pre:List α}{Y:bg}{f:Operand}{args:List Operand}{tys:Array TypeId}(hY:Yields P l encs exs ok b J Sb)(x:α)(hok:ok pre x)(hJ:J pre Y)(hf:ev ρ f=some (.func (.yield l) #[] #[]))(hv:mP ρ args=some (encs x))
  (i:Nat) (hi:X[i]? =some Y) (hex:∀s∈exs x,s∈S) (hSb:fB Sb∈S) (k:∀Y',J (pre++[x]) Y' →x9 P Q N D rest ((d,.bool true)::ρ) b (Y' ::X.eraseIdx i) S) (hd:d<N:=by decide):
  x9 P Q N D (⟨some d,.call ⟨.value f,args.toArray,tys⟩,ty,pos,af,none⟩::rest) ρ b X S:=fun w m a ha=>by
 have m1:=m.perm (ao [i] X [Y] (X.eraseIdx i) (by simp[bN,hi]))
 obtain⟨fn,tmps,assign,body,hy,hR⟩:=hY pre x Y (X.eraseIdx i) S w hok hJ hex hSb m1
 have hy' :(execOp a.eval ⟨some d,.call ⟨.value f,args.toArray,tys⟩,ty,pos,af,none⟩).run P w= .ok (.round l fn tmps assign body) w:=by
  have h1:=ha.eval hf
  have h2:=ha.gM hv
  simp[execOp,resolve,Deferred.ofValue,invoke,h1,h2,hy]
 refine⟨fun _ _=>trivial, ?_⟩
 rw[Oper.semAt_eq _ _ _ (fun c hc=>by cases hc),hy',Oper.uponIn_round]
 refine⟨fun h=>by simp[Fence.wide]at h,hR.mono ?_⟩
 rintro e w' ⟨rfl,Y',hJ',m'⟩
 exact k Y' hJ' w' m' _ (ha.put hd)
end
end Go.Eng
end
section
namespace Go.Eng
theorem qg{cur vs:List Value}{o m j:Nat}(hj:j+vs.length≤m)(hm:o+m≤cur.length):((bD cur (o+j) vs).drop o).take m=bD ((cur.drop o).take m) j vs:=by
 apply List.ext_getElem?
 intro i
 rw[pE (by simp;omega)]
 by_cases hi:i<m
 ·rw[List.getElem?_take_of_lt hi,List.getElem?_drop,pE (by omega)]
  by_cases h1:i<j
  ·rw[if_pos h1,if_pos (by omega),List.getElem?_take_of_lt hi,List.getElem?_drop]
  ·rw[if_neg h1,if_neg (by omega)]
   by_cases h2:i<j+vs.length
   ·rw[if_pos h2,if_pos (by omega)];congr 1;omega
   ·rw[if_neg h2,if_neg (by omega),List.getElem?_take_of_lt hi,List.getElem?_drop]
 ·rw[List.getElem?_take_eq_none (by omega),if_neg (by omega),if_neg (by omega),List.getElem?_take_eq_none (by omega)]
section
variable{P:Program}{Q:Exit→Act→World→Prop}{N:Nat}{D:List Deferred}{ρ:Env}{w:World}{x y:Operand}{ty t e:TypeId}{v:Value}{K:Value→World→Prop}
theorem E8{A:Option Addr}{n c base sz szt j:Nat}{xs vs:List Value}(hx:ev ρ x=some (.pointer (some ((A.getD d0).add j))))(hy:ev ρ y=some (.agg vs.toArray))(hs:fl P t=some szt)(hl:vs.length=szt)(h1:∀u∈vs,u.oneCell' =true)(h:Own w base e sz (.slice A n c) n xs)(hj:j+szt≤n*sz)(hn0:0<n)
  (k:∀w',Fr (j8 (.slice A n c)) w w' →Own w' base e sz (.slice A n c) n (bD xs j vs)→w'.heap.size=w.heap.size→K undef w'):XW P Q N D ρ w (.store t x y) ty K:=by
 rcases h with⟨hl',⟨h2,rfl⟩|⟨g,o,cap,cur,h2,hb,hg,hn,hm,hc,hxs⟩⟩
 ·omega
 ·injection h2 with h2 h3 h4
  subst h2;subst h4
  have hle:n*sz≤c*sz:=Nat.mul_le_mul_right _ hn
  refine Dd (g:=g) (o:=o+j) (by rw[hx,Option.getD_some,ez]) hy hs hl h1 hg (by omega) fun w' hf hb' hsz=>k w' ?_ ⟨?_,.inr ⟨g,o,c,_,rfl,hb,hb',hn,hm,by rw[en (by omega)];exact hc, ?_⟩⟩ hsz
  ·exact hf.mono fun i _ hi=>hi
  ·rw[en (by omega)];exact hl'
  ·rw[qg (by omega) (by omega),hxs]
end
section
variable{P:Program}{Q:Exit→Act→World→Prop}{N:Nat}{D:List Deferred}{ρ:Env}{b:cg}{X S:List bg}{x y:Operand}{ty t t' e:TypeId}{K:Value→List bg→List bg→Prop}
theorem v7{A:Option Addr}{n c sz szt j:Nat}{xs vs:List Value}(i:Nat)(hi:X[i]? =some (aI e sz (.slice A n c) n xs))(hx:ev ρ x=some (.pointer (some ((A.getD d0).add j))))(hy:ev ρ y=some (.agg vs.toArray))(hs:fl P t=some szt)(hl:vs.length=szt)(h1:∀u∈vs,u.oneCell' =true)(hj:j+szt≤n*sz)(hn0:0<n)
  (k:K undef (aI e sz (.slice A n c) n (bD xs j vs)::X.eraseIdx i) S):XH P Q N D ρ b X S (.store t x y) ty K:=fun w m=>E8 hx hy hs hl h1 (m.own i hi) hj hn0 fun w' hf hb hsz=>⟨_,_,by
  have m' :=m.perm (ao [i] X [aI e sz (.slice A n c) n xs] (X.eraseIdx i) (by simp[bN,hi]))
  exact m'.change (r' :=aI e sz (.slice A n c) n (bD xs j vs)) hf hb (fun k hk=>.inl hk),k⟩
end
end Go.Eng
end
section
set_option maxRecDepth 20000
namespace Go.Proofs.YtmibdabdlgmafaaGreatDoor
open Go.Eng Go.Hx Go.Sort
structure G1 where
 b:List UInt8
 h:b.length=32
instance:Inhabited G1:=⟨⟨List.replicate 32 0,List.length_replicate⟩⟩
end Go.Proofs.YtmibdabdlgmafaaGreatDoor
end
section
set_option maxRecDepth 20000
set_option maxHeartbeats 4000000
namespace Go.Proofs.YtmibdabdlgmafaaGreatDoor
open Go.Eng Go.Hx
abbrev It:=G1×Int
structure IX where
 mn:Int
 av:Int
 mx:Int
 img:G1
 its:List It
 A:Option Addr
 c:Nat
def fK(t:It):List Value:=aT t.1.b++[.int .i64 t.2]
def fe(l:List It):List Value:=l.flatMap fK
theorem bL(t:It):(fK t).length=33:=by simp[fK,aA,t.1.h]
theorem gS(t:It):∀u∈fK t,u.oneCell' =true:=by
 intro u hu
 rcases List.mem_append.1 hu with h|h
 ·exact iL u h
 ·rw[List.mem_singleton.1 h];rfl
theorem fY(a b:List It):fe (a++b)=fe a++fe b:=by simp[fe]
theorem oJ{l:List It}:∀u∈fe l,u.oneCell' =true:=by
 intro u hu
 obtain⟨t,_,h⟩:=List.mem_flatMap.1 hu
 exact gS t u h
theorem vB(l:List It):(fe l).length=l.length*33:=by
 induction l with
 |nil=>rfl
 |cons t r ih=>
  have:fe (t::r)=fK t++fe r:=by simp[fe]
  rw[this,List.length_append,bL,ih,List.length_cons];omega
def IX.cs(x:IX):List Value:=[.int .i64 x.mn,.int .i64 x.av,.int .i64 x.mx]++aT x.img.b++[.slice x.A x.its.length x.c]
theorem IX.cd(x:IX):x.cs.length=36:=by simp[IX.cs,aA,x.img.h]
theorem IX.cx(x:IX):∀u∈x.cs,u.oneCell' =true:=by
 intro u hu
 rcases List.mem_append.1 hu with h|h
 ·rcases List.mem_append.1 h with h|h
  ·simp only[List.mem_cons,List.not_mem_nil,or_false]at h
   rcases h with rfl|rfl|rfl <;> rfl
  ·exact iL u h
 ·rw[List.mem_singleton.1 h];rfl
theorem IX.ko(x:IX):x.cs[35]? =some (.slice x.A x.its.length x.c):=by
 have:([Value.int .i64 x.mn,.int .i64 x.av,.int .i64 x.mx]++aT x.img.b).length=35:=by simp[aA,x.img.h]
 unfold IX.cs
 rw[List.getElem?_append_right (by omega),this]
 rfl
def Fk(L:List IX):List Value:=L.flatMap IX.cs
def IX.lX(x:IX):bg:=cz 33 x.A x.its.length (fe x.its)
theorem Cq{w:World}{g:Nat}{ty:TypeId}{a b:List Value}(h:e8 w g ty (a++b)):∀(j:Nat) (u:Value),a[j]? =some u→w.cell? (((⟨g,0,none⟩:Addr).add 0).add j)=some u:=fun j u hu=>by
 have:=h.aw j u (by rw[List.getElem?_append_left (List.getElem?_eq_some_iff.1 hu).1];exact hu)
 rw[add_add,Nat.zero_add]
 exact this
theorem Ei{w:World}{A:Option Addr}{n i:Nat}{l:List It}{t:It}(h:Rd w 33 A n (fe l))(hx:l[i]? =some t):∀(j:Nat) (u:Value),(aT t.1.b)[j]? =some u→w.cell? ((((A.getD d0).add (i*33)).add 0).add j)=some u:=fun j u hu=>by
 have:=cm (f:=fK) bL h hx j u (by rw[fK,List.getElem?_append_left (List.getElem?_eq_some_iff.1 hu).1];exact hu)
 rw[add_add,Nat.zero_add]
 exact this
end Go.Proofs.YtmibdabdlgmafaaGreatDoor
end
section
set_option maxRecDepth 20000
set_option maxHeartbeats 4000000
namespace Go.Proofs.YtmibdabdlgmafaaGreatDoor
open Go.Eng Go.Hx
def ints(l:List Int):List Value:=l.map (Value.int .i64)
def xG(l:List Int):Prop:=∀z∈l,-9223372036854775808≤z∧z≤9223372036854775807
theorem Ab{l:List Int}{i:Nat}(h:i<l.length):(ints l)[i]? =some (.int .i64 (l.getD i 0)):=by simp[ints,List.getElem?_map,List.getElem?_eq_getElem h,List.getD]
theorem xG.at{l:List Int}(h:xG l){i:Nat}(hi:i<l.length):-9223372036854775808≤l.getD i 0∧l.getD i 0≤9223372036854775807:=by
 rw[List.getD,List.getElem?_eq_getElem hi]
 exact h _ (List.getElem_mem hi)
theorem vy(d:RD)(bb:List UInt8):(d.put bb).2.1.length=32:=by
 unfold RD.put
 split
 ·exact eY
 ·split
  ·exact eY
  ·split
   ·exact bq _
   ·show(if _ then _ else _:List UInt8).length=32
    split
    ·exact bq _
    ·exact eY
theorem xU{P:Program}{e:TypeId}(he:P.underlying e=some (.int .i64)):∀{n:Nat} {ys:List Cell},ys.length=n→(∀i,i<n→Ty P e ((ys.drop i).take 1))→∃l:List Int,ys.map Cell.val=ints l∧l.length=n∧xG l:=by
 intro n ys hl h
 have hg:∀i,i<n→∃z:Int,ys[i]? =some (.v (.int .i64 z))∧-9223372036854775808≤z∧z≤9223372036854775807:=fun i hi=>by
  obtain⟨z,hz,hb⟩:=sk he (h i hi)
  have h2:((ys.drop i).take 1)[0]? =some (.v (.int .i64 z)):=by rw[hz];rfl
  rw[List.getElem?_take,if_pos (by omega),List.getElem?_drop,Nat.add_zero]at h2
  exact⟨z,h2,hb⟩
 refine⟨ys.map fun y=>match y.val with| .int _ z=>z|_=>0, ?_,by simpa using hl,fun z hz=> ?_⟩
 ·apply List.ext_getElem?
  intro i
  simp only[ints,List.map_map,List.getElem?_map]
  by_cases hi:i<n
  ·obtain⟨z,hz,_⟩:=hg i hi
   rw[hz]
   simp[Cell.val]
  ·rw[List.getElem?_eq_none (by omega)]
   rfl
 ·obtain⟨y,hy,rfl⟩:=List.mem_map.1 hz
  obtain⟨i,hi⟩:=List.mem_iff_getElem?.1 hy
  have hin:i<n:=by rw[←hl];exact(List.getElem?_eq_some_iff.1 hi).1
  obtain⟨z,hz2,hb⟩:=hg i hin
  rw[hi]at hz2
  cases hz2
  exact hb
theorem Ce{xs:List Cell}(h:Ty Tryz.prog 44 xs):∃A n c ys l,xs=[.s 1 A n c ys]∧ys.map Cell.val=ints l∧xG l:=by
 obtain⟨A,n,c,ys,rfl,h1,h2,h3,h4⟩:=tI Tryz.underlying44 h
 have c1:Tryz.prog.cellsOf 3=1:=by kernel_rfl
 rw[c1]at h3 h4 ⊢
 obtain⟨l,h5,h6,h7⟩:=xU Tryz.underlying3 (by omega:ys.length=n) (fun i hi=>by have:=h4 i hi;rwa [Nat.mul_one]at this)
 exact⟨A,n,c,ys,l,rfl,h5,h7⟩
end Go.Proofs.YtmibdabdlgmafaaGreatDoor
end
section
set_option maxRecDepth 20000
set_option maxHeartbeats 4000000
namespace Go.Proofs.YtmibdabdlgmafaaGreatDoor
open Go.Eng Go.Hx
theorem mV{l:List Int}{i n:Nat}(h:¬(i<l.length∧i<n))(hi:i≤l.length)(hn:i≤n):l.take i=l.take n:=by
 by_cases h1:i<l.length
 ·have:i=n:=by omega
  rw[this]
 ·rw[List.take_of_length_le (by omega),List.take_of_length_le (by omega)]
end Go.Proofs.YtmibdabdlgmafaaGreatDoor
end
section
set_option maxRecDepth 20000
set_option maxHeartbeats 4000000
namespace Go.Proofs.YtmibdabdlgmafaaGreatDoor
open Go.Eng Go.Hx
def kq:G1:=⟨List.replicate 32 0,List.length_replicate⟩
def G7:IX:=⟨0,0,0,kq,[],none,0⟩
theorem EI{P:Program}{pl:Nat→Option (Nat×Nat)}{x:IX}(h0:pl 0=some (0,3))(h1:pl 1=some (3,32))(h2:pl 2=some (35,1)):wq P pl G7.cs [(0,.agg [Value.int .i64 x.mn,.int .i64 x.av,.int .i64 x.mx].toArray),(1,.agg (aT x.img.b).toArray),(2,.slice x.A x.its.length x.c)] x.cs:=by
 have hi:(aT x.img.b).length=32:=by rw[aA,x.img.h]
 have hz:(aT kq.b).length=32:=by rw[aA,kq.h]
 have e1:bD G7.cs 0 [Value.int .i64 x.mn,.int .i64 x.av,.int .i64 x.mx]=[Value.int .i64 x.mn,.int .i64 x.av,.int .i64 x.mx]++aT kq.b++[.slice none 0 0]:=rfl
 have e2:bD ([Value.int .i64 x.mn,.int .i64 x.av,.int .i64 x.mx]++aT kq.b++[.slice none 0 0]) 3 (aT x.img.b)=[Value.int .i64 x.mn,.int .i64 x.av,.int .i64 x.mx]++aT x.img.b++[.slice none 0 0]:=dr rfl (by rw[hi,hz])
 have e3:bD ([Value.int .i64 x.mn,.int .i64 x.av,.int .i64 x.mx]++aT x.img.b++[.slice none 0 0]) 35 [.slice x.A x.its.length x.c]=x.cs:=by
  have:=dr (a:=[Value.int .i64 x.mn,.int .i64 x.av,.int .i64 x.mx]++aT x.img.b) (b:=[Value.slice none 0 0]) (c:=[]) (vs:=[.slice x.A x.its.length x.c]) (o:=35) (by simp[hi]) rfl
  rw[List.append_nil,List.append_nil]at this
  exact this
 exact .cons h0 (aV _) rfl (by rw[IX.cd];decide) (by rw[e1];exact .cons h1 (aV _) hi (by simp[hz]) (by rw[e2];exact .cons h2 rfl rfl (by simp[hi]) (by rw[show(Value.slice x.A x.its.length x.c).cells.toList=[Value.slice x.A x.its.length x.c]from rfl,e3];exact .nil)))
theorem oQ{w:World}{g:Nat}{ty:TypeId}{a b c:List Value}(h:e8 w g ty (a++b++c)):∀(j:Nat) (u:Value),b[j]? =some u→w.cell? (((⟨g,0,none⟩:Addr).add a.length).add j)=some u:=fun j u hu=>by
 have hj:=(List.getElem?_eq_some_iff.1 hu).1
 have:=h.aw (a.length+j) u (by rw[List.getElem?_append_left (by rw[List.length_append];omega),List.getElem?_append_right (by omega),Nat.add_sub_cancel_left];exact hu)
 rw[add_add]
 exact this
theorem vZ{P:Program}{pl:Nat→Option (Nat×Nat)}{t:It}(h0:pl 0=some (0,32))(h1:pl 1=some (32,1)):wq P pl (fK (kq,0)) [(0,.agg (aT t.1.b).toArray),(1,.int .i64 t.2)] (fK t):=by
 have hz:(aT kq.b).length=32:=by rw[aA,kq.h]
 have hn:(aT t.1.b).length=32:=by rw[aA,t.1.h]
 have e1:bD (fK (kq,0)) 0 (aT t.1.b)=aT t.1.b++[.int .i64 0]:=by
  have:=dr (a:=[]) (b:=aT kq.b) (c:=[Value.int .i64 0]) (vs:=aT t.1.b) (o:=0) rfl (by rw[hn,hz])
  exact this
 have e2:bD (aT t.1.b++[.int .i64 0]) 32 [.int .i64 t.2]=fK t:=by
  have:=dr (a:=aT t.1.b) (b:=[Value.int .i64 0]) (c:=[]) (vs:=[.int .i64 t.2]) (o:=32) hn rfl
  rw[List.append_nil,List.append_nil]at this
  exact this
 exact .cons h0 (aV _) hn (by rw[bL];decide) (by rw[e1];exact .cons h1 rfl rfl (by simp[hn]) (by rw[show(Value.int .i64 t.2).cells.toList=[Value.int .i64 t.2]from rfl,e2];exact .nil))
end Go.Proofs.YtmibdabdlgmafaaGreatDoor
end
section
set_option maxRecDepth 20000
set_option maxHeartbeats 2000000
namespace Go.Proofs.YtmibdabdlgmafaaGreatDoor
open Go.Eng Go.Hx
def dG(c:List UInt8):It:=(⟨bA c,bq _⟩,((c.length:Nat):Int))
def cn(l:List UInt8)(q:Pn):List It:=(eJ l q).map dG
theorem tY(w:List UInt32)(q:Pn):∀(f:Nat) (b:List UInt8),(jd w q f b).length≤f
 |0,_=>Nat.le_refl _
 |f+1,b=>by
  rw[jd]
  split
  ·exact Nat.zero_le _
  ·rw[List.length_cons];have:=tY w q f (b.drop (ig w b q));omega
theorem my{w:List UInt32}{q:Pn}:∀{f:Nat} {b c:List UInt8},c∈jd w q f b→c.length≤b.length
 |0,_,_,h=>by rw[jd]at h;exact absurd h List.not_mem_nil
 |f+1,b,c,h=>by
  rw[jd]at h
  split at h
  ·exact absurd h List.not_mem_nil
  ·rcases List.mem_cons.1 h with h|h
   ·rw[h,List.length_take];omega
   ·have:=my h
    rw[List.length_drop]at this
    omega
theorem kM(l:List UInt8)(q:Pn):(eJ l q).length≤l.length:=tY ..
theorem CB{B:Option Addr}{n k:Nat}{l:List UInt8}{q:Pn}(hq:q.ok)(hl:l.length=n)(hn:n≤1000000)(hk:n≤k):cf Tryz.prog 193 [.slice B n k,.agg q.p.cs.toArray] [] [cz 1 B n (aT l)] (fun v_ X_ S_=>∃A2 c2,v_=(.slice A2 (cn l q).length c2)∧X_=[aI 100 33 (.slice A2 (cn l q).length c2) (cn l q).length (fe (cn l q))]∧S_=[]):=by
 refine aK (N:=32) Tryz.func193 rfl rfl (by simp) fun b=> ?_
 refine aQ (fun m=>ek (m.rd 0 rfl)) ?_
 rintro⟨hl_rb,hA_rb⟩
 refine ae<|ah<| ?_
 refine hx (br rfl (fun g3=> ?_))
 refine aH (fun w m=>m.bw 0 rfl (show _=aE g3 75 q.p.cs from congrArg (aE _ _) (aV _))) ?_
 refine aG rfl<|ag<|aY rfl rfl<|aa<|ae<|ah<|au rfl<|hy (fun m=>yV (aP rfl gK gg rfl ((m.aN 0 rfl).aw)) ((rfl:_=Value.agg q.p.cs.toArray)))<| ?_
 refine hx (an rfl Tryz.call50 (pL hq hl hn hk) [] rfl [0] rfl ?_)
 rintro _ _ _ ⟨A1,c1,rs,rfl,rfl,rfl,hcs⟩
 obtain⟨hcs,hrs⟩:=hcs
 have hrl:rs.length≤n:=by
  have:=congrArg List.length hcs
  rw[List.length_map]at this
  have:=kM l q
  omega
 refine aH (fun w m=>(m.perm (ao [0] _ [_] _ rfl)).freeze) ?_
 refine aH (fun w m=>m.ew 0 rfl .own) ?_
 refine aC (fun m=>eU (m.rd 0 rfl)) ?_
 rintro⟨hl_or,hA_or⟩
 refine aH (fun w m=>m.cL (r' :=aI 100 33 (.slice none 0 0) 0 []) (.refl _ _) (Own.nil _ _ _ _) (fun k hk=>hk.elim)) ?_
 refine aG rfl<|ag<|az [5,4,3,0,1] rfl<|aY rfl rfl<|aa<|ae<|ah<|aG rfl<|ag<|aa<|ae<|ae<|ah<|aG rfl<|ag<|aa<|aM<| ?_
 refine gh (fun i A2 c2=>rs.length-i) (fun i A2 c2=>[(6,.slice A2 i c2),(7,.int .i64 (i:Nat))]) (fun i A2 c2=>[aI 100 33 (.slice A2 i c2) i (fe ((rs.take i).map fun r=>dG (bh.l r)))]) (fun i A2 c2=>[]) (fun i A2 c2=>i≤rs.length) 0 none 0 [(5,_),(4,_),(3,_),(0,_),(1,_)] ⟨rfl,rfl,rfl,rfl,rfl,trivial⟩ [0] rfl [] rfl (Nat.zero_le _) ⟨rfl,rfl,trivial⟩ (fun i A2 c2 hi=> ?_)
 refine ae<|ae<|ah<|au rfl<|au rfl<|hy (fun _=>a6 rfl Tryz.underlying84)<|hy (fun _=>bx rfl rfl)<|ag<|az [14,6,7,5,4,3,0,1] rfl<|aa<| ?_
 refine cu rfl (fun hlt=> ?_) (fun hlt=> ?_)
 ·obtain⟨r,hr⟩:∃r,rs[i]? =some r:=⟨_,List.getElem?_eq_getElem (by omega)⟩
  have hrn:=hrs r (List.mem_of_getElem? hr)
  have hrl2:(bh.l r).length≤n:=by
   rw[←hl]
   exact my (w:=bu) (q:=q) (f:=l.length) (show bh.l r∈eJ l q by rw[←hcs];exact List.mem_map_of_mem (List.mem_of_getElem? hr))
  have htk:(rs.take (i+1)).map (fun r=>dG (bh.l r))=(rs.take i).map (fun r=>dG (bh.l r))++[dG (bh.l r)]:=by
   obtain⟨h1,rfl⟩:=List.getElem?_eq_some_iff.1 hr
   rw[List.take_succ_eq_append_getElem h1,List.map_append]
   rfl
  refine a8 (fun w m=>m.ew 2 rfl (View.row hr)) ?_
  refine aQ (fun m=>ek (m.rd 0 rfl)) ?_
  rintro⟨hl_ri,hA_ri⟩
  refine aB<|aa<|ae<|aM<|cA [5,12,13] [(0,some 2),(1,some 2),(2,some 2),(3,some 0),(4,some 0),(6,some 3),(7,some 3),(8,some 3),(9,some 1),(10,some 1),(5,none),(11,some 1),(12,none),(13,none),(14,some 3)] (by kernel_rfl) (by kernel_rfl) rfl 2<|aj (ai rfl)<|aj (ai rfl)<|aj (ai rfl)<|aj (aS rfl rfl Tryz.underlying84 je hA_or rfl (by omega))<|bV (fun m=>ak rfl di ((m.rd 1 rfl).cell (show(lf rs)[i]? =some (Value.slice (bh.A r) (bh.n r) (bh.c r)) by rw[lf,List.getElem?_map,hr];rfl)))<|aj (ai rfl)<|aj (ai rfl)<|aj (aS rfl rfl Tryz.underlying84 je hA_or rfl (by omega))<|bV (fun m=>ak rfl di ((m.rd 1 rfl).cell (show(lf rs)[i]? =some (Value.slice (bh.A r) (bh.n r) (bh.c r)) by rw[lf,List.getElem?_map,hr];rfl)))<|aj (yV (a6 rfl Tryz.underlying27) ((show Value.int .i64 ((bh.n r:Nat):Int)= .int .i64 (dG (bh.l r)).2 from by rw[hrn];rfl)))<| ?_
  refine dk (an rfl Tryz.call56 (jq (by omega)) [] rfl [0] rfl ?_)
  rintro _ _ _ ⟨rfl,rfl,rfl⟩
  refine⟨(fun _=>wk [0,0] [0,1,2,3,4] rfl rfl), ?_⟩
  refine aj (b6 jv rfl rfl (by kernel_rfl) (vZ (t:=dG (bh.l r)) rI rE))<| ?_
  refine dk (b5 Tryz.underlying80 jv rfl rfl rfl (by intro v hv;rw[List.mem_singleton.1 hv];show(fK (dG (bh.l r))).toArray.size=33;rw[List.size_toArray,bL]) (by decide) (by decide) (fun g29=>⟨(fun _=>wk [1,1] [0,1,2,3,4] rfl rfl), ?_⟩))
  have hA_b29:0<1→(some (⟨g29,0,none⟩:Addr))≠none:=fun _ h=>by cases h
  refine dU (fun w m=>m.bw 0 rfl (show _=aI 100 33 (.slice (some ⟨g29,0,none⟩) 1 1) 1 (fe [dG (bh.l r)])from rfl)) ?_
  refine dk (bC 1 rfl rfl rfl Tryz.underlying80 Tryz.underlying80 (by exact .inl rfl) jv rfl (fun m=>Src.b9 (m.ord 0 rfl)) oJ (by unfold maxLen;omega) (by omega) (fun u=>⟨(fun h=>absurd h (by decide)), ?_⟩))
  refine bU (fun m=>(m.own 0 rfl).slice) ?_
  rintro⟨A_z,c_z,rfl,hc_z⟩
  refine bU (fun m=>(m.ord 0 rfl).2.1) fun hA_z=> ?_
  refine dU (fun w m=>m.bw 0 rfl (show _=aI 100 33 (.slice A_z (i+1) c_z) (i+1) (fe ((rs.take (i+1)).map fun r=>dG (bh.l r)))from congrArg (aI _ _ _ _) (by rw[htk,fY]))) ?_
  refine aj (ay rfl)<|bp<|az [6,14,7,5,4,3,0,1] rfl<|aY rfl rfl<|aW<|aa<|ah<|au rfl<|hy (fun _=>aO rfl rfl (bE (by omega) (by omega)))<|aG rfl<|ag<|az [7,6,14,5,4,3,0,1] rfl<| ?_
  refine gj (i+1) A_z c_z ⟨rfl,rfl,rfl,rfl,rfl,rfl,rfl,trivial⟩ [0,1] rfl [1,2,3,4] rfl (by omega) (by omega)
 ·obtain rfl:i=rs.length:=by omega
  rw[List.take_length]
  have hit:(rs.map fun r=>dG (bh.l r))=cn l q:=by rw[cn,←hcs,List.map_map];rfl
  have hrl3:rs.length=(cn l q).length:=by rw[←hit,List.length_map]
  rw[hit,hrl3]
  refine bH<|al<|al<|aD<|aa<|ae<|ah<|au rfl<|aG rfl<|ag<|az [4,14,6,7,5,3,0,1] rfl<|aa<|aR<| ?_
  exact bc trivial rfl rfl [0] rfl [] rfl ⟨_,_,rfl,rfl,rfl⟩
end Go.Proofs.YtmibdabdlgmafaaGreatDoor
end
section
set_option maxRecDepth 20000
set_option maxHeartbeats 2000000
namespace Go.Proofs.YtmibdabdlgmafaaGreatDoor
open Go.Eng Go.Hx
theorem zb{q:Pn}(hq:q.ok){l:List UInt8}{rs:List bh}{cur:List UInt8}(h1:rs.map bh.l=(iP q l).1)(h2:cur=(iP q l).2):rs.map bh.l++(if cur=[]then []else [cur])=eJ l q:=by
 rw[h1,h2];exact uL hq l
theorem sn{q:Pn}{l c:List UInt8}(h:c∈eJ l q):c.length≤l.length:=my h
theorem Gi{gp gb:Nat}{q:Pn}{B:Option Addr}{n k:Nat}{l:List UInt8}(hq:q.ok)(hl:l.length=n)(hn:n≤1000000):yO (α:=bh) Tryz.prog 282 [.pointer (some ⟨gp,0,none⟩),.pointer (some ⟨gb,0,none⟩)] [aE gp 75 q.p.cs,aE gb 27 [.slice B n k],cz 1 B n (aT l)] (fun x_=>[.slice x_.A x_.n x_.c]) (fun x_=>[cz 1 x_.A x_.n (aT x_.l)]) (fun pre_ x_=>pre_.length<n∧x_.l.length≤n) (fun xs_=>xs_.map bh.l=eJ l q):=by
 refine B9 (N:=38) Tryz.func282 rfl rfl (by simp) fun l_ b J_ Sb_ Y_ hY_ hJ_=> ?_
 refine aQ (fun m=>ek (m.rd 3 rfl)) ?_
 rintro⟨hl_rb,hA_rb⟩
 refine ae<|ah<|hy (fun m=>yV (aP rfl gK gg rfl ((m.rP 1 rfl).aw)) ((rfl:_=Value.agg q.p.cs.toArray)))<| ?_
 refine hx (an rfl Tryz.call283 (GO hq (q:=q)) [] rfl [] rfl ?_)
 rintro _ _ _ ⟨gc,gr,rfl,rfl,rfl⟩
 refine au rfl<|hy (fun _=>aF rfl rfl)<|hy (fun _=>aF rfl rfl)<|aG rfl<|aG rfl<|ag<|az [5,4,0,1,2] rfl<|aY rfl rfl<|aa<|ae<|ae<|ah<|au rfl<|hy (fun _=>de rfl rfl)<|ag<|az [15,5,4,0,1,2] rfl<|aa<| ?_
 refine dm rfl (rfl) ?_
 refine aB<|aa<|ae<|ae<|ah<|au rfl<|hy (fun m=>ak rfl di (ar (m.rP 2 rfl) rfl))<| ?_
 refine hx (an rfl Tryz.call284 (Cb hq uZ hl hn (q:=q)) [0,0] rfl [3] rfl ?_)
 rintro _ _ _ ⟨A1,c1,rs,A,c,cur,s,rfl,rfl,rfl,hw⟩
 obtain⟨hw1,hw2,hw3,hw4,hw5⟩:=hw
 have hall:=zb hq hw1 hw2
 have hmem:∀r∈rs,r.l.length≤n:=fun r hr=>by
  rw[←hl]
  exact sn (q:=q) (by rw[←hall];exact List.mem_append_left _ (List.mem_map_of_mem hr))
 refine aC (fun m=>(m.ord 0 rfl).2.1) fun hA_z=> ?_
 refine hy (fun _=>a6 rfl Tryz.underlying84)<|au rfl<|ag<|az [20,19,18,15,5,4,0,1,2] rfl<|aY rfl rfl<|aa<|aM<| ?_
 refine kv (fun i Y=>rs.length-i) (fun i Y=>[(20,.int .i64 (i:Nat))]) (fun i Y=>[Y]) (fun i Y=>[]) (fun i Y=>i≤rs.length∧J_ (rs.take i) Y) 0 Y_ [(19,_),(18,_),(15,_),(5,_),(4,_),(0,_),(1,_),(2,_)] ⟨rfl,rfl,rfl,rfl,rfl,rfl,rfl,rfl,trivial⟩ [4] rfl [] rfl (⟨Nat.zero_le _,hJ_⟩) ⟨rfl,trivial⟩ (fun i Y ⟨hi,hJ⟩=> ?_)
 refine ae<|ah<|hy (fun _=>bx rfl rfl)<|ag<|aa<|ae<| ?_
 refine cu rfl (fun hlt=> ?_) (fun hlt=> ?_)
 ·have hir:i<rs.length:=by omega
  obtain⟨r,hr⟩:∃r,rs[i]? =some r:=⟨_,List.getElem?_eq_getElem hir⟩
  have hrm:=List.mem_of_getElem? hr
  have htk:rs.take (i+1)=rs.take i++[r]:=by
   obtain⟨h1,rfl⟩:=List.getElem?_eq_some_iff.1 hr
   exact List.take_succ_eq_append_getElem h1
  refine a8 (fun w m=>m.ew 0 rfl (View.row hr)) ?_
  refine aQ (fun m=>ek (m.rd 0 rfl)) ?_
  rintro⟨hl_rt,hA_rt⟩
  refine aB<|aa<|ae<|aM<|ae<|ah<|hy (fun _=>aS rfl rfl Tryz.underlying84 je hA_z rfl (by omega))<|hy (fun m=>ak rfl di ((m.ord 1 rfl).cell (show(lf rs)[i]? =some (Value.slice r.A r.n r.c) by rw[lf,List.getElem?_map,hr];rfl)))<|aG rfl<|ag<|az [7,21,20,19,18,15,5,4,0,1,2] rfl<|aa<|ae<|Dq<|F9 (fun _=>ai rfl)<|F9 (fun _=>ai rfl)<| ?_
  refine zh hY_ r (⟨by rw[List.length_take];omega,hmem r hrm⟩:(rs.take i).length<n∧r.l.length≤n) hJ rfl rfl 0 rfl (fun s_ hs_=>by rw[List.mem_singleton.1 hs_];exact List.mem_of_getElem? (i:=0) rfl) (List.mem_of_getElem? (i:=2) rfl) fun Y1 hJ1=> ?_
  rw[←htk]at hJ1
  refine F9 (fun _=>(j5 rfl))<|Dj<|az [27,7,21,20,19,18,15,5,4,0,1,2] rfl<|aY rfl rfl<|aa<| ?_
  refine dm rfl (rfl) ?_
  refine aB<|aW<|aa<|ah<|hy (fun _=>aO rfl rfl (bE (by omega) (by omega)))<|au rfl<|ag<|az [20,27,7,21,19,18,15,5,4,0,1,2] rfl<| ?_
  refine hC (i+1) Y1 ⟨rfl,rfl,rfl,rfl,rfl,rfl,rfl,rfl,rfl,trivial⟩ [0,0,0,0,0] rfl [1,2,3,4,5] rfl (⟨by omega,hJ1⟩) (by omega)
 ·obtain rfl:i=rs.length:=by omega
  rw[List.take_length]at hJ
  refine bH<|al<|al<|aD<|aa<|ae<|ah<|au rfl<| ?_
  refine hx (an rfl Tryz.call285 (yy hw4) [2,2] rfl [] rfl ?_)
  rintro _ _ _ ⟨rfl,rfl,rfl⟩
  refine aG rfl<|ag<|az [8,21,20,19,18,15,5,4,0,1,2] rfl<|aY rfl rfl<|aa<|ae<|ah<|au rfl<|hy (fun _=>a6 rfl Tryz.underlying27)<|hy (fun _=>cw rfl rfl)<|ag<|az [33,8,21,20,19,18,15,5,4,0,1,2] rfl<|aa<| ?_
  refine cu rfl (fun hpos=> ?_) (fun hpos=> ?_)
  ·have hcl:0<cur.length:=by omega
   have hne:cur≠ []:=fun e=>by rw[e]at hcl;exact absurd hcl (by decide)
   rw[if_neg hne]at hall
   have hcn:cur.length≤n:=by
    rw[←hl]
    exact sn (q:=q) (by rw[←hall];simp)
   refine Dq<|F9 (fun _=>ai rfl)<|F9 (fun _=>ai rfl)<| ?_
   refine Im (cS rfl Tryz.call117 (nh (by omega)) [] rfl (.x 4 rfl .own .nil) ?_)
   rintro _ _ _ ⟨v,rfl,rfl,rfl⟩
   refine⟨rfl, ?_⟩
   refine rO (fun m=>(m.own 0 rfl).slice) ?_
   rintro⟨A_x2,c_x2,rfl,hc_x2⟩
   refine rO (fun m=>(m.ord 0 rfl).2.1) fun hA_x2=> ?_
   refine AP (fun w m=>(m.perm (ao [0] _ [_] _ rfl)).freeze) ?_
   refine AP (fun w m=>m.ew 0 rfl .own) ?_
   refine rO (fun m=>ek (m.rd 0 rfl)) ?_
   rintro⟨hl_x2r,hA_x2r⟩
   refine zh hY_ (⟨A_x2,List.length cur,c_x2,cur⟩:bh) (⟨by omega,hcn⟩:rs.length<n∧cur.length≤n) hJ rfl rfl 2 rfl (fun s_ hs_=>by rw[List.mem_singleton.1 hs_];exact List.mem_of_getElem? (i:=0) rfl) (List.mem_of_getElem? (i:=3) rfl) fun Y1 hJ1=> ?_
   refine Dj<|az [33,8,21,20,19,18,15,5,4,0,1,2] rfl<|aY rfl rfl<| ?_
   exact fA trivial rfl [0] rfl [] rfl ⟨(rs++[⟨A_x2,List.length cur,c_x2,cur⟩]),Y1,rfl,rfl,rfl,(by rw[List.map_append];exact hall),hJ1⟩
  ·have hcl:cur.length=0:=by omega
   rw[if_pos (List.eq_nil_of_length_eq_zero hcl),List.append_nil]at hall
   refine aB<| ?_
   exact fA trivial rfl [2] rfl [] rfl ⟨rs,Y,rfl,rfl,rfl,hall,hJ⟩
theorem GW{B:Option Addr}{n k:Nat}{q:Pn}:cf Tryz.prog 244 [.slice B n k,.agg q.p.cs.toArray] [] [] (fun v_ X_ S_=>∃gb gp,v_=(.func (.func 282) #[] #[.pointer (some ⟨gp,0,none⟩),.pointer (some ⟨gb,0,none⟩)])∧X_=[aE gp 75 q.p.cs,aE gb 27 [.slice B n k]]∧S_=[]):=by
 refine aK (N:=6) Tryz.func244 rfl rfl (by simp) fun b=> ?_
 refine ae<|ah<| ?_
 refine hx (br rfl (fun g2=> ?_))
 refine hx (br rfl (fun g3=> ?_))
 refine aG rfl<|ag<|aY rfl rfl<|aa<|ae<|ah<|hy (fun _=>fD rfl rfl)<|aG rfl<|ag<|az [4,3,2,0,1] rfl<|aa<|aR<| ?_
 refine bd (fun w m=>m.bw 1 rfl (show _=aE g2 27 [.slice B n k]from rfl)) ?_
 refine bd (fun w m=>m.bw 1 rfl (show _=aE g3 75 q.p.cs from congrArg (aE _ _) (aV _))) ?_
 exact bc trivial rfl rfl [0,0] rfl [] rfl ⟨g2,g3,rfl,rfl,rfl⟩
theorem Cl{B:Option Addr}{n k:Nat}{l:List UInt8}{q:Pn}(hq:q.ok)(hl:l.length=n)(hn:n≤1000000):cf Tryz.prog 194 [.slice B n k,.agg q.p.cs.toArray] [] [cz 1 B n (aT l),dF] (fun v_ X_ S_=>∃A2 c2,v_=(.tuple #[.slice A2 (cn l q).length c2,.int .i64 0])∧X_=[aI 100 33 (.slice A2 (cn l q).length c2) (cn l q).length (fe (cn l q))]∧S_=[]):=by
 refine vP (N:=24) Tryz.func194 rfl rfl (by simp) fun b=> ?_
 refine aQ (fun m=>ek (m.rd 0 rfl)) ?_
 rintro⟨hl_rb,hA_rb⟩
 refine ae<|ah<| ?_
 refine hx (br rfl (fun g3=> ?_))
 refine aH (fun w m=>m.bw 0 rfl (show _=aE g3 75 q.p.cs from congrArg (aE _ _) (aV _))) ?_
 refine aG rfl<|aG rfl<|ag<|aY rfl rfl<|aa<|ae<|ae<|ah<|hy (fun m=>yV (aP rfl gK gg rfl ((m.aN 0 rfl).aw)) ((rfl:_=Value.agg q.p.cs.toArray)))<| ?_
 refine hx (an rfl Tryz.call192 (oW (p:=q.p)) [] rfl [] rfl ?_)
 rintro _ _ _ ⟨rfl,rfl,rfl⟩
 refine hy (fun _=>eu rfl)<|ag<|az [10,5,4,3,0,1] rfl<|aY rfl rfl<|aa<| ?_
 refine dm rfl ((decide_eq_false (fun h=>h hq.may))) ?_
 refine aB<|aa<|ae<|ah<| ?_
 refine hx (ba HR (fun g6=> ?_))
 refine ag<|aY rfl rfl<|aa<|ae<|ae<|ah<|au rfl<|hy (fun m=>yV (aP rfl gK gg rfl ((m.aN 1 rfl).aw)) ((rfl:_=Value.agg q.p.cs.toArray)))<| ?_
 refine hx (an rfl Tryz.call244 (GW (q:=q) (n:=n) (k:=k) (B:=B)) [] rfl [] rfl ?_)
 rintro _ _ _ ⟨gb,gp,rfl,rfl,rfl⟩
 refine ag<|az [13,6,10,5,4,3,0,1] rfl<|aY rfl rfl<|aa<| ?_
 refine a8 (fun w m=>m.bw 2 rfl (show _=aE g6 80 [.slice none 0 0]from rfl)) ?_
 refine a8 (fun w m=>m.cL (r' :=aI 100 33 (.slice none 0 0) 0 []) (.refl _ _) (Own.nil _ _ _ _) (fun k hk=>hk.elim)) ?_
 refine a8 (fun w m=>(m.perm (ao [3] _ [_] _ rfl)).freeze) ?_
 refine a8 (fun w m=>(m.perm (ao [2] _ [_] _ rfl)).freeze) ?_
 refine Co (σ:=Option Addr×Nat×List It) (α:=bh) (ρ' :=[]) (fun s_:Option Addr×Nat×List It=>[aE g6 80 [.slice s_.1 s_.2.2.length s_.2.1],aI 100 33 (.slice s_.1 s_.2.2.length s_.2.1) s_.2.2.length (fe s_.2.2)]) (none,0,[]) (fun pre_ s_=>s_.2.2=pre_.map (fun r=>dG (bh.l r))) (fun x_=>[.slice x_.A x_.n x_.c]) (fun x_=>[cz 1 x_.A x_.n (aT x_.l)]) (fun pre_ x_=>pre_.length<n∧x_.l.length≤n) (fun xs_=>xs_.map bh.l=eJ l q) (fun x_=>[(7,.slice x_.A x_.n x_.c)]) [(13,_),(6,_),(10,_),(5,_),(4,_),(3,_),(0,_),(1,_)] ⟨rfl,rfl,rfl,rfl,rfl,rfl,rfl,rfl,trivial⟩ rfl Tryz.call282 (Gi hq hl hn) [0,1,2] rfl [1,0] rfl [0,1,2,3] rfl (fun _=>rfl) (fun _ _ ha_=>Eg (by decide) ha_) (fun l_ b_ s_ x_ S_ Q_ h_=> ?_) rfl (fun l_ b pre_ s_ x_ hI_ hok_=> ?_) (fun Dk_ s_ xs_ hd_ hI_=> ?_)
 ·exact pg (aG rfl ((ag (by refine j7 ?_ h_;exact⟨rfl,rfl,rfl,rfl,rfl,rfl,rfl,rfl,rfl,trivial⟩))))
 ·obtain⟨A,c,its⟩:=s_
  obtain⟨A1,n1,c1,l1⟩:=x_
  obtain⟨hpre,hl1⟩:=hok_
  try dsimp only
  refine Bo (fun m=>ek (m.rd 0 rfl)) ?_
  rintro⟨hl_e,hA_e⟩
  dsimp only at hI_ hl1
  have hil:its.length<n:=by rw[hI_,List.length_map];exact hpre
  have hn1:l1.length=n1:=hl_e
  refine rK<|AS [2,6,7,8] [(0,some 2),(1,some 0),(3,some 1),(4,some 1),(2,none),(5,some 1),(6,none),(7,none),(8,none)] (by kernel_rfl) (by kernel_rfl) rfl 2<|bV (fun m=>ak rfl gD (ar (m.aN 0 rfl) rfl))<|aj (ai rfl)<|aj (ai rfl)<|aj (yV (a6 rfl Tryz.underlying27) ((show Value.int .i64 ((n1:Nat):Int)= .int .i64 (dG l1).2 from by rw[←hn1];rfl)))<| ?_
  refine dk (an rfl Tryz.call102 (oN (by omega)) [] rfl [0,4] rfl ?_)
  rintro _ _ _ ⟨rfl,rfl,rfl⟩
  refine⟨(fun _=>wk [0,0] [0,1,2,3,4] rfl rfl), ?_⟩
  refine aj (b6 jv rfl rfl (by kernel_rfl) (vZ (t:=dG l1) rI rE))<| ?_
  refine dk (b5 Tryz.underlying80 jv rfl rfl rfl (by intro v hv;rw[List.mem_singleton.1 hv];show(fK (dG l1)).toArray.size=33;rw[List.size_toArray,bL]) (by decide) (by decide) (fun g21=>⟨(fun _=>wk [1,1] [0,1,2,3,4] rfl rfl), ?_⟩))
  have hA_b21:0<1→(some (⟨g21,0,none⟩:Addr))≠none:=fun _ h=>by cases h
  refine dU (fun w m=>m.bw 0 rfl (show _=aI 100 33 (.slice (some ⟨g21,0,none⟩) 1 1) 1 (fe [dG l1])from rfl)) ?_
  refine dk (bC 2 rfl rfl rfl Tryz.underlying80 Tryz.underlying80 (by exact .inl rfl) jv rfl (fun m=>Src.b9 (m.ord 0 rfl)) oJ (by unfold maxLen;omega) (by omega) (fun u=>⟨(fun h=>absurd h (by decide)), ?_⟩))
  refine bU (fun m=>(m.own 0 rfl).slice) ?_
  rintro⟨A_z,c_z,rfl,hc_z⟩
  refine bU (fun m=>(m.ord 0 rfl).2.1) fun hA_z=> ?_
  have hli:(its++[dG l1]).length=its.length+1:=by simp
  refine dU (fun w m=>m.bw 0 rfl (show _=aI 100 33 (.slice A_z (its.length+1) c_z) (its.length+1) (fe (its++[dG l1]))from congrArg (aI _ _ _ _) (by rw[fY]))) ?_
  rw[←hli]
  refine gi (dw 2 rfl rfl rfl Gu rfl (by first|exact Nat.le_of_ble_eq_true rfl|simp) ⟨(fun h=>absurd h (by decide)), ?_⟩)
  refine bp<|az [7,13,6,10,5,4,3,0,1] rfl<|aY rfl rfl<|aW<| ?_
  refine bd (fun w m=>m.bw 0 rfl (show _=aE g6 80 [.slice A_z (its++[dG l1]).length c_z]from rfl)) ?_
  exact HI (A_z,c_z,its++[dG l1]) (by show its++[dG l1]=_;rw[hI_,List.map_append];rfl) [0,0] rfl [0,1,2,3,4] rfl
 ·obtain⟨A,c,its⟩:=s_
  try dsimp only
  dsimp only at hI_ hd_
  have hit:its=cn l q:=by rw[hI_,cn,←hd_,List.map_map];rfl
  subst hit
  refine aa<|ae<|ah<|hy (fun m=>ak rfl gD (ar (m.aN 1 rfl) rfl))<|aG rfl<|aG rfl<|ag<|az [5,4,13,6,10,3,0,1] rfl<|aa<|aR<| ?_
  refine EC trivial [0] rfl ?_
  exact rz trivial rfl rfl rfl [1] rfl [] rfl ⟨A,c,rfl,rfl,rfl⟩
end Go.Proofs.YtmibdabdlgmafaaGreatDoor
end
section
set_option maxRecDepth 20000
set_option maxHeartbeats 2000000
namespace Go.Proofs.YtmibdabdlgmafaaGreatDoor
open Go.Eng Go.Hx
def lR(l:List UInt8)(q:Pn)(A:Option Addr)(c:Nat):IX:=⟨q.a,q.b,q.m,⟨bA l,bq _⟩,cn l q,A,c⟩
theorem EV{B:Option Addr}{n k:Nat}{l:List UInt8}{q:Pn}(hq:q.ok)(hl:l.length=n)(hn:n≤1000000)(hk:n≤k):cf Tryz.prog 127 [.slice B n k,.agg q.p.cs.toArray] [] [cz 1 B n (aT l)] (fun v_ X_ S_=>∃A2 c2,v_=(.agg (lR l q A2 c2).cs.toArray)∧X_=[]∧S_=[cz 33 A2 (cn l q).length (fe (cn l q))]∧((cn l q).length≤c2)):=by
 refine aK (N:=12) Tryz.func127 rfl rfl (by simp) fun b=> ?_
 refine aQ (fun m=>ek (m.rd 0 rfl)) ?_
 rintro⟨hl_rb,hA_rb⟩
 refine ae<|ah<| ?_
 refine hx (br rfl (fun g3=> ?_))
 refine aH (fun w m=>m.bw 0 rfl (show _=aE g3 75 q.p.cs from congrArg (aE _ _) (aV _))) ?_
 refine hx (ba tv (fun g4=> ?_))
 refine ag<|aY rfl rfl<|aa<|ae<|cA [2,5,7] [(0,some 2),(1,some 0),(3,some 1),(4,some 1),(2,none),(5,none),(6,some 2),(7,none)] (by kernel_rfl) (by kernel_rfl) rfl 2<|bV (fun m=>yV (aP rfl gK gg rfl ((m.aN 1 rfl).aw)) ((rfl:_=Value.agg q.p.cs.toArray)))<|aj (ai rfl)<|aj (ai rfl)<|bV (fun m=>yV (aP rfl gK gg rfl ((m.aN 1 rfl).aw)) ((rfl:_=Value.agg q.p.cs.toArray)))<| ?_
 refine dk (an rfl Tryz.call56 (jq (by omega)) [] rfl [0] rfl ?_)
 rintro _ _ _ ⟨rfl,rfl,rfl⟩
 refine⟨(fun _=>wk [0,0] [0] rfl rfl), ?_⟩
 refine dk (an rfl Tryz.call193 (CB hq hl hn hk) [] rfl [0] rfl ?_)
 rintro _ _ _ ⟨A2,c2,rfl,rfl,rfl⟩
 refine⟨(fun _=>wk [1,1] [0] rfl rfl), ?_⟩
 refine bU (fun m=>(show(cn l q).length≤c2 from by obtain⟨_,_,e,h⟩:=(m.own 0 rfl).slice;cases e;exact h)) fun hcI=> ?_
 refine dU (fun w m=>(m.perm (ao [0] _ [_] _ rfl)).freeze) ?_
 refine dU (fun w m=>m.ew 0 rfl .own) ?_
 refine aj (b6 tv rfl rfl (by kernel_rfl) (EI (x:=lR l q A2 c2) D4 E6 E9))<| ?_
 refine gi (a7 0 rfl rfl rfl eS (IX.cd _) (IX.cx _) rfl ⟨(fun h=>absurd h (by decide)), ?_⟩)
 refine bp<|az [4,3,0,1] rfl<|aY rfl rfl<|aa<|aR<| ?_
 exact eZ trivial rfl rfl ka eS (IX.cd _) (fun m=>(m.aN 0 rfl).aw) [] rfl [0] rfl ⟨A2,c2,rfl,rfl,rfl,hcI⟩
end Go.Proofs.YtmibdabdlgmafaaGreatDoor
end
section
set_option maxRecDepth 20000
set_option maxHeartbeats 2000000
namespace Go.Proofs.YtmibdabdlgmafaaGreatDoor
open Go.Eng Go.Hx
def dK:List It→Int→List UInt8→Option (Int×Int)
 | [],_,_=>none
 |t::r,off,nm=>if t.1.b=nm then some (off,t.2)else dK r (off+t.2) nm
def hG(q:Pn):List (List UInt8)→Nat→List UInt8→Option (Nat×Int×Int)
 | [],_,_=>none
 |t::r,i,nm=>match dK (cn t q) 0 nm with
  |some (o,s)=>some (i,o,s)
  |none=>hG q r (i+1) nm
def j1(its:List It)(k:Nat):Int:=((its.take k).map (·.2)).sum
theorem qE{w:List UInt32}{q:Pn}(hq:q.ok):∀{f:Nat} {b:List UInt8},b.length≤f→(jd w q f b).flatten=b
 |0,b,h=>by
  have:b=[]:=List.length_eq_zero_iff.1 (by omega)
  rw[this];rfl
 |f+1,b,h=>by
  rw[jd]
  split
  ·next e=>rw[e];rfl
  ·next e=>
   have hp:1≤b.length:=Nat.pos_of_ne_zero fun h0=>e (List.length_eq_zero_iff.1 h0)
   have:=jR (w:=w) hq hp
   rw[List.flatten_cons,qE hq (by rw[List.length_drop];omega),List.take_append_drop]
theorem uS{q:Pn}(hq:q.ok)(b:List UInt8):(eJ b q).flatten=b:=qE hq (Nat.le_refl _)
theorem xm{l:List UInt8}{q:Pn}(k:Nat):j1 (cn l q) k=((((eJ l q).take k).flatten.length:Nat):Int):=by
 unfold j1 cn
 rw[←List.map_take,List.map_map]
 generalize(eJ l q).take k=cs
 induction cs with
 |nil=>rfl
 |cons c r ih=>
  rw[List.map_cons,List.sum_cons,ih,List.flatten_cons,List.length_append]
  show((c.length:Nat):Int)+_=_
  omega
theorem sy{l:List UInt8}{q:Pn}(hq:q.ok)(k:Nat):0≤j1 (cn l q) k∧j1 (cn l q) k≤l.length:=by
 rw[xm]
 have h:((eJ l q).take k).flatten++((eJ l q).drop k).flatten=l:=by rw[←List.flatten_append,List.take_append_drop,uS hq]
 have:=congrArg List.length h
 rw[List.length_append]at this
 omega
theorem qH{its:List It}{k:Nat}{t:It}(h:its[k]? =some t):j1 its (k+1)=j1 its k+t.2:=by
 obtain⟨h1,rfl⟩:=List.getElem?_eq_some_iff.1 h
 unfold j1
 rw[List.take_succ_eq_append_getElem h1,List.map_append,List.sum_append]
 simp
end Go.Proofs.YtmibdabdlgmafaaGreatDoor
end
section
namespace Go.Eng
open Go.RowKit
section
variable{P:Program}{N:Nat}{D:List Deferred}{ρ:Env}{w:World}{x y:Operand}{ty t t' e:TypeId}{v:Value}{k:IntKind}{i:Int}
end
section
variable{P:Program}{t:TypeId}{d:Nat}
theorem vj{z:Int}(ht:P.underlying t=some (.int .i64))(h1:-9223372036854775808≤z)(h2:z≤9223372036854775807):P.keyLits (d+1) t [.int .i64 z]=some [.int .i64 z]:=by
 unfold Program.keyLits
 rw[ht]
 have hw:(Lit.int .i64 z).wf=true:=by
  simp[Lit.wf,IntKind.min,IntKind.max,IntKind.signed,IntKind.bits]
  omega
 simp[hw]
theorem xA {fs : Array Field} {cs : List Value} {ls : List (List Lit)} (ht : P.underlying t = some (.struct fs)) (hl : cs.length = P.cellsOf t) (hn : fs.all (·.name != "_") = true)
    (hm:(fs.toList.mapM fun f=>P.keyLits d f.type ((cs.drop f.offset).take (P.cellsOf f.type)))=some ls):P.keyLits (d+1) t cs=some ls.flatten:=by
  rw[Program.keyLits.eq_def]
  simp only[ht]
  rw[if_pos ⟨hl,hn⟩,hm]
  rfl
theorem mapM_some{α β:Type}{f:α→Option β}:∀{l:List α} {g:List β},l.map f=g.map some→l.mapM f=some g
 | [],[],_=>rfl
 | [],_::_,h=>by simp at h
 |_::_,[],h=>by simp at h
 |a::r,b::s,h=>by
  simp only[List.map_cons,List.cons.injEq]at h
  rw[List.mapM_cons,h.1,mapM_some h.2]
  rfl
end
end Go.Eng
end
