/- Part. -/
import Derived.Test.YtmibdabdlgmafaaGreatDoorSWS3
import Derived.OrdersIn
import Derived.RangeFuncNested
import Derived.RangeFuncLeaves
import Derived.RangeFuncCalls
import Derived.RangeFuncBox
import Derived.Shelf.Abstract
import Derived.WalkKit
import Derived.OwnWalkIn
import Derived.TacticsInMore
import Derived.LoopNIn
import Derived.LoopIn
import Derived.ScopeJumps
import Derived.Shelf.Sort.Plain
import Derived.Test.YtmibdabdlgmafaaGreatDoorProg
import Derived.Sort.OwnSorted
set_option linter.all false
section
namespace Go.Hx
open Go.Eng
def ve(b:List UInt8):Bool:=decide ((eS b).length<b.length)
def iW(b:List UInt8):List UInt8:=if ve b then eS b else b
def bK(b:List UInt8):List UInt8:=[76,if ve b then 1 else 0]++gP b.length++iW b++gP (da b)
theorem sN(b:List UInt8):(iW b).length≤b.length:=by
 unfold iW ve
 split
 ·rename_i h;have:=of_decide_eq_true h;omega
 ·exact Nat.le_refl _
theorem kA(b:List UInt8):(bK b).length=(iW b).length+10:=by simp[bK,fB];omega
theorem lh(b:List UInt8):10≤(bK b).length∧(bK b).length≤b.length+10:=by
 have:=sN b
 rw[kA]
 omega
def hC(f:List UInt8):Option Nat:=if f.length<10∨f.getD 0 0≠76∨1<(f.getD 1 0).toNat then none else some (lf (f.drop 2))
def dI(f:List UInt8):List UInt8:=(f.drop 6).take (f.length-10)
def vf(f:List UInt8)(n:Nat):List UInt8×Int:=if f.getD 1 0=1 then j8 n (dI f) []else(dI f,0)
def gj(f:List UInt8)(n:Nat):List UInt8×Int:=
 if(vf f n).2≠0 then([],2)else if(vf f n).1.length≠n then([],2)else if gP (da (vf f n).1)≠f.drop (f.length-4)then([],7)else((vf f n).1,0)
def dp(f:List UInt8)(most:Int):List UInt8×Int:=
 match hC f with
 |none=>([],2)
 |some n=>if most<n then([],3)else gj f n
theorem qo{most:Int}:∀(l o:List UInt8),(o.length:Int)≤most→(((j8 most l o).1.length:Int)≤most∨(j8 most l o).1=[])∧((j8 most l o).2=0∨(j8 most l o).2=2∨(j8 most l o).2=3)∧((j8 most l o).2≠0→(j8 most l o).1=[])
 |l,o,hm=>by
  by_cases h0:l=[]
  ·subst h0;rw[pg];exact⟨.inl hm,.inl rfl,fun h=>absurd rfl h⟩
  ·by_cases h1:(cS l).2.2.2=true∧(cS l).2.2.1≤o.length
   ·by_cases h2:most<(o.length:Int)+((cS l).2.1:Nat)
    ·rw[pe h0 h1.1 h1.2 h2];exact⟨.inr rfl,.inr (.inr rfl),fun _=>rfl⟩
    ·rw[n4 h0 h1.1 h1.2 h2]
     exact qo _ _ (by rw[oI h1.1];omega)
   ·rw[lE h0 h1];exact⟨.inr rfl,.inr (.inl rfl),fun _=>rfl⟩
termination_by l=>l.length
decreasing_by
 obtain⟨h2,h3⟩:=lu h1.1
 rw[List.length_drop]
 omega
theorem AS{f:List UInt8}{n:Nat}(h:(gj f n).2=0):(gj f n).1.length=n:=by
 unfold gj at h ⊢
 split at h
 ·cases h
 ·rename_i h1
  rw[if_neg h1]
  split at h
  ·cases h
  ·rename_i h2
   rw[if_neg h2]
   split at h
   ·cases h
   ·rename_i h3
    rw[if_neg h3]
    exact Decidable.not_not.1 h2
theorem yo{f:List UInt8}{n:Nat}(h:(gj f n).2≠0):(gj f n).1=[]:=by
 unfold gj at h ⊢
 split at h
 ·rename_i h1;rw[if_pos h1]
 ·rename_i h1
  rw[if_neg h1]
  split at h
  ·rename_i h2;rw[if_pos h2]
  ·rename_i h2
   rw[if_neg h2]
   split at h
   ·rename_i h3;rw[if_pos h3]
   ·exact absurd rfl h
theorem yg{f:List UInt8}{most:Int}(h:(dp f most).2≠0):(dp f most).1=[]:=by
 unfold dp at h ⊢
 split at h
 ·rfl
 ·rename_i n hn
  split at h
  ·rename_i h1;rw[if_pos h1]
  ·rename_i h1;rw[if_neg h1];exact yo h
theorem Br{f:List UInt8}{most:Int}(h:(dp f most).2=0):((dp f most).1.length:Int)≤most:=by
 unfold dp at h ⊢
 split at h
 ·cases h
 ·rename_i n hn
  split at h
  ·cases h
  ·rename_i h1;rw[if_neg h1,AS h];omega
theorem rj{f:List UInt8}{most:Int}(hm:0≤most):((dp f most).1.length:Int)≤most:=by
 by_cases h:(dp f most).2=0
 ·exact Br h
 ·rw[yg h];simpa using hm
theorem mu(b:List UInt8):(bK b).getD 0 0=76∧(bK b).getD 1 0=(if ve b then 1 else 0)∧(bK b).drop 2=gP b.length++(iW b++gP (da b))∧dI (bK b)=iW b∧(bK b).drop ((bK b).length-4)=gP (da b):=by
 refine⟨by simp[bK],by simp[bK],by simp[bK], ?_, ?_⟩
 ·unfold dI
  have h6:(bK b).drop 6=iW b++gP (da b):=by simp[bK,gP]
  rw[h6,kA,Nat.add_sub_cancel]
  exact List.take_left
 ·rw[kA]
  have:bK b=([76,if ve b then 1 else 0]++gP b.length++iW b)++gP (da b):=rfl
  rw[this,List.drop_append_of_le_length (by simp[fB];omega),List.drop_of_length_le (by simp[fB];omega)]
  rfl
theorem x9{b:List UInt8}(h:b.length<4294967296):hC (bK b)=some b.length:=by
 obtain⟨h0,h1,h2,_,_⟩:=mu b
 have hl:=lh b
 unfold hC
 rw[if_neg,h2]
 ·congr 1
  have:lf (gP b.length++(iW b++gP (da b)))=lf (gP b.length):=by simp[lf,gP]
  rw[this,An h]
 ·rw[h0,h1]
  rintro(q|q|q)
  ·omega
  ·exact q rfl
  ·cases hp:ve b <;> rw[hp]at q <;> exact absurd q (by decide)
theorem AK(b:List UInt8):vf (bK b) b.length=(b,0):=by
 obtain⟨_,h1,_,h3,_⟩:=mu b
 unfold vf
 rw[h1,h3]
 cases hp:ve b with
 |true=>
  rw[if_pos rfl]
  unfold iW
  rw[hp,if_pos rfl]
  exact yp (Int.le_refl _)
 |false=>
  rw[if_neg (by decide)]
  unfold iW
  rw[hp]
  rfl
theorem xO{b:List UInt8}{most:Int}(h:b.length<4294967296)(hm:(b.length:Int)≤most):dp (bK b) most=(b,0):=by
 unfold dp
 rw[x9 h]
 simp only
 rw[if_neg (by omega)]
 unfold gj
 rw[AK,(mu b).2.2.2.2,if_neg (by simp),if_neg (by simp),if_neg (by simp)]
end Go.Hx
end
section
namespace Go.Proofs.YtmibdabdlgmafaaGreatDoor
open Go.Eng Go.Hx
def aG(nm:List UInt8):List UInt8:=[99,47]++(cd nm).take 2++[47]++cd nm
def bU(nm:List UInt8):List UInt8:=[116,47]++cd nm
theorem eg{nm:List UInt8}(h:nm.length=32):(aG nm).length=69:=by simp[aG,dS,h]
theorem jI{nm:List UInt8}(h:nm.length=32):(bU nm).length=66:=by simp[bU,dS,h]
theorem jr{nm:List UInt8}(h:nm.length=32):(aG nm).drop 5=cd nm:=by
 have h2:((cd nm).take 2).length=2:=by rw[List.length_take,dS,h];rfl
 unfold aG
 rw[List.drop_append_of_le_length (by simp[h2]),List.drop_of_length_le (by simp[h2])]
 rfl
theorem ka{a b:List UInt8}(ha:a.length=32)(hb:b.length=32)(h:aG a=aG b):a=b:=by
 have:=congrArg (List.drop 5) h
 rw[jr ha,jr hb]at this
 exact Bk this
def RD.xE(d:RD)(nm:List UInt8):List UInt8×Int:=dp (d.cC (aG nm)) 4096
def RD.eH(d:RD)(nm:List UInt8):Int:=if d.cj (aG nm)≠0 then d.cj (aG nm)else if(d.xE nm).2≠0∨bn (d.xE nm).1≠nm then 7 else 0
def RD.qu(d:RD)(nm:List UInt8):List UInt8:=if d.eH nm=0 then(d.xE nm).1 else []
theorem j1{d:RD}{nm:List UInt8}(h:d.cj (aG nm)≠0):d.eH nm=d.cj (aG nm):=by unfold RD.eH;rw[if_pos h]
theorem nt{d:RD}{nm:List UInt8}(h:d.cj (aG nm)=0)(h2:(d.xE nm).2≠0∨bn (d.xE nm).1≠nm):d.eH nm=7:=by unfold RD.eH;rw[if_neg (fun q=>q h),if_pos h2]
theorem sP{d:RD}{nm:List UInt8}(h:d.cj (aG nm)=0)(h2:¬((d.xE nm).2≠0∨bn (d.xE nm).1≠nm)):d.eH nm=0:=by unfold RD.eH;rw[if_neg (fun q=>q h),if_neg h2]
theorem lF{d:RD}{nm:List UInt8}(h:d.eH nm≠0):d.qu nm=[]:=by unfold RD.qu;rw[if_neg h]
theorem sF{d:RD}{nm:List UInt8}(h:d.eH nm=0):d.qu nm=(d.xE nm).1:=by unfold RD.qu;rw[if_pos h]
def cr:List (RD→RD×Int)→RD→RD×Int
 | [],d=>(d,0)
 |f::r,d=>if(f d).2≠0 then f d else cr r (f d).1
def sQ(p b:List UInt8)(d:RD):RD×Int:=(d.write p b,d.bP p b)
def cE(d:RD):RD×Int:=(d.sync,d.dx)
def r7(a c:List UInt8)(d:RD):RD×Int:=(d.rename a c,d.b7 a c)
def nZ(p:List UInt8)(d:RD):RD×Int:=(d.remove p,d.cj p)
def ei:List UInt8:=List.replicate 32 0
def RD.iY(d:RD)(b:List UInt8):RD×Int:=cr [sQ (bU (bn b)) (bK b),cE,r7 (bU (bn b)) (aG (bn b)),cE] d
def RD.put(d:RD)(b:List UInt8):RD×List UInt8×Int:=
 if 4096<b.length then(d,ei,3)
 else if d.eH (bn b)=6 then(d,ei,6)
 else if d.eH (bn b)=0 then(d,bn b,0)
 else((d.iY b).1,if(d.iY b).2=0 then bn b else ei,(d.iY b).2)
end Go.Proofs.YtmibdabdlgmafaaGreatDoor
end
section
set_option maxRecDepth 20000
set_option maxHeartbeats 2000000
namespace Go.Proofs.YtmibdabdlgmafaaGreatDoor
open Go.Eng Go.Hx
theorem jj{a b:List UInt8}(h:a.length+b.length≤1000000):(strOf a).size+(strOf b).size≤9223372036854775807:=by rw[c7,c7];omega
theorem sD{nm:List UInt8}(hm:nm.length=32):cf Tryz.prog 94 [.agg (aW nm).toArray] [] [] (fun v_ X_ S_=>v_=(.string (strOf (aG nm)))∧X_=[]∧S_=[]):=by
 have hhl:(cd nm).length=64:=by rw[dS,hm]
 have h2:((cd nm).take 2).length=2:=by rw[List.length_take,hhl];rfl
 refine aP (N:=12) Tryz.func94 rfl rfl (by simp) fun b=> ?_
 refine ah<|aj<| ?_
 refine hx (cw rfl (fun g1=> ?_))
 refine aQ (fun w m=>m.bN 0 rfl (show _=aL g1 53 (aW nm)from congrArg (aL _ _) (bu _))) ?_
 refine hy (fun _=>ab rfl)<|ai<|ak (X' :=[_]) (S' :=[]) (fun _ m=>m)<|ag<|ah<|aj<|hy (fun m=>aU rfl b9 bg (by rw[az];exact hm) ((m.aZ 0 rfl).ax))<| ?_
 refine hx (aq rfl Tryz.call104 (Bj hm) [] rfl [] rfl ?_)
 rintro _ _ _ ⟨rfl,rfl,rfl⟩
 refine hy (fun _=>ab rfl)<|ai<|al (ρ' :=[(3,_),(2,_),(1,_),(0,_)]) ⟨rfl,rfl,rfl,rfl,trivial⟩<|ak (X' :=[_]) (S' :=[]) (fun _ m=>m)<|ag<|ah<|aj<|hy (fun _=>aa rfl)<|hy (fun _=>yV (sC rfl rfl Tryz.underlying9 (show((2:Nat):Int)=2 from rfl) (show 2≤(cd nm).length by omega)) ((rfl:_=Value.string (strOf ((cd nm).take 2)))))<|hy (fun _=>yV (jG rfl rfl (jj (a:=[99,47]) (b:=(cd nm).take 2) (by simp[h2]))) ((show Value.string (strOf [99,47]++strOf ((cd nm).take 2))= .string (strOf ([99,47]++(cd nm).take 2))from congrArg Value.string (dC _ _))))<|hy (fun _=>yV (jG rfl rfl (jj (a:=[99,47]++(cd nm).take 2) (b:=[47]) (by simp[h2]))) ((show Value.string (strOf ([99,47]++(cd nm).take 2)++strOf [47])= .string (strOf ([99,47]++(cd nm).take 2++[47]))from congrArg Value.string (dC _ _))))<|hy (fun _=>aa rfl)<|hy (fun _=>yV (jG rfl rfl (jj (a:=[99,47]++(cd nm).take 2++[47]) (b:=cd nm) (by simp[h2,hhl]))) ((show Value.string (strOf ([99,47]++(cd nm).take 2++[47])++strOf (cd nm))= .string (strOf (aG nm))from congrArg Value.string (dC _ _))))<|hy (fun _=>ab rfl)<|ai<|al (ρ' :=[(2,_),(3,_),(1,_),(0,_)]) ⟨rfl,rfl,rfl,rfl,trivial⟩<|ag<|aX<| ?_
 exact bh trivial rfl rfl [] rfl [] rfl ⟨rfl,rfl,rfl⟩
theorem lR{nm:List UInt8}(hm:nm.length=32):cf Tryz.prog 29 [.agg (aW nm).toArray] [] [] (fun v_ X_ S_=>v_=(.string (strOf (aG nm)))∧X_=[]∧S_=[]):=by
 have hhl:(cd nm).length=64:=by rw[dS,hm]
 have h2:((cd nm).take 2).length=2:=by rw[List.length_take,hhl];rfl
 refine aP (N:=12) Tryz.func29 rfl rfl (by simp) fun b=> ?_
 refine ah<|aj<| ?_
 refine hx (cw rfl (fun g1=> ?_))
 refine aQ (fun w m=>m.bN 0 rfl (show _=aL g1 53 (aW nm)from congrArg (aL _ _) (bu _))) ?_
 refine hy (fun _=>ab rfl)<|ai<|ak (X' :=[_]) (S' :=[]) (fun _ m=>m)<|ag<|ah<|aj<|hy (fun m=>aU rfl b9 bg (by rw[az];exact hm) ((m.aZ 0 rfl).ax))<| ?_
 refine hx (aq rfl Tryz.call111 (wF hm) [] rfl [] rfl ?_)
 rintro _ _ _ ⟨rfl,rfl,rfl⟩
 refine hy (fun _=>ab rfl)<|ai<|al (ρ' :=[(3,_),(2,_),(1,_),(0,_)]) ⟨rfl,rfl,rfl,rfl,trivial⟩<|ak (X' :=[_]) (S' :=[]) (fun _ m=>m)<|ag<|ah<|aj<|hy (fun _=>aa rfl)<|hy (fun _=>yV (sC rfl rfl Tryz.underlying9 (show((2:Nat):Int)=2 from rfl) (show 2≤(cd nm).length by omega)) ((rfl:_=Value.string (strOf ((cd nm).take 2)))))<|hy (fun _=>yV (jG rfl rfl (jj (a:=[99,47]) (b:=(cd nm).take 2) (by simp[h2]))) ((show Value.string (strOf [99,47]++strOf ((cd nm).take 2))= .string (strOf ([99,47]++(cd nm).take 2))from congrArg Value.string (dC _ _))))<|hy (fun _=>yV (jG rfl rfl (jj (a:=[99,47]++(cd nm).take 2) (b:=[47]) (by simp[h2]))) ((show Value.string (strOf ([99,47]++(cd nm).take 2)++strOf [47])= .string (strOf ([99,47]++(cd nm).take 2++[47]))from congrArg Value.string (dC _ _))))<|hy (fun _=>aa rfl)<|hy (fun _=>yV (jG rfl rfl (jj (a:=[99,47]++(cd nm).take 2++[47]) (b:=cd nm) (by simp[h2,hhl]))) ((show Value.string (strOf ([99,47]++(cd nm).take 2++[47])++strOf (cd nm))= .string (strOf (aG nm))from congrArg Value.string (dC _ _))))<|hy (fun _=>ab rfl)<|ai<|al (ρ' :=[(2,_),(3,_),(1,_),(0,_)]) ⟨rfl,rfl,rfl,rfl,trivial⟩<|ag<|aX<| ?_
 exact bh trivial rfl rfl [] rfl [] rfl ⟨rfl,rfl,rfl⟩
end Go.Proofs.YtmibdabdlgmafaaGreatDoor
end
section
set_option maxRecDepth 20000
namespace Go.Proofs.YtmibdabdlgmafaaGreatDoor
open Go.Eng Go.Hx
theorem Fe{g:Nat}{st:cF}{d:RD}{kk:Nat}{p:List UInt8}(hD:DS st d kk):cf Tryz.prog 90 [.pointer (some ⟨g,0,none⟩),.string (strOf p)] [bk g st] [] (fun v_ X_ S_=>∃v,v_=(.tuple #[v,.int .i64 (d.cj p)])∧X_=[bk g st,aH 5 1 v (d.cC p).length (aW (d.cC p))]∧S_=[]):=by
 rw[hD.cj,hD.cC]
 exact G2 hD.ok.sm
theorem wZ{g:Nat}{st:cF}{d:RD}{kk:Nat}{p:List UInt8}{A:Option Addr}{n c:Nat}{l:List UInt8}(hD:DS st d kk)(hkk:kk≤99000)(hl:l.length=n)(hn:n≤1048576):cf Tryz.prog 33 [.pointer (some ⟨g,0,none⟩),.string (strOf p),.slice A n c] [bk g st] [di 1 A n (aW l)] (fun v_ X_ S_=>∃st1,v_=(.int .i64 (d.bP p l))∧X_=[bk g st1]∧S_=[]∧(DS st1 (d.write p l) (kk+1))):=by
 exact cf.mono (E3 hD.ok (by omega) hn) (fun v X S h=>by
  obtain⟨st1,B,c1,A1,c2,h1,h2,h3,hw⟩:=h
  have hW:=hD.write hl hn hw
  exact⟨st1,by rw[hW.2];exact h1,h2,h3,hW.1⟩)
theorem vz{g:Nat}{st:cF}{d:RD}{kk:Nat}(hD:DS st d kk):cf Tryz.prog 110 [.pointer (some ⟨g,0,none⟩)] [bk g st] [] (fun v_ X_ S_=>∃st1,v_=(.int .i64 d.dx)∧X_=[bk g st1]∧S_=[]∧(DS st1 d.sync kk)):=by
 exact cf.mono (Gs hD.ok) (fun v X S h=>by
  obtain⟨st1,gl,h1,h2,h3,hw⟩:=h
  have hW:=hD.sync hw
  exact⟨st1,by rw[hW.2];exact h1,h2,h3,hW.1⟩)
theorem AQ{g:Nat}{st:cF}{d:RD}{kk:Nat}{a c:List UInt8}(hD:DS st d kk)(hkk:kk≤99000):cf Tryz.prog 108 [.pointer (some ⟨g,0,none⟩),.string (strOf a),.string (strOf c)] [bk g st] [] (fun v_ X_ S_=>∃st1,v_=(.int .i64 (d.b7 a c))∧X_=[bk g st1]∧S_=[]∧(DS st1 (d.rename a c) (kk+1))):=by
 exact cf.mono (B5 hD.ok (by omega)) (fun v X S h=>by
  obtain⟨st1,A,j,h1,h2,h3,hw⟩:=h
  have hW:=hD.rename hw
  exact⟨st1,by rw[hW.2];exact h1,h2,h3,hW.1⟩)
theorem DS.vo{st:cF}{d:RD}{kk:Nat}(h:DS st d kk)(p:List UInt8):(d.cC p).length≤1048576:=by
 rw[h.cC]
 by_cases he:dQ st p=0
 ·obtain⟨r,hr⟩:=ti he
  rw[ub he hr]
  have h1:=h.ok.small r (List.mem_append_left _ (List.mem_append_left _ (List.mem_map.2 ⟨_,iS hr,rfl⟩)))
  have h2:r.n=r.l.length:=h.mB.files.len _ (iS hr)
  omega
 ·rw[uo he];exact Nat.zero_le _
end Go.Proofs.YtmibdabdlgmafaaGreatDoor
end
section
set_option maxRecDepth 20000
namespace Go.Proofs.YtmibdabdlgmafaaGreatDoor
open Go.Eng Go.Hx
theorem Rd.part{w:World}{a:Addr}{n k m:Nat}{B:List UInt8}(h:Rd w 1 (some a) n (aW B)):∀(j:Nat) (u:Value),(aW ((B.drop k).take m))[j]? =some u→w.cell? ((a.add k).add j)=some u:=by
 intro j u hu
 rw[add_add]
 refine h.cell ?_
 unfold aW at hu ⊢
 rw[List.getElem?_map,List.getElem?_take]at hu
 rw[List.getElem?_map]
 split at hu
 ·rw[List.getElem?_drop]at hu;exact hu
 ·simp at hu
end Go.Proofs.YtmibdabdlgmafaaGreatDoor
end
section
set_option maxRecDepth 20000
set_option maxHeartbeats 2000000
namespace Go.Proofs.YtmibdabdlgmafaaGreatDoor
open Go.Eng Go.Hx
theorem DC{A:Option Addr}{n c i k:Nat}{l:List UInt8}(hn:n≤1000000000)(hl:l.length=n)(hi:i≤n)(hk:k≤i):cf Tryz.prog 272 [.slice A n c,.int .i64 (i:Nat),.int .i64 (k:Nat)] [] [di 1 A n (aW l)] (fun v_ X_ S_=>v_=(.int .i64 (mA l i k:Nat))∧X_=[]∧S_=[]):=by
 refine aP (N:=36) Tryz.func272 rfl rfl (by simp) fun b=> ?_
 refine a6 (fun m=>ig (m.rd 0 rfl)) ?_
 rintro⟨hl_r,hA_r⟩
 refine ah<|aj<|hy (fun _=>ab rfl)<|ai<|ag<|ah<|aj<|hy (fun _=>ab rfl)<|ai<|ag<|ah<|aK<| ?_
 refine dH (fun m=>131-m) (fun m=>[(7,.int .i64 (m:Nat))]) (fun m=>[]) (fun m=>[]) (fun m=>m≤131∧i+m≤n∧lU l i k (131-m) m=mA l i k) 0 [(6,_),(0,_),(1,_),(2,_)] ⟨rfl,rfl,rfl,rfl,trivial⟩ [] rfl [] rfl (⟨by decide,hi,rfl⟩) ⟨rfl,trivial⟩ (fun m ⟨hm,him,hL⟩=> ?_)
 refine ah<|ah<|cT [] [(0,some 0),(1,some 0),(2,some 0),(3,some 0),(4,some 0),(5,some 0),(6,some 0),(7,some 0),(8,some 0),(9,some 0),(10,some 0),(11,some 0),(12,some 0),(13,some 0),(14,some 0),(15,some 0),(16,some 0),(17,some 0),(18,some 0),(19,some 0),(20,some 0),(21,some 0),(22,some 0),(23,some 0),(24,some 0)] (by kernel_rfl) (by kernel_rfl) rfl 99<|an (aa rfl)<|an (bw rfl rfl)<|an (aa rfl)<| ?_
 refine iy 10 rfl (fun h1=> ?_) (fun h1=> ?_)
 ·refine bm (o:=_) rfl rfl rfl (aa rfl)<|bm (o:=_) rfl rfl rfl (aa rfl)<|bm (o:=_) rfl rfl rfl (aN rfl rfl (bF (by omega) (by omega)))<|bm (o:=_) rfl rfl rfl (aa rfl)<|bm (o:=_) rfl rfl rfl (aT rfl Tryz.underlying27)<|bm (o:=_) rfl rfl rfl (bw rfl rfl)<|an (bT rfl rfl)<|an (aa rfl)<| ?_
  refine iy 18 rfl (fun h2=> ?_) (fun h2=> ?_)
  ·refine bm (o:=_) rfl rfl rfl (aa rfl)<|bm (o:=_) rfl rfl rfl (aa rfl)<|bm (o:=_) rfl rfl rfl (aa rfl)<|bm (o:=_) rfl rfl rfl (aN rfl rfl (bF (by omega) (by omega)))<|bm (o:=_) rfl rfl rfl (aS rfl rfl Tryz.underlying27 dZ hA_r (show((i+m:Nat):Int)=_ by omega) (by omega))<|iV (o:=_) rfl rfl rfl (fun m=>aw rfl jc ((m.rd 0 rfl).cell (bM (by omega))))<|bm (o:=_) rfl rfl rfl (aa rfl)<|bm (o:=_) rfl rfl rfl (aa rfl)<|bm (o:=_) rfl rfl rfl (aa rfl)<|bm (o:=_) rfl rfl rfl (aN rfl rfl (bF (by omega) (by omega)))<|bm (o:=_) rfl rfl rfl (aS rfl rfl Tryz.underlying27 dZ hA_r (show((k+m:Nat):Int)=_ by omega) (by omega))<|iV (o:=_) rfl rfl rfl (fun m=>aw rfl jc ((m.rd 0 rfl).cell (bM (by omega))))<|bm (o:=_) rfl rfl rfl (cM rfl rfl)<|an (bT rfl rfl)<|bz<|al (ρ' :=[(32,_),(7,_),(6,_),(0,_),(1,_),(2,_)]) ⟨rfl,rfl,rfl,rfl,rfl,rfl,trivial⟩<|ag<| ?_
   refine cG rfl (fun h3=> ?_) (fun h3=> ?_)
   ·have e3:l.getD (i+m) 0=l.getD (k+m) 0:=UInt8.toNat_inj.1 (by omega)
    rw[iC (by omega) ⟨by omega,e3⟩]at hL
    refine aB<|ag<|aK<|aj<|hy (fun _=>aa rfl)<|hy (fun _=>aN rfl rfl (bF (by omega) (by omega)))<|hy (fun _=>ab rfl)<|ai<|al (ρ' :=[(7,_),(32,_),(6,_),(0,_),(1,_),(2,_)]) ⟨rfl,rfl,rfl,rfl,rfl,rfl,trivial⟩<|aO<| ?_
    refine cX (m+1) ⟨rfl,rfl,rfl,rfl,rfl,trivial⟩ [] rfl [0] rfl (⟨by omega,by omega,by rw[←hL];rfl⟩) (by omega)
   ·rw[ly (fun q=>h3 (by rw[q.2]))]at hL
    rw[←hL]
    refine bL<|ao<|ao<|aD<|ag<|ah<|aj<|hy (fun _=>aa rfl)<|hy (fun _=>ab rfl)<|ai<|al (ρ' :=[(6,_),(32,_),(7,_),(0,_),(1,_),(2,_)]) ⟨rfl,rfl,rfl,rfl,rfl,rfl,trivial⟩<|ag<|aX<| ?_
    exact bh trivial rfl rfl [] rfl [] rfl ⟨rfl,rfl,rfl⟩
  ·rw[ly (fun q=>h2 (by omega))]at hL
   rw[←hL]
   refine aR rfl rfl rfl (by decide)<|aR rfl rfl rfl (by decide)<|aR rfl rfl rfl (by decide)<|aR rfl rfl rfl (by decide)<|aR rfl rfl rfl (by decide)<|aR rfl rfl rfl (by decide)<|aR rfl rfl rfl (by decide)<|aR rfl rfl rfl (by decide)<|aR rfl rfl rfl (by decide)<|aR rfl rfl rfl (by decide)<|aR rfl rfl rfl (by decide)<|aR rfl rfl rfl (by decide)<|aR rfl rfl rfl (by decide)<|an (bD rfl rfl)<|bz<|al (ρ' :=[(32,_),(7,_),(6,_),(0,_),(1,_),(2,_)]) ⟨rfl,rfl,rfl,rfl,rfl,rfl,trivial⟩<|ag<| ?_
   refine dB rfl (rfl) ?_
   refine bL<|ao<|ao<|aD<|ag<|ah<|aj<|hy (fun _=>aa rfl)<|hy (fun _=>ab rfl)<|ai<|al (ρ' :=[(6,_),(32,_),(7,_),(0,_),(1,_),(2,_)]) ⟨rfl,rfl,rfl,rfl,rfl,rfl,trivial⟩<|ag<|aX<| ?_
   exact bh trivial rfl rfl [] rfl [] rfl ⟨rfl,rfl,rfl⟩
 ·obtain rfl:m=131:=by omega
  have hL:131=mA l i k:=hL
  rw[←hL]
  refine aR rfl rfl rfl (by decide)<|aR rfl rfl rfl (by decide)<|aR rfl rfl rfl (by decide)<|aR rfl rfl rfl (by decide)<|aR rfl rfl rfl (by decide)<|aR rfl rfl rfl (by decide)<|an (bD rfl rfl)<|an (aa rfl)<| ?_
  refine aR rfl rfl rfl (by decide)<|aR rfl rfl rfl (by decide)<|aR rfl rfl rfl (by decide)<|aR rfl rfl rfl (by decide)<|aR rfl rfl rfl (by decide)<|aR rfl rfl rfl (by decide)<|aR rfl rfl rfl (by decide)<|aR rfl rfl rfl (by decide)<|aR rfl rfl rfl (by decide)<|aR rfl rfl rfl (by decide)<|aR rfl rfl rfl (by decide)<|aR rfl rfl rfl (by decide)<|aR rfl rfl rfl (by decide)<|an (bD rfl rfl)<|bz<|al (ρ' :=[(32,_),(7,_),(6,_),(0,_),(1,_),(2,_)]) ⟨rfl,rfl,rfl,rfl,rfl,rfl,trivial⟩<|ag<| ?_
  refine dB rfl (rfl) ?_
  refine bL<|ao<|ao<|aD<|ag<|ah<|aj<|hy (fun _=>aa rfl)<|hy (fun _=>ab rfl)<|ai<|al (ρ' :=[(6,_),(32,_),(7,_),(0,_),(1,_),(2,_)]) ⟨rfl,rfl,rfl,rfl,rfl,rfl,trivial⟩<|ag<|aX<| ?_
  exact bh trivial rfl rfl [] rfl [] rfl ⟨rfl,rfl,rfl⟩
structure k8 where
 A:Option Addr
 c:Nat
 l:List Nat
def k8.val(r:k8):Value:=.slice r.A r.l.length r.c
def Cz(l:List Nat):List Value:=l.map fun n=>Value.int .i64 (n:Nat)
theorem xB{l:List Nat}:∀u∈Cz l,u.oneCell' =true:=by
 intro u hu
 obtain⟨n,_,rfl⟩:=List.mem_map.1 hu
 rfl
def k8.res(r:k8):bq:=aH 3 1 (.slice r.A r.l.length r.c) r.l.length (Cz r.l)
abbrev vN:=List (Bn 4×k8)
def jT(es:vN):List (Bn 4×Value):=es.map fun x=>(x.1,x.2.val)
def gk(es:vN):List bq:=es.map fun x=>x.2.res
abbrev oa(g gm:Nat)(A:Option Addr)(n c m:Nat)(es:vN):bq:=fY [aL g 359 [.slice A n c,.map (some gm),.int .i64 (m:Nat)],dg (KN (n:=4)) gm (jT es),fY (gk es)]
def yN(l:List UInt8)(m:Nat)(es:vN):Prop:=∀k:Bn 4,((ck es k).map k8.l).getD []=kT l m k.1
theorem lO(k:Bn 4):∀es:vN,ck (jT es) k=(ck es k).map k8.val
 | []=>rfl
 |(q,r)::t=>by
  have ih:=lO k t
  unfold jT at ih ⊢
  simp only[List.map_cons,ck]
  split
  ·rfl
  ·exact ih
theorem nV(k:Bn 4)(r:k8):∀es:vN,cQ (jT es) k r.val=jT (cQ es k r)
 | []=>rfl
 |(q,x)::t=>by
  have ih:=nV k r t
  unfold jT at ih ⊢
  simp only[List.map_cons,cQ]
  split
  ·rfl
  ·rw[ih];rfl
theorem qv{k:Bn 4}(r:k8):∀{es:vN},ck es k=none→gk (cQ es k r)=gk es++[r.res]
 | [],_=>rfl
 |(q,x)::t,h=>by
  simp only[ck]at h
  split at h
  ·cases h
  ·rename_i hq
   have ih:=qv r h
   unfold gk at ih ⊢
   simp only[cQ,if_neg hq,List.map_cons,ih,List.cons_append]
theorem kR{k:Bn 4}:∀{es:vN} {x:k8},ck es k=some x→∃i,(gk es)[i]? =some x.res∧∀r:k8,gk (cQ es k r)=(gk es).set i r.res
 | [],_,h=>by cases h
 |(q,y)::t,x,h=>by
  simp only[ck]at h
  split at h
  ·rename_i hq
   cases h
   exact⟨0,rfl,fun r=>by simp[gk,cQ,hq]⟩
  ·rename_i hq
   obtain⟨i,h1,h2⟩:=kR h
   refine⟨i+1,by simpa[gk]using h1,fun r=> ?_⟩
   have h2:=h2 r
   unfold gk at h2 ⊢
   simp only[cQ,if_neg hq,List.map_cons,h2,List.set_cons_succ]
theorem set_perm{α:Type}:∀(l:List α) (i:Nat) (x:α),i<l.length→(l.set i x).Perm (x::l.eraseIdx i)
 | [],i,x,h=>by simp at h
 |a::t,0,x,h=>by simp
 |a::t,i+1,x,h=>by
  have:=set_perm t i x (by simpa using h)
  simp only[List.set_cons_succ,List.eraseIdx_cons_succ]
  exact(this.cons a).trans (List.Perm.swap ..)
theorem xA{l:List UInt8}{m:Nat}{es:vN}{A:Option Addr}{c:Nat}(h:yN l m es)(hm:m+4≤l.length):yN l (m+1) (cQ es ⟨eM l m,bO hm⟩ ⟨A,c,kT l m (eM l m)++[m]⟩):=by
 intro k
 rw[rX,yC]
 by_cases hk:eM l m=k.1
 ·rw[if_pos (Subtype.ext hk),if_pos hk,←hk];rfl
 ·rw[if_neg (fun e=>hk (congrArg Subtype.val e)),if_neg hk,List.append_nil]
  exact h k
theorem Cq(l:List UInt8):yN l 0 []:=fun k=>rfl
theorem tN{es:vN}{l:List UInt8}{m:Nat}{k:Bn 4}{r:k8}(h:yN l m es)(hr:ck es k=some r):r.l=kT l m k.1:=by
 have:=h k
 rw[hr]at this
 exact this
theorem rW{es:vN}{l:List UInt8}{m:Nat}{k:Bn 4}(h:yN l m es)(hr:ck es k=none):kT l m k.1=[]:=by
 have:=h k
 rw[hr]at this
 exact this.symm
theorem Gc{g gm:Nat}{A:Option Addr}{n c p i:Nat}{l:List UInt8}{es:vN}(hc:n≤c)(hn:n≤1000000000)(hl:l.length=n)(hpi:p≤i)(hi:i+4≤n)(hF:yN l p es):cf Tryz.prog 270 [.pointer (some ⟨g,0,none⟩),.int .i64 (i:Nat)] [oa g gm A n c p es] [di 1 A n (aW l)] (fun v_ X_ S_=>∃es1,v_=(.tuple #[])∧X_=[oa g gm A n c i es1]∧S_=[]∧(yN l i es1)):=by
 refine aP (N:=61) Tryz.func270 rfl rfl (by simp) fun b=> ?_
 refine a6 (fun m=>ig (m.rd 0 rfl)) ?_
 rintro⟨hl_r,hA_r⟩
 refine bC (fun w m=>(m.perm (au [0] _ [_] _ rfl)).unpack) ?_
 refine aK<| ?_
 refine vW (fun p es=>i-p) (fun p es=>[]) (fun p es=>[aL g 359 [.slice A n c,.map (some gm),.int .i64 (p:Nat)],dg (KN (n:=4)) gm (jT es),fY (gk es)]) (fun p es=>[]) (fun p es=>p≤i∧yN l p es) p es [(0,_),(1,_)] ⟨rfl,rfl,trivial⟩ [0,0,0] rfl [] rfl (⟨hpi,hF⟩) trivial (fun p es ⟨hpi,hF⟩=> ?_)
 refine ah<|ah<|cT [] [(0,some 0),(1,some 0),(2,some 0),(3,some 0),(4,some 0),(5,some 0),(6,some 0),(7,some 0),(8,some 0),(9,some 0),(10,some 0),(11,some 0),(12,some 0),(13,some 0),(14,some 0),(15,some 0),(16,some 0),(17,some 0),(18,some 0)] (by kernel_rfl) (by kernel_rfl) rfl 99<|an (aa rfl)<|an (ba rfl)<|an (aI rfl iw (by decide))<|cq (fun m=>aw rfl fZ (aE (m.aZ 0 rfl) rfl))<|an (aa rfl)<|an (bw rfl rfl)<|an (aa rfl)<| ?_
 refine iy 11 rfl (fun h1=> ?_) (fun h1=> ?_)
 ·refine bm (o:=_) rfl rfl rfl (aa rfl)<|bm (o:=_) rfl rfl rfl (ba rfl)<|bm (o:=_) rfl rfl rfl (aI rfl iw (by decide))<|iV (o:=_) rfl rfl rfl (fun m=>aw rfl fZ (aE (m.aZ 0 rfl) rfl))<|bm (o:=_) rfl rfl rfl (aN rfl rfl (bF (by omega) (by omega)))<|bm (o:=_) rfl rfl rfl (aa rfl)<|bm (o:=_) rfl rfl rfl (ba rfl)<|bm (o:=_) rfl rfl rfl (aI rfl kD (by decide))<|iV (o:=_) rfl rfl rfl (fun m=>aw rfl eh (aE (m.aZ 0 rfl) rfl))<|bm (o:=_) rfl rfl rfl (aT rfl Tryz.underlying27)<|bm (o:=_) rfl rfl rfl (ot rfl rfl)<|an (bT rfl rfl)<|bz<|al (ρ' :=[(23,_),(0,_),(1,_)]) ⟨rfl,rfl,rfl,trivial⟩<|ag<| ?_
  refine gY rfl ((decide_eq_true (by omega))) ?_
  refine a6 (fun m=>(m.rd 0 rfl).some (by omega)) fun h_=> ?_
  obtain⟨a,rfl⟩:∃a_,A=some a_:=⟨_,h_⟩
  clear h_
  refine aB<|ag<|ah<|aK<|ah<|cT [16,17] [(0,some 1),(1,some 1),(2,some 1),(3,some 1),(4,some 1),(5,some 1),(6,some 1),(7,some 1),(8,some 1),(9,some 1),(10,some 1),(11,some 1),(12,some 1),(13,some 1),(14,some 1),(15,some 1),(16,none),(17,none)] (by kernel_rfl) (by kernel_rfl) rfl 1<|an (aa rfl)<|an (ba rfl)<|an (aI rfl kD (by decide))<|cq (fun m=>aw rfl eh (aE (m.aZ 0 rfl) rfl))<|an (aa rfl)<|an (ba rfl)<|an (aI rfl iw (by decide))<|cq (fun m=>aw rfl fZ (aE (m.aZ 0 rfl) rfl))<|an (aa rfl)<|an (ba rfl)<|an (aI rfl iw (by decide))<|cq (fun m=>aw rfl fZ (aE (m.aZ 0 rfl) rfl))<|an (aN rfl rfl (bF (by omega) (by omega)))<|an (yV (eZ rfl rfl rfl Tryz.underlying27 dZ rfl (show((p+4:Nat):Int)=_ by omega) (by omega) (by omega)) ((show Value.slice (if c=p then some a else(some a).map (·.add (p*1))) (p+4-p) (c-p)= .slice (some (a.add p)) 4 (c-p) by rw[if_neg (by omega),Nat.mul_one,Nat.add_sub_cancel_left];rfl)))<|an (pc rfl Tryz.underlying364 (by omega))<|cq (fun m=>yV (aU rfl wL tS (by rw[az];exact bO (by omega)) (Rd.part (m.rd 0 rfl))) ((rfl:Value.agg _= .agg (aW (eM l p)).toArray)))<| ?_
  refine ek (aM GR (fun g4=>⟨(fun _=>wk [1,1,1] [0] rfl rfl), ?_⟩))
  refine kI (aJ 0 rfl rfl rfl tS (by rw[az];exact bO (by omega)) aY rfl ⟨(fun h=>absurd h (by decide)), ?_⟩)
  refine bz<|al (ρ' :=[(4,_),(23,_),(0,_),(1,_)]) ⟨rfl,rfl,rfl,rfl,trivial⟩<|ak (X' :=[_,_,_,_]) (S' :=[_]) (fun _ m=>m)<|ag<| ?_
  refine cT [9,10,12,14] [(0,some 1),(1,some 1),(2,some 1),(3,some 1),(4,some 1),(5,some 0),(6,some 0),(7,some 0),(8,some 0),(9,none),(10,none),(11,some 2),(13,some 3),(12,none),(14,none)] (by kernel_rfl) (by kernel_rfl) rfl 1<|an (aa rfl)<|an (ba rfl)<|an (aI rfl se (by decide))<|cq (fun m=>aw rfl z8 (aE (m.aZ 1 rfl) rfl))<|cq (fun m=>yV (aU rfl wL tS (by rw[az];exact bO (by omega)) ((m.aZ 0 rfl).ax)) ((rfl:Value.agg _=KN ⟨eM l p,bO (by omega)⟩)))<|an (aa rfl)<|an (ba rfl)<|an (aI rfl iw (by decide))<|cq (fun m=>aw rfl fZ (aE (m.aZ 1 rfl) rfl))<| ?_
  refine ek (b6 Tryz.underlying44 Eh rfl rfl rfl (by simp[Value.cells,B8]) (by decide) (by decide) (fun g57=>⟨(fun _=>wk [1,1,1,1] [0] rfl rfl), ?_⟩))
  have hA_b57:0<1→(some (⟨g57,0,none⟩:Addr))≠none:=fun _ h=>by cases h
  refine gV (fun w m=>m.bN 0 rfl (show _=aH 3 1 (.slice (some ⟨g57,0,none⟩) 1 1) 1 (Cz [p])from rfl)) ?_
  refine ek (zR (enc:=(KN (n:=4))) (k:=⟨eM l p,bO (by omega)⟩) 3 rfl rfl rfl Tryz.underlying357 EK (Bq Tryz.underlying364 Tryz.underlying5 (by kernel_rfl) (by kernel_rfl) (by kernel_rfl)) (fun st58=>⟨(fun h=>absurd h (by decide)), ?_⟩))
  rw[lO]
  rcases hq:ck es ⟨eM l p,bO (by omega)⟩with _|x
  ·have e0:=rW hF hq
   refine gV (fun w m=>m.dj (r' :=aH 3 1 (.slice none 0 0) 0 []) (.refl _ _) (Own.nil _ _ _ _) (fun k hk=>hk.elim)) ?_
   refine an (ar rfl rfl)<|an (ar rfl rfl)<| ?_
   refine ek (bx 0 rfl rfl rfl Tryz.underlying44 Tryz.underlying44 (by exact .inl rfl) Eh rfl (fun m=>Src.bR (m.ord 2 rfl)) (xB (l:=[p])) (by unfold maxLen;omega) (by omega) (fun u=>⟨(fun h=>absurd h (by decide)), ?_⟩))
   refine cm (fun m=>(m.own 0 rfl).slice) ?_
   rintro⟨A_x,c_x,rfl,hc_x⟩
   refine cm (fun m=>(m.ord 0 rfl).2.1) fun hA_x=> ?_
   refine kI (rP (enc:=(KN (n:=4))) 1 rfl rfl rfl rfl ⟨(fun h=>absurd h (by decide)), ?_⟩)
   refine bz<|al (ρ' :=[(4,_),(23,_),(0,_),(1,_)]) ⟨rfl,rfl,rfl,rfl,trivial⟩<|ak (X' :=[_,_,_,_,_,_]) (S' :=[_]) (fun _ m=>m)<|aO<|ag<|aj<|hy (fun _=>aa rfl)<|hy (fun _=>ba rfl)<|hy (fun _=>aI rfl iw (by decide))<|hy (fun m=>aw rfl fZ (aE (m.aZ 4 rfl) rfl))<|hy (fun _=>aN rfl rfl (bF (by omega) (by omega)))<|hy (fun _=>ba rfl)<|hy (fun _=>aI rfl iw (by decide))<| ?_
   refine cH (ct 4 rfl rfl rfl s7 rfl (by first|exact Nat.le_of_ble_eq_true rfl|simp) ?_)
   refine ai<|al (ρ' :=[(4,_),(23,_),(0,_),(1,_)]) ⟨rfl,rfl,rfl,rfl,trivial⟩<|ak (X' :=[_,_,_,_,_,_]) (S' :=[_]) (fun _ m=>m)<| ?_
   refine ak (fun w m=>m.bN 0 rfl (show _=aL g 359 [.slice (some a) n c,.map (some gm),.int .i64 ((p+1:Nat):Int)]from rfl)) ?_
   refine ak (fun w m=>m.bN 1 rfl (show _=dg (KN (n:=4)) gm (jT (cQ es ⟨eM l p,bO (by omega)⟩ ⟨A_x,c_x,[p]⟩))from congrArg (dg _ _) (rz.trans (nV _ ⟨A_x,c_x,[p]⟩ es)))) ?_
   refine ak (X' :=fY (gk (cQ es ⟨eM l p,bO (by omega)⟩ ⟨A_x,c_x,[p]⟩))::_) (fun w m=>(Mem.sV (m.perm (au [2,4] _ [_,_] _ rfl))).mT (by rw[qv _ hq];exact(List.perm_append_singleton _ _).symm)) ?_
   refine sR (p+1) (cQ es ⟨eM l p,bO (by omega)⟩ ⟨A_x,c_x,[p]⟩) ⟨rfl,rfl,trivial⟩ [2,1,0] rfl [0] rfl (⟨by omega,by have:=xA (A:=A_x) (c:=c_x) hF (by omega);rw[e0]at this;exact this⟩) (by omega)
  ·obtain⟨j,hj1,hj2⟩:=kR hq
   have e0:=tN hF hq
   have hxl:x.l.length≤n:=by rw[e0];exact Nat.le_trans (ox _ _ _) (by omega)
   refine gV (X' :=aH 3 1 (.slice x.A x.l.length x.c) x.l.length (Cz x.l)::_) (fun w m=>(m.perm (au [4] _ [_] _ rfl)).tm j hj1) ?_
   refine an (ar rfl rfl)<|an (ar rfl rfl)<| ?_
   refine ek (bx 0 rfl rfl rfl Tryz.underlying44 Tryz.underlying44 (by exact .inl rfl) Eh rfl (fun m=>Src.bR (m.ord 3 rfl)) (xB (l:=[p])) (by unfold maxLen;omega) (by omega) (fun u=>⟨(fun h=>absurd h (by decide)), ?_⟩))
   refine cm (fun m=>(m.own 0 rfl).slice) ?_
   rintro⟨A_y,c_y,rfl,hc_y⟩
   refine cm (fun m=>(m.ord 0 rfl).2.1) fun hA_y=> ?_
   refine kI (rP (enc:=(KN (n:=4))) 2 rfl rfl rfl rfl ⟨(fun h=>absurd h (by decide)), ?_⟩)
   refine bz<|al (ρ' :=[(4,_),(23,_),(0,_),(1,_)]) ⟨rfl,rfl,rfl,rfl,trivial⟩<|ak (X' :=[_,_,_,_,_,_]) (S' :=[_]) (fun _ m=>m)<|aO<|ag<|aj<|hy (fun _=>aa rfl)<|hy (fun _=>ba rfl)<|hy (fun _=>aI rfl iw (by decide))<|hy (fun m=>aw rfl fZ (aE (m.aZ 5 rfl) rfl))<|hy (fun _=>aN rfl rfl (bF (by omega) (by omega)))<|hy (fun _=>ba rfl)<|hy (fun _=>aI rfl iw (by decide))<| ?_
   refine cH (ct 5 rfl rfl rfl s7 rfl (by first|exact Nat.le_of_ble_eq_true rfl|simp) ?_)
   refine ai<|al (ρ' :=[(4,_),(23,_),(0,_),(1,_)]) ⟨rfl,rfl,rfl,rfl,trivial⟩<|ak (X' :=[_,_,_,_,_,_]) (S' :=[_]) (fun _ m=>m)<| ?_
   refine ak (fun w m=>m.bN 0 rfl (show _=aL g 359 [.slice (some a) n c,.map (some gm),.int .i64 ((p+1:Nat):Int)]from rfl)) ?_
   have h1e:cQ (jT es) ⟨eM l p,bO (by omega)⟩ (.slice A_y (x.l.length+1) c_y)=jT (cQ es ⟨eM l p,bO (by omega)⟩ ⟨A_y,c_y,x.l++[p]⟩):=by rw[←nV];simp[k8.val]
   refine ak (fun w m=>m.bN 1 rfl (show _=dg (KN (n:=4)) gm (jT (cQ es ⟨eM l p,bO (by omega)⟩ ⟨A_y,c_y,x.l++[p]⟩))from congrArg (dg _ _) (rz.trans h1e))) ?_
   have h2e:aH 3 1 (.slice A_y (x.l.length+1) c_y) (x.l.length+1) (Cz x.l++Cz [p])=(⟨A_y,c_y,x.l++[p]⟩:k8).res:=by simp[k8.res,Cz]
   refine ak (fun w m=>m.bN 2 rfl (show _=(⟨A_y,c_y,x.l++[p]⟩:k8).res from h2e)) ?_
   have hjl:=(List.getElem?_eq_some_iff.1 hj1).1
   refine ak (X' :=fY (gk (cQ es ⟨eM l p,bO (by omega)⟩ ⟨A_y,c_y,x.l++[p]⟩))::_) (fun w m=>(Mem.sV (m.perm (au [0,2] _ [_,_] _ rfl))).mT (by rw[hj2];exact(set_perm _ _ _ hjl).symm)) ?_
   refine sR (p+1) (cQ es ⟨eM l p,bO (by omega)⟩ ⟨A_y,c_y,x.l++[p]⟩) ⟨rfl,rfl,trivial⟩ [2,1,0] rfl [0] rfl (⟨by omega,by have:=xA (A:=A_y) (c:=c_y) hF (by omega);rw[←e0]at this;exact this⟩) (by omega)
 ·obtain rfl:p=i:=by omega
  refine aR rfl rfl rfl (by decide)<|aR rfl rfl rfl (by decide)<|aR rfl rfl rfl (by decide)<|aR rfl rfl rfl (by decide)<|aR rfl rfl rfl (by decide)<|aR rfl rfl rfl (by decide)<|aR rfl rfl rfl (by decide)<|aR rfl rfl rfl (by decide)<|aR rfl rfl rfl (by decide)<|aR rfl rfl rfl (by decide)<|aR rfl rfl rfl (by decide)<|an (bD rfl rfl)<|bz<|al (ρ' :=[(23,_),(0,_),(1,_)]) ⟨rfl,rfl,rfl,trivial⟩<|ag<| ?_
  refine dB rfl (rfl) ?_
  refine bL<|ao<|ao<|aD<| ?_
  refine ak (X' :=oa g gm A n c p es::_) (fun w m=>(m.perm (au [0,0,0] _ [_,_,_] _ rfl)).pack) ?_
  exact fJ trivial rfl [0] rfl [] rfl ⟨es,rfl,rfl,rfl,hF⟩
end Go.Proofs.YtmibdabdlgmafaaGreatDoor
end
section
namespace Go.Eng
open Go.RowKit
def rT:Op→Bool
 | .defer _=>true
 |_=>false
abbrev nU(l:Nat):Fence:=Fence.wide.inRound l
section
variable{P:Program}{Q:Exit→Act→World→Prop}{a:Act}{w:World}{l n:Nat}
theorem FR{o:Oper}{next next' :Act→World→Prop}(h:o.wp P a w next Q)(hd:rT o.op=false)(hn:∀a w,next a w→next' a w):o.wpIn (nU l) n P a w next' Q:=by
 refine⟨fun _ _=>trivial, ?_⟩
 have e:o.semAt (nU l).round a.eval=execOp a.eval o:=Oper.semAt_eq _ _ _ (fun c hc=>by rw[hc]at hd;cases hd)
 rw[e]
 unfold Oper.wp at h
 generalize(execOp a.eval o).run P w=r at h
 match r,h with
 | .ok (.value v) w',h=>exact hn _ _ h
 | .ok .skip w',h=>exact hn _ _ h
 | .ok (.defer d) w',h=>exact hn _ _ h
 | .ok (.enter f args) w',h=>
  refine⟨fun h=>by simp[Fence.wide]at h,CallsIn.inRound l (callsIn_wide.2 (Calls.mono h ?_))⟩
  intro e w'' q
  cases e with
  |returned v=>exact hn _ _ q
  |panicked c=>exact q
  |outgrown=>exact q
 | .ok (.row row args) w',h=>exact⟨fun h=>by simp[Fence.wide]at h,fun c cs _=>let⟨v,w'',r,s⟩:=h c cs;⟨v,w'',hn _ _ r,stepsIn_wide.2 s⟩⟩
 | .halt (.panic v) w',h=>exact h
theorem nQ{ops:Array Oper}(hQ:¬LetsOut Q)(hd:ops.toList.all (fun o=> !rT o.op)=true):∀(il:List Nat) (a:Act) (w:World),wpOps P ops Q il a w→wpOpsIn (nU l) n P ops Q il a w
 | [],a,w,h=>h
 |i::rest,a,w,h=>by
  unfold wpOps at h
  unfold wpOpsIn
  cases ho:ops[i]? with
  |none=>simp only[ho]at h ⊢;exact nQ hQ hd rest a w h
  |some o=>
   simp only[ho]at h ⊢
   have hod:rT o.op=false:=by
    have h1:=List.all_eq_true.1 hd o (by obtain⟨hi,he⟩:=Array.getElem?_eq_some_iff.1 ho;rw[←he];exact Array.getElem_mem_toList ..)
    simpa using h1
   split
   ·rename_i hw
    rw[if_pos hw]at h
    rcases h with h|⟨_,h⟩
    ·exact FR h hod (fun a w h=>nQ hQ hd rest a w h)
    ·exact absurd h hQ
   ·rename_i hw
    rw[if_neg hw]at h
    exact⟨fun _ _=>trivial,nQ hQ hd rest _ w h⟩
end
def vV(l n:Nat)(P:Program)(Q:Exit→Act→World→Prop)(N:Nat)(D:List Deferred)(c:Code)(ρ:Env)(b:cL)(X S:List bq):Prop:=
 ¬LetsOut Q→∀w,Mem b X S w→∀a,Ag N D ρ a→c.wpIn (nU l) n P Q a w
section
variable{P:Program}{Q:Exit→Act→World→Prop}{N:Nat}{D:List Deferred}{ρ ρ' :Env}{b:cL}{X X' X1 Xr S S' S1:List bq}{c c' :Code}{l n:Nat}{ops:Array Oper}
theorem sT{K:Act→World→Prop}:LetsOut (Exit.then K Q)→LetsOut Q:=fun⟨a,w,h⟩=>⟨a,w,h⟩
theorem qQ{id:Nat}:LetsOut (Exit.inBlock id Q)→LetsOut Q:=fun⟨a,w,h⟩=>⟨a,w,h⟩
theorem lY:LetsOut (fj Q)→LetsOut Q:=fun⟨a,w,h⟩=>⟨a,w,by first|exact h|exact h.elim⟩
theorem ov(h:vV l n P (Exit.then (fun a w=>¬LetsOut Q→c'.wpIn (nU l) n P Q a w) Q) N D c ρ b X S):vV l n P Q N D (.seq c c') ρ b X S:=fun hQ w m a ha=>
 wpIn_seq (wpIn_mono (h (fun k=>hQ (sT k)) w m a ha) (fun e a w q=>by cases e <;> first|exact q hQ|exact q))
theorem rO{id:Nat}{il:List Oper}(h:HL P il.toArray Q N D il ρ b X S)(hd:il.all (fun o=> !rT o.op)=true:=by rfl):vV l n P Q N D (.region id il.toArray false) ρ b X S:=fun hQ w m a ha=>by
 refine wpIn_region (nQ hQ (by simpa using hd) _ _ _ ?_)
 have h1:=h w m a ha
 rw[List.range_eq_range',←Array.length_toList,wpOps_eq_wpList il.toArray.toList 0 (by simp)]
 simpa using h1
theorem pa(h:HQ Q N D .normal ρ b X S):vV l n P Q N D .skip ρ b X S:=fun hQ w m a ha=>wpIn_skip (h w m a ha)
theorem Bt{id:Nat}(h:HQ Q N D (.exit id) ρ b X S):vV l n P Q N D (.exit id) ρ b X S:=fun hQ w m a ha=>wpIn_exit (h w m a ha)
theorem xv{id:Nat}(h:vV l n P (Exit.inBlock id Q) N D c ρ b X S):vV l n P Q N D (.block id c) ρ b X S:=fun hQ w m a ha=>wpIn_block (h (fun k=>hQ (qQ k)) w m a ha)
theorem C7{p:Prop}[Decidable p]{x:Operand}(hc:ev ρ x=some (.bool (decide p)))(ht:p→vV l n P Q N D c ρ b X S)(he:¬p→vV l n P Q N D c' ρ b X S):vV l n P Q N D (.cond x c c') ρ b X S:=
 fun hQ w m a ha=>wpIn_cond_split (ha.eval hc) (fun h=>ht (of_decide_eq_true h) hQ w m a ha) (fun h=>he (of_decide_eq_false h) hQ w m a ha)
theorem k9(h:vV l n P Q N D c ρ b X S):HQ (Exit.then (fun a w=>¬LetsOut Q→c.wpIn (nU l) n P Q a w) Q) N D .normal ρ b X S:=fun w m a ha hQ=>h hQ w m a ha
theorem DB{id:Nat}{il:List (Option Nat×Oper)}(Xs:List Nat)(L:List (Nat×Option Nat))(hm:P.follows .mixedOrders=true)(hk:(Region.noSelect ops && eN ops Xs L (Array.replicate ops.size false) && decide (L.length≤ops.size))=true)
  (hp:iK ops L=some il) (cc:Nat) (h:HT P ops (fj Q) (TT b X S cc) N D 0 il ρ b X S) (hd:ops.toList.all (fun o=> !rT o.op)=true:=by rfl):vV l n P Q N D (.region id ops true) ρ b X S:=fun hQ w m a ha=>by
 simp only[Bool.and_eq_true,decide_eq_true_eq]at hk
 refine wpIn_mono (Q:=fj Q) ?_ (fun e a w q=>by cases e <;> first|exact q|exact q.elim)
 refine wpIn_region_draw fun t=>nQ (fun k=>hQ (lY k)) hd _ _ _ ?_
 simp only[Region.schedule,hm,Bool.true_or,if_true]
 refine wpAny_sound ops.size t _ a _ ?_
 refine fe _ _ _ _ (gq (X:=Xs) hk.1.1 (fun c a d v w q=>q.elim) L il _ a _ _ 0 hp hk.1.2 hk.2 ?_ ?_ (T:=TT b X S cc) (fun _=>m.lift (Fr.drew w)) (h _ (m.lift (Fr.drew w)) a ha))
 ·intro j hj
  simp[Array.getElem?_replicate]at hj
  split at hj <;> cases hj
 ·unfold jw
  rw[List.countP_eq_zero]
  intro x _
  simp[Array.getElem?_replicate]
  split <;> rfl
theorem zx{id:Nat}{il:List (Option Nat×Oper)}(is js:List Nat)(hX:b5 is X=some (X1,Xr))(hS:dV js S=some S1)(Xs:List Nat)(L:List (Nat×Option Nat))(hm:P.follows .mixedOrders=true)(hk:(Region.noSelect ops && eN ops Xs L (Array.replicate ops.size false) && decide (L.length≤ops.size))=true)
  (hp:iK ops L=some il) (cc:Nat) (h:HT P ops (fj Q) (TT b X1 S1 cc) N D 0 il ρ b X S) (hd:ops.toList.all (fun o=> !rT o.op)=true:=by rfl):vV l n P Q N D (.region id ops true) ρ b X S:=fun hQ w m a ha=>by
 simp only[Bool.and_eq_true,decide_eq_true_eq]at hk
 refine wpIn_mono (Q:=fj Q) ?_ (fun e a w q=>by cases e <;> first|exact q|exact q.elim)
 refine wpIn_region_draw fun t=>nQ (fun k=>hQ (lY k)) hd _ _ _ ?_
 simp only[Region.schedule,hm,Bool.true_or,if_true]
 refine wpAny_sound ops.size t _ a _ ?_
 refine fe _ _ _ _ (gq (X:=Xs) hk.1.1 (fun c a d v w q=>q.elim) L il _ a _ _ 0 hp hk.1.2 hk.2 ?_ ?_ (T:=TT b X1 S1 cc) (fun _=>(wk is js hX hS).mem (m.lift (Fr.drew w))) (h _ (m.lift (Fr.drew w)) a ha))
 ·intro j hj
  simp[Array.getElem?_replicate]at hj
  split at hj <;> cases hj
 ·unfold jw
  rw[List.countP_eq_zero]
  intro x _
  simp[Array.getElem?_replicate]
  split <;> rfl
end
end Go.Eng
end
section
namespace Go.Eng
open Go.RowKit
def yl(D:Nat):bq where
 dD k:=k=D
 holds w:=w.heap[D]? =some (.deferred (some []))
 keep:=fun{S w w'} f h e=>by
  have hlt:=(Array.getElem?_eq_some_iff.1 e).1
  exact(f.block D hlt (h D rfl)).trans e
 low:=fun{w k} e hk=>by
  have hk' :k=D:=hk
  rw[hk'];exact(Array.getElem?_eq_some_iff.1 e).1
theorem Mem.grown{b:cL}{X S:List bq}{w w' :World}{R:Nat→Prop}(m:Mem b X S w)(f:Fr R w w')(h1:∀k,R k→b.w.heap.size≤k)(h2:∀k,R k→∀x∈X,¬x.dD k)(h3:∀k,R k→∀s∈S,¬s.dD k):Mem b X S w' :=
 ⟨m.fr.trans f (fun _ e=>e) (fun i hi e=>absurd (h1 i e) (by omega)),m.xx,m.xs,fun x hx=>x.keep f (fun k hk hr=>h2 k hr x hx hk) (m.hx x hx),fun s hs=>s.keep f (fun k hk hr=>h3 k hr s hs hk) (m.hs s hs),m.nx,m.ns⟩
theorem uU{w w' :World}{row:Option Nat}(h:w.grownBy w' row):Fr (fun k=>row=some k) w w' :=⟨h.os,h.tape,h.output,h.size,fun k hk hn=>h.block k hk (fun e=>hn e.symm)⟩
def GB(B:Nat)(M:Nat→Prop)(W W' :World):Prop:=∀k,k<B→¬M k→W'.heap[k]? =W.heap[k]?
def Dd(ps:Array Tmp)(vs:List Value):Env:=(ps.toList.zip vs)
theorem Mem.AG{b:cL}{X S:List bq}{w:World}{D B:Nat}(m:Mem b X S w)(hb:b.w.heap.size≤B)(hD:B≤D)(hx:∀x∈X,∀k,x.dD k→k<B)(hs:∀s∈S,∀k,s.dD k→k<B)(h:w.heap[D]? =some (.deferred (some []))):Mem b (yl D::X) S w:=by
 refine⟨m.fr,List.pairwise_cons.2 ⟨fun y hy k hk hy' => ?_,m.xx⟩,fun x hx' s hs' k hk hk' => ?_,fun x hx' => ?_,m.hs,fun x hx' k hk=> ?_,m.ns⟩
 ·have hk' :k=D:=hk
  have:=hx y hy k hy'
  omega
 ·rcases List.mem_cons.1 hx' with rfl|hx'
  ·have h1:k=D:=hk
   have:=hs s hs' k hk'
   omega
  ·exact m.xs x hx' s hs' k hk hk'
 ·rcases List.mem_cons.1 hx' with rfl|hx'
  ·exact h
  ·exact m.hx x hx'
 ·rcases List.mem_cons.1 hx' with rfl|hx'
  ·have h1:k=D:=hk
   exact .inr (by omega)
  ·exact m.nx x hx' k hk
theorem Mem.off{b:cL}{X S X1 Xr:List bq}{w:World}{is:List Nat}(m:Mem b X S w)(hX:b5 is X=some (X1,Xr))(j:Nat){r:bq}(hj:Xr[j]? =some r){k:Nat}(hk:r.dD k):¬dL X1 k:=by
 have m1:=m.perm (au _ _ _ _ hX)
 rintro⟨x,hx,hxk⟩
 exact(List.pairwise_append.1 m1.xx).2.2 x hx r (List.mem_of_getElem? hj) k hxk hk
def RQ{α σ:Type}(b:cL)(X1:σ→List bq)(Sb:List bq)(id:Nat)(step:σ→α→σ)(brk:σ→α→Prop)(s:σ)(x:α):Exit→Act→World→Prop
 | .normal,_,w=>Mem b (X1 (step s x)) Sb w
 | .exit i,_,w=>i=id∧Mem b (X1 s) Sb w∧brk s x
 |_,_,_=>False
theorem lN{α σ:Type}{b:cL}{X1:σ→List bq}{Sb:List bq}{id:Nat}{step:σ→α→σ}{brk:σ→α→Prop}{s:σ}{x:α}{N:Nat}{D:List Deferred}{ρ:Env}{X S Xz:List bq}(s' :σ)(he:step s x=s')(is:List Nat)(hX:b5 is X=some (X1 s',Xz))(js:List Nat)(hS:dV js S=some Sb):
  HQ (RQ b X1 Sb id step brk s x) N D .normal ρ b X S:=fun w m a ha=>by
 show Mem b (X1 (step s x)) Sb w
 rw[he]
 exact m.out is hX js hS
theorem rA{α σ:Type}{b:cL}{X1:σ→List bq}{Sb:List bq}{id:Nat}{step:σ→α→σ}{brk:σ→α→Prop}{s:σ}{x:α}{N:Nat}{D:List Deferred}{ρ:Env}{X S Xz:List bq}(is:List Nat)(hX:b5 is X=some (X1 s,Xz))(js:List Nat)(hS:dV js S=some Sb)(hb:brk s x):
  HQ (RQ b X1 Sb id step brk s x) N D (.exit id) ρ b X S:=fun w m a ha=>⟨rfl,m.out is hX js hS,hb⟩
section
variable{P:Program}{Q:Exit→Act→World→Prop}{N:Nat}{D:List Deferred}{ρ ρ' :Env}{b:cL}{X X' Xr S S' Sb:List bq}
theorem zQ{α σ:Type}{g gf id:Nat}{ps:Array Tmp}{assign body:Code}{lb:List Value}(X1:σ→List bq)(s0:σ)(step:σ→α→σ)(brk:σ→α→Prop)(encs:α→List Value)(xs:List α)(ρx:α→Env)(ρk:Env)(hk:fC ρk ρ)
  (hv:get ρ g=some (.func (.func gf) #[] lb.toArray)) (heg:∀args w,(callFunc gf args).run P w= .ok (.enter gf args) w)
  (is:List Nat) (hX:b5 is X=some (X1 s0,Xr)) (hft:∀s k,dL (X1 s) k↔dL (X1 s0) k) (js:List Nat) (hS:dV js S=some Sb)
  (ah:∀w,Mem b X S w→SeqStopsK Fence.wide 2 P gf lb.toArray (fun x=>(encs x).toArray) (GB w.heap.size (dL (X1 s0))) (fun ys=>ys=xs) (fun pre=>pre<+:xs) xs.length w)
  (hps:∀x,(encs x).length=ps.size) (hpn:∀p∈ps.toList,p<N) (hnd:∀x (a:Act),Ag N D ρ a→Ag N [] (ρ' ++Dd ps (encs x)++ρ) {tmps:=(ps.zip (encs x).toArray).foldl (fun t (p,v)=>t.setIfInBounds p v) a.tmps,defers:=[]})
  (hasg:∀(l:Nat) (b' :cL) (s:σ) (x:α) (Q' :Exit→Act→World→Prop),HQ Q' N [] .normal (ρx x++ρk) b' (X1 s) Sb→vV l 1 P Q' N [] assign (ρ' ++Dd ps (encs x)++ρ) b' (X1 s) Sb)
  (hbody:∀(l:Nat) (b' :cL) (s:σ) (x:α),vV l 1 P (RQ b' X1 Sb id step brk s x) N [] body (ρx x++ρk) b' (X1 s) Sb)
  (k:∀(Dk:Nat) (s:σ),(s=xs.foldl step s0∨∃pre x rest,xs=pre++x::rest∧s=pre.foldl step s0∧brk s x)→HQ Q N (⟨.collected Dk, #[]⟩::D) .normal ρ b (yl Dk::(X1 s++Xr)) S):
  HC P Q N D (.block id (.rangeFunc (.tmp g) ps assign body)) ρ b X S:=by
 intro w m a ha
 have m1:=m.perm (au _ _ _ _ hX)
 have hSb:=cy _ _ _ hS
 obtain⟨M,hM⟩:∃M,M=dL (X1 s0):=⟨_,rfl⟩
 have hbz:b.w.heap.size≤w.heap.size:=m.fr.size
 have lowM:∀k,M k→k<w.heap.size:=by
  rw[hM]
  rintro k ⟨x,hx,hk⟩
  exact x.low (m1.hx x (List.mem_append_left _ hx)) hk
 have lowX:∀s x,x∈X1 s++Xr→∀k,x.dD k→k<w.heap.size:=by
  intro s x hx k hk
  rcases List.mem_append.1 hx with hx|hx
  ·exact lowM k (by rw[hM];exact(hft s k).1 ⟨x,hx,hk⟩)
  ·exact x.low (m1.hx x (List.mem_append_right _ hx)) hk
 have lowS:∀s∈S,∀k,s.dD k→k<w.heap.size:=fun s hs k hk=>s.low (m.hs s hs) hk
 refine wpIn_wide (n:=3).1 (wpIn_block ?_)
 have hown:∀{s:σ} {W W' :World} {row:Option Nat},Mem b (X1 s++Xr) S W→W.grownBy W' row→(∀r,row=some r→w.heap.size≤r∧∃o:Obj,W.heap[r]? =some o∧o.isCells=false)→Mem b (X1 s++Xr) S W' :=by
  intro s W W' row mW hg hr
  refine mW.grown (uU hg) (fun k e=>Nat.le_trans hbz (hr k e).1) (fun k e x hx hk=> ?_) (fun k e x hx hk=> ?_)
  ·have h1:=lowX s x hx k hk
   have h2:=(hr k e).1
   omega
  ·have h1:=lowS x hx k hk
   have h2:=(hr k e).1
   omega
 have hround:∀{s:σ} {W W' :World} {Y:List bq},Mem b (X1 s++Xr) S W→w.heap.size≤W.heap.size→Mem ⟨W,dL (X1 s),dL Sb⟩ Y Sb W' →KeepsFrom w.heap.size W W' ∧GB w.heap.size M W W' ∧Mem b (Y++Xr) S W' :=by
  intro s W W' Y mW hsz mY
  have e:∀k,dL (X1 s) k↔M k:=fun k=>by rw[hM];exact hft s k
  refine⟨⟨mY.fr.size,fun k o hk ho _=> ?_⟩,fun k hk hn=> ?_,(mW.frame hSb mY).mo (fun x hx=>List.mem_append_right _ hx)⟩
  ·have hlt:=(Array.getElem?_eq_some_iff.1 ho).1
   exact(mY.fr.block k hlt (fun q=>by have:=lowM k ((e k).1 q);omega)).trans ho
  ·exact mY.fr.block k (by show k<W.heap.size;omega) (fun q=>hn ((e k).1 q))
 refine wpIn_rangeFunc_ownH (n:=3) (α:=α) (gf:=gf) (lb:=lb.toArray) rfl (by decide) (ha.eval hv) trivial heg (ah w m)
  (fun{A B C} h1 h2 k hk hn=>(h2 k hk hn).trans (h1 k hk hn)) (fun W l o o' hl ho _ _ k hk hn=>World.putObj_heap_other (by omega)) (Below.refl _ w) (fun x=>by simpa using hps x)
  (fun pre W=>w.heap.size≤W.heap.size∧Mem b (X1 (pre.foldl step s0)++Xr) S W) (fun c pre W=>c= .exit id∧∃pre' x,pre=pre' ++[x]∧Mem b (X1 (pre'.foldl step s0)++Xr) S W∧brk (pre'.foldl step s0) x)
  (fun pre W W' row h hg hr=>⟨Nat.le_trans h.1 hg.size,hown h.2 hg hr⟩)
  (fun c pre W W' row h hg hr=>by
   obtain⟨hc,pre',x,e,h1,h2⟩:=h
   exact⟨hc,pre',x,e,hown h1 hg hr,h2⟩)
  ⟨Nat.le_refl _,m1⟩ (fun x a' _=>Ag N [] (ρx x++ρk) a') (fun x a' =>ownFrom_pure _ (fun _=>Ag N [] (ρx x++ρk) a')) ?_ ?_ ?_ ?_
 ·rintro l pre x W K ⟨hsz,mW⟩ hK
  refine hasg l ⟨W,dL (X1 (pre.foldl step s0)),dL Sb⟩ (pre.foldl step s0) x _ (fun W' m' a' ha' => ?_) (fun⟨_,_,h⟩=>h) W (mW.part hSb) _ (hnd x a ha)
  obtain⟨h1,h2,h3⟩:=hround mW hsz m'
  exact hK a' W' h1 (by rw[←hM];exact h2) ⟨Nat.le_trans hsz h1.size,h3⟩ ha'
 ·rintro l pre x a' W _ _ ⟨hsz,mW⟩ hax _
  refine wpIn_mono (hbody l ⟨W,dL (X1 (pre.foldl step s0)),dL Sb⟩ (pre.foldl step s0) x (fun⟨_,_,h⟩=>h) W (mW.part hSb) a' hax) ?_
  intro e a2 W2 q
  cases e with
  |normal=>
   have q' :Mem _ (X1 (step (pre.foldl step s0) x)) Sb W2:=q
   obtain⟨h1,h2,h3⟩:=hround mW hsz q'
   refine⟨h1,by rw[←hM];exact h2,Nat.le_trans hsz h1.size, ?_⟩
   rw[List.foldl_append]
   exact h3
  |exit i=>
   obtain⟨rfl,q1,q2⟩:=q
   obtain⟨h1,h2,h3⟩:=hround mW hsz q1
   exact⟨h1,rfl,pre,x,rfl,h3,q2⟩
  |ret=>exact q.elim
  |goto t=>exact q.elim
  |panic c=>exact q.elim
  |outgrown=>exact q.elim
 ·rintro Dk ys W hD rfl ⟨hsz,mW⟩ hdef
  exact k Dk _ (.inl rfl) W (mW.AG hbz hD (lowX _) lowS hdef) _ ⟨ha.sz,by rw[ha.df],ha.gt⟩
 ·rintro Dk c pre W hD hpre ⟨rfl,pre',x,rfl,mW,hb⟩ hdef
  obtain⟨rest,hr⟩:=hpre
  refine wpIn_exit ?_
  have hq:=k Dk _ (.inr ⟨pre',x,rest,by rw[←hr];simp,rfl,hb⟩) W (mW.AG hbz hD (lowX _) lowS hdef) {a with defers:=⟨.collected Dk, #[]⟩::a.defers} ⟨ha.sz,by show _::a.defers=_;rw[ha.df],ha.gt⟩
  show(Exit.inBlock id Q) (.exit id) _ W
  simp only[Exit.inBlock,if_pos]
  exact hq
end
theorem Ba{N p q:Nat}{D:List Deferred}{ρ:Env}{a:Act}{u v:Value}(hpq:(p == q)=false)(hp:p<N)(hq:q<N)(ha:Ag N D ρ a):
  Ag N [] ([]++Dd #[p,q] [u,v]++ρ) {tmps:=((#[p,q]:Array Tmp).zip [u,v].toArray).foldl (fun t (p,v)=>t.setIfInBounds p v) a.tmps,defers:=[]}:=by
 have hne:p≠q:=by simpa using hpq
 have e:(((#[p,q]:Array Tmp).zip [u,v].toArray).foldl (fun t (p,v)=>t.setIfInBounds p v) a.tmps)=(a.tmps.setIfInBounds p u).setIfInBounds q v:=by simp
 rw[e]
 have hsz:=ha.sz
 refine⟨by simpa using hsz,rfl,fun t z ht=> ?_⟩
 simp only[Dd,List.nil_append,List.zip_cons_cons,List.zip_nil_right,List.cons_append,get]at ht
 show((a.tmps.setIfInBounds p u).setIfInBounds q v)[t]? =some z
 cases h1:Nat.beq p t with
 |true=>
  rw[h1]at ht
  have h1' :p=t:=Nat.eq_of_beq_eq_true h1
  simp only[cond_true,Option.some.injEq]at ht
  subst h1';subst ht
  rw[Array.getElem?_setIfInBounds_ne (Ne.symm hne),Array.getElem?_setIfInBounds_self_of_lt (by omega)]
 |false=>
  rw[h1]at ht
  simp only[cond_false]at ht
  have h1' :p≠t:=Nat.ne_of_beq_eq_false h1
  cases h2:Nat.beq q t with
  |true=>
   rw[h2]at ht
   have h2' :q=t:=Nat.eq_of_beq_eq_true h2
   simp only[cond_true,Option.some.injEq]at ht
   subst h2';subst ht
   rw[Array.getElem?_setIfInBounds_self_of_lt (by simp;omega)]
  |false=>
   rw[h2]at ht
   have h2' :q≠t:=Nat.ne_of_beq_eq_false h2
   rw[Array.getElem?_setIfInBounds_ne h2',Array.getElem?_setIfInBounds_ne h1']
   exact ha.gt t z (by simpa using ht)
theorem CW{P:Program}{f:Nat}{fn:Func}{c:Code}{vs:List Value}{R:Value→List bq→List bq→Prop}{N:Nat}{X0 S0:List bq}(hf:P.funcs[f]? =some fn)(hb:fn.body=some c)(hN:fn.ntmps=N)(hl:vs.length≤N)
  (h:∀b,HC P (bodyPostM Fence.wide 3 P fn (RB b R)) N [] c (gJ vs 0) b X0 S0):cf P f vs X0 S0 R:=fun w m=>by
 refine callsIn_wide (n:=3).1 (callsIn_of_wp_marks hf hb trivial (wpIn_wide.2 (h _ w m _ ⟨?_,rfl,fun t v ht=> ?_⟩)))
 ·simp[hN];omega
 ·obtain⟨_,h2⟩:=gL vs 0 t v ht
  have hlt:=(List.getElem?_eq_some_iff.1 h2).1
  rw[Array.getElem?_append_left (by simpa using hlt)]
  simpa using h2
section
variable{P:Program}{fn:Func}{R:Value→List bq→List bq→Prop}{N n:Nat}{D:List Deferred}{ρ:Env}{b:cL}{X X' Xz S S' :List bq}{e:Exit}
theorem F5{Dk:Nat}(he:Leaves e)(is:List Nat)(hX:b5 is X=some ([yl Dk],X'))(k:HQ (bodyPostM Fence.wide n P fn (RB b R)) N D e ρ b X' S):HQ (bodyPostM Fence.wide n P fn (RB b R)) N (⟨.collected Dk, #[]⟩::D) e ρ b X S:=by
 intro w m a ha
 have m1:=m.perm (au _ _ _ _ hX)
 have hc:w.heap[Dk]? =some (.deferred (some [])):=m1.hx (yl Dk) (by simp)
 have hx1:=(List.pairwise_cons.1 m1.xx).1
 have hr:=run_takeDeferred (P:=P) hc
 have hf:Fr (fun k=>k=Dk) w (w.putObj Dk (.deferred none)):=⟨rfl,rfl,rfl,by simp,fun k _ hk=>World.putObj_heap_other hk⟩
 have hbz:b.w.heap.size≤Dk∨b.M Dk:=(m1.nx (yl Dk) (by simp) Dk rfl).symm
 have m2:Mem b X' S (w.putObj Dk (.deferred none)):=by
  refine⟨m1.fr.trans hf (fun _ e=>e) (fun i hi e=> ?_),(List.pairwise_cons.1 m1.xx).2,fun x hx=>m1.xs x (List.mem_cons_of_mem _ hx),fun x hx=>x.keep hf (fun k hk e=> ?_) (m1.hx x (List.mem_cons_of_mem _ hx)),fun s hs=>s.keep hf (fun k hk e=> ?_) (m1.hs s hs),fun x hx=>m1.nx x (List.mem_cons_of_mem _ hx),m1.ns⟩
  ·subst e
   rcases hbz with h|h
   ·omega
   ·exact h
  ·exact hx1 x hx k e hk
  ·exact m1.xs (yl Dk) (by simp) s hs k e hk
 have hk:=k _ m2 {a with defers:=D} ⟨ha.sz,rfl,ha.gt⟩
 cases e with
 |normal=>
  show LeavesInM Fence.wide n P fn a.tmps _ a.defers .returning w
  rw[ha.df]
  exact⟨by simp,.inl ⟨Dk,_,rfl,hr,hk⟩⟩
 |ret=>
  show LeavesInM Fence.wide n P fn a.tmps _ a.defers .returning w
  rw[ha.df]
  exact⟨by simp,.inl ⟨Dk,_,rfl,hr,hk⟩⟩
 |_=>exact he.elim
theorem Gt{v:Value}(he:Leaves e)(h:∀a,Ag N [] ρ a→∀w,(results fn a.tmps).run P w= .ok v w)(is:List Nat)(hX:b5 is X=some (X',Xz))(js:List Nat)(hS:dV js S=some S')(hR:R v X' S'):HQ (bodyPostM Fence.wide n P fn (RB b R)) N [] e ρ b X S:=by
 intro w m a ha
 have hm:=m.out is hX js hS
 cases e with
 |normal=>
  show LeavesInM Fence.wide n P fn a.tmps _ a.defers .returning w
  rw[ha.df]
  exact⟨v,h a ha w,_,_,_,rfl,hR,hm⟩
 |ret=>
  show LeavesInM Fence.wide n P fn a.tmps _ a.defers .returning w
  rw[ha.df]
  exact⟨v,h a ha w,_,_,_,rfl,hR,hm⟩
 |_=>exact he.elim
theorem u7{t t' :Nat}{v v' :Value}(he:Leaves e)(hr:fn.results= #[.tmp t,.tmp t'])(hv:get ρ t=some v)(hv' :get ρ t' =some v')(is:List Nat)(hX:b5 is X=some (X',Xz))(js:List Nat)(hS:dV js S=some S')(hR:R (.tuple #[v,v']) X' S'):HQ (bodyPostM Fence.wide n P fn (RB b R)) N [] e ρ b X S:=
 Gt he (fun a ha w=>by have h1:=ha.getD hv;have h2:=ha.getD hv';simp at h1 h2;simp[results,hr,h1,h2]) is hX js hS hR
end
end Go.Eng
end
section
namespace Go.Proofs.YtmibdabdlgmafaaGreatDoor
open Go.Eng Go.RowKit Go.Shelf
attribute [local go_sem] Oper.semAt_some
set_option maxRecDepth 100000 in
set_option maxHeartbeats 4000000 in
theorem A8(F:Fence)(n:Nat)(h7:F.fn 297)(hro:F.round=none)(hn:1≤n)(l Bs B b off cap:Nat)(M:Nat→Prop)(zs:List Int){α:Type}(L:List α)(encs:α→List Value)(hL:L.length=zs.length)(henc:∀(k:Nat) (x:α),L[k]? =some x→encs x=[.int .i64 ((zs.length-1-k:Nat):Int),.int .i64 (zs[zs.length-1-k]?.getD 0)])(hreach:zs.length*8≤140737488351232)(hbs:Bs<B∧¬M Bs)(hb:b<B∧¬M b)(J Jx:List α→World→Prop)
  (hY:∀pre x W,J pre W→pre.length<L.length→YieldAt F (n-1) Tryz.prog l (encs x).toArray W fun e W' =>
   (e= .returned (.bool true)∧J (pre++[x]) W' ∧GB B M W W')∨(e= .returned (.bool false)∧Jx (pre++[x]) W'))
  (W:World) (hBs:W.cell? ⟨Bs,0,none⟩=some (.slice (some ⟨b,off,none⟩) zs.length cap)) (hc:∀j,j<zs.length→W.cell? ⟨b,off+j,none⟩=some (.int .i64 (zs[j]?.getD 0))) (h0:J [] W):
  CallsIn F n Tryz.prog 297 #[.func (.yield l) #[] #[],.pointer (some ⟨Bs,0,none⟩)] W fun e W' =>(∃v,e= .returned v)∧
   ((∃ys,ys=L∧J ys W')∨(∃pre,pre<+:L∧Jx pre W')):=by
 refine callsIn_of_wp Tryz.func297 rfl h7 ?_ hro
 simp only[Tryz.ntmps297,List.size_toArray,List.length_cons,List.length_nil,Nat.reduceAdd,Nat.reduceSub,Array.replicate_succ,Array.replicate_zero,List.push_toArray,List.append_toArray,List.nil_append,List.cons_append]
 gi_wp2
 gi_loopw [3] (fun i wr=>∃k:Nat,k≤zs.length∧i= .int .i64 ((zs.length:Int)-1-(k:Int))∧J (L.take k) wr∧GB B M W wr)
  (fun i _=>(intOf i+1).toNat)
 case atStart=>exact⟨0,Nat.zero_le _,by simp,h0,fun _ _ _=>rfl⟩
 case round=>
  obtain⟨k,hk,rfl,hJs,hnx⟩:=hrel
  have hBs' :wr.cell? ⟨Bs,0,none⟩=some (.slice (some ⟨b,off,none⟩) zs.length cap):=by rw[←hBs];simp only[World.cell?,hnx Bs hbs.1 hbs.2]
  have hcx:∀j,j<zs.length→wr.cell? ⟨b,off+j,none⟩=some (.int .i64 (zs[j]?.getD 0)):=fun j h=>by rw[←hc j h];simp only[World.cell?,hnx b hb.1 hb.2]
  by_cases hlt:k<zs.length
  ·obtain⟨j,hj⟩:∃j:Nat,j+1+k=zs.length:=⟨zs.length-1-k,by omega⟩
   have hjk:zs.length-1-k=j:=by omega
   have hji:(zs.length:Int)-1-(k:Int)=(j:Int):=by omega
   obtain⟨x,hx⟩:∃x,L[k]? =some x:=⟨_,List.getElem?_eq_getElem (by omega)⟩
   have htk:L.take (k+1)=L.take k++[x]:=by rw[List.take_add_one,hx];rfl
   obtain⟨fn,tmps,assign,body,hy,hR⟩:=hY _ x wr hJs (by rw[List.length_take];omega)
   rw[henc k x hx,hjk]at hy
   have hcx' :=hcx j (by omega)
   obtain⟨z,hz⟩:∃z,zs[j]?.getD 0=z:=⟨_,rfl⟩
   rw[hz]at hcx' hy
   clear hcx hz hc
   rw[hji]
   have hge:¬((j:Int)<0):=by omega
   have hjl:j<zs.length:=by omega
   gi_wp2
   refine hR.mono ?_
   rintro e W3 (⟨rfl,hJ3,hk3⟩|⟨rfl,hJx3⟩)
   ·gi_wp2
    go_roundw
    case rel=>exact⟨k+1,by omega,by congr 1 <;> omega,by rw[htk];exact hJ3,fun q h1 h2=>(hk3 q h1 h2).trans (hnx q h1 h2)⟩
    case measure=>simp[intOf] <;> omega
   ·gi_wp2
    refine bodyPost_ret (results_none rfl _ _ _) rfl ?_
    exact⟨⟨_,rfl⟩,.inr ⟨_,by rw[←htk];exact List.take_prefix _ _,hJx3⟩⟩
  ·obtain rfl:k=zs.length:=by omega
   have hge:¬((zs.length:Int)-1-(zs.length:Int)≥0):=by omega
   gi_wp2
   go_end0
   exact⟨⟨_,rfl⟩,.inl (by rw[←hL,List.take_length]at hJs;exact hJs)⟩
set_option maxRecDepth 100000 in
set_option maxHeartbeats 4000000 in
theorem tB(F:Fence)(n:Nat)(h7:F.fn 297)(hro:F.round=none)(l Bs cap:Nat)(A:Option Addr)(J:World→Prop)
  (W:World) (hBs:W.cell? ⟨Bs,0,none⟩=some (.slice A 0 cap)) (h0:J W):
  CallsIn F n Tryz.prog 297 #[.func (.yield l) #[] #[],.pointer (some ⟨Bs,0,none⟩)] W fun e W' =>(∃v,e= .returned v)∧J W' :=by
 refine callsIn_of_wp Tryz.func297 rfl h7 ?_ hro
 simp only[Tryz.ntmps297,List.size_toArray,List.length_cons,List.length_nil,Nat.reduceAdd,Nat.reduceSub,Array.replicate_succ,Array.replicate_zero,List.push_toArray,List.append_toArray,List.nil_append,List.cons_append]
 gi_wp2
 gi_loopw [3] (fun i wr=>i= .int .i64 (-1)∧J wr) (fun _ _=>0)
 case atStart=>exact⟨by simp,h0⟩
 case round=>
  obtain⟨rfl,hJs⟩:=hrel
  gi_wp2
  go_end0
  exact⟨⟨_,rfl⟩,hJs⟩
theorem qK(F:Fence)(n:Nat)(h7:F.fn 297)(hro:F.round=none)(hn:1≤n){w:World}{Bs e:Nat}{v:Value}{zs:List Int}{M:Nat→Prop}{α:Type}(L:List α)(encs:α→List Value)(hL:L.length=zs.length)(henc:∀(k:Nat) (x:α),L[k]? =some x→encs x=[.int .i64 ((zs.length-1-k:Nat):Int),.int .i64 (zs[zs.length-1-k]?.getD 0)])(hreach:zs.length*8≤140737488351232)
  (hBs:w.cell? ⟨Bs,0,none⟩=some v) (hMB:¬M Bs) (h:Go.Eng.Own w 0 e 1 v zs.length (zs.map (Value.int .i64))) (hMA:∀k,jE v k→¬M k):
  SeqStopsK F n Tryz.prog 297 #[.pointer (some ⟨Bs,0,none⟩)] (fun x=>(encs x).toArray) (GB w.heap.size M) (fun ys=>ys=L) (fun pre=>pre<+:L) L.length w:=by
 intro l J Jx W hW _ _ hY h0
 have hlt:=mh hBs
 have hc' :W.cell? ⟨Bs,0,none⟩=some v:=(hW.cell (p:=⟨Bs,0,none⟩) hlt).trans hBs
 obtain⟨hl,⟨rfl,hz⟩|⟨g,o,cap,cur,rfl,_,hb,hcap,hml,hcl,hx⟩⟩:=h
 ·have hL0:L=[]:=List.eq_nil_of_length_eq_zero (by omega)
  subst hL0
  exact(tB F n h7 hro l Bs 0 none (J []) W hc' h0).mono fun e W' ⟨he,hj⟩=>⟨he,.inl ⟨_,rfl,hj⟩⟩
 ·by_cases hz:zs.length=0
  ·have hL0:L=[]:=List.eq_nil_of_length_eq_zero (by omega)
   subst hL0
   rw[hz]at hc'
   exact(tB F n h7 hro l Bs cap _ (J []) W hc' h0).mono fun e W' ⟨he,hj⟩=>⟨he,.inl ⟨_,rfl,hj⟩⟩
  ·have hcs:∀j,j<zs.length→W.cell? ⟨g,o+j,none⟩=some (.int .i64 (zs[j]?.getD 0)):=fun j hj=>by
    refine(hW.cell (p:=⟨g,o+j,none⟩) hb.lt).trans (hb.cell ?_)
    have h1:((cur.drop o).take (zs.length*1))[j]? =(zs.map (Value.int .i64))[j]? :=by rw[hx]
    rw[List.getElem?_take,if_pos (by omega),List.getElem?_drop,List.getElem?_map,List.getElem?_eq_getElem hj]at h1
    rw[h1,List.getElem?_eq_getElem hj]
    rfl
   have hsz:=hW.size
   have:=A8 F n h7 hro hn l Bs w.heap.size g o cap M zs L encs hL henc hreach ⟨hlt,hMB⟩ ⟨hb.lt,hMA g rfl⟩ J Jx hY W hc' hcs h0
   refine this.mono ?_
   rintro e W' ⟨he,⟨ys,rfl,hj⟩|⟨pre,hp,hj⟩⟩
   ·exact⟨he,.inl ⟨_,rfl,hj⟩⟩
   ·exact⟨he,.inr ⟨_,hp,hj⟩⟩
end Go.Proofs.YtmibdabdlgmafaaGreatDoor
end
section
set_option maxRecDepth 20000
set_option maxHeartbeats 2000000
namespace Go.Proofs.YtmibdabdlgmafaaGreatDoor
open Go.Eng Go.Hx
def fg(zs:List Nat)(i:Nat)(h:∀z∈zs,z<i):List {x:Nat×Nat//x.2<i}:=(zs.attach.zipIdx.map fun x=>(⟨(x.2,x.1.1),h _ x.1.2⟩:{x:Nat×Nat//x.2<i})).reverse
theorem ja(zs:List Nat)(i:Nat)(h:∀z∈zs,z<i):(fg zs i h).length=zs.length:=by simp[fg]
theorem om(zs:List Nat)(i:Nat)(h:∀z∈zs,z<i):(fg zs i h).map (fun x=>x.1.2)=zs.reverse:=by
 unfold fg
 rw[List.map_reverse,List.map_map]
 congr 1
 apply List.ext_getElem
 ·simp
 ·intro j h1 h2
  simp
theorem tK(zs:List Nat)(i:Nat)(h:∀z∈zs,z<i)(k:Nat)(x:{x:Nat×Nat//x.2<i})(hx:(fg zs i h)[k]? =some x):k<zs.length∧x.1.1=zs.length-1-k∧zs[zs.length-1-k]? =some x.1.2:=by
 have hk:k<zs.length:=by rw[←ja zs i h];exact(List.getElem?_eq_some_iff.1 hx).1
 unfold fg at hx
 rw[List.getElem?_reverse (by simpa using hk)]at hx
 simp only[List.length_map,List.length_zipIdx,List.length_attach,List.getElem?_map,List.getElem?_zipIdx,Nat.zero_add]at hx
 have hlt:zs.length-1-k<zs.attach.length:=by simp;omega
 rw[List.getElem?_eq_getElem hlt]at hx
 simp only[Option.map_some,Option.some.injEq]at hx
 subst hx
 refine⟨hk,rfl, ?_⟩
 rw[List.getElem?_eq_getElem (by simpa using hlt)]
 simp
theorem l5(f:Nat×Nat→Nat→Nat×Nat)(s:Nat×Nat)(i:Nat)(L:List {x:Nat×Nat//x.2<i}):L.foldl (fun s x=>f s x.1.2) s=(L.map (fun x=>x.1.2)).foldl f s:=by rw[List.foldl_map]
theorem p5{l:List UInt8}{i:Nat}{zs:List Nat}(hz:zs=kT l i (eM l i))(hi:i+4≤l.length)(h:∀z∈zs,z<i){s:Nat×Nat}
  (hs:s=(fg zs i h).foldl (fun s x=>gi l i s x.1.2) (0,0)∨∃pre x rest,fg zs i h=pre++x::rest∧s=pre.foldl (fun s x=>gi l i s x.1.2) (0,0)∧1024<i-x.1.2):s=a8 l i:=by
 subst hz
 rcases hs with rfl|⟨pre,x,rest,e,rfl,hb⟩
 ·rw[l5,om,uu hi]
 ·have e2:=congrArg (List.map fun x=>x.1.2) e
  rw[om,List.map_append,List.map_cons]at e2
  rw[l5,←uu hi]
  exact(yy e2 hb).symm
def l8(l:List Nat):List Int:=l.map fun n:Nat=>(n:Int)
theorem fh(l:List Nat):(l8 l).length=l.length:=List.length_map ..
theorem Ap{w:World}{e:TypeId}{v:Value}{l:List Nat}(h:Go.Eng.Own w 0 e 1 v l.length (Cz l)):Go.Eng.Own w 0 e 1 v (l8 l).length ((l8 l).map (Value.int .i64)):=by
 rw[fh]
 unfold l8
 rw[List.map_map]
 exact h
theorem Eg{es:vN}{j:Nat}{x:k8}(h:(gk es)[j]? =some x.res):(x.res::(gk es).eraseIdx j).Perm (gk es):=by
 obtain⟨h1,h2⟩:=List.getElem?_eq_some_iff.1 h
 have:=gI (gk es) j h1
 rwa [h2]at this
theorem DF{A:Option Addr}{n c:Nat}:cf Tryz.prog 271 [.slice A n c] [] [] (fun v_ X_ S_=>∃gB,v_=(.func (.func 297) #[] #[.pointer (some ⟨gB,0,none⟩)])∧X_=[aL gB 44 [.slice A n c]]∧S_=[]):=by
 refine aP (N:=4) Tryz.func271 rfl rfl (by simp) fun b=> ?_
 refine ah<|aj<| ?_
 refine hx (cw rfl (fun g1=> ?_))
 refine hy (fun _=>ab rfl)<|ai<|ak (X' :=[_]) (S' :=[]) (fun _ m=>m)<|ag<|ah<|aj<|hy (fun _=>iP rfl rfl)<|hy (fun _=>ab rfl)<|ai<|al (ρ' :=[(2,_),(1,_),(0,_)]) ⟨rfl,rfl,rfl,trivial⟩<|ag<|aX<| ?_
 refine ak (fun w m=>m.bN 0 rfl (show _=aL g1 44 [.slice A n c]from rfl)) ?_
 exact bh trivial rfl rfl [0] rfl [] rfl ⟨_,rfl,rfl,rfl⟩
theorem Ga{A:Option Addr}{n c:Nat}:cf Tryz.prog 229 [.slice A n c] [] [] (fun v_ X_ S_=>∃g gm,v_=(.pointer (some ⟨g,0,none⟩))∧X_=[oa g gm A n c 0 []]∧S_=[]):=by
 refine aP (N:=7) Tryz.func229 rfl rfl (by simp) fun b=> ?_
 refine ah<|aj<|hy (fun _=>ab rfl)<|ai<|ag<|ah<|aj<|hy (fun _=>aa rfl)<| ?_
 refine hx (nh (KN (n:=4)) (fun g4=> ?_))
 refine hy (fun _=>cA Gf rfl rfl (by kernel_rfl) (.cons (o:=0) (sz:=1) (by kernel_rfl) rfl rfl (Nat.le_of_ble_eq_true rfl) (.cons (o:=1) (sz:=1) (by kernel_rfl) rfl rfl (Nat.le_of_ble_eq_true rfl) .nil)))<| ?_
 refine hx (cw rfl (fun g6=> ?_))
 refine hy (fun _=>ab rfl)<|ai<|al (ρ' :=[(2,_),(0,_)]) ⟨rfl,rfl,trivial⟩<|ak (X' :=[_,_]) (S' :=[]) (fun _ m=>m)<|ag<|aX<| ?_
 refine ak (fun w m=>m.CQ) ?_
 refine ak (fun w m=>m.bN 1 rfl (show _=aL g6 359 [.slice A n c,.map (some g4),.int .i64 ((0:Nat):Int)]from rfl)) ?_
 refine ak (X' :=oa g6 g4 A n c 0 []::_) (fun w m=>(m.perm (au [0,1,0] _ [_,_,_] _ rfl)).pack) ?_
 exact bh trivial rfl rfl [0] rfl [] rfl ⟨_,_,rfl,rfl,rfl⟩
theorem zP(zs:List Nat)(i:Nat)(h:∀z∈zs,z<i)(k:Nat)(x:{x:Nat×Nat//x.2<i})(hx:(fg zs i h)[k]? =some x):[Value.int .i64 (x.1.1:Nat),.int .i64 (x.1.2:Nat)]=[.int .i64 (((l8 zs).length-1-k:Nat):Int),.int .i64 ((l8 zs)[(l8 zs).length-1-k]?.getD 0)]:=by
 obtain⟨h1,h2,h3⟩:=tK zs i h k x hx
 rw[fh]
 unfold l8
 rw[List.getElem?_map,h3,h2]
 rfl
theorem EF{g gm:Nat}{A:Option Addr}{n c p i:Nat}{l:List UInt8}{es:vN}(hc:n≤c)(hn:n≤1000000000)(hl:l.length=n)(hpi:p≤i)(hi:i≤n)(hF:yN l p es):cf Tryz.prog 231 [.pointer (some ⟨g,0,none⟩),.int .i64 (i:Nat)] [oa g gm A n c p es] [di 1 A n (aW l)] (fun v_ X_ S_=>∃p1 es1,v_=(.tuple #[.int .i64 ((a8 l i).1:Nat),.int .i64 ((a8 l i).2:Nat)])∧X_=[oa g gm A n c p1 es1]∧S_=[]∧(p1≤i∧yN l p1 es1)):=by
 refine CW (N:=60) Tryz.func231 rfl rfl (by simp) fun b=> ?_
 refine a6 (fun m=>ig (m.rd 0 rfl)) ?_
 rintro⟨hl_r,hA_r⟩
 refine bC (fun w m=>(m.perm (au [0] _ [_] _ rfl)).unpack) ?_
 refine ah<|aj<| ?_
 refine hx (cw rfl (fun g2=> ?_))
 refine hx (cw rfl (fun g3=> ?_))
 refine hy (fun _=>ab rfl)<|hy (fun _=>ab rfl)<|ai<|ak (X' :=[_,_,_,_,_]) (S' :=[_]) (fun _ m=>m)<|ag<|ah<|ah<|cT [] [(0,some 0),(1,some 0),(2,some 0),(3,some 0),(4,some 0),(5,some 0),(6,some 0),(7,some 0)] (by kernel_rfl) (by kernel_rfl) rfl 99<|cq (fun m=>aw rfl fZ (aE (m.aZ 0 rfl) rfl))<|an (aN rfl rfl (bF (by omega) (by omega)))<|cq (fun m=>aw rfl oD (aE (m.aZ 1 rfl) rfl))<|an (ba rfl)<|an (aI rfl kD (by decide))<|cq (fun m=>aw rfl eh (aE (m.aZ 2 rfl) rfl))<|an (aT rfl Tryz.underlying27)<|an (dh rfl rfl)<|bz<|al (ρ' :=[(18,_),(5,_),(4,_),(3,_),(2,_),(0,_),(1,_)]) ⟨rfl,rfl,rfl,rfl,rfl,rfl,rfl,trivial⟩<|ag<| ?_
 refine cG rfl (fun h1=> ?_) (fun h1=> ?_)
 ·have e:=ux (b:=l) (i:=i) (by omega) (by omega)
  rw[e]
  refine ah<|aj<|hy (fun _=>ab rfl)<|hy (fun _=>ab rfl)<|ai<|ag<|aX<|ay<| ?_
  refine ak (X' :=oa g gm A n c p es::_) (fun w m=>(m.perm (au [2,2,2] _ [_,_,_] _ rfl)).pack) ?_
  exact u7 trivial rfl rfl rfl [0] rfl [] rfl ⟨p,es,rfl,rfl,rfl,⟨hpi,hF⟩⟩
 ·have hi4:i+4≤n:=by omega
  refine aB<|ag<|ah<| ?_
  refine bC (X' :=oa g gm A n c p es::_) (fun w m=>(m.perm (au [2,2,2] _ [_,_,_] _ rfl)).pack) ?_
  refine aj<|hy (fun m=>aw rfl oD (aE (m.aZ 2 rfl) rfl))<|hy (fun m=>aw rfl fZ (aE (m.aZ 1 rfl) rfl))<| ?_
  refine hx (aq rfl Tryz.call270 (Gc (by omega) (by omega) hl (by omega) (by omega) hF) [0] rfl [0] rfl ?_)
  rintro _ _ _ ⟨es1,rfl,rfl,rfl,hp⟩
  have hF1:=hp
  refine ai<|al (ρ' :=[(18,_),(5,_),(4,_),(3,_),(2,_),(0,_),(1,_)]) ⟨rfl,rfl,rfl,rfl,rfl,rfl,rfl,trivial⟩<|ak (X' :=[_,_,_]) (S' :=[_]) (fun _ m=>m)<|ag<|ah<|aj<| ?_
  refine hx (aM Eh (fun g6=> ?_))
  refine hx (aM Eh (fun g7=> ?_))
  refine cH (dO 1 rfl rfl rfl s7 rfl (by first|exact Nat.le_of_ble_eq_true rfl|simp) ?_)
  refine cH (dO 1 rfl rfl rfl s7 rfl (by first|exact Nat.le_of_ble_eq_true rfl|simp) ?_)
  refine ai<|ak (X' :=[_,_,_,_,_]) (S' :=[_]) (fun _ m=>m)<|ag<|ah<|ah<| ?_
  refine bC (fun w m=>(m.perm (au [2] _ [_] _ rfl)).unpack) ?_
  refine a6 (fun m=>(m.rd 0 rfl).some (by omega)) fun h_=> ?_
  obtain⟨a,rfl⟩:∃a_,A=some a_:=⟨_,h_⟩
  clear h_
  rcases hq:ck es1 ⟨eM l i,bO (by omega)⟩with _|x
  ·have e0:=rW hF1 hq
   refine cT [15] [(0,some 1),(1,some 0),(2,some 0),(3,some 0),(4,some 1),(5,some 1),(6,some 1),(7,some 1),(8,some 1),(9,some 1),(10,some 1),(11,some 0),(12,some 0),(13,some 0),(14,some 0),(15,none)] (by kernel_rfl) (by kernel_rfl) rfl 99<|cq (fun m=>aw rfl oD (aE (m.aZ 6 rfl) rfl))<|an (ba rfl)<|an (aI rfl se (by decide))<|cq (fun m=>aw rfl z8 (aE (m.aZ 0 rfl) rfl))<|cq (fun m=>aw rfl oD (aE (m.aZ 6 rfl) rfl))<|an (ba rfl)<|an (aI rfl kD (by decide))<|cq (fun m=>aw rfl eh (aE (m.aZ 0 rfl) rfl))<|cq (fun m=>aw rfl fZ (aE (m.aZ 5 rfl) rfl))<|cq (fun m=>aw rfl fZ (aE (m.aZ 5 rfl) rfl))<|an (aN rfl rfl (bF (by omega) (by omega)))<|an (yV (eZ rfl rfl rfl Tryz.underlying27 dZ rfl (show((i+4:Nat):Int)=_ by omega) (by omega) (by omega)) ((show Value.slice (if c=i then some a else(some a).map (·.add (i*1))) (i+4-i) (c-i)= .slice (some (a.add i)) 4 (c-i) by rw[if_neg (by omega),Nat.mul_one,Nat.add_sub_cancel_left];rfl)))<|an (pc rfl Tryz.underlying364 (by omega))<|cq (fun m=>yV (aU rfl wL tS (by rw[az];exact bO (by omega)) (Rd.part (m.rd 0 rfl))) ((show Value.agg (aW ((l.drop i).take 4)).toArray=KN ⟨eM l i,bO (by omega)⟩from rfl)))<|cq (fun m=>yV (kr (enc:=(KN (n:=4))) (k:=⟨eM l i,bO (by omega)⟩) rfl rfl Tryz.underlying357 EK (Bq Tryz.underlying364 Tryz.underlying5 (by kernel_rfl) (by kernel_rfl) (by kernel_rfl)) (m.pn 1 rfl)) ((show ir false (.slice none 0 0) (ck (jT es1) ⟨eM l i,bO (by omega)⟩)= .slice none 0 0 by rw[lO,hq];rfl)))<| ?_
   refine ek (aq rfl Tryz.call271 (DF) [] rfl [] rfl ?_)
   rintro _ _ _ ⟨gB,rfl,rfl,rfl⟩
   refine⟨(fun _=>wk [1,1,1,1,1,1,1] [0] rfl rfl), ?_⟩
   refine bz<|al (ρ' :=[(37,_),(7,_),(6,_),(18,_),(5,_),(4,_),(3,_),(2,_),(0,_),(1,_)]) ⟨rfl,rfl,rfl,rfl,rfl,rfl,rfl,rfl,rfl,rfl,trivial⟩<|ak (X' :=[_,_,_,_,_,_,_,_]) (S' :=[_]) (fun _ m=>m)<|ag<| ?_
   have hlt:∀z∈([]:List Nat),z<i:=fun z hz=>by cases hz
   refine zQ (σ:=Nat×Nat) (α:={x:Nat×Nat//x.2<i}) (ρ' :=[]) (fun s_:Nat×Nat=>[aL g6 3 [.int .i64 (s_.1:Nat)],aL g7 3 [.int .i64 (s_.2:Nat)],aL g3 3 [.int .i64 (i:Nat)],aL g2 322 [.pointer (some ⟨g,0,none⟩)],aL g 359 [.slice (some a) n c,.map (some gm),.int .i64 (i:Nat)]]) (0,0) (fun s_ x_=>gi l i s_ x_.1.2) (fun s_ x_=>1024<i-x_.1.2) (fun x_=>[.int .i64 (x_.1.1:Nat),.int .i64 (x_.1.2:Nat)]) (fg (([]:List Nat)) i hlt) (fun x_=>[(9,.int .i64 (x_.1.2:Nat))]) [(37,_),(7,_),(6,_),(18,_),(5,_),(4,_),(3,_),(2,_),(0,_),(1,_)] ⟨rfl,rfl,rfl,rfl,rfl,rfl,rfl,rfl,rfl,rfl,trivial⟩ rfl Tryz.call297 [5,4,4,4,1] rfl (fun s_ k_=>by simp[dL,aL]) [0] rfl (fun w m=>qK Fence.wide 2 trivial rfl (by decide) (zs:=l8 (([]:List Nat))) (e:=3) (fg (([]:List Nat)) i hlt) (fun x_=>[.int .i64 (x_.1.1:Nat),.int .i64 (x_.1.2:Nat)]) (by rw[ja,fh]) (zP _ _ _) (by rw[fh];first|omega|simp) (aE (m.aZ 0 rfl) rfl) (m.off (is:=[5,4,4,4,1]) rfl 0 rfl rfl) (Go.Eng.Own.nil _ _ _ _) (fun k hk=>hk.elim)) (fun _=>rfl) (by decide) (fun _ _ ha_=>Ba rfl (by decide) (by decide) ha_) (fun l_ b_ s_ x_ Q_ h_=> ?_) (fun l_ b s_ x_=> ?_) (fun Dk_ s_ hs_=> ?_)
   ·exact rO (hy (fun _=>ab rfl) ((ai (by refine al ?_ h_;exact⟨rfl,rfl,rfl,rfl,rfl,rfl,rfl,rfl,rfl,rfl,rfl,trivial⟩))))
   ·obtain⟨u1,u2⟩:=s_
    obtain⟨⟨j,q⟩,hq2⟩:=x_
    try dsimp only
    have hq2:q<i:=hq2
    refine xv<|ov<|ov<|rO<|hy (fun m=>aw rfl fZ (aE (m.aZ 2 rfl) rfl))<|hy (fun _=>aa rfl)<|hy (fun _=>cp rfl rfl (bF (by omega) (by omega)))<|hy (fun _=>dh rfl rfl)<|ai<|al (ρ' :=[(43,_),(9,_),(37,_),(7,_),(6,_),(18,_),(5,_),(4,_),(3,_),(2,_),(0,_),(1,_)]) ⟨rfl,rfl,rfl,rfl,rfl,rfl,rfl,rfl,rfl,rfl,rfl,rfl,trivial⟩<|k9<| ?_
    refine C7 rfl (fun hb=> ?_) (fun hb=> ?_)
    ·refine Bt<|ao<|l6 (by decide)<| ?_
     exact rA [0,0,0,0,0] rfl [0] rfl ((show 1024<i-q by omega))
    ·refine pa<|k9<|ov<|DB [6] [(0,some 0),(1,some 0),(2,some 0),(3,some 0),(4,some 0),(5,some 0),(6,none),(7,some 1)] (by kernel_rfl) (by kernel_rfl) rfl 99<|cq (fun m=>aw rfl oD (aE (m.aZ 3 rfl) rfl))<|an (ba rfl)<|an (aI rfl kD (by decide))<|cq (fun m=>aw rfl eh (aE (m.aZ 4 rfl) rfl))<|cq (fun m=>aw rfl fZ (aE (m.aZ 2 rfl) rfl))<|an (aa rfl)<| ?_
     refine ek (aq rfl Tryz.call272 (DC (by omega) hl (by omega) (by omega)) [] rfl [0] rfl ?_)
     rintro _ _ _ ⟨rfl,rfl,rfl⟩
     refine⟨(fun _=>wk [0,0,0,0,0] [0] rfl rfl), ?_⟩
     refine an (ab rfl)<|bz<|al (ρ' :=[(10,_),(43,_),(9,_),(37,_),(7,_),(6,_),(18,_),(5,_),(4,_),(3,_),(2,_),(0,_),(1,_)]) ⟨rfl,rfl,rfl,rfl,rfl,rfl,rfl,rfl,rfl,rfl,rfl,rfl,rfl,trivial⟩<|ak (X' :=[_,_,_,_,_]) (S' :=[_]) (fun _ m=>m)<|k9<|ov<|rO<|hy (fun _=>aa rfl)<|hy (fun m=>aw rfl fZ (aE (m.aZ 0 rfl) rfl))<|hy (fun _=>dh rfl rfl)<|ai<|al (ρ' :=[(53,_),(10,_),(43,_),(9,_),(37,_),(7,_),(6,_),(18,_),(5,_),(4,_),(3,_),(2,_),(0,_),(1,_)]) ⟨rfl,rfl,rfl,rfl,rfl,rfl,rfl,rfl,rfl,rfl,rfl,rfl,rfl,rfl,trivial⟩<|k9<| ?_
     refine C7 rfl (fun hx1=> ?_) (fun hx1=> ?_)
     ·refine zx [2,2,2] [0] rfl rfl [4,5] [(0,some 0),(1,some 1),(2,some 1),(3,some 1),(4,none),(5,none)] (by kernel_rfl) (by kernel_rfl) rfl 99<|an (aa rfl)<|cq (fun m=>aw rfl fZ (aE (m.aZ 0 rfl) rfl))<|an (aa rfl)<|an (yV (cp rfl rfl (bF (by omega) (by omega))) ((show Value.int .i64 ((i:Int)-(q:Int))= .int .i64 ((i-q:Nat):Int) by congr 1;omega)))<| ?_
      refine kI (dO 0 rfl rfl rfl s7 rfl (by first|exact Nat.le_of_ble_eq_true rfl|simp) ⟨(fun _=>wk [2,2,2] [0] rfl rfl), ?_⟩)
      refine kI (dO 1 rfl rfl rfl s7 rfl (by first|exact Nat.le_of_ble_eq_true rfl|simp) ⟨(fun _=>wk [2,2,2] [0] rfl rfl), ?_⟩)
      refine bz<|al (ρ' :=[(53,_),(10,_),(43,_),(9,_),(37,_),(7,_),(6,_),(18,_),(5,_),(4,_),(3,_),(2,_),(0,_),(1,_)]) ⟨rfl,rfl,rfl,rfl,rfl,rfl,rfl,rfl,rfl,rfl,rfl,rfl,rfl,rfl,trivial⟩<|ak (X' :=[_,_,_,_,_]) (S' :=[_]) (fun _ m=>m)<|aO<| ?_
      exact lN (mA l i q,i-q) (by show gi l i (u1,u2) q=_;unfold gi;rw[if_neg (by omega),if_pos (by show u1<_;omega)]) [1,0,0,0,0] rfl [0] rfl
     ·refine pa<|aO<| ?_
      exact lN (u1,u2) (by show gi l i (u1,u2) q=_;unfold gi;rw[if_neg (by omega),if_neg (by show¬u1<_;omega)]) [0,0,0,0,0] rfl [0] rfl
   ·obtain⟨u1,u2⟩:=s_
    have ai:=p5 e0.symm (by omega) hlt hs_
    have hu1:u1=(a8 l i).1:=congrArg Prod.fst ai
    have hu2:u2=(a8 l i).2:=congrArg Prod.snd ai
    refine ag<|ah<|cT [] [(0,some 0),(1,some 0),(2,some 0),(3,some 0)] (by kernel_rfl) (by kernel_rfl) rfl 99<|cq (fun m=>aw rfl fZ (aE (m.aZ 1 rfl) rfl))<|cq (fun m=>aw rfl fZ (aE (m.aZ 2 rfl) rfl))<|an (ab rfl)<|an (ab rfl)<|bz<|al (ρ' :=[(5,_),(4,_),(37,_),(7,_),(6,_),(18,_),(3,_),(2,_),(0,_),(1,_)]) ⟨rfl,rfl,rfl,rfl,rfl,rfl,rfl,rfl,rfl,rfl,trivial⟩<|ag<|aX<| ?_
    refine F5 trivial [0] rfl ?_
    skip
    refine ak (X' :=oa g gm (some a) n c i es1::_) (fun w m=>(m.perm (au [4,5,5] _ [_,_,_] _ rfl)).pack) ?_
    exact u7 trivial rfl rfl rfl [0] rfl [] rfl ⟨i,es1,(by rw[←hu1,←hu2]),rfl,rfl,⟨Nat.le_refl _,hF1⟩⟩
  ·have e0:=tN hF1 hq
   refine cT [15] [(0,some 1),(1,some 0),(2,some 0),(3,some 0),(4,some 1),(5,some 1),(6,some 1),(7,some 1),(8,some 1),(9,some 1),(10,some 1),(11,some 0),(12,some 0),(13,some 0),(14,some 0),(15,none)] (by kernel_rfl) (by kernel_rfl) rfl 99<|cq (fun m=>aw rfl oD (aE (m.aZ 6 rfl) rfl))<|an (ba rfl)<|an (aI rfl se (by decide))<|cq (fun m=>aw rfl z8 (aE (m.aZ 0 rfl) rfl))<|cq (fun m=>aw rfl oD (aE (m.aZ 6 rfl) rfl))<|an (ba rfl)<|an (aI rfl kD (by decide))<|cq (fun m=>aw rfl eh (aE (m.aZ 0 rfl) rfl))<|cq (fun m=>aw rfl fZ (aE (m.aZ 5 rfl) rfl))<|cq (fun m=>aw rfl fZ (aE (m.aZ 5 rfl) rfl))<|an (aN rfl rfl (bF (by omega) (by omega)))<|an (yV (eZ rfl rfl rfl Tryz.underlying27 dZ rfl (show((i+4:Nat):Int)=_ by omega) (by omega) (by omega)) ((show Value.slice (if c=i then some a else(some a).map (·.add (i*1))) (i+4-i) (c-i)= .slice (some (a.add i)) 4 (c-i) by rw[if_neg (by omega),Nat.mul_one,Nat.add_sub_cancel_left];rfl)))<|an (pc rfl Tryz.underlying364 (by omega))<|cq (fun m=>yV (aU rfl wL tS (by rw[az];exact bO (by omega)) (Rd.part (m.rd 0 rfl))) ((show Value.agg (aW ((l.drop i).take 4)).toArray=KN ⟨eM l i,bO (by omega)⟩from rfl)))<|cq (fun m=>yV (kr (enc:=(KN (n:=4))) (k:=⟨eM l i,bO (by omega)⟩) rfl rfl Tryz.underlying357 EK (Bq Tryz.underlying364 Tryz.underlying5 (by kernel_rfl) (by kernel_rfl) (by kernel_rfl)) (m.pn 1 rfl)) ((show ir false (.slice none 0 0) (ck (jT es1) ⟨eM l i,bO (by omega)⟩)= .slice x.A x.l.length x.c by rw[lO,hq];rfl)))<| ?_
   refine ek (aq rfl Tryz.call271 (DF) [] rfl [] rfl ?_)
   rintro _ _ _ ⟨gB,rfl,rfl,rfl⟩
   refine⟨(fun _=>wk [1,1,1,1,1,1,1] [0] rfl rfl), ?_⟩
   refine bz<|al (ρ' :=[(37,_),(7,_),(6,_),(18,_),(5,_),(4,_),(3,_),(2,_),(0,_),(1,_)]) ⟨rfl,rfl,rfl,rfl,rfl,rfl,rfl,rfl,rfl,rfl,trivial⟩<|ak (X' :=[_,_,_,_,_,_,_,_]) (S' :=[_]) (fun _ m=>m)<|ag<| ?_
   have hlt:∀z∈x.l,z<i:=fun z hz=>(Ci (e0▸hz)).1
   have hxl:x.l.length≤n:=by rw[e0];exact Nat.le_trans (ox _ _ _) (by omega)
   obtain⟨j,hj1,_⟩:=kR hq
   refine bC (X' :=aH 3 1 (.slice x.A x.l.length x.c) x.l.length (Cz x.l)::_) (fun w m=>(m.perm (au [3] _ [_] _ rfl)).tm j hj1) ?_
   refine zQ (σ:=Nat×Nat) (α:={x:Nat×Nat//x.2<i}) (ρ' :=[]) (fun s_:Nat×Nat=>[aL g6 3 [.int .i64 (s_.1:Nat)],aL g7 3 [.int .i64 (s_.2:Nat)],aL g3 3 [.int .i64 (i:Nat)],aL g2 322 [.pointer (some ⟨g,0,none⟩)],aL g 359 [.slice (some a) n c,.map (some gm),.int .i64 (i:Nat)]]) (0,0) (fun s_ x_=>gi l i s_ x_.1.2) (fun s_ x_=>1024<i-x_.1.2) (fun x_=>[.int .i64 (x_.1.1:Nat),.int .i64 (x_.1.2:Nat)]) (fg (x.l) i hlt) (fun x_=>[(9,.int .i64 (x_.1.2:Nat))]) [(37,_),(7,_),(6,_),(18,_),(5,_),(4,_),(3,_),(2,_),(0,_),(1,_)] ⟨rfl,rfl,rfl,rfl,rfl,rfl,rfl,rfl,rfl,rfl,trivial⟩ rfl Tryz.call297 [6,5,5,5,3] rfl (fun s_ k_=>by simp[dL,aL]) [0] rfl (fun w m=>qK Fence.wide 2 trivial rfl (by decide) (zs:=l8 (x.l)) (e:=3) (fg (x.l) i hlt) (fun x_=>[.int .i64 (x_.1.1:Nat),.int .i64 (x_.1.2:Nat)]) (by rw[ja,fh]) (zP _ _ _) (by rw[fh];first|omega|simp) (aE (m.aZ 2 rfl) rfl) (m.off (is:=[6,5,5,5,3]) rfl 2 rfl rfl) (Ap (m.own 0 rfl)) (fun k hk=>m.off (is:=[6,5,5,5,3]) rfl 0 rfl hk)) (fun _=>rfl) (by decide) (fun _ _ ha_=>Ba rfl (by decide) (by decide) ha_) (fun l_ b_ s_ x_ Q_ h_=> ?_) (fun l_ b s_ x_=> ?_) (fun Dk_ s_ hs_=> ?_)
   ·exact rO (hy (fun _=>ab rfl) ((ai (by refine al ?_ h_;exact⟨rfl,rfl,rfl,rfl,rfl,rfl,rfl,rfl,rfl,rfl,rfl,trivial⟩))))
   ·obtain⟨u1,u2⟩:=s_
    obtain⟨⟨j,q⟩,hq2⟩:=x_
    try dsimp only
    have hq2:q<i:=hq2
    refine xv<|ov<|ov<|rO<|hy (fun m=>aw rfl fZ (aE (m.aZ 2 rfl) rfl))<|hy (fun _=>aa rfl)<|hy (fun _=>cp rfl rfl (bF (by omega) (by omega)))<|hy (fun _=>dh rfl rfl)<|ai<|al (ρ' :=[(43,_),(9,_),(37,_),(7,_),(6,_),(18,_),(5,_),(4,_),(3,_),(2,_),(0,_),(1,_)]) ⟨rfl,rfl,rfl,rfl,rfl,rfl,rfl,rfl,rfl,rfl,rfl,rfl,trivial⟩<|k9<| ?_
    refine C7 rfl (fun hb=> ?_) (fun hb=> ?_)
    ·refine Bt<|ao<|l6 (by decide)<| ?_
     exact rA [0,0,0,0,0] rfl [0] rfl ((show 1024<i-q by omega))
    ·refine pa<|k9<|ov<|DB [6] [(0,some 0),(1,some 0),(2,some 0),(3,some 0),(4,some 0),(5,some 0),(6,none),(7,some 1)] (by kernel_rfl) (by kernel_rfl) rfl 99<|cq (fun m=>aw rfl oD (aE (m.aZ 3 rfl) rfl))<|an (ba rfl)<|an (aI rfl kD (by decide))<|cq (fun m=>aw rfl eh (aE (m.aZ 4 rfl) rfl))<|cq (fun m=>aw rfl fZ (aE (m.aZ 2 rfl) rfl))<|an (aa rfl)<| ?_
     refine ek (aq rfl Tryz.call272 (DC (by omega) hl (by omega) (by omega)) [] rfl [0] rfl ?_)
     rintro _ _ _ ⟨rfl,rfl,rfl⟩
     refine⟨(fun _=>wk [0,0,0,0,0] [0] rfl rfl), ?_⟩
     refine an (ab rfl)<|bz<|al (ρ' :=[(10,_),(43,_),(9,_),(37,_),(7,_),(6,_),(18,_),(5,_),(4,_),(3,_),(2,_),(0,_),(1,_)]) ⟨rfl,rfl,rfl,rfl,rfl,rfl,rfl,rfl,rfl,rfl,rfl,rfl,rfl,trivial⟩<|ak (X' :=[_,_,_,_,_]) (S' :=[_]) (fun _ m=>m)<|k9<|ov<|rO<|hy (fun _=>aa rfl)<|hy (fun m=>aw rfl fZ (aE (m.aZ 0 rfl) rfl))<|hy (fun _=>dh rfl rfl)<|ai<|al (ρ' :=[(53,_),(10,_),(43,_),(9,_),(37,_),(7,_),(6,_),(18,_),(5,_),(4,_),(3,_),(2,_),(0,_),(1,_)]) ⟨rfl,rfl,rfl,rfl,rfl,rfl,rfl,rfl,rfl,rfl,rfl,rfl,rfl,rfl,trivial⟩<|k9<| ?_
     refine C7 rfl (fun hx1=> ?_) (fun hx1=> ?_)
     ·refine zx [2,2,2] [0] rfl rfl [4,5] [(0,some 0),(1,some 1),(2,some 1),(3,some 1),(4,none),(5,none)] (by kernel_rfl) (by kernel_rfl) rfl 99<|an (aa rfl)<|cq (fun m=>aw rfl fZ (aE (m.aZ 0 rfl) rfl))<|an (aa rfl)<|an (yV (cp rfl rfl (bF (by omega) (by omega))) ((show Value.int .i64 ((i:Int)-(q:Int))= .int .i64 ((i-q:Nat):Int) by congr 1;omega)))<| ?_
      refine kI (dO 0 rfl rfl rfl s7 rfl (by first|exact Nat.le_of_ble_eq_true rfl|simp) ⟨(fun _=>wk [2,2,2] [0] rfl rfl), ?_⟩)
      refine kI (dO 1 rfl rfl rfl s7 rfl (by first|exact Nat.le_of_ble_eq_true rfl|simp) ⟨(fun _=>wk [2,2,2] [0] rfl rfl), ?_⟩)
      refine bz<|al (ρ' :=[(53,_),(10,_),(43,_),(9,_),(37,_),(7,_),(6,_),(18,_),(5,_),(4,_),(3,_),(2,_),(0,_),(1,_)]) ⟨rfl,rfl,rfl,rfl,rfl,rfl,rfl,rfl,rfl,rfl,rfl,rfl,rfl,rfl,trivial⟩<|ak (X' :=[_,_,_,_,_]) (S' :=[_]) (fun _ m=>m)<|aO<| ?_
      exact lN (mA l i q,i-q) (by show gi l i (u1,u2) q=_;unfold gi;rw[if_neg (by omega),if_pos (by show u1<_;omega)]) [1,0,0,0,0] rfl [0] rfl
     ·refine pa<|aO<| ?_
      exact lN (u1,u2) (by show gi l i (u1,u2) q=_;unfold gi;rw[if_neg (by omega),if_neg (by show¬u1<_;omega)]) [0,0,0,0,0] rfl [0] rfl
   ·obtain⟨u1,u2⟩:=s_
    have ai:=p5 e0 (by omega) hlt hs_
    have hu1:u1=(a8 l i).1:=congrArg Prod.fst ai
    have hu2:u2=(a8 l i).2:=congrArg Prod.snd ai
    refine ag<|ah<|cT [] [(0,some 0),(1,some 0),(2,some 0),(3,some 0)] (by kernel_rfl) (by kernel_rfl) rfl 99<|cq (fun m=>aw rfl fZ (aE (m.aZ 1 rfl) rfl))<|cq (fun m=>aw rfl fZ (aE (m.aZ 2 rfl) rfl))<|an (ab rfl)<|an (ab rfl)<|bz<|al (ρ' :=[(5,_),(4,_),(37,_),(7,_),(6,_),(18,_),(3,_),(2,_),(0,_),(1,_)]) ⟨rfl,rfl,rfl,rfl,rfl,rfl,rfl,rfl,rfl,rfl,trivial⟩<|ag<|aX<| ?_
    refine F5 trivial [0] rfl ?_
    refine ak (X' :=fY (gk es1)::_) (fun w m=>(Mem.sV (m.perm (au [5,5] _ [_,_] _ rfl))).mT (Eg hj1)) ?_
    refine ak (X' :=oa g gm (some a) n c i es1::_) (fun w m=>(m.perm (au [5,6,0] _ [_,_,_] _ rfl)).pack) ?_
    exact u7 trivial rfl rfl rfl [0] rfl [] rfl ⟨i,es1,(by rw[←hu1,←hu2]),rfl,rfl,⟨Nat.le_refl _,hF1⟩⟩
end Go.Proofs.YtmibdabdlgmafaaGreatDoor
end
section
namespace Go.Eng
open Go.RowKit
theorem sB{P:Program}{Q:Exit→Act→World→Prop}{ι:Type}{c rest:Code}(l:Nat)(J:ι→Act→World→Prop)(μ:ι→Nat)(hf:findLabel c l=some rest){a:Act}{w:World}
  (first:c.wp P (Exit.jump l (fun a w=>∃j,J j a w) Q) a w)
  (pass:∀i a w,J i a w→rest.wp P (Exit.jump l (fun a' w' =>∃j,J j a' w' ∧μ j<μ i) Q) a w):(Code.scope c).wp P Q a w:=by
 intro b k cs
 have hg:gotoIn l (.inScope c::k)=some (.code rest:: .inScope c::k):=by simp[gotoIn,hf]
 have key:∀n i a w,μ i=n→J i a w→∃e a' w',Q e a' w' ∧Arrives P (lone (b.at a (.code rest:: .inScope c::k)) cs w) b k cs e a' w' :=by
  intro n
  induction n using Nat.strongRecOn with
  |_ n ih=>
   intro i a w hn hJ
   obtain⟨e,a₁,w₁,hq,harr⟩:=pass i a w hJ b (.inScope c::k) cs
   cases e with
   |normal=>exact⟨.normal,a₁,w₁,hq,Steps.trans harr (.one step_inScope)⟩
   |exit id=>exact⟨.exit id,a₁,w₁,hq,fun k' hk=>harr k' (by simp[exitTo,hk])⟩
   |goto l' =>
    obtain⟨rfl,j,hJ',hlt⟩:=hq
    obtain⟨e₂,a₂,w₂,hq₂,harr₂⟩:=ih _ (by omega) j a₁ w₁ rfl hJ'
    exact⟨e₂,a₂,w₂,hq₂,.of_steps (harr _ hg) harr₂⟩
   |ret=>exact⟨_,a₁,w₁,hq,harr⟩
   |panic ch=>exact⟨_,a₁,w₁,hq,harr⟩
   |outgrown=>exact⟨_,a₁,w₁,hq,harr⟩
 obtain⟨e,a₁,w₁,hq,harr⟩:=first b (.inScope c::k) cs
 cases e with
 |normal=>exact⟨.normal,a₁,w₁,hq,.head step_scope (Steps.trans harr (.one step_inScope))⟩
 |exit id=>exact⟨.exit id,a₁,w₁,hq,fun k' hk=>.head step_scope (harr k' (by simp[exitTo,hk]))⟩
 |goto l' =>
  obtain⟨rfl,j,hJ'⟩:=hq
  obtain⟨e₂,a₂,w₂,hq₂,harr₂⟩:=key _ j a₁ w₁ rfl hJ'
  exact⟨e₂,a₂,w₂,hq₂,.of_steps (.head step_scope (harr _ hg)) harr₂⟩
 |ret=>exact⟨_,a₁,w₁,hq,.of_steps (.one step_scope) harr⟩
 |panic ch=>exact⟨_,a₁,w₁,hq,.of_steps (.one step_scope) harr⟩
 |outgrown=>exact⟨_,a₁,w₁,hq,.of_steps (.one step_scope) harr⟩
section
variable{P:Program}{Q:Exit→Act→World→Prop}{N:Nat}{D:List Deferred}{ρ:Env}{b:cL}{X S:List bq}{c:Code}
theorem FE{ι:Type}{l:Nat}{rest:Code}(μ:ι→Nat)(R:ι→Env)(X1 S1:ι→List bq)(I:ι→Prop)(ρk:Env)(Xr Sr:List bq)(hf:findLabel c l=some rest)
  (first:HC P (Exit.jump l (fun a' w' =>∃j,Ag N D (R j++ρk) a' ∧Mem b (X1 j++Xr) (S1 j++Sr) w' ∧I j) Q) N D c ρ b X S)
  (pass:∀i,I i→HC P (Exit.jump l (fun a' w' =>∃j,Ag N D (R j++ρk) a' ∧Mem b (X1 j++Xr) (S1 j++Sr) w' ∧I j∧μ j<μ i) Q) N D rest (R i++ρk) b (X1 i++Xr) (S1 i++Sr)):HC P Q N D (.scope c) ρ b X S:=fun w m a ha=>
 sB l (fun j a' w' =>Ag N D (R j++ρk) a' ∧Mem b (X1 j++Xr) (S1 j++Sr) w' ∧I j) μ hf (first w m a ha)
  (fun i a' w' h=>Code.wp_mono (fun e a' w' q=>by
   cases e <;> first|exact q|(obtain⟨h0,j,h1,h2,h3,h4⟩:=q;exact⟨h0,j,⟨h1,h2,h3⟩,h4⟩)) (pass i h.2.2 w' h.2.1 a' h.1))
theorem y8{l:Nat}(h:HQ Q N D (.goto l) ρ b X S):HC P Q N D (.goto l) ρ b X S:=fun w m a ha=>wp_goto (h w m a ha)
theorem u5{K:Act→World→Prop}{l:Nat}(h:HQ Q N D (.goto l) ρ b X S):HQ (Exit.then K Q) N D (.goto l) ρ b X S:=h
theorem yE{l:Nat}{J:Act→World→Prop}(h:HQ Q N D .ret ρ b X S):HQ (Exit.jump l J Q) N D .ret ρ b X S:=h
theorem E1{l:Nat}{J:Act→World→Prop}{r:Code}(h:HQ (Exit.jump l J Q) N D (.goto l) ρ b X S)(k:∀a w,J a w→r.wp P (Exit.jump l J Q) a w):HC P (Exit.jump l J Q) N D (.seq (.label l) r) ρ b X S:=fun w m a ha=>wp_seq (wp_label (k a w (h w m a ha).2))
theorem Da{α:Type}{l:Nat}{rest:Code}(μ:α→Nat)(R:α→Env)(X1 S1:α→List bq)(I:α→Prop)(ρk:Env)(Xr Sr:List bq)(hf:findLabel c l=some rest)
  (first:HC P (Exit.jump l (fun a' w' =>∃x,Ag N D (R x++ρk) a' ∧Mem b (X1 x++Xr) (S1 x++Sr) w' ∧I x) Q) N D c ρ b X S)
  (pass:∀a,I a→HC P (Exit.jump l (fun a' w' =>∃x,Ag N D (R x++ρk) a' ∧Mem b (X1 x++Xr) (S1 x++Sr) w' ∧I x∧μ x<μ a) Q) N D rest (R a++ρk) b (X1 a++Xr) (S1 a++Sr)):HC P Q N D (.scope c) ρ b X S:=
 FE (ι:=α) (fun i=>μ i) (fun i=>R i) (fun i=>X1 i) (fun i=>S1 i) (fun i=>I i) ρk Xr Sr hf
  (fun w m a ha=>Code.wp_mono (fun e a' w' q=>by
   cases e <;> first|exact q|(obtain⟨h0,x,h⟩:=q;exact⟨h0,x,h⟩)) (first w m a ha))
  (fun i hi w m a ha=>Code.wp_mono (fun e a' w' q=>by
   cases e <;> first|exact q|(obtain⟨h0,x,h⟩:=q;exact⟨h0,x,h⟩)) (pass i hi w m a ha))
theorem z1{α:Type}{l:Nat}{r:Code}(μ:α→Nat)(R:α→Env)(X1 S1:α→List bq)(I:α→Prop)(ρk:Env)(hk:fC ρk ρ)(is:List Nat){Xt Xr:List bq}(hX:b5 is X=some (Xt,Xr))(hf:findLabel c l=some (.seq .skip r))
  (pass:∀a,I a→HC P (Exit.jump l (fun a' w' =>∃x,Ag N D (R x++ρk) a' ∧Mem b (X1 x++Xr) (S1 x++S) w' ∧I x∧μ x<μ a) Q) N D r (R a++ρk) b (X1 a++Xr) (S1 a++S))
  (first:(∀a w,(∃x,Ag N D (R x++ρk) a∧Mem b (X1 x++Xr) (S1 x++S) w∧I x)→r.wp P (Exit.jump l (fun a' w' =>∃x,Ag N D (R x++ρk) a' ∧Mem b (X1 x++Xr) (S1 x++S) w' ∧I x) Q) a w)→
   HC P (Exit.jump l (fun a' w' =>∃x,Ag N D (R x++ρk) a' ∧Mem b (X1 x++Xr) (S1 x++S) w' ∧I x) Q) N D c ρ b X S):HC P Q N D (.scope c) ρ b X S:=
 Da (l:=l) (rest:=.seq .skip r) μ R X1 S1 I ρk Xr S hf
  (first fun a w h=>by
   obtain⟨x,h1,h2,h3⟩:=h
   exact Code.wp_mono (fun e a' w' q=>by
    cases e <;> first|exact q|(obtain⟨h0,x_,g1,g2,g3,g4⟩:=q;exact⟨h0,x_,g1,g2,g3⟩)) (pass x h3 w h2 a h1))
  (fun a h=>fun w m a9 ha=>wp_seq (wp_skip (pass a h w m a9 ha)))
theorem AY{α:Type}{l M:Nat}{μ:α→Nat}{R:α→Env}{X1 S1:α→List bq}{Xr Sr:List bq}{ρ0:Env}{I:α→Prop}(x:α)(hs:fC (R x++ρ0) ρ)(is:List Nat){Xz:List bq}(hX:b5 is X=some (X1 x++Xr,Xz))(js:List Nat)(hS:dV js S=some (S1 x++Sr))(hI:I x)(hlt:μ x<M):
  HQ (Exit.jump l (fun a' w' =>∃x,Ag N D (R x++ρ0) a' ∧Mem b (X1 x++Xr) (S1 x++Sr) w' ∧I x∧μ x<M) Q) N D (.goto l) ρ b X S:=
 fun w m a ha=>⟨rfl,x,ha.sub hs.sub,((m.perm (au _ _ _ _ hX)).k0).mo (cy _ _ _ hS),hI,hlt⟩
theorem FB{α:Type}{l:Nat}{R:α→Env}{X1 S1:α→List bq}{Xr Sr:List bq}{ρ0:Env}{I:α→Prop}(x:α)(hs:fC (R x++ρ0) ρ)(is:List Nat){Xz:List bq}(hX:b5 is X=some (X1 x++Xr,Xz))(js:List Nat)(hS:dV js S=some (S1 x++Sr))(hI:I x):
  HQ (Exit.jump l (fun a' w' =>∃x,Ag N D (R x++ρ0) a' ∧Mem b (X1 x++Xr) (S1 x++Sr) w' ∧I x) Q) N D (.goto l) ρ b X S:=
 fun w m a ha=>⟨rfl,x,ha.sub hs.sub,((m.perm (au _ _ _ _ hX)).k0).mo (cy _ _ _ hS),hI⟩
end
end Go.Eng
end
section
set_option maxRecDepth 20000
set_option maxHeartbeats 2000000
namespace Go.Proofs.YtmibdabdlgmafaaGreatDoor
open Go.Eng Go.Hx
theorem F3{g0 g1:Nat}{A1 A2:Option Addr}{c1 c2:Nat}{own out:List UInt8}(hlen:out.length+2*own.length≤4000000000):cf Tryz.prog 230 [.pointer (some ⟨g0,0,none⟩),.pointer (some ⟨g1,0,none⟩)] [aL g0 27 [.slice A1 own.length c1],aH 5 1 (.slice A1 own.length c1) own.length (aW own),aL g1 27 [.slice A2 out.length c2],aH 5 1 (.slice A2 out.length c2) out.length (aW out)] [] (fun v_ X_ S_=>∃A3 A4 c3 c4,v_=(.tuple #[])∧X_=[aL g0 27 [.slice A3 0 c3],aH 5 1 (.slice A3 0 c3) 0 [],aL g1 27 [.slice A4 (out++eK own).length c4],aH 5 1 (.slice A4 (out++eK own).length c4) (out++eK own).length (aW (out++eK own))]∧S_=[]):=by
 obtain⟨o0,ho0⟩:∃o0,o0=out++eK own:=⟨_,rfl⟩
 rw[←ho0]
 refine aP (N:=22) Tryz.func230 rfl rfl (by simp) fun b=> ?_
 refine aK<| ?_
 refine n0 (fun own out A1 c1 A2 c2=>own.length) (fun own out A1 c1 A2 c2=>[]) (fun own out A1 c1 A2 c2=>[aL g0 27 [.slice A1 own.length c1],aH 5 1 (.slice A1 own.length c1) own.length (aW own),aL g1 27 [.slice A2 out.length c2],aH 5 1 (.slice A2 out.length c2) out.length (aW out)]) (fun own out A1 c1 A2 c2=>[]) (fun own out A1 c1 A2 c2=>out.length+2*own.length≤4000000000∧out++eK own=o0) own out A1 c1 A2 c2 [(0,_),(1,_)] ⟨rfl,rfl,trivial⟩ [0,0,0,0] rfl [] rfl (⟨hlen,ho0.symm⟩) trivial (fun own out A1 c1 A2 c2 ⟨hlen,hE⟩=> ?_)
 refine ah<|ah<|aj<|hy (fun m=>aw rfl eh (aE (m.aZ 0 rfl) rfl))<|hy (fun _=>aT rfl Tryz.underlying27)<|hy (fun _=>dh rfl rfl)<|ai<|al (ρ' :=[(5,_),(0,_),(1,_)]) ⟨rfl,rfl,rfl,trivial⟩<|ag<| ?_
 refine cG rfl (fun h0=> ?_) (fun h0=> ?_)
 ·have hne:own≠ []:=fun e=>by rw[e]at h0;exact absurd h0 (by decide)
  rw[lA hne]at hE
  obtain⟨k,hk⟩:∃k,k=min own.length 128:=⟨_,rfl⟩
  have hk1:1≤k∧k≤128∧k≤own.length:=by omega
  rw[←hk]at hE
  have htk:own.take 128=own.take k:=by
   rcases Nat.lt_or_ge own.length 128 with h|h
   ·rw[List.take_of_length_le (by omega),List.take_of_length_le (by omega)]
   ·rw[show k=128 by omega]
  have hdk:own.drop 128=own.drop k:=by
   rcases Nat.lt_or_ge own.length 128 with h|h
   ·rw[List.drop_of_length_le (by omega),List.drop_of_length_le (by omega)]
   ·rw[show k=128 by omega]
  rw[htk,hdk]at hE
  refine a6 (fun m=>(Own.rd (m.own 1 rfl)).2.1) fun hc1=> ?_
  refine aB<|ag<|aK<|ah<|aj<|hy (fun m=>aw rfl eh (aE (m.aZ 0 rfl) rfl))<|hy (fun _=>aT rfl Tryz.underlying27)<|hy (fun _=>yV (tw rfl rfl) ((show Value.int .i64 _= .int .i64 (k:Nat) by congr 1;omega)))<|hy (fun _=>ab rfl)<|ai<|al (ρ' :=[(2,_),(5,_),(0,_),(1,_)]) ⟨rfl,rfl,rfl,rfl,trivial⟩<|ag<|ah<|pT [0,0,0] [] rfl rfl [4,5,9,10] [(0,some 1),(1,some 3),(2,some 0),(3,some 0),(6,some 2),(7,some 2),(8,some 2),(4,none),(5,none),(9,none),(10,none)] (by kernel_rfl) (by kernel_rfl) rfl 3<|cq (fun m=>aw rfl eh (aE (m.aZ 2 rfl) rfl))<|an (aa rfl)<|an (yV (cp rfl rfl (bF (by omega) (by omega))) ((show Value.int .i64 ((k:Int)-1)= .int .i64 ((k-1:Nat):Int) by congr 1;omega)))<|an (yV (bX rfl Tryz.underlying3 Tryz.underlying5 (ij (k-1))) ((show Value.int .u8 _=B8 (UInt8.ofNat (k-1))from rfl)))<|cq (fun m=>aw rfl eh (aE (m.aZ 0 rfl) rfl))<|an (aa rfl)<|an (kj rfl rfl Tryz.underlying27 dZ rfl (by omega))<| ?_
  refine ek (b6 Tryz.underlying27 fk rfl rfl rfl (by simp[Value.cells,B8]) (by decide) (by decide) (fun g13=>⟨(fun _=>wk [1,1,1] [] rfl rfl), ?_⟩))
  have hA_b13:0<1→(some (⟨g13,0,none⟩:Addr))≠none:=fun _ h=>by cases h
  refine ek (bx 4 rfl rfl rfl Tryz.underlying27 Tryz.underlying27 (by exact .inl rfl) fk rfl (fun m=>Src.bR (m.ord 0 rfl)) (aY (l:=[UInt8.ofNat (k-1)])) (by unfold maxLen;omega) (by omega) (fun u=>⟨(fun _=>wk [2,2,2] [] rfl rfl), ?_⟩))
  refine cm (fun m=>(m.own 0 rfl).slice) ?_
  rintro⟨A_y,c_y,rfl,hc_y⟩
  refine cm (fun m=>(m.ord 0 rfl).2.1) fun hA_y=> ?_
  refine ek (bx 0 rfl rfl rfl Tryz.underlying27 Tryz.underlying27 (by exact .inl rfl) fk rfl (fun m=>Src.bR (Rd.DE (m.ord 3 rfl) hk1.2.2)) aY (by unfold maxLen;omega) (by omega) (fun u2=>⟨(fun _=>wk [2,2,2] [] rfl rfl), ?_⟩))
  refine cm (fun m=>(m.own 0 rfl).slice) ?_
  rintro⟨A_y2,c_y2,rfl,hc_y⟩
  refine cm (fun m=>(m.ord 0 rfl).2.1) fun hA_y=> ?_
  refine kI (dO 4 rfl rfl rfl oV rfl (by first|exact Nat.le_of_ble_eq_true rfl|simp) ⟨(fun h=>absurd h (by decide)), ?_⟩)
  refine bz<|al (ρ' :=[(2,_),(5,_),(0,_),(1,_)]) ⟨rfl,rfl,rfl,rfl,trivial⟩<|ak (X' :=[_,_,_,_,_]) (S' :=[]) (fun _ m=>m)<|ag<|aj<|hy (fun m=>aw rfl eh (aE (m.aZ 3 rfl) rfl))<|hy (fun _=>aa rfl)<|hy (fun _=>dE rfl rfl Tryz.underlying27 dZ rfl (by omega))<| ?_
  refine cH (dO 3 rfl rfl rfl oV rfl (by first|exact Nat.le_of_ble_eq_true rfl|simp) ?_)
  refine ai<|al (ρ' :=[(2,_),(5,_),(0,_),(1,_)]) ⟨rfl,rfl,rfl,rfl,trivial⟩<|ak (X' :=[_,_,_,_,_]) (S' :=[]) (fun _ m=>m)<|aO<| ?_
  refine ak (X' :=aH 5 1 (.slice (if c1=k then A1 else A1.map (·.add (k*1))) (own.length-k) (c1-k)) (own.length-k) ((aW own).drop (k*1))::_) (fun w m=>(m.perm (au [4] _ [_] _ rfl)).wJ (View.s8 hk1.2.2 hc1)) ?_
  have hdl:own.length-k=(own.drop k).length:=by rw[List.length_drop]
  have hol:out.length+1+k=(out++(UInt8.ofNat (k-1)::own.take k)).length:=by simp;omega
  rw[hdl,hol]
  refine ak (fun w m=>m.bN 0 rfl (show _=aH 5 1 (.slice (if c1=k then A1 else A1.map (·.add (k*1))) (own.drop k).length (c1-k)) (own.drop k).length (aW (own.drop k))from congrArg (aH _ _ _ _) (by rw[Nat.mul_one,qA]))) ?_
  refine ak (fun w m=>m.bN 3 rfl (show _=aH 5 1 (.slice A_y2 (out++(UInt8.ofNat (k-1)::own.take k)).length c_y2) (out++(UInt8.ofNat (k-1)::own.take k)).length (aW (out++(UInt8.ofNat (k-1)::own.take k)))from congrArg (aH _ _ _ _) (show aW out++aW [UInt8.ofNat (k-1)]++aW (own.take k)=_ by rw[←bH,←bH,List.append_assoc];rfl))) ?_
  refine eX (own.drop k) (out++(UInt8.ofNat (k-1)::own.take k)) _ _ _ _ ⟨rfl,rfl,trivial⟩ [2,1,1,0] rfl [] rfl (⟨by rw[←hdl,←hol];omega,by rw[←hE];simp⟩) (by rw[←hdl];omega)
 ·have hne:own=[]:=List.eq_nil_of_length_eq_zero (by omega)
  rw[hne,mN,List.append_nil]at hE
  subst hne
  subst hE
  refine bL<|ao<|ao<|aD<| ?_
  exact fJ trivial rfl [0,0,0,0] rfl [] rfl ⟨_,_,_,_,rfl,rfl,rfl⟩
structure Dc where
 g:Nat
 gm:Nat
 g4:Nat
 g5:Nat
 i:Nat
 p:Nat
 c1:Nat
 c2:Nat
 A1:Option Addr
 A2:Option Addr
 own:List UInt8
 out:List UInt8
 es:vN
theorem GV{A:Option Addr}{n c:Nat}{l:List UInt8}(hc:n≤c)(hn:n≤500000000)(hl:l.length=n):cf Tryz.prog 178 [.slice A n c] [] [di 1 A n (aW l)] (fun v_ X_ S_=>∃v,v_=v∧X_=[aH 5 1 v (eS l).length (aW (eS l))]∧S_=[]):=by
 refine aP (N:=56) Tryz.func178 rfl rfl (by simp) fun b=> ?_
 refine a6 (fun m=>ig (m.rd 0 rfl)) ?_
 rintro⟨hl_r,hA_r⟩
 refine ah<|aj<|hy (fun _=>ab rfl)<|ai<|ag<| ?_
 refine z1 (l:=0) (fun(t:Dc)=>n-t.i) (fun(t:Dc)=>[(7,.int .i64 (t.i:Nat)),(3,.pointer (some ⟨t.g,0,none⟩)),(4,.pointer (some ⟨t.g4,0,none⟩)),(5,.pointer (some ⟨t.g5,0,none⟩)),(6,.func (.func 230) #[] #[.pointer (some ⟨t.g5,0,none⟩),.pointer (some ⟨t.g4,0,none⟩)])]) (fun(t:Dc)=>[oa t.g t.gm A n c t.p t.es,aL t.g5 27 [.slice t.A1 t.own.length t.c1],aH 5 1 (.slice t.A1 t.own.length t.c1) t.own.length (aW t.own),aL t.g4 27 [.slice t.A2 t.out.length t.c2],aH 5 1 (.slice t.A2 t.out.length t.c2) t.out.length (aW t.out)]) (fun(t:Dc)=>[]) (fun(t:Dc)=>t.i≤n∧t.p≤t.i∧yN l t.p t.es∧t.out.length+2*t.own.length≤2*t.i∧gW l t.i t.own t.out=eS l) [(0,_)] ⟨rfl,trivial⟩ [] rfl rfl (fun t ⟨hin,hpi,hF,hlen,hE⟩=> ?_) (fun hfall_=> ?_)
 ·obtain⟨g,gm,g4,g5,i,p,c1,c2,A1,A2,own,out,es⟩:=t
  dsimp only at hin hpi hF hlen hE ⊢
  refine ah<|ah<|aj<|hy (fun _=>aa rfl)<|hy (fun _=>aa rfl)<|hy (fun _=>aT rfl Tryz.underlying27)<|hy (fun _=>cM rfl rfl)<|ai<|al (ρ' :=[(16,_),(7,_),(3,_),(4,_),(5,_),(6,_),(0,_)]) ⟨rfl,rfl,rfl,rfl,rfl,rfl,rfl,trivial⟩<|ag<| ?_
  refine tc rfl (fun hfin=> ?_) (fun hfin=> ?_)
  ·have hi:i=n:=by have:=of_decide_eq_true hfin;omega
   rw[lJ (by omega)]at hE
   refine ah<|aj<|hy (fun _=>aa rfl)<| ?_
   refine hx (kX rfl rfl Tryz.call230 (F3 (by omega)) [1,1,1,1] rfl [] rfl ?_)
   rintro _ _ _ ⟨A3,A4,c3,c4,rfl,rfl,rfl⟩
   rw[hE]
   refine ai<|al (ρ' :=[(16,_),(7,_),(3,_),(4,_),(5,_),(6,_),(0,_)]) ⟨rfl,rfl,rfl,rfl,rfl,rfl,rfl,trivial⟩<|ak (X' :=[_,_,_,_,_]) (S' :=[_]) (fun _ m=>m)<|ag<|ah<|aj<|hy (fun m=>aw rfl eh (aE (m.aZ 2 rfl) rfl))<|hy (fun _=>ab rfl)<|ai<|al (ρ' :=[(2,_),(16,_),(7,_),(3,_),(4,_),(5,_),(6,_),(0,_)]) ⟨rfl,rfl,rfl,rfl,rfl,rfl,rfl,rfl,trivial⟩<|ag<|aX<|ay<|yE<| ?_
   exact bh trivial rfl rfl [3] rfl [] rfl ⟨_,rfl,rfl,rfl⟩
  ·have hi:i<n:=by have:=of_decide_eq_false hfin;omega
   refine aB<|ag<|ah<|aj<|hy (fun _=>aa rfl)<|hy (fun _=>aa rfl)<| ?_
   refine hx (aq rfl Tryz.call231 (EF (by omega) (by omega) hl (by omega) (by omega) hF) [0] rfl [0] rfl ?_)
   rintro _ _ _ ⟨p1,es1,rfl,rfl,rfl,hp⟩
   obtain⟨hp1,hF1⟩:=hp
   refine hy (fun _=>aa rfl)<|hy (fun _=>ar rfl rfl)<|hy (fun _=>ar rfl rfl)<|hy (fun _=>ab rfl)<|hy (fun _=>ab rfl)<|ai<|al (ρ' :=[(9,_),(8,_),(16,_),(7,_),(3,_),(4,_),(5,_),(6,_),(0,_)]) ⟨rfl,rfl,rfl,rfl,rfl,rfl,rfl,rfl,rfl,trivial⟩<|ak (X' :=[_,_,_,_,_]) (S' :=[_]) (fun _ m=>m)<|ag<|ah<|ah<|aj<|hy (fun _=>aa rfl)<|hy (fun _=>cM rfl rfl)<|ai<|al (ρ' :=[(27,_),(9,_),(8,_),(16,_),(7,_),(3,_),(4,_),(5,_),(6,_),(0,_)]) ⟨rfl,rfl,rfl,rfl,rfl,rfl,rfl,rfl,rfl,rfl,trivial⟩<|ag<| ?_
   refine cG rfl (fun h0=> ?_) (fun h0=> ?_)
   ·rw[lQ (by omega) (by omega)]at hE
    refine ah<|pT [0,0,1,1] [0] rfl rfl [5,6,7] [(0,some 1),(1,some 0),(2,some 0),(3,some 0),(4,some 0),(5,none),(6,none),(7,none)] (by kernel_rfl) (by kernel_rfl) rfl 2<|cq (fun m=>aw rfl eh (aE (m.aZ 1 rfl) rfl))<|an (aa rfl)<|an (aa rfl)<|an (aS rfl rfl Tryz.underlying27 dZ hA_r rfl (by omega))<|cq (fun m=>aw rfl jc ((m.rd 0 rfl).cell (bM (by omega))))<| ?_
    refine ek (b6 Tryz.underlying27 fk rfl rfl rfl (by simp[Value.cells,B8]) (by decide) (by decide) (fun g33=>⟨(fun _=>wk [1,1,2,2] [0] rfl rfl), ?_⟩))
    have hA_b33:0<1→(some (⟨g33,0,none⟩:Addr))≠none:=fun _ h=>by cases h
    refine gV (fun w m=>m.bN 0 rfl (show _=aH 5 1 (.slice (some ⟨g33,0,none⟩) 1 1) 1 (aW [l.getD i 0])from rfl)) ?_
    refine ek (bx 3 rfl rfl rfl Tryz.underlying27 Tryz.underlying27 (by exact .inl rfl) fk rfl (fun m=>Src.bR (m.ord 0 rfl)) aY (by unfold maxLen;omega) (by omega) (fun u=>⟨(fun _=>wk [2,2,2,2] [0] rfl rfl), ?_⟩))
    refine cm (fun m=>(m.own 0 rfl).slice) ?_
    rintro⟨A_x,c_x,rfl,hc_x⟩
    refine cm (fun m=>(m.ord 0 rfl).2.1) fun hA_x=> ?_
    refine kI (dO 3 rfl rfl rfl oV rfl (by first|exact Nat.le_of_ble_eq_true rfl|simp) ⟨(fun h=>absurd h (by decide)), ?_⟩)
    refine bz<|al (ρ' :=[(27,_),(9,_),(8,_),(16,_),(7,_),(3,_),(4,_),(5,_),(6,_),(0,_)]) ⟨rfl,rfl,rfl,rfl,rfl,rfl,rfl,rfl,rfl,rfl,trivial⟩<|ak (X' :=[_,_,_,_,_,_]) (S' :=[_]) (fun _ m=>m)<|ag<|ah<|aj<|hy (fun _=>aa rfl)<|hy (fun _=>aN rfl rfl (bF (by omega) (by omega)))<|hy (fun _=>ab rfl)<|ai<|al (ρ' :=[(7,_),(27,_),(9,_),(8,_),(16,_),(3,_),(4,_),(5,_),(6,_),(0,_)]) ⟨rfl,rfl,rfl,rfl,rfl,rfl,rfl,rfl,rfl,rfl,trivial⟩<|ag<|y8<|u5<| ?_
    have hol:own.length+1=(own++[l.getD i 0]).length:=by simp
    rw[hol]
    refine ak (fun w m=>m.bN 1 rfl (show _=aH 5 1 (.slice A_x (own++[l.getD i 0]).length c_x) (own++[l.getD i 0]).length (aW (own++[l.getD i 0]))from congrArg (aH _ _ _ _) (bH _ _).symm)) ?_
    exact AY (⟨g,gm,g4,g5,i+1,p1,c_x,c2,A_x,A2,own++[l.getD i 0],out,es1⟩) ⟨rfl,rfl,rfl,rfl,rfl,rfl,trivial⟩ [3,1,0,1,1] rfl [0] rfl (⟨hi,Nat.le_succ_of_le hp1,hF1,by show out.length+2*(own++[l.getD i 0]).length≤2*(i+1);rw[←hol];omega,hE⟩) (by show n-(i+1)<n-i;omega)
   ·have hm:=lM (b:=l) (i:=i) (by omega)
    rw[je (by omega) (by omega)]at hE
    obtain⟨m1,m2,m3,m4,m5,m6⟩:=hm.resolve_left (fun e=>h0 (by rw[e];rfl))
    refine aB<|ag<|ah<|aj<|hy (fun _=>aa rfl)<| ?_
    refine hx (kX rfl rfl Tryz.call230 (F3 (by omega)) [1,1,1,1] rfl [] rfl ?_)
    rintro _ _ _ ⟨A3,A4,c3,c4,rfl,rfl,rfl⟩
    refine ai<|al (ρ' :=[(27,_),(9,_),(8,_),(16,_),(7,_),(3,_),(4,_),(5,_),(6,_),(0,_)]) ⟨rfl,rfl,rfl,rfl,rfl,rfl,rfl,rfl,rfl,rfl,trivial⟩<|ak (X' :=[_,_,_,_,_]) (S' :=[_]) (fun _ m=>m)<|ag<|ah<|aj<|hy (fun m=>aw rfl eh (aE (m.aZ 2 rfl) rfl))<|hy (fun _=>aa rfl)<|hy (fun _=>aN rfl rfl (bF (by omega) (by omega)))<|hy (fun _=>yV (cp rfl rfl (bF (by omega) (by omega))) ((show Value.int .i64 (128+((a8 l i).1:Int)-4)= .int .i64 ((124+(a8 l i).1:Nat):Int) by congr 1;omega)))<|hy (fun _=>yV (bX rfl Tryz.underlying3 Tryz.underlying5 (ij _)) ((show Value.int .u8 _=B8 (UInt8.ofNat (124+(a8 l i).1))from rfl)))<|hy (fun _=>aa rfl)<|hy (fun _=>yV (cp rfl rfl (bF (by omega) (by omega))) ((show Value.int .i64 (((a8 l i).2:Int)-1)= .int .i64 (((a8 l i).2-1:Nat):Int) by congr 1;omega)))<|hy (fun _=>yV (bX rfl Tryz.underlying3 Tryz.underlying5 (ij _)) ((show Value.int .u8 _=B8 (UInt8.ofNat ((a8 l i).2-1))from rfl)))<|hy (fun _=>aa rfl)<|hy (fun _=>yV (cp rfl rfl (bF (by omega) (by omega))) ((show Value.int .i64 (((a8 l i).2:Int)-1)= .int .i64 (((a8 l i).2-1:Nat):Int) by congr 1;omega)))<|hy (fun _=>yV (oB (p:=256) rfl rfl (by decide) (by decide) (by decide)) ((show Value.int .i64 ((((a8 l i).2-1:Nat):Int)/256)= .int .i64 ((((a8 l i).2-1)/256:Nat):Int) by congr 1)))<|hy (fun _=>yV (bX rfl Tryz.underlying3 Tryz.underlying5 (ij _)) ((show Value.int .u8 _=B8 (UInt8.ofNat (((a8 l i).2-1)/256))from rfl)))<| ?_
    refine hx (b6 Tryz.underlying27 fk rfl rfl rfl (by simp[Value.cells,B8]) (by decide) (by decide) (fun g51=> ?_))
    have hA_b51:0<3→(some (⟨g51,0,none⟩:Addr))≠none:=fun _ h=>by cases h
    refine aQ (fun w m=>m.bN 0 rfl (show _=aH 5 1 (.slice (some ⟨g51,0,none⟩) 3 3) 3 (aW (gr (a8 l i)))from rfl)) ?_
    have hll:=fH own
    have hlo:(out++eK own).length=out.length+(eK own).length:=by simp
    refine hx (bx 4 rfl rfl rfl Tryz.underlying27 Tryz.underlying27 (by exact .inl rfl) fk rfl (fun m=>Src.bR (m.ord 0 rfl)) aY (by unfold maxLen;omega) (by omega) (fun u=> ?_))
    refine aA (fun m=>(m.own 0 rfl).slice) ?_
    rintro⟨A_y,c_y,rfl,hc_y⟩
    refine aA (fun m=>(m.ord 0 rfl).2.1) fun hA_y=> ?_
    refine cH (dO 4 rfl rfl rfl oV rfl (by first|exact Nat.le_of_ble_eq_true rfl|simp) ?_)
    refine ai<|al (ρ' :=[(27,_),(9,_),(8,_),(16,_),(7,_),(3,_),(4,_),(5,_),(6,_),(0,_)]) ⟨rfl,rfl,rfl,rfl,rfl,rfl,rfl,rfl,rfl,rfl,trivial⟩<|ak (X' :=[_,_,_,_,_,_]) (S' :=[_]) (fun _ m=>m)<|ag<|ah<|aj<|hy (fun _=>aa rfl)<|hy (fun _=>aa rfl)<|hy (fun _=>yV (aN rfl rfl (bF (by omega) (by omega))) ((show Value.int .i64 ((i:Int)+((a8 l i).1:Int))= .int .i64 ((i+(a8 l i).1:Nat):Int) by congr 1)))<|hy (fun _=>ab rfl)<|ai<|al (ρ' :=[(7,_),(27,_),(9,_),(8,_),(16,_),(3,_),(4,_),(5,_),(6,_),(0,_)]) ⟨rfl,rfl,rfl,rfl,rfl,rfl,rfl,rfl,rfl,rfl,trivial⟩<|ag<|y8<| ?_
    have hol:(out++eK own).length+3=(out++eK own++gr (a8 l i)).length:=by simp[gr];omega
    rw[hol]
    refine ak (fun w m=>m.bN 1 rfl (show _=aH 5 1 (.slice A_y (out++eK own++gr (a8 l i)).length c_y) (out++eK own++gr (a8 l i)).length (aW (out++eK own++gr (a8 l i)))from congrArg (aH _ _ _ _) (bH _ _).symm)) ?_
    exact AY (⟨g,gm,g4,g5,i+(a8 l i).1,p1,c3,c_y,A3,A_y,[],out++eK own++gr (a8 l i),es1⟩) ⟨rfl,rfl,rfl,rfl,rfl,rfl,trivial⟩ [5,3,3,1,0] rfl [0] rfl (⟨by show i+(a8 l i).1≤n;omega,by show p1≤i+(a8 l i).1;omega,hF1,by show(out++eK own++gr (a8 l i)).length+2*0≤2*(i+(a8 l i).1);rw[←hol];omega,hE⟩) (by show n-(i+(a8 l i).1)<n-i;omega)
 ·refine ah<|aj<|hy (fun _=>aa rfl)<| ?_
  refine hx (aq rfl Tryz.call229 (Ga) [] rfl [] rfl ?_)
  rintro _ _ _ ⟨g,gm,rfl,rfl,rfl⟩
  refine hy (fun _=>ab rfl)<|ai<|al (ρ' :=[(3,_),(2,_),(0,_)]) ⟨rfl,rfl,rfl,trivial⟩<|ak (X' :=[_]) (S' :=[_]) (fun _ m=>m)<|ag<|ah<|aj<| ?_
  refine hx (aM tj (fun g4=> ?_))
  refine hx (aM tj (fun g5=> ?_))
  refine ai<|ak (X' :=[_,_,_]) (S' :=[_]) (fun _ m=>m)<|ag<|ah<|aj<|hy (fun _=>iP rfl rfl)<|hy (fun _=>ab rfl)<|ai<|al (ρ' :=[(6,_),(5,_),(4,_),(3,_),(2,_),(0,_)]) ⟨rfl,rfl,rfl,rfl,rfl,rfl,trivial⟩<|ag<|ah<|aj<|hy (fun _=>ab rfl)<|ai<|ag<| ?_
  refine bC (fun w m=>m.bN 1 rfl (show _=aL g4 27 [.slice none 0 0]from rfl)) ?_
  refine bC (fun w m=>m.bN 1 rfl (show _=aL g5 27 [.slice none 0 0]from rfl)) ?_
  refine bC (fun w m=>m.dj (r' :=aH 5 1 (.slice none 0 0) 0 []) (.refl _ _) (Own.nil _ _ _ _) (fun k hk=>hk.elim)) ?_
  refine bC (fun w m=>m.dj (r' :=aH 5 1 (.slice none 0 0) 0 []) (.refl _ _) (Own.nil _ _ _ _) (fun k hk=>hk.elim)) ?_
  exact E1 (FB (R:=fun(t:Dc)=>[(7,.int .i64 (t.i:Nat)),(3,.pointer (some ⟨t.g,0,none⟩)),(4,.pointer (some ⟨t.g4,0,none⟩)),(5,.pointer (some ⟨t.g5,0,none⟩)),(6,.func (.func 230) #[] #[.pointer (some ⟨t.g5,0,none⟩),.pointer (some ⟨t.g4,0,none⟩)])]) (X1:=fun(t:Dc)=>[oa t.g t.gm A n c t.p t.es,aL t.g5 27 [.slice t.A1 t.own.length t.c1],aH 5 1 (.slice t.A1 t.own.length t.c1) t.own.length (aW t.own),aL t.g4 27 [.slice t.A2 t.out.length t.c2],aH 5 1 (.slice t.A2 t.out.length t.c2) t.out.length (aW t.out)]) (S1:=fun(t:Dc)=>[]) (I:=fun(t:Dc)=>t.i≤n∧t.p≤t.i∧yN l t.p t.es∧t.out.length+2*t.own.length≤2*t.i∧gW l t.i t.own t.out=eS l) (⟨g,gm,g4,g5,0,0,0,0,none,none,[],[],[]⟩) ⟨rfl,rfl,rfl,rfl,rfl,rfl,trivial⟩ [4,2,1,1,0] rfl [0] rfl (⟨Nat.zero_le _,Nat.le_refl _,Cq _,Nat.le_refl _,rfl⟩)) hfall_
end Go.Proofs.YtmibdabdlgmafaaGreatDoor
end
section
set_option maxRecDepth 20000
set_option maxHeartbeats 2000000
namespace Go.Proofs.YtmibdabdlgmafaaGreatDoor
open Go.Eng Go.Hx
theorem oY{A:Option Addr}{n c:Nat}{l:List UInt8}(hn:n≤70368744177664):cf Tryz.prog 180 [.slice A n c] [] [di 1 A n (aW l)] (fun v_ X_ S_=>v_=(.int .u32 (da l:Nat))∧X_=[]∧S_=[]):=by
 exact fU fun m=>Calls.mono (Bh A n c l _ (m.rd 0 rfl) (by omega)) (fun e w' ⟨h,hf⟩=>⟨_,h,⟨rfl,rfl,rfl⟩,hf⟩)
theorem j3{k:Nat}(hk:k<4294967296):cf Tryz.prog 179 [.int .u32 (k:Nat)] [] [] (fun v_ X_ S_=>∃v,v_=v∧X_=[aH 5 1 v 4 (aW (gP k))]∧S_=[]):=by
 refine aP (N:=15) Tryz.func179 rfl rfl (by simp) fun b=> ?_
 refine ah<|aj<|hy (fun _=>ab rfl)<|ai<|ag<|ah<|aj<|hy (fun _=>aa rfl)<|hy (fun _=>yV (bX rfl Tryz.underlying166 Tryz.underlying5 (ij _)) ((show Value.int .u8 _=B8 (UInt8.ofNat k)from rfl)))<|hy (fun _=>aa rfl)<|hy (fun _=>yV (oB (p:=256) rfl rfl (by decide) (by decide) (by decide)) ((show Value.int .u32 ((k:Int)/256)= .int .u32 ((k/256:Nat):Int) by congr 1)))<|hy (fun _=>yV (bX rfl Tryz.underlying166 Tryz.underlying5 (ij _)) ((show Value.int .u8 _=B8 (UInt8.ofNat (k/256))from rfl)))<|hy (fun _=>aa rfl)<|hy (fun _=>yV (oB (p:=65536) rfl rfl (by decide) (by decide) (by decide)) ((show Value.int .u32 ((k:Int)/65536)= .int .u32 ((k/65536:Nat):Int) by congr 1)))<|hy (fun _=>yV (bX rfl Tryz.underlying166 Tryz.underlying5 (ij _)) ((show Value.int .u8 _=B8 (UInt8.ofNat (k/65536))from rfl)))<|hy (fun _=>aa rfl)<|hy (fun _=>yV (oB (p:=16777216) rfl rfl (by decide) (by decide) (by decide)) ((show Value.int .u32 ((k:Int)/16777216)= .int .u32 ((k/16777216:Nat):Int) by congr 1)))<|hy (fun _=>yV (bX rfl Tryz.underlying166 Tryz.underlying5 (ij _)) ((show Value.int .u8 _=B8 (UInt8.ofNat (k/16777216))from rfl)))<| ?_
 refine hx (b6 Tryz.underlying27 fk rfl rfl rfl (by simp[Value.cells,B8]) (by decide) (by decide) (fun g14=> ?_))
 have hA_b14:0<4→(some (⟨g14,0,none⟩:Addr))≠none:=fun _ h=>by cases h
 refine hy (fun _=>ab rfl)<|ai<|al (ρ' :=[(2,_),(0,_)]) ⟨rfl,rfl,trivial⟩<|ak (X' :=[_]) (S' :=[]) (fun _ m=>m)<|ag<|aX<| ?_
 refine ak (fun w m=>m.bN 0 rfl (show _=aH 5 1 (.slice (some ⟨g14,0,none⟩) 4 4) 4 (aW (gP k))from rfl)) ?_
 exact bh trivial rfl rfl [0] rfl [] rfl ⟨_,rfl,rfl,rfl⟩
theorem Gn{A:Option Addr}{n c:Nat}{l:List UInt8}(hc:n≤c)(hn:n≤100000000)(hl:l.length=n):cf Tryz.prog 106 [.slice A n c] [] [di 1 A n (aW l)] (fun v_ X_ S_=>∃v,v_=v∧X_=[aH 5 1 v (bK l).length (aW (bK l))]∧S_=[]):=by
 have hpl:=nA l
 have hlt:n<4294967296:=by omega
 have hcl:=jP l
 refine aP (N:=31) Tryz.func106 rfl rfl (by simp) fun b=> ?_
 refine a6 (fun m=>ig (m.rd 0 rfl)) ?_
 rintro⟨hl_r,hA_r⟩
 refine ah<|aj<|hy (fun _=>ab rfl)<|ai<|ag<|ah<|aj<|hy (fun _=>aa rfl)<|hy (fun _=>ab rfl)<|hy (fun _=>ab rfl)<|ai<|al (ρ' :=[(4,_),(3,_),(2,_),(0,_)]) ⟨rfl,rfl,rfl,rfl,trivial⟩<|ag<|ah<|ah<|aj<|hy (fun _=>aa rfl)<| ?_
 refine hx (aq rfl Tryz.call178 (GV (by omega) (by omega) (by omega)) [] rfl [0] rfl ?_)
 rintro _ _ _ ⟨v,rfl,rfl,rfl⟩
 refine aA (fun m=>(m.own 0 rfl).slice) ?_
 rintro⟨A_y,c_y,rfl,hc_y⟩
 refine aA (fun m=>(m.ord 0 rfl).2.1) fun hA_y=> ?_
 refine hy (fun _=>ab rfl)<|ai<|al (ρ' :=[(5,_),(4,_),(3,_),(2,_),(0,_)]) ⟨rfl,rfl,rfl,rfl,rfl,trivial⟩<|ak (X' :=[_]) (S' :=[_]) (fun _ m=>m)<|ag<|ah<|aj<|hy (fun _=>aa rfl)<|hy (fun _=>aT rfl Tryz.underlying27)<|hy (fun _=>aa rfl)<|hy (fun _=>aT rfl Tryz.underlying27)<|hy (fun _=>bw rfl rfl)<|ai<|al (ρ' :=[(14,_),(5,_),(4,_),(3,_),(2,_),(0,_)]) ⟨rfl,rfl,rfl,rfl,rfl,rfl,trivial⟩<|ag<| ?_
 refine cG rfl (fun hp=> ?_) (fun hp=> ?_)
 ·have hq:bK l=[76,1]++gP l.length++eS l++gP (da l):=by
   have:ve l=true:=by unfold ve;exact decide_eq_true (by omega)
   unfold bK iW
   rw[this];rfl
  refine aj<|hy (fun _=>aa rfl)<|hy (fun _=>ab rfl)<|hy (fun _=>ab rfl)<|ai<|al (ρ' :=[(4,_),(3,_),(14,_),(5,_),(2,_),(0,_)]) ⟨rfl,rfl,rfl,rfl,rfl,rfl,trivial⟩<|ag<|ah<|aj<|hy (fun _=>aa rfl)<| ?_
  refine hx (b6 Tryz.underlying27 fk rfl rfl rfl (by simp[Value.cells,B8]) (by decide) (by decide) (fun g17=> ?_))
  have hA_b17:0<2→(some (⟨g17,0,none⟩:Addr))≠none:=fun _ h=>by cases h
  refine hy (fun _=>aa rfl)<|hy (fun _=>aT rfl Tryz.underlying27)<|hy (fun _=>bX rfl Tryz.underlying3 Tryz.underlying166 (wq (by omega) (by omega)))<| ?_
  refine hx (aq rfl Tryz.call179 (j3 (by omega)) [] rfl [] rfl ?_)
  rintro _ _ _ ⟨v2,rfl,rfl,rfl⟩
  refine aA (fun m=>(m.own 0 rfl).slice) ?_
  rintro⟨A_x,c_x,rfl,hc_x⟩
  refine aA (fun m=>(m.ord 0 rfl).2.1) fun hA_x=> ?_
  refine aQ (fun w m=>m.bN 1 rfl (show _=aH 5 1 (.slice (some ⟨g17,0,none⟩) 2 2) 2 (aW [76,1])from rfl)) ?_
  refine hx (bx 0 rfl rfl rfl Tryz.underlying27 Tryz.underlying27 (by exact .inl rfl) fk rfl (fun m=>Src.bR (m.ord 1 rfl)) aY (by unfold maxLen;omega) (by omega) (fun u=> ?_))
  refine aA (fun m=>(m.own 0 rfl).slice) ?_
  rintro⟨A_b17,c_b17,rfl,hc_b17⟩
  refine aA (fun m=>(m.ord 0 rfl).2.1) fun hA_b17=> ?_
  refine hy (fun _=>ab rfl)<|ai<|al (ρ' :=[(6,_),(4,_),(3,_),(14,_),(5,_),(2,_),(0,_)]) ⟨rfl,rfl,rfl,rfl,rfl,rfl,rfl,trivial⟩<|ak (X' :=[_,_,_]) (S' :=[_]) (fun _ m=>m)<|ag<|ah<|aj<|hy (fun _=>aa rfl)<|hy (fun _=>aa rfl)<| ?_
  refine hx (bx 0 rfl rfl rfl Tryz.underlying27 Tryz.underlying27 (by exact .inl rfl) fk rfl (fun m=>Src.bR (m.ord 2 rfl)) aY (by unfold maxLen;omega) (by omega) (fun u2=> ?_))
  refine aA (fun m=>(m.own 0 rfl).slice) ?_
  rintro⟨A_b172,c_b172,rfl,hc_b17⟩
  refine aA (fun m=>(m.ord 0 rfl).2.1) fun hA_b17=> ?_
  refine hy (fun _=>ab rfl)<|ai<|al (ρ' :=[(6,_),(4,_),(3,_),(14,_),(5,_),(2,_),(0,_)]) ⟨rfl,rfl,rfl,rfl,rfl,rfl,rfl,trivial⟩<|ak (X' :=[_,_,_]) (S' :=[_]) (fun _ m=>m)<|ag<|ah<|aj<|hy (fun _=>aa rfl)<|hy (fun _=>aa rfl)<| ?_
  refine hx (aq rfl Tryz.call180 (oY (by omega)) [] rfl [0] rfl ?_)
  rintro _ _ _ ⟨rfl,rfl,rfl⟩
  refine hx (aq rfl Tryz.call179 (j3 (by omega)) [] rfl [] rfl ?_)
  rintro _ _ _ ⟨v3,rfl,rfl,rfl⟩
  refine aA (fun m=>(m.own 0 rfl).slice) ?_
  rintro⟨A_x2,c_x2,rfl,hc_x2⟩
  refine aA (fun m=>(m.ord 0 rfl).2.1) fun hA_x2=> ?_
  refine hx (bx 1 rfl rfl rfl Tryz.underlying27 Tryz.underlying27 (by exact .inl rfl) fk rfl (fun m=>Src.bR (m.ord 0 rfl)) aY (by unfold maxLen;omega) (by omega) (fun u3=> ?_))
  refine aA (fun m=>(m.own 0 rfl).slice) ?_
  rintro⟨A_b173,c_b173,rfl,hc_b17⟩
  refine aA (fun m=>(m.ord 0 rfl).2.1) fun hA_b17=> ?_
  refine hy (fun _=>ab rfl)<|ai<|al (ρ' :=[(2,_),(6,_),(4,_),(3,_),(14,_),(5,_),(0,_)]) ⟨rfl,rfl,rfl,rfl,rfl,rfl,rfl,trivial⟩<|ak (X' :=[_,_,_,_]) (S' :=[_]) (fun _ m=>m)<|ag<|aX<| ?_
  have hol:2+4+(eS l).length+4=(bK l).length:=by rw[hq];simp[fB,hl];try omega
  rw[hol]
  have hsl:aW [76,1]++aW (gP n)++aW (eS l)++aW (gP (da l))=aW (bK l):=by rw[hq,hl,bH,bH,bH]
  rw[hsl]
  exact bh trivial rfl rfl [0] rfl [] rfl ⟨_,rfl,rfl,rfl⟩
 ·have hq:bK l=[76,0]++gP l.length++l++gP (da l):=by
   have:ve l=false:=by unfold ve;exact decide_eq_false (by omega)
   unfold bK iW
   rw[this];rfl
  refine aB<|ag<|ah<|aj<|hy (fun _=>aa rfl)<| ?_
  refine hx (b6 Tryz.underlying27 fk rfl rfl rfl (by simp[Value.cells,B8]) (by decide) (by decide) (fun g17=> ?_))
  have hA_b17:0<2→(some (⟨g17,0,none⟩:Addr))≠none:=fun _ h=>by cases h
  refine hy (fun _=>aa rfl)<|hy (fun _=>aT rfl Tryz.underlying27)<|hy (fun _=>bX rfl Tryz.underlying3 Tryz.underlying166 (wq (by omega) (by omega)))<| ?_
  refine hx (aq rfl Tryz.call179 (j3 (by omega)) [] rfl [] rfl ?_)
  rintro _ _ _ ⟨v2,rfl,rfl,rfl⟩
  refine aA (fun m=>(m.own 0 rfl).slice) ?_
  rintro⟨A_x,c_x,rfl,hc_x⟩
  refine aA (fun m=>(m.ord 0 rfl).2.1) fun hA_x=> ?_
  refine aQ (fun w m=>m.bN 1 rfl (show _=aH 5 1 (.slice (some ⟨g17,0,none⟩) 2 2) 2 (aW [76,0])from rfl)) ?_
  refine hx (bx 0 rfl rfl rfl Tryz.underlying27 Tryz.underlying27 (by exact .inl rfl) fk rfl (fun m=>Src.bR (m.ord 1 rfl)) aY (by unfold maxLen;omega) (by omega) (fun u=> ?_))
  refine aA (fun m=>(m.own 0 rfl).slice) ?_
  rintro⟨A_b17,c_b17,rfl,hc_b17⟩
  refine aA (fun m=>(m.ord 0 rfl).2.1) fun hA_b17=> ?_
  refine hy (fun _=>ab rfl)<|ai<|al (ρ' :=[(6,_),(14,_),(5,_),(4,_),(3,_),(2,_),(0,_)]) ⟨rfl,rfl,rfl,rfl,rfl,rfl,rfl,trivial⟩<|ak (X' :=[_,_,_]) (S' :=[_]) (fun _ m=>m)<|ag<|ah<|aj<|hy (fun _=>aa rfl)<|hy (fun _=>aa rfl)<| ?_
  refine hx (bx 0 rfl rfl rfl Tryz.underlying27 Tryz.underlying27 (by exact .inl rfl) fk rfl (fun m=>Src.bR (m.rd 0 rfl)) aY (by unfold maxLen;omega) (by omega) (fun u2=> ?_))
  refine aA (fun m=>(m.own 0 rfl).slice) ?_
  rintro⟨A_b172,c_b172,rfl,hc_b17⟩
  refine aA (fun m=>(m.ord 0 rfl).2.1) fun hA_b17=> ?_
  refine hy (fun _=>ab rfl)<|ai<|al (ρ' :=[(6,_),(14,_),(5,_),(4,_),(3,_),(2,_),(0,_)]) ⟨rfl,rfl,rfl,rfl,rfl,rfl,rfl,trivial⟩<|ak (X' :=[_,_,_]) (S' :=[_]) (fun _ m=>m)<|ag<|ah<|aj<|hy (fun _=>aa rfl)<|hy (fun _=>aa rfl)<| ?_
  refine hx (aq rfl Tryz.call180 (oY (by omega)) [] rfl [0] rfl ?_)
  rintro _ _ _ ⟨rfl,rfl,rfl⟩
  refine hx (aq rfl Tryz.call179 (j3 (by omega)) [] rfl [] rfl ?_)
  rintro _ _ _ ⟨v3,rfl,rfl,rfl⟩
  refine aA (fun m=>(m.own 0 rfl).slice) ?_
  rintro⟨A_x2,c_x2,rfl,hc_x2⟩
  refine aA (fun m=>(m.ord 0 rfl).2.1) fun hA_x2=> ?_
  refine hx (bx 1 rfl rfl rfl Tryz.underlying27 Tryz.underlying27 (by exact .inl rfl) fk rfl (fun m=>Src.bR (m.ord 0 rfl)) aY (by unfold maxLen;omega) (by omega) (fun u3=> ?_))
  refine aA (fun m=>(m.own 0 rfl).slice) ?_
  rintro⟨A_b173,c_b173,rfl,hc_b17⟩
  refine aA (fun m=>(m.ord 0 rfl).2.1) fun hA_b17=> ?_
  refine hy (fun _=>ab rfl)<|ai<|al (ρ' :=[(2,_),(6,_),(14,_),(5,_),(4,_),(3,_),(0,_)]) ⟨rfl,rfl,rfl,rfl,rfl,rfl,rfl,trivial⟩<|ak (X' :=[_,_,_,_]) (S' :=[_]) (fun _ m=>m)<|ag<|aX<| ?_
  have hol:2+4+n+4=(bK l).length:=by rw[hq];simp[fB,hl];try omega
  rw[hol]
  have hsl:aW [76,0]++aW (gP n)++aW l++aW (gP (da l))=aW (bK l):=by rw[hq,hl,bH,bH,bH]
  rw[hsl]
  exact bh trivial rfl rfl [0] rfl [] rfl ⟨_,rfl,rfl,rfl⟩
theorem lK{f:List UInt8}(h:f.length<10∨f.getD 0 0≠76∨1<(f.getD 1 0).toNat):hC f=none:=by unfold hC;rw[if_pos h]
theorem ye{f:List UInt8}(h:¬(f.length<10∨f.getD 0 0≠76∨1<(f.getD 1 0).toNat)):hC f=some (lf (f.drop 2)):=by unfold hC;rw[if_neg h]
theorem s4{A:Option Addr}{n c:Nat}{f:List UInt8}(hc:n≤c)(hn:n≤1000000000)(hl:f.length=n):cf Tryz.prog 211 [.slice A n c] [] [di 1 A n (aW f)] (fun v_ X_ S_=>v_=(.tuple #[.int .i64 (((hC f).getD 0:Nat):Int),.int .i64 (if(hC f).isSome then 0 else 2)])∧X_=[]∧S_=[]):=by
 have b0:=(f.getD 0 0).toNat_lt
 have b1:=(f.getD 1 0).toNat_lt
 refine aP (N:=34) Tryz.func211 rfl rfl (by simp) fun b=> ?_
 refine a6 (fun m=>ig (m.rd 0 rfl)) ?_
 rintro⟨hl_r,hA_r⟩
 refine ah<|aj<|hy (fun _=>ab rfl)<|hy (fun _=>ab rfl)<|ai<|ag<|ah<|ah<|aj<|hy (fun _=>aa rfl)<|hy (fun _=>aT rfl Tryz.underlying27)<|hy (fun _=>bw rfl rfl)<|hy (fun _=>aa rfl)<| ?_
 refine eY 9 rfl (fun h1=> ?_) (fun h1=> ?_)
 ·refine bI rfl rfl rfl (by decide)<|bI rfl rfl rfl (by decide)<|bI rfl rfl rfl (by decide)<|bI rfl rfl rfl (by decide)<|hy (fun _=>bT rfl rfl)<|hy (fun _=>aa rfl)<| ?_
  rw[lK (.inl (by omega))]
  refine bI rfl rfl rfl (by decide)<|bI rfl rfl rfl (by decide)<|bI rfl rfl rfl (by decide)<|bI rfl rfl rfl (by decide)<|hy (fun _=>bT rfl rfl)<|ai<|al (ρ' :=[(20,_),(3,_),(2,_),(0,_)]) ⟨rfl,rfl,rfl,rfl,trivial⟩<|ag<| ?_
  refine gY rfl (rfl) ?_
  refine ah<|aj<|hy (fun _=>ab rfl)<|hy (fun _=>ab rfl)<|ai<|ag<|aX<|ay<| ?_
  exact dy trivial rfl rfl rfl [] rfl [] rfl ⟨rfl,rfl,rfl⟩
 ·refine dW (o:=_) rfl rfl rfl (fun _=>aa rfl)<|dW (o:=_) rfl rfl rfl (fun _=>aS rfl rfl Tryz.underlying27 dZ hA_r (show((0:Nat):Int)=0 from rfl) (by omega))<|dW (o:=_) rfl rfl rfl (fun m=>aw rfl jc ((m.rd 0 rfl).cell (bM (by omega))))<|dW (o:=_) rfl rfl rfl (fun _=>cW rfl rfl)<|hy (fun _=>bD rfl rfl)<|hy (fun _=>aa rfl)<| ?_
  refine eY 15 rfl (fun h2=> ?_) (fun h2=> ?_)
  ·rw[lK (.inr (.inl (fun e=>h2 (by rw[e];rfl))))]
   refine bI rfl rfl rfl (by decide)<|bI rfl rfl rfl (by decide)<|bI rfl rfl rfl (by decide)<|bI rfl rfl rfl (by decide)<|hy (fun _=>bT rfl rfl)<|ai<|al (ρ' :=[(20,_),(3,_),(2,_),(0,_)]) ⟨rfl,rfl,rfl,rfl,trivial⟩<|ag<| ?_
   refine gY rfl (rfl) ?_
   refine ah<|aj<|hy (fun _=>ab rfl)<|hy (fun _=>ab rfl)<|ai<|ag<|aX<|ay<| ?_
   exact dy trivial rfl rfl rfl [] rfl [] rfl ⟨rfl,rfl,rfl⟩
  ·refine dW (o:=_) rfl rfl rfl (fun _=>aa rfl)<|dW (o:=_) rfl rfl rfl (fun _=>aS rfl rfl Tryz.underlying27 dZ hA_r (show((1:Nat):Int)=1 from rfl) (by omega))<|dW (o:=_) rfl rfl rfl (fun m=>aw rfl jc ((m.rd 0 rfl).cell (bM (by omega))))<|dW (o:=_) rfl rfl rfl (fun _=>dh rfl rfl)<|hy (fun _=>bD rfl rfl)<|ai<|al (ρ' :=[(20,_),(3,_),(2,_),(0,_)]) ⟨rfl,rfl,rfl,rfl,trivial⟩<|ag<| ?_
   refine cG rfl (fun h3=> ?_) (fun h3=> ?_)
   ·rw[lK (.inr (.inr (by omega)))]
    refine ah<|aj<|hy (fun _=>ab rfl)<|hy (fun _=>ab rfl)<|ai<|ag<|aX<|ay<| ?_
    exact dy trivial rfl rfl rfl [] rfl [] rfl ⟨rfl,rfl,rfl⟩
   ·have h2' :f.getD 0 0=76:=UInt8.toNat_inj.1 (by have:=Decidable.not_not.1 h2;show _=76;omega)
    rw[ye (by rintro(q|q|q);omega;exact q h2';omega)]
    refine aB<|ag<|ah<|aj<|hy (fun _=>ab rfl)<|ai<|ag<|ah<|ah<|aj<|hy (fun _=>ab rfl)<|ai<|ag<|aK<| ?_
    refine dH (fun j=>4-j) (fun j=>[(4,.int .i64 ((acc ((f.drop 2).take 4) j:Nat):Int)),(5,.int .i64 (5-(j:Int)))]) (fun j=>[]) (fun j=>[]) (fun j=>j≤4) 0 [(20,_),(3,_),(2,_),(0,_)] ⟨rfl,rfl,rfl,rfl,trivial⟩ [] rfl [] rfl (Nat.zero_le _) ⟨rfl,rfl,trivial⟩ (fun j hI=> ?_)
    refine ah<|ah<|aj<|hy (fun _=>aa rfl)<|hy (fun _=>dh rfl rfl)<|ai<|al (ρ' :=[(22,_),(4,_),(5,_),(20,_),(3,_),(2,_),(0,_)]) ⟨rfl,rfl,rfl,rfl,rfl,rfl,rfl,trivial⟩<|ag<| ?_
    refine cG rfl (fun hj=> ?_) (fun hj=> ?_)
    ·have hl4:((f.drop 2).take 4).length=4:=by rw[List.length_take,List.length_drop];omega
     have hac:=FG ((f.drop 2).take 4) (show j≤4 by omega)
     have hby:(((f.drop 2).take 4).getD (3-j) 0).toNat<256:=UInt8.toNat_lt _
     have hget:f.getD (5-j) 0=((f.drop 2).take 4).getD (3-j) 0:=by
      simp only[List.getD,List.getElem?_take,List.getElem?_drop]
      rw[if_pos (by omega),show 2+(3-j)=5-j by omega]
     refine aB<|ag<|ah<|aK<|aj<|hy (fun _=>aa rfl)<|hy (fun _=>tG (p:=256) rfl rfl (by decide) (by decide) (by decide) (bF (by omega) (by omega)))<|hy (fun _=>aa rfl)<|hy (fun _=>aa rfl)<|hy (fun _=>aS rfl rfl Tryz.underlying27 dZ hA_r (show((5-j:Nat):Int)=_ by omega) (by omega))<|hy (fun m=>yV (aw rfl jc ((m.rd 0 rfl).cell (bM (by omega)))) ((show B8 (f.getD (5-j) 0)=B8 (((f.drop 2).take 4).getD (3-j) 0) by rw[hget])))<|hy (fun _=>bX rfl Tryz.underlying5 Tryz.underlying3 (Bw _))<|hy (fun _=>ib (by simp) rfl rfl (CD _ _ hac hby))<|hy (fun _=>ab rfl)<|ai<|al (ρ' :=[(4,_),(22,_),(5,_),(20,_),(3,_),(2,_),(0,_)]) ⟨rfl,rfl,rfl,rfl,rfl,rfl,rfl,trivial⟩<|aO<|ag<|aj<|hy (fun _=>aa rfl)<|hy (fun _=>yV (cp rfl rfl (bF (by omega) (by omega))) ((show Value.int .i64 ((5-(j:Int))-1)= .int .i64 (5-((j+1:Nat):Int)) by congr 1;omega)))<|hy (fun _=>ab rfl)<|ai<|al (ρ' :=[(5,_),(4,_),(22,_),(20,_),(3,_),(2,_),(0,_)]) ⟨rfl,rfl,rfl,rfl,rfl,rfl,rfl,trivial⟩<| ?_
     refine cX (j+1) ⟨rfl,rfl,rfl,rfl,rfl,rfl,trivial⟩ [] rfl [0] rfl (by omega) (by omega)
    ·obtain rfl:j=4:=by omega
     have e4:acc ((f.drop 2).take 4) 4=lf (f.drop 2):=by
      rw[Hi]
      have hx:∀q:Nat,q<4→((f.drop 2).take 4).getD q 0=(f.drop 2).getD q 0:=fun q hq=>by simp only[List.getD,List.getElem?_take,if_pos hq]
      unfold lf
      rw[hx 0 (by decide),hx 1 (by decide),hx 2 (by decide),hx 3 (by decide)]
     rw[e4]
     refine bL<|ao<|ao<|aD<|ag<|ah<|aj<|hy (fun _=>aa rfl)<|hy (fun _=>ab rfl)<|hy (fun _=>ab rfl)<|ai<|al (ρ' :=[(3,_),(2,_),(22,_),(4,_),(5,_),(20,_),(0,_)]) ⟨rfl,rfl,rfl,rfl,rfl,rfl,rfl,trivial⟩<|ag<|aX<| ?_
     exact dy trivial rfl rfl rfl [] rfl [] rfl ⟨rfl,rfl,rfl⟩
theorem C3{A:Option Addr}{n c:Nat}{f:List UInt8}(hc:n≤c)(hn:n≤1000000000)(hl:f.length=n):cf Tryz.prog 213 [.slice A n c] [] [di 1 A n (aW f)] (fun v_ X_ S_=>v_=(.bool (decide ((hC f).isSome∧f.getD 1 0=1)))∧X_=[]∧S_=[]):=by
 refine aP (N:=18) Tryz.func213 rfl rfl (by simp) fun b=> ?_
 refine a6 (fun m=>ig (m.rd 0 rfl)) ?_
 rintro⟨hl_r,hA_r⟩
 refine ah<|aj<|hy (fun _=>ab rfl)<|ai<|ag<|ah<|aj<|hy (fun _=>aa rfl)<| ?_
 refine hx (aq rfl Tryz.call211 (s4 (by omega) (by omega) (by omega)) [] rfl [0] rfl ?_)
 rintro _ _ _ ⟨rfl,rfl,rfl⟩
 refine hy (fun _=>aa rfl)<|hy (fun _=>ar rfl rfl)<|hy (fun _=>ar rfl rfl)<|hy (fun _=>ab rfl)<|hy (fun _=>ab rfl)<|ai<|al (ρ' :=[(4,_),(2,_),(0,_)]) ⟨rfl,rfl,rfl,trivial⟩<|ak (X' :=[]) (S' :=[_]) (fun _ m=>m)<|ag<|ah<|aj<|hy (fun _=>aa rfl)<|hy (fun _=>cM rfl rfl)<|hy (fun _=>aa rfl)<| ?_
 refine eY 12 rfl (fun hs=> ?_) (fun hs=> ?_)
 ·have hs1:(hC f).isSome=true:=by
   cases h:(hC f).isSome with
   |true=>rfl
   |false=>rw[h]at hs;exact absurd hs (by decide)
  have hn10:¬n<10:=fun h=>by rw[lK (.inl (by omega))]at hs1;cases hs1
  have hd:decide ((hC f).isSome∧f.getD 1 0=1)=decide (((f.getD 1 0).toNat:Int)=1):=decide_eq_decide.2 ⟨fun h=>by rw[h.2];rfl,fun h=>⟨hs1,UInt8.toNat_inj.1 (by show _=1;omega)⟩⟩
  rw[hd]
  refine dW (o:=_) rfl rfl rfl (fun _=>aa rfl)<|dW (o:=_) rfl rfl rfl (fun _=>aS rfl rfl Tryz.underlying27 dZ hA_r (show((1:Nat):Int)=1 from rfl) (by omega))<|dW (o:=_) rfl rfl rfl (fun m=>aw rfl jc ((m.rd 0 rfl).cell (bM (by omega))))<|dW (o:=_) rfl rfl rfl (fun _=>cM rfl rfl)<|hy (fun _=>bT rfl rfl)<|hy (fun _=>ab rfl)<|ai<|al (ρ' :=[(2,_),(4,_),(0,_)]) ⟨rfl,rfl,rfl,trivial⟩<|ag<|aX<| ?_
  exact bh trivial rfl rfl [] rfl [] rfl ⟨rfl,rfl,rfl⟩
 ·have hd:decide ((hC f).isSome∧f.getD 1 0=1)=false:=decide_eq_false fun h=>hs (by rw[h.1];rfl)
  rw[hd]
  refine bI rfl rfl rfl (by decide)<|bI rfl rfl rfl (by decide)<|bI rfl rfl rfl (by decide)<|bI rfl rfl rfl (by decide)<|hy (fun _=>bD rfl rfl)<|hy (fun _=>ab rfl)<|ai<|al (ρ' :=[(2,_),(4,_),(0,_)]) ⟨rfl,rfl,rfl,trivial⟩<|ag<|aX<| ?_
  exact bh trivial rfl rfl [] rfl [] rfl ⟨rfl,rfl,rfl⟩
end Go.Proofs.YtmibdabdlgmafaaGreatDoor
end
section
set_option maxRecDepth 20000
set_option maxHeartbeats 2000000
namespace Go.Proofs.YtmibdabdlgmafaaGreatDoor
open Go.Eng Go.Hx
theorem Gm{v:Value}(h:v.oneCell' =true:=by rfl):∀u∈ [v],u.oneCell' =true:=fun u hu=>by rw[List.mem_singleton.1 hu];exact h
theorem oL{q:Bool}{e:Int}:EU Tryz.prog 212 [.bool q,.int .i64 e] [] [] (fun v_ X_ S_=>v_=(.tuple #[])∧X_=[]∧S_=[]∧(q=true)) (fun v_ X_ S_=>v_=(.iface 288 (.agg #[.int .i64 e]))∧X_=[]∧S_=[]∧(q=false)):=by
 refine CB (N:=9) Tryz.func212 rfl rfl (by simp) fun b=> ?_
 refine ah<|aj<|hy (fun _=>aa rfl)<|hy (fun _=>(jl rfl))<|ai<|al (ρ' :=[(5,_),(0,_),(1,_)]) ⟨rfl,rfl,rfl,trivial⟩<|ag<| ?_
 refine tc rfl (fun hq=> ?_) (fun hq=> ?_)
 ·refine aj<|hy (fun _=>aa rfl)<|hy (fun _=>cA wI rfl rfl (by kernel_rfl) (.cons (o:=0) (sz:=1) (by kernel_rfl) rfl rfl (Nat.le_of_ble_eq_true rfl) .nil))<|hy (fun _=>kK rfl Tryz.underlying288 (fun _ h=>by cases h))<| ?_
  refine cH (zo rfl ?_)
  exact F1 [] rfl [] rfl ⟨rfl,rfl,rfl,(by simpa using hq)⟩
 ·refine aB<| ?_
  refine F7 ?_
  exact fJ trivial rfl [] rfl [] rfl ⟨rfl,rfl,rfl,(by simpa using hq)⟩
theorem gn{g4 g5:Nat}{v:Value}{e0 e:Int}:CF Tryz.prog 210 [.pointer (some ⟨g4,0,none⟩),.pointer (some ⟨g5,0,none⟩)] (.panicking (Ge (.iface 288 (.agg #[.int .i64 e])))) [aL g4 27 [v],aL g5 47 [.int .i64 e0]] [] (fun u_ X_ S_=>u_= .returning∧X_=[aL g4 27 [.slice none 0 0],aL g5 47 [.int .i64 e]]∧S_=[]):=by
 refine wD (N:=12) Tryz.func210 rfl rfl (by simp) fun b c_0 cs_ hu_=> ?_
 show uX _ _ _ _ _ [0,1,2,3,4,5,6,7] _ _ _ _ _
 refine C4 rfl hu_ ?_
 refine l0 rfl (fun _=>m7 rfl (zU Tryz.underlying288))<|l0 rfl (fun _=>aa rfl)<|l0 rfl (fun _=>ar rfl rfl)<|l0 rfl (fun _=>ar rfl rfl)<| ?_
 refine Du rfl (aM wI (fun g2=> ?_))
 refine Bf rfl (aJ 0 rfl rfl rfl DA rfl Gm rfl ?_)
 refine ET (fun w m=>m.bN 0 rfl (show _=aL g2 288 [.int .i64 e]from rfl)) ?_
 refine l0 rfl (fun _=>ab rfl)<|uP<|bC (X' :=[_,_,_]) (S' :=[]) (fun _ m=>m)<|ah<|aj<|hy (fun _=>aa rfl)<|ai<|al (ρ' :=[(9,_),(3,_),(2,_),(0,_),(1,_)]) ⟨rfl,rfl,rfl,rfl,rfl,trivial⟩<|ag<| ?_
 refine gY rfl (rfl) ?_
 refine pT [0] [] rfl rfl [2,3] [(0,some 1),(1,some 1),(2,none),(3,none)] (by kernel_rfl) (by kernel_rfl) rfl 99<|an (aI rfl BU (by decide))<|cq (fun m=>aw rfl lT (aE (m.aZ 0 rfl) (i:=0) rfl))<| ?_
 refine kI (dO 1 rfl rfl rfl oV rfl (by first|exact Nat.le_of_ble_eq_true rfl|simp) ⟨(fun _=>wk [1] [] rfl rfl), ?_⟩)
 refine kI (dO 2 rfl rfl rfl yx rfl (by first|exact Nat.le_of_ble_eq_true rfl|simp) ⟨(fun _=>wk [2] [] rfl rfl), ?_⟩)
 refine bz<|al (ρ' :=[(9,_),(3,_),(2,_),(0,_),(1,_)]) ⟨rfl,rfl,rfl,rfl,rfl,trivial⟩<|ak (X' :=[_,_,_]) (S' :=[]) (fun _ m=>m)<| ?_
 exact fJ trivial rfl [1,0] rfl [] rfl ⟨rfl,rfl,rfl,rfl⟩
theorem uC{g4 g5:Nat}{v:Value}{e:Int}:CF Tryz.prog 210 [.pointer (some ⟨g4,0,none⟩),.pointer (some ⟨g5,0,none⟩)] .returning [aL g4 27 [v],aL g5 47 [.int .i64 e]] [] (fun u_ X_ S_=>u_= .returning∧X_=[aL g4 27 [v],aL g5 47 [.int .i64 e]]∧S_=[]):=by
 refine wD (N:=12) Tryz.func210 rfl rfl (by simp) fun b c_0 cs_ hu_=> ?_
 show uX _ _ _ _ _ [0,1,2,3,4,5,6,7] _ _ _ _ _
 refine Aw rfl hu_ ?_
 refine l0 rfl (fun _=>m7 rfl (AW Tryz.underlying288 wI))<|l0 rfl (fun _=>aa rfl)<|l0 rfl (fun _=>ar rfl rfl)<|l0 rfl (fun _=>ar rfl rfl)<| ?_
 refine Du rfl (aM wI (fun g2=> ?_))
 refine Bf rfl (aJ 0 rfl rfl rfl DA rfl Gm rfl ?_)
 refine l0 rfl (fun _=>ab rfl)<|uP<|bC (X' :=[_,_,_]) (S' :=[]) (fun _ m=>m)<|ah<|aj<|hy (fun _=>aa rfl)<|ai<|al (ρ' :=[(9,_),(3,_),(2,_),(0,_),(1,_)]) ⟨rfl,rfl,rfl,rfl,rfl,trivial⟩<|ag<| ?_
 refine dB rfl (rfl) ?_
 refine aB<| ?_
 exact fJ trivial rfl [1,1] rfl [] rfl ⟨rfl,rfl,rfl,rfl⟩
end Go.Proofs.YtmibdabdlgmafaaGreatDoor
end
section
set_option maxRecDepth 20000
set_option maxHeartbeats 2000000
namespace Go.Proofs.YtmibdabdlgmafaaGreatDoor
open Go.Eng Go.Hx
theorem Ef{A:Option Addr}{n c:Nat}{l:List UInt8}(h0:0<n)(hn:n≤140737488351232):cf Tryz.prog 257 [.slice A n c] [] [di 1 A n (aW l)] (fun v_ X_ S_=>v_=(.tuple #[.int .i64 ((cS l).1:Nat),.int .i64 ((cS l).2.1:Nat),.int .i64 ((cS l).2.2.1:Nat),.bool (cS l).2.2.2])∧X_=[]∧S_=[]):=by
 have b0:=(l.getD 0 0).toNat_lt
 have b1:=(l.getD 1 0).toNat_lt
 have b2:=(l.getD 2 0).toNat_lt
 refine aP (N:=39) Tryz.func257 rfl rfl (by simp) fun b=> ?_
 refine a6 (fun m=>ig (m.rd 0 rfl)) ?_
 rintro⟨hl_r,hA_r⟩
 refine ah<|aj<|hy (fun _=>ab rfl)<|hy (fun _=>ab rfl)<|hy (fun _=>ab rfl)<|hy (fun _=>ab rfl)<|ai<|ag<|ah<|aj<|hy (fun _=>aa rfl)<|hy (fun _=>aS rfl rfl Tryz.underlying27 dZ hA_r (show((0:Nat):Int)=0 from rfl) (by omega))<|hy (fun m=>aw rfl jc ((m.rd 0 rfl).cell (bM (by omega))))<|hy (fun _=>bX rfl Tryz.underlying5 Tryz.underlying3 (bF (by omega) (by omega)))<|hy (fun _=>ab rfl)<|ai<|al (ρ' :=[(6,_),(5,_),(4,_),(3,_),(2,_),(0,_)]) ⟨rfl,rfl,rfl,rfl,rfl,rfl,trivial⟩<|ag<|ah<|ah<|aj<|hy (fun _=>aa rfl)<|hy (fun _=>bw rfl rfl)<|ai<|al (ρ' :=[(12,_),(6,_),(5,_),(4,_),(3,_),(2,_),(0,_)]) ⟨rfl,rfl,rfl,rfl,rfl,rfl,rfl,trivial⟩<|ag<| ?_
 refine cG rfl (fun h1=> ?_) (fun h1=> ?_)
 ·have e:cS l=((l.getD 0 0).toNat+2,(l.getD 0 0).toNat+1,0,decide ((l.getD 0 0).toNat+2≤l.length)):=by rw[cS,if_pos (by omega)]
  rw[e]
  refine ah<|aj<|hy (fun _=>aa rfl)<|hy (fun _=>aN rfl rfl (bF (by omega) (by omega)))<|hy (fun _=>aa rfl)<|hy (fun _=>aN rfl rfl (bF (by omega) (by omega)))<|hy (fun _=>aa rfl)<|hy (fun _=>aT rfl Tryz.underlying27)<|hy (fun _=>aa rfl)<|hy (fun _=>aN rfl rfl (bF (by omega) (by omega)))<|hy (fun _=>yV (iX rfl rfl) ((congrArg Value.bool (decide_eq_decide.2 (by omega)):Value.bool (decide ((n:Int)≥((l.getD 0 0).toNat:Int)+2))= .bool (decide ((l.getD 0 0).toNat+2≤l.length)))))<|hy (fun _=>ab rfl)<|hy (fun _=>ab rfl)<|hy (fun _=>ab rfl)<|hy (fun _=>ab rfl)<|ai<|al (ρ' :=[(5,_),(4,_),(3,_),(2,_),(12,_),(6,_),(0,_)]) ⟨rfl,rfl,rfl,rfl,rfl,rfl,rfl,trivial⟩<|ag<|aX<|ay<| ?_
  exact zO trivial rfl rfl rfl rfl rfl [] rfl [] rfl ⟨rfl,rfl,rfl⟩
 ·refine aB<|ag<|ah<|ah<|aj<|hy (fun _=>aa rfl)<|hy (fun _=>aT rfl Tryz.underlying27)<|hy (fun _=>bw rfl rfl)<|ai<|al (ρ' :=[(24,_),(12,_),(6,_),(5,_),(4,_),(3,_),(2,_),(0,_)]) ⟨rfl,rfl,rfl,rfl,rfl,rfl,rfl,rfl,trivial⟩<|ag<| ?_
  refine cG rfl (fun h3=> ?_) (fun h3=> ?_)
  ·have e:cS l=(0,0,0,false):=by rw[cS,if_neg (by omega),if_pos (by omega)]
   rw[e]
   refine ah<|aj<|hy (fun _=>ab rfl)<|hy (fun _=>ab rfl)<|hy (fun _=>ab rfl)<|hy (fun _=>ab rfl)<|ai<|ag<|aX<|ay<| ?_
   exact zO trivial rfl rfl rfl rfl rfl [] rfl [] rfl ⟨rfl,rfl,rfl⟩
  ·have e:cS l=(3,(l.getD 0 0).toNat-124,1+(l.getD 1 0).toNat+256*(l.getD 2 0).toNat,true):=by rw[cS,if_neg (by omega),if_neg (by omega)]
   rw[e]
   refine aB<|ag<|ah<|cT [] [(0,some 0),(1,some 0),(2,some 0),(3,some 0),(4,some 0),(5,some 0),(6,some 0),(7,some 0),(8,some 0),(9,some 0),(10,some 0),(11,some 0),(12,some 0),(13,some 0),(14,some 0),(15,some 0),(16,some 0),(17,some 0)] (by kernel_rfl) (by kernel_rfl) rfl 99<|an (aa rfl)<|an (cp rfl rfl (bF (by omega) (by omega)))<|an (yV (aN rfl rfl (bF (by omega) (by omega))) ((show Value.int .i64 (((l.getD 0 0).toNat:Int)-128+4)= .int .i64 (((l.getD 0 0).toNat-124:Nat):Int) by congr 1;omega)))<|an (aa rfl)<|an (aS rfl rfl Tryz.underlying27 dZ hA_r (show((1:Nat):Int)=1 from rfl) (by omega))<|cq (fun m=>aw rfl jc ((m.rd 0 rfl).cell (bM (by omega))))<|an (bX rfl Tryz.underlying5 Tryz.underlying3 (bF (by omega) (by omega)))<|an (aN rfl rfl (bF (by omega) (by omega)))<|an (aa rfl)<|an (aS rfl rfl Tryz.underlying27 dZ hA_r (show((2:Nat):Int)=2 from rfl) (by omega))<|cq (fun m=>aw rfl jc ((m.rd 0 rfl).cell (bM (by omega))))<|an (bX rfl Tryz.underlying5 Tryz.underlying3 (bF (by omega) (by omega)))<|an (tG (p:=256) rfl rfl (by decide) (by decide) (by decide) (bF (by omega) (by omega)))<|an (yV (aN rfl rfl (bF (by omega) (by omega))) ((show Value.int .i64 (1+((l.getD 1 0).toNat:Int)+((l.getD 2 0).toNat:Int)*256)= .int .i64 ((1+(l.getD 1 0).toNat+256*(l.getD 2 0).toNat:Nat):Int) by congr 1;omega)))<|an (ab rfl)<|an (ab rfl)<|an (ab rfl)<|an (ab rfl)<|bz<|al (ρ' :=[(5,_),(4,_),(3,_),(2,_),(24,_),(12,_),(6,_),(0,_)]) ⟨rfl,rfl,rfl,rfl,rfl,rfl,rfl,rfl,trivial⟩<|ag<|aX<| ?_
   exact zO trivial rfl rfl rfl rfl rfl [] rfl [] rfl ⟨rfl,rfl,rfl⟩
theorem BH{A:Option Addr}{c:Nat}{l:List UInt8}{z:Int}(hc:l.length≤c)(hn:l.length≤10000000)(hz:z≤10000000):cf Tryz.prog 214 [.slice A l.length c,.int .i64 z] [] [di 1 A l.length (aW l)] (fun v_ X_ S_=>∃v,v_=(.tuple #[v,.int .i64 (j8 z l []).2])∧X_=[aH 5 1 v (j8 z l []).1.length (aW (j8 z l []).1)]∧S_=[]):=by
 refine aP (N:=66) Tryz.func214 rfl rfl (by simp) fun b=> ?_
 refine a6 (fun m=>ig (m.rd 0 rfl)) ?_
 rintro⟨hl_r,hA_r⟩
 refine ah<|aj<|hy (fun _=>ab rfl)<|hy (fun _=>ab rfl)<|ai<|ag<|ah<|aj<|hy (fun _=>ab rfl)<|ai<|ag<|ah<|aK<| ?_
 refine bC (fun w m=>m.dj (r' :=aH 5 1 (.slice none 0 0) 0 []) (.refl _ _) (Own.nil _ _ _ _) (fun k hk=>hk.elim)) ?_
 refine n0 (fun p o A2 c2 A3 c3=>p.length) (fun p o A2 c2 A3 c3=>[(0,.slice A2 p.length c2),(6,.slice A3 o.length c3)]) (fun p o A2 c2 A3 c3=>[aH 5 1 (.slice A3 o.length c3) o.length (aW o)]) (fun p o A2 c2 A3 c3=>[di 1 A2 p.length (aW p)]) (fun p o A2 c2 A3 c3=>p.length≤c2∧p.length≤10000000∧o.length≤10000000∧j8 z p o=j8 z l []) l [] A c none 0 [(1,_)] ⟨rfl,trivial⟩ [0] rfl [0] rfl (⟨hc,hn,by decide,rfl⟩) ⟨rfl,rfl,trivial⟩ (fun p o A2 c2 A3 c3 ⟨hpc,hpn,hon,hU⟩=> ?_)
 refine ah<|ah<|aj<|hy (fun _=>aa rfl)<|hy (fun _=>aT rfl Tryz.underlying27)<|hy (fun _=>dh rfl rfl)<|ai<|al (ρ' :=[(14,_),(0,_),(6,_),(1,_)]) ⟨rfl,rfl,rfl,rfl,trivial⟩<|ag<| ?_
 refine cG rfl (fun hlt=> ?_) (fun hlt=> ?_)
 ·have hp0:p≠ []:=fun e=>by rw[e]at hlt;exact absurd hlt (by decide)
  obtain⟨ht1,ht2⟩:=Ff p
  refine aB<|ag<|aK<|ah<|aj<|hy (fun _=>aa rfl)<| ?_
  refine hx (aq rfl Tryz.call257 (Ef (by omega) (by omega)) [] rfl [0] rfl ?_)
  rintro _ _ _ ⟨rfl,rfl,rfl⟩
  refine hy (fun _=>aa rfl)<|hy (fun _=>ar rfl rfl)<|hy (fun _=>ar rfl rfl)<|hy (fun _=>ar rfl rfl)<|hy (fun _=>ar rfl rfl)<|hy (fun _=>ab rfl)<|hy (fun _=>ab rfl)<|hy (fun _=>ab rfl)<|hy (fun _=>ab rfl)<|ai<|al (ρ' :=[(10,_),(9,_),(8,_),(7,_),(14,_),(0,_),(6,_),(1,_)]) ⟨rfl,rfl,rfl,rfl,rfl,rfl,rfl,rfl,trivial⟩<|ak (X' :=[_]) (S' :=[_,_]) (fun _ m=>m)<|ag<|ah<|ah<|aj<|hy (fun _=>aa rfl)<|hy (fun _=>(jl rfl))<|hy (fun _=>aa rfl)<| ?_
  refine CK 24 rfl (fun hw=> ?_) (fun hw=> ?_)
  ·rw[lE hp0 (fun h=>by rw[h.1]at hw;cases hw)]at hU
   rw[←hU]
   refine bI rfl rfl rfl (by decide)<|bI rfl rfl rfl (by decide)<|bI rfl rfl rfl (by decide)<|bI rfl rfl rfl (by decide)<|hy (fun _=>bT rfl rfl)<|ai<|al (ρ' :=[(29,_),(10,_),(9,_),(8,_),(7,_),(14,_),(0,_),(6,_),(1,_)]) ⟨rfl,rfl,rfl,rfl,rfl,rfl,rfl,rfl,rfl,trivial⟩<|ag<| ?_
   refine gY rfl (rfl) ?_
   refine ah<|aj<|hy (fun _=>ab rfl)<|hy (fun _=>ab rfl)<|ai<|ag<|aX<|ay<|bf<|ay<|bf<|ay<| ?_
   refine ak (fun w m=>m.dj (r' :=aH 5 1 (.slice none 0 0) 0 []) (.refl _ _) (Own.nil _ _ _ _) (fun k hk=>hk.elim)) ?_
   exact dy trivial rfl rfl rfl [0] rfl [] rfl ⟨_,rfl,rfl,rfl⟩
  ·have hw1:(cS p).2.2.2=true:=by simpa using hw
   refine dW (o:=_) rfl rfl rfl (fun _=>aa rfl)<|dW (o:=_) rfl rfl rfl (fun _=>aa rfl)<|dW (o:=_) rfl rfl rfl (fun _=>aT rfl Tryz.underlying27)<|dW (o:=_) rfl rfl rfl (fun _=>dh rfl rfl)<|hy (fun _=>bD rfl rfl)<|ai<|al (ρ' :=[(29,_),(10,_),(9,_),(8,_),(7,_),(14,_),(0,_),(6,_),(1,_)]) ⟨rfl,rfl,rfl,rfl,rfl,rfl,rfl,rfl,rfl,trivial⟩<|ag<| ?_
   refine cG rfl (fun hd=> ?_) (fun hd=> ?_)
   ·rw[lE hp0 (fun h=>by omega)]at hU
    rw[←hU]
    refine ah<|aj<|hy (fun _=>ab rfl)<|hy (fun _=>ab rfl)<|ai<|ag<|aX<|ay<|bf<|ay<|bf<|ay<| ?_
    refine ak (fun w m=>m.dj (r' :=aH 5 1 (.slice none 0 0) 0 []) (.refl _ _) (Own.nil _ _ _ _) (fun k hk=>hk.elim)) ?_
    exact dy trivial rfl rfl rfl [0] rfl [] rfl ⟨_,rfl,rfl,rfl⟩
   ·have hd1:(cS p).2.2.1≤o.length:=by omega
    refine aB<|ag<|ah<|ah<|aj<|hy (fun _=>aa rfl)<|hy (fun _=>aT rfl Tryz.underlying27)<|hy (fun _=>aa rfl)<|hy (fun _=>aN rfl rfl (bF (by omega) (by omega)))<|hy (fun _=>aa rfl)<|hy (fun _=>dh rfl rfl)<|ai<|al (ρ' :=[(35,_),(29,_),(10,_),(9,_),(8,_),(7,_),(14,_),(0,_),(6,_),(1,_)]) ⟨rfl,rfl,rfl,rfl,rfl,rfl,rfl,rfl,rfl,rfl,trivial⟩<|ag<| ?_
    refine cG rfl (fun hm=> ?_) (fun hm=> ?_)
    ·rw[pe hp0 hw1 hd1 (by omega)]at hU
     rw[←hU]
     refine ah<|aj<|hy (fun _=>ab rfl)<|hy (fun _=>ab rfl)<|ai<|ag<|aX<|ay<|bf<|ay<|bf<|ay<| ?_
     refine ak (fun w m=>m.dj (r' :=aH 5 1 (.slice none 0 0) 0 []) (.refl _ _) (Own.nil _ _ _ _) (fun k hk=>hk.elim)) ?_
     exact dy trivial rfl rfl rfl [0] rfl [] rfl ⟨_,rfl,rfl,rfl⟩
    ·rw[n4 hp0 hw1 hd1 (by omega)]at hU
     obtain⟨hs2,hs3⟩:=lu hw1
     have hml:=oI (o:=o) hw1
     have hmn:(made p o).length≤10000000:=by omega
     have hdl:p.length-(cS p).1=(p.drop (cS p).1).length:=by rw[List.length_drop]
     generalize hsz:(cS p).1=sz at hs2 hs3 hU hdl ⊢
     refine aB<|ag<|ah<|ah<|aj<|hy (fun _=>aa rfl)<|hy (fun _=>cM rfl rfl)<|ai<|al (ρ' :=[(37,_),(35,_),(29,_),(10,_),(9,_),(8,_),(7,_),(14,_),(0,_),(6,_),(1,_)]) ⟨rfl,rfl,rfl,rfl,rfl,rfl,rfl,rfl,rfl,rfl,rfl,trivial⟩<|ag<| ?_
     refine cG rfl (fun hz0=> ?_) (fun hz0=> ?_)
     ·have hd0:(cS p).2.2.1=0:=by omega
      have hma:made p o=o++(p.drop 1).take (sz-1):=by rw[made,if_pos hd0,hsz]
      refine bC (fun w m=>m.jL 0 rfl (View.sub (n:=p.length) (c:=c2) (k:=1) (m:=sz-1) (by omega) (by omega))) ?_
      refine a6 (fun m=>ig (m.rd 0 rfl)) ?_
      rintro⟨hl_q,hA_q⟩
      refine aj<|hy (fun _=>aa rfl)<|hy (fun _=>aa rfl)<|hy (fun _=>aa rfl)<|hy (fun _=>eZ rfl rfl rfl Tryz.underlying27 dZ (show((1:Nat):Int)=1 from rfl) (rfl:((sz:Nat):Int)=_) (by omega) (by omega))<| ?_
      refine hx (bx 0 rfl rfl rfl Tryz.underlying27 Tryz.underlying27 (by exact .inl rfl) fk rfl (fun m=>Src.bR (m.rd 0 rfl)) aY (by unfold maxLen;omega) (by omega) (fun u=> ?_))
      refine aA (fun m=>(m.own 0 rfl).slice) ?_
      rintro⟨A_x,c_x,rfl,hc_x⟩
      refine aA (fun m=>(m.ord 0 rfl).2.1) fun hA_x=> ?_
      have hlm:o.length+(sz-1)=(made p o).length:=by rw[hma,List.length_append,List.length_take,List.length_drop];omega
      rw[hlm]at hc_x hA_x ⊢
      refine aQ (fun w m=>m.bN 0 rfl (show _=aH 5 1 (.slice A_x (made p o).length c_x) (made p o).length (aW (made p o))from congrArg (aH _ _ _ _) (by rw[hma,bH]))) ?_
      refine hy (fun _=>ab rfl)<|ai<|al (ρ' :=[(6,_),(37,_),(35,_),(29,_),(10,_),(9,_),(8,_),(7,_),(14,_),(0,_),(1,_)]) ⟨rfl,rfl,rfl,rfl,rfl,rfl,rfl,rfl,rfl,rfl,rfl,trivial⟩<|ak (X' :=[_]) (S' :=[_,_,_]) (fun _ m=>m)<|ag<|ah<|ah<|aj<|hy (fun _=>ab rfl)<|ai<|ag<|aK<| ?_
      refine dH (fun k2=>1) (fun k2=>[(11,.int .i64 (k2:Nat)),(6,.slice A_x (made p o).length c_x)]) (fun k2=>[aH 5 1 (.slice A_x (made p o).length c_x) (made p o).length (aW (made p o))]) (fun k2=>[]) (fun k2=>True) 0 [(37,_),(35,_),(29,_),(10,_),(9,_),(8,_),(7,_),(14,_),(0,_),(1,_)] ⟨rfl,rfl,rfl,rfl,rfl,rfl,rfl,rfl,rfl,rfl,trivial⟩ [0] rfl [] rfl (trivial) ⟨rfl,rfl,trivial⟩ (fun k2 _=> ?_)
      refine ah<|ah<|aj<|hy (fun _=>aa rfl)<|hy (fun _=>yF (dh rfl rfl) ((decide_eq_false (by omega))))<|hy (fun _=>aa rfl)<|bI rfl rfl rfl (by decide)<|bI rfl rfl rfl (by decide)<|bI rfl rfl rfl (by decide)<|hy (fun _=>bD rfl rfl)<|ai<|al (ρ' :=[(49,_),(11,_),(6,_),(37,_),(35,_),(29,_),(10,_),(9,_),(8,_),(7,_),(14,_),(0,_),(1,_)]) ⟨rfl,rfl,rfl,rfl,rfl,rfl,rfl,rfl,rfl,rfl,rfl,rfl,rfl,trivial⟩<|ag<| ?_
      refine dB rfl (rfl) ?_
      refine bC (fun w m=>m.jL 1 rfl (View.drop (n:=p.length) (c:=c2) (k:=sz) (by omega) (by omega))) ?_
      refine a6 (fun m=>ig (m.rd 0 rfl)) ?_
      rintro⟨hl_p2,hA_p2⟩
      refine bL<|ao<|ao<|aD<|ag<|aj<|hy (fun _=>aa rfl)<|hy (fun _=>aa rfl)<|hy (fun _=>dE rfl rfl Tryz.underlying27 dZ rfl (by omega))<|hy (fun _=>ab rfl)<|ai<|al (ρ' :=[(0,_),(49,_),(11,_),(6,_),(37,_),(35,_),(29,_),(10,_),(9,_),(8,_),(7,_),(14,_),(1,_)]) ⟨rfl,rfl,rfl,rfl,rfl,rfl,rfl,rfl,rfl,rfl,rfl,rfl,rfl,trivial⟩<|aO<| ?_
      rw[hdl]
      refine eX (p.drop sz) (made p o) _ (c2-sz) A_x c_x ⟨rfl,rfl,rfl,trivial⟩ [0] rfl [0,3] rfl (⟨by rw[←hdl];omega,by rw[←hdl];omega,hmn,hU⟩) (by rw[←hdl];omega)
     ·have hd0:0<(cS p).2.2.1:=by omega
      have hma:made p o=again (cS p).2.2.1 (cS p).2.1 o:=by rw[made,if_neg (by omega)]
      generalize hdd:(cS p).2.2.1=dd at*
      generalize hnn:(cS p).2.1=nn at*
      refine aB<|ag<|ah<|ah<|aj<|hy (fun _=>ab rfl)<|ai<|ag<|aK<| ?_
      refine jJ (fun k2 o2 A4 c4=>nn-k2) (fun k2 o2 A4 c4=>[(11,.int .i64 (k2:Nat)),(6,.slice A4 o2.length c4)]) (fun k2 o2 A4 c4=>[aH 5 1 (.slice A4 o2.length c4) o2.length (aW o2)]) (fun k2 o2 A4 c4=>[]) (fun k2 o2 A4 c4=>k2≤nn∧o2.length=o.length+k2∧again dd (nn-k2) o2=made p o) 0 o A3 c3 [(37,_),(35,_),(29,_),(10,_),(9,_),(8,_),(7,_),(14,_),(0,_),(1,_)] ⟨rfl,rfl,rfl,rfl,rfl,rfl,rfl,rfl,rfl,rfl,trivial⟩ [0] rfl [] rfl (⟨Nat.zero_le _,rfl,hma.symm⟩) ⟨rfl,rfl,trivial⟩ (fun k2 o2 A4 c4 ⟨hk2,ho2,hag⟩=> ?_)
      refine ah<|ah<|aj<|hy (fun _=>aa rfl)<|hy (fun _=>yT (dh rfl rfl) ((decide_eq_true (by omega))))<|hy (fun _=>aa rfl)<|dW (o:=_) rfl rfl rfl (fun _=>aa rfl)<|dW (o:=_) rfl rfl rfl (fun _=>aa rfl)<|dW (o:=_) rfl rfl rfl (fun _=>bw rfl rfl)<|hy (fun _=>bT rfl rfl)<|ai<|al (ρ' :=[(49,_),(11,_),(6,_),(37,_),(35,_),(29,_),(10,_),(9,_),(8,_),(7,_),(14,_),(0,_),(1,_)]) ⟨rfl,rfl,rfl,rfl,rfl,rfl,rfl,rfl,rfl,rfl,rfl,rfl,rfl,trivial⟩<|ag<| ?_
      refine cG rfl (fun hkn=> ?_) (fun hkn=> ?_)
      ·have hag2:again dd (nn-(k2+1)) (o2++[o2.getD (o2.length-dd) 0])=made p o:=by
        rw[←hag,show nn-k2=(nn-(k2+1))+1 by omega]
        rfl
       refine a6 (fun m=>(m.ord 0 rfl).2.1) fun hA4=> ?_
       refine aB<|ag<|ah<|aK<|aj<|hy (fun _=>aa rfl)<|hy (fun _=>aa rfl)<|hy (fun _=>aa rfl)<|hy (fun _=>aT rfl Tryz.underlying27)<|hy (fun _=>aa rfl)<|hy (fun _=>cp rfl rfl (bF (by omega) (by omega)))<|hy (fun _=>aS rfl rfl Tryz.underlying27 dZ hA4 (show((o2.length-dd:Nat):Int)=_ by omega) (by omega))<|hy (fun m=>aw rfl jc ((m.ord 0 rfl).cell (bM (by omega))))<| ?_
       refine hx (b6 Tryz.underlying27 fk rfl rfl rfl (by simp[Value.cells,B8]) (by decide) (by decide) (fun g60=> ?_))
       have hA_b60:0<1→(some (⟨g60,0,none⟩:Addr))≠none:=fun _ h=>by cases h
       refine aQ (fun w m=>m.bN 0 rfl (show _=aH 5 1 (.slice (some ⟨g60,0,none⟩) 1 1) 1 (aW [o2.getD (o2.length-dd) 0])from rfl)) ?_
       refine hx (bx 1 rfl rfl rfl Tryz.underlying27 Tryz.underlying27 (by exact .inl rfl) fk rfl (fun m=>Src.bR (m.ord 0 rfl)) aY (by unfold maxLen;omega) (by omega) (fun u=> ?_))
       refine aA (fun m=>(m.own 0 rfl).slice) ?_
       rintro⟨A_x,c_x,rfl,hc_x⟩
       refine aA (fun m=>(m.ord 0 rfl).2.1) fun hA_x=> ?_
       refine aQ (fun w m=>m.bN 0 rfl (show _=aH 5 1 (.slice A_x (o2.length+1) c_x) (o2.length+1) (aW (o2++[o2.getD (o2.length-dd) 0]))from congrArg (aH _ _ _ _) (bH _ _).symm)) ?_
       have hl1:o2.length+1=(o2++[o2.getD (o2.length-dd) 0]).length:=by simp
       rw[hl1]at hc_x hA_x ⊢
       refine hy (fun _=>ab rfl)<|ai<|al (ρ' :=[(6,_),(49,_),(11,_),(37,_),(35,_),(29,_),(10,_),(9,_),(8,_),(7,_),(14,_),(0,_),(1,_)]) ⟨rfl,rfl,rfl,rfl,rfl,rfl,rfl,rfl,rfl,rfl,rfl,rfl,rfl,trivial⟩<|ak (X' :=[_,_]) (S' :=[_,_]) (fun _ m=>m)<|aO<|ag<|aj<|hy (fun _=>aa rfl)<|hy (fun _=>aN rfl rfl (bF (by omega) (by omega)))<|hy (fun _=>ab rfl)<|ai<|al (ρ' :=[(11,_),(6,_),(49,_),(37,_),(35,_),(29,_),(10,_),(9,_),(8,_),(7,_),(14,_),(0,_),(1,_)]) ⟨rfl,rfl,rfl,rfl,rfl,rfl,rfl,rfl,rfl,rfl,rfl,rfl,rfl,trivial⟩<| ?_
       refine eO (k2+1) (o2++[o2.getD (o2.length-dd) 0]) A_x c_x ⟨rfl,rfl,rfl,rfl,rfl,rfl,rfl,rfl,rfl,rfl,rfl,rfl,trivial⟩ [0] rfl [0,1] rfl (⟨by omega,by rw[←hl1];omega,hag2⟩) (by omega)
      ·obtain rfl:k2=nn:=by omega
       have hag2:o2=made p o:=by rw[←hag,Nat.sub_self];rfl
       rw[hag2]
       refine bC (fun w m=>m.jL 0 rfl (View.drop (n:=p.length) (c:=c2) (k:=sz) (by omega) (by omega))) ?_
       refine a6 (fun m=>ig (m.rd 0 rfl)) ?_
       rintro⟨hl_p2,hA_p2⟩
       refine bL<|ao<|ao<|aD<|ag<|aj<|hy (fun _=>aa rfl)<|hy (fun _=>aa rfl)<|hy (fun _=>dE rfl rfl Tryz.underlying27 dZ rfl (by omega))<|hy (fun _=>ab rfl)<|ai<|al (ρ' :=[(0,_),(49,_),(11,_),(6,_),(37,_),(35,_),(29,_),(10,_),(9,_),(8,_),(7,_),(14,_),(1,_)]) ⟨rfl,rfl,rfl,rfl,rfl,rfl,rfl,rfl,rfl,rfl,rfl,rfl,rfl,trivial⟩<|aO<| ?_
       rw[hdl]
       refine eX (p.drop sz) (made p o) _ (c2-sz) A4 c4 ⟨rfl,rfl,rfl,trivial⟩ [0] rfl [0,2] rfl (⟨by rw[←hdl];omega,by rw[←hdl];omega,hmn,hU⟩) (by rw[←hdl];omega)
 ·have hp0:p=[]:=List.eq_nil_of_length_eq_zero (by omega)
  rw[hp0,pg]at hU
  rw[←hU]
  refine bL<|ao<|ao<|aD<|ag<|ah<|aj<|hy (fun _=>aa rfl)<|hy (fun _=>ab rfl)<|hy (fun _=>ab rfl)<|ai<|al (ρ' :=[(5,_),(4,_),(14,_),(0,_),(6,_),(1,_)]) ⟨rfl,rfl,rfl,rfl,rfl,rfl,trivial⟩<|ag<|aX<| ?_
  exact dy trivial rfl rfl rfl [0] rfl [] rfl ⟨_,rfl,rfl,rfl⟩
end Go.Proofs.YtmibdabdlgmafaaGreatDoor
end
section
set_option maxRecDepth 20000
set_option maxHeartbeats 4000000
namespace Go.Proofs.YtmibdabdlgmafaaGreatDoor
open Go.Eng Go.Hx
theorem pE{f:List UInt8}{most:Int}(h:hC f=none):dp f most=([],2):=by unfold dp;rw[h]
theorem rE{f:List UInt8}{most:Int}{k:Nat}(h:hC f=some k)(hm:most<(k:Int)):dp f most=([],3):=by unfold dp;rw[h];simp only;rw[if_pos hm]
theorem uk{f:List UInt8}{most:Int}{k:Nat}(h:hC f=some k)(hm:¬most<(k:Int)):dp f most=gj f k:=by unfold dp;rw[h];simp only;rw[if_neg hm]
theorem tZ{f:List UInt8}{k:Nat}(h:hC f=some k):10≤f.length∧k<4294967296:=by
 unfold hC at h
 split at h
 ·cases h
 ·rename_i hq
  cases h
  exact⟨by have:¬f.length<10:=fun e=>hq (.inl e);omega,BM _⟩
theorem GW{A:Option Addr}{c:Nat}{f:List UInt8}{most:Int}(hc:f.length≤c)(hn:f.length≤10000000)(hm:most≤1000000):cf Tryz.prog 155 [.slice A f.length c,.int .i64 most] [] [di 1 A f.length (aW f)] (fun v_ X_ S_=>∃v,v_=(.tuple #[v,.int .i64 (dp f most).2])∧X_=[aH 5 1 v (dp f most).1.length (aW (dp f most).1)]∧S_=[]):=by
 refine BC (N:=54) Tryz.func155 rfl rfl (by simp) fun b=> ?_
 refine a6 (fun m=>ig (m.rd 0 rfl)) ?_
 rintro⟨hl_r,hA_r⟩
 refine ah<|aj<| ?_
 refine hx (aM tj (fun g4=> ?_))
 refine aQ (fun w m=>m.bN 0 rfl (show _=aL g4 27 [.slice none 0 0]from rfl)) ?_
 refine hx (aM Hl (fun g5=> ?_))
 refine aQ (fun w m=>m.bN 0 rfl (show _=aL g5 47 [.int .i64 0]from rfl)) ?_
 rcases hL:hC f with _|k
 ·refine ai<|ak (X' :=[_,_]) (S' :=[_]) (fun _ m=>m)<|ag<|ah<|aj<|hy (fun _=>iP rfl rfl)<|wP rfl rfl<|ai<|al (ρ' :=[(5,_),(4,_),(0,_),(1,_)]) ⟨rfl,rfl,rfl,rfl,trivial⟩<|ag<|ah<|aj<|hy (fun _=>aa rfl)<| ?_
  refine hx (aq rfl Tryz.call211 (s4 (by omega) (by omega) rfl) [] rfl [0] rfl ?_)
  rintro _ _ _ ⟨rfl,rfl,rfl⟩
  refine hy (fun _=>aa rfl)<|hy (fun _=>ar rfl rfl)<|hy (fun _=>ar rfl rfl)<|hy (fun _=>ab rfl)<| ?_
  refine cH (dO 0 rfl rfl rfl yx rfl (by first|exact Nat.le_of_ble_eq_true rfl|simp) ?_)
  refine ai<|al (ρ' :=[(6,_),(5,_),(4,_),(0,_),(1,_)]) ⟨rfl,rfl,rfl,rfl,rfl,trivial⟩<|ak (X' :=[_,_]) (S' :=[_]) (fun _ m=>m)<|ag<|ah<|aj<|hy (fun m=>aw rfl lT (aE (m.aZ 0 rfl) rfl))<|hy (fun _=>cM rfl rfl)<|hy (fun m=>aw rfl lT (aE (m.aZ 0 rfl) rfl))<| ?_
  refine hx (gS rfl Tryz.call212 (oL) [] rfl [] rfl ?_ ?_)
  ·rintro _ _ _ ⟨rfl,rfl,rfl,q1⟩
   refine eD<|jk<| ?_
   rw[hL]
   rw[(pE hL)]
   refine mV (by simp) Tryz.call210 (gn) [1,0] rfl [] rfl ?_
   rintro _ _ _ ⟨rfl,rfl,rfl⟩
   refine qE (fun w m=>m.dj (r' :=aH 5 1 (.slice none 0 0) 0 []) (.refl _ _) (Own.nil _ _ _ _) (fun k hk=>hk.elim)) ?_
   exact iv rfl rfl rfl eh lT (fun m=>aE (m.aZ 1 rfl) (i:=0) rfl) (fun m=>aE (m.aZ 2 rfl) (i:=0) rfl) [0] rfl [] rfl ⟨_,rfl,rfl,rfl⟩
  ·rintro _ _ _ ⟨rfl,rfl,rfl,q1⟩
   exact absurd q1 (by rw[hL];simp)
 ·refine ai<|ak (X' :=[_,_]) (S' :=[_]) (fun _ m=>m)<|ag<|ah<|aj<|hy (fun _=>iP rfl rfl)<|wP rfl rfl<|ai<|al (ρ' :=[(5,_),(4,_),(0,_),(1,_)]) ⟨rfl,rfl,rfl,rfl,trivial⟩<|ag<|ah<|aj<|hy (fun _=>aa rfl)<| ?_
  refine hx (aq rfl Tryz.call211 (s4 (by omega) (by omega) (by omega)) [] rfl [0] rfl ?_)
  rintro _ _ _ ⟨rfl,rfl,rfl⟩
  refine hy (fun _=>aa rfl)<|hy (fun _=>ar rfl rfl)<|hy (fun _=>ar rfl rfl)<|hy (fun _=>ab rfl)<| ?_
  refine cH (dO 0 rfl rfl rfl yx rfl (by first|exact Nat.le_of_ble_eq_true rfl|simp) ?_)
  refine ai<|al (ρ' :=[(6,_),(5,_),(4,_),(0,_),(1,_)]) ⟨rfl,rfl,rfl,rfl,rfl,trivial⟩<|ak (X' :=[_,_]) (S' :=[_]) (fun _ m=>m)<|ag<|ah<|aj<|hy (fun m=>aw rfl lT (aE (m.aZ 0 rfl) rfl))<|hy (fun _=>cM rfl rfl)<|hy (fun m=>aw rfl lT (aE (m.aZ 0 rfl) rfl))<| ?_
  refine hx (gS rfl Tryz.call212 (oL) [] rfl [] rfl ?_ ?_)
  ·rintro _ _ _ ⟨rfl,rfl,rfl,q1⟩
   refine eD<|jk<| ?_
   exact absurd q1 (by rw[hL];simp)
  ·rintro _ _ _ ⟨rfl,rfl,rfl,q1⟩
   rw[hL,Option.getD_some]
   refine ai<|al (ρ' :=[(6,_),(5,_),(4,_),(0,_),(1,_)]) ⟨rfl,rfl,rfl,rfl,rfl,trivial⟩<|ak (X' :=[_,_]) (S' :=[_]) (fun _ m=>m)<|ag<|ah<|aj<|hy (fun _=>aa rfl)<|hy (fun _=>aa rfl)<|hy (fun _=>ot rfl rfl)<| ?_
   refine hx (gS rfl Tryz.call212 (oL) [] rfl [] rfl ?_ ?_)
   ·rintro _ _ _ ⟨rfl,rfl,rfl,q2⟩
    refine eD<|jk<| ?_
    rw[(rE hL (Int.not_le.1 (of_decide_eq_false q2)))]
    refine mV (by simp) Tryz.call210 (gn) [1,0] rfl [] rfl ?_
    rintro _ _ _ ⟨rfl,rfl,rfl⟩
    refine qE (fun w m=>m.dj (r' :=aH 5 1 (.slice none 0 0) 0 []) (.refl _ _) (Own.nil _ _ _ _) (fun k hk=>hk.elim)) ?_
    exact iv rfl rfl rfl eh lT (fun m=>aE (m.aZ 1 rfl) (i:=0) rfl) (fun m=>aE (m.aZ 2 rfl) (i:=0) rfl) [0] rfl [] rfl ⟨_,rfl,rfl,rfl⟩
   ·rintro _ _ _ ⟨rfl,rfl,rfl,q2⟩
    obtain⟨h10,hk32⟩:=tZ hL
    have hkm:(k:Int)≤most:=of_decide_eq_true q2
    have hopen:=uk hL (Int.not_lt.2 hkm)
    refine aQ (fun w m=>m.jL 0 rfl (View.sub (n:=f.length) (c:=c) (k:=6) (m:=f.length-10) (by omega) (by omega))) ?_
    refine aA (fun m=>ig (m.rd 0 rfl)) ?_
    rintro⟨hl_p,hA_p⟩
    refine ai<|al (ρ' :=[(6,_),(5,_),(4,_),(0,_),(1,_)]) ⟨rfl,rfl,rfl,rfl,rfl,trivial⟩<|ak (X' :=[_,_]) (S' :=[_,_]) (fun _ m=>m)<|ag<|ah<|aj<|hy (fun _=>aa rfl)<|hy (fun _=>aa rfl)<|hy (fun _=>aT rfl Tryz.underlying27)<|hy (fun _=>yV (cp rfl rfl (bF (by omega) (by omega))) ((show Value.int .i64 ((f.length:Int)-4)= .int .i64 ((f.length-4:Nat):Int) by congr 1;omega)))<|hy (fun _=>yV (eZ rfl rfl rfl Tryz.underlying27 dZ (show((6:Nat):Int)=6 from rfl) rfl (by omega) (by omega)) ((show Value.slice (if c=6 then A else A.map (·.add (6*1))) (f.length-4-6) (c-6)= .slice (if c=6 then A else A.map (·.add (6*1))) (f.length-10) (c-6) by congr 1)))<| ?_
    refine hx (aq rfl Tryz.call117 (sE (by omega)) [] rfl [0] rfl ?_)
    rintro _ _ _ ⟨v,rfl,rfl,rfl⟩
    refine aA (fun m=>(m.own 0 rfl).slice) ?_
    rintro⟨A_x,c_x,rfl,hc_x⟩
    refine aA (fun m=>(m.ord 0 rfl).2.1) fun hA_x=> ?_
    have hbl:f.length-10=(dI f).length:=by unfold dI;rw[List.length_take,List.length_drop];omega
    have hb2:(f.drop 6).take (dI f).length=dI f:=by rw[←hbl];rfl
    rw[hbl,hb2]
    rw[hbl]at hc_x
    refine cH (dO 2 rfl rfl rfl oV rfl (by first|exact Nat.le_of_ble_eq_true rfl|simp) ?_)
    refine ai<|al (ρ' :=[(6,_),(5,_),(4,_),(0,_),(1,_)]) ⟨rfl,rfl,rfl,rfl,rfl,trivial⟩<|ak (X' :=[_,_,_]) (S' :=[_,_]) (fun _ m=>m)<|ag<|ah<|ah<|aj<|hy (fun _=>aa rfl)<| ?_
    refine hx (aq rfl Tryz.call213 (C3 (by omega) (by omega) rfl) [] rfl [1] rfl ?_)
    rintro _ _ _ ⟨rfl,rfl,rfl⟩
    refine ai<|al (ρ' :=[(28,_),(6,_),(5,_),(4,_),(0,_),(1,_)]) ⟨rfl,rfl,rfl,rfl,rfl,rfl,trivial⟩<|ak (X' :=[_,_,_]) (S' :=[_,_]) (fun _ m=>m)<|ag<| ?_
    refine cG rfl (fun hpk=> ?_) (fun hpk=> ?_)
    ·have hu:vf f k=j8 (k:Int) (dI f) []:=by
      unfold vf
      exact if_pos hpk.2
     have hkz:(k:Int)≤10000000:=by omega
     have hul:=qo (most:=(k:Int)) (dI f) [] (by simp)
     have hbn:(dI f).length≤10000000:=by omega
     refine ah<|aj<|hy (fun m=>aw rfl eh (aE (m.aZ 0 rfl) rfl))<|hy (fun _=>aa rfl)<| ?_
     refine hx (cI rfl Tryz.call214 (BH hc_x hbn hkz) [] rfl (.x 1 rfl .own .nil) ?_)
     rintro _ _ _ ⟨v2,rfl,rfl,rfl⟩
     refine⟨rfl, ?_⟩
     refine aA (fun m=>(m.own 0 rfl).slice) ?_
     rintro⟨A_x2,c_x2,rfl,hc_x2⟩
     refine aA (fun m=>(m.ord 0 rfl).2.1) fun hA_x2=> ?_
     refine hy (fun _=>aa rfl)<|hy (fun _=>ar rfl rfl)<|hy (fun _=>ar rfl rfl)<| ?_
     refine cH (dO 1 rfl rfl rfl oV rfl (by first|exact Nat.le_of_ble_eq_true rfl|simp) ?_)
     refine cH (dO 3 rfl rfl rfl yx rfl (by first|exact Nat.le_of_ble_eq_true rfl|simp) ?_)
     refine ai<|al (ρ' :=[(28,_),(6,_),(5,_),(4,_),(0,_),(1,_)]) ⟨rfl,rfl,rfl,rfl,rfl,rfl,trivial⟩<|ak (X' :=[_,_,_,_]) (S' :=[_,_]) (fun _ m=>m)<|ag<|aj<|hy (fun m=>aw rfl lT (aE (m.aZ 0 rfl) rfl))<|hy (fun _=>cM rfl rfl)<| ?_
     refine hx (gS rfl Tryz.call212 (oL) [] rfl [] rfl ?_ ?_)
     ·rintro _ _ _ ⟨rfl,rfl,rfl,q3⟩
      refine eD<|jk<| ?_
      have hno:dp f most=([],2):=by
       rw[hopen]
       unfold gj
       rw[hu]
       exact if_pos (of_decide_eq_false q3)
      rw[hno]
      refine mV (by simp) Tryz.call210 (gn) [1,0] rfl [] rfl ?_
      rintro _ _ _ ⟨rfl,rfl,rfl⟩
      refine qE (fun w m=>m.dj (r' :=aH 5 1 (.slice none 0 0) 0 []) (.refl _ _) (Own.nil _ _ _ _) (fun k hk=>hk.elim)) ?_
      exact iv rfl rfl rfl eh lT (fun m=>aE (m.aZ 1 rfl) (i:=0) rfl) (fun m=>aE (m.aZ 2 rfl) (i:=0) rfl) [0] rfl [] rfl ⟨_,rfl,rfl,rfl⟩
     ·rintro _ _ _ ⟨rfl,rfl,rfl,q3⟩
      have hE0:(j8 (k:Int) (dI f) []).2=0:=of_decide_eq_true q3
      obtain⟨u,hu2⟩:∃u,j8 (k:Int) (dI f) []=(u,0):=⟨_,Prod.ext rfl hE0⟩
      rw[hu2]at hu hul
      rw[hu2]
      dsimp only
      have hun:u.length≤1000000:=by
       rcases hul.1 with h|h
       ·have h:(u.length:Int)≤k:=h
        omega
       ·have h:u=[]:=h
        rw[h];exact Nat.zero_le _
      refine ai<|al (ρ' :=[(28,_),(6,_),(5,_),(4,_),(0,_),(1,_)]) ⟨rfl,rfl,rfl,rfl,rfl,rfl,trivial⟩<|ak (X' :=[_,_,_,_]) (S' :=[_,_]) (fun _ m=>m)<|ag<|ah<|aj<|hy (fun m=>aw rfl eh (aE (m.aZ 1 rfl) rfl))<|hy (fun _=>aT rfl Tryz.underlying27)<|hy (fun _=>aa rfl)<|hy (fun _=>cM rfl rfl)<| ?_
      refine hx (gS rfl Tryz.call212 (oL) [] rfl [] rfl ?_ ?_)
      ·rintro _ _ _ ⟨rfl,rfl,rfl,q4⟩
       refine eD<|jk<| ?_
       have hno:dp f most=([],2):=by
        rw[hopen]
        unfold gj
        rw[hu]
        exact(if_neg (by simp)).trans (if_pos (by have:=of_decide_eq_false q4;simp only;omega))
       rw[hno]
       refine mV (by simp) Tryz.call210 (gn) [1,0] rfl [] rfl ?_
       rintro _ _ _ ⟨rfl,rfl,rfl⟩
       refine qE (fun w m=>m.dj (r' :=aH 5 1 (.slice none 0 0) 0 []) (.refl _ _) (Own.nil _ _ _ _) (fun k hk=>hk.elim)) ?_
       exact iv rfl rfl rfl eh lT (fun m=>aE (m.aZ 1 rfl) (i:=0) rfl) (fun m=>aE (m.aZ 2 rfl) (i:=0) rfl) [0] rfl [] rfl ⟨_,rfl,rfl,rfl⟩
      ·rintro _ _ _ ⟨rfl,rfl,rfl,q4⟩
       have hlen:(u).length=k:=by have:=of_decide_eq_true q4;omega
       have hgo:dp f most=if gP (da u)≠f.drop (f.length-4)then([],7)else(u,0):=by
        rw[hopen]
        unfold gj
        rw[hu]
        exact(if_neg (by simp)).trans (if_neg (by simp only;omega))
       refine aQ (fun w m=>m.jL 1 rfl (View.drop (n:=f.length) (c:=c) (k:=f.length-4) (by omega) (by omega))) ?_
       refine aA (fun m=>ig (m.rd 0 rfl)) ?_
       rintro⟨hl_t,hA_t⟩
       have hcl:=jP u
       refine ai<|al (ρ' :=[(28,_),(6,_),(5,_),(4,_),(0,_),(1,_)]) ⟨rfl,rfl,rfl,rfl,rfl,rfl,trivial⟩<|ak (X' :=[_,_,_,_]) (S' :=[_,_,_]) (fun _ m=>m)<|ag<|ah<|zy [43,44,45,46,47,48,49,50,51,52] [0,0,0,0] [0,1,2] rfl rfl [1,2,8,9] [(0,some 0),(3,some 2),(4,some 4),(5,some 2),(6,some 2),(7,some 2),(1,none),(2,none),(8,none),(9,none)] (by kernel_rfl) (by kernel_rfl) (by kernel_rfl) rfl 99<|cq (fun m=>aw rfl eh (aE (m.aZ 1 rfl) rfl))<|an (aa rfl)<|an (aa rfl)<|an (aT rfl Tryz.underlying27)<|an (yV (cp rfl rfl (bF (by omega) (by omega))) ((show Value.int .i64 ((f.length:Int)-4)= .int .i64 ((f.length-4:Nat):Int) by congr 1;omega)))<|an (dE rfl rfl Tryz.underlying27 dZ rfl (by omega))<| ?_
       refine ek (cI rfl Tryz.call180 (oY (by omega)) [] rfl (.x 2 rfl .own .nil) ?_)
       rintro _ _ _ ⟨rfl,rfl,rfl⟩
       refine⟨rfl, ?_⟩
       refine⟨(fun _=>wk [0,0,0,0] [0,1,2] rfl rfl), ?_⟩
       refine ek (aq rfl Tryz.call179 (j3 (by omega)) [] rfl [] rfl ?_)
       rintro _ _ _ ⟨v3,rfl,rfl,rfl⟩
       refine⟨(fun _=>wk [1,1,1,1] [0,1,2] rfl rfl), ?_⟩
       refine cm (fun m=>(m.own 0 rfl).slice) ?_
       rintro⟨A_x3,c_x3,rfl,hc_x3⟩
       refine cm (fun m=>(m.ord 0 rfl).2.1) fun hA_x3=> ?_
       refine ek (cI rfl Tryz.call215 (og) [] rfl (.x 0 rfl .own (.s 0 rfl .nil)) ?_)
       rintro _ _ _ ⟨rfl,rfl,rfl⟩
       refine⟨rfl, ?_⟩
       refine⟨(fun _=>wk [1,1,1,1] [0,1,2] rfl rfl), ?_⟩
       refine ek (gS rfl Tryz.call212 (oL) [] rfl [] rfl ?_ ?_)
       ·rintro _ _ _ ⟨rfl,rfl,rfl,q5⟩
        refine DI<|eD<|jk<| ?_
        rw[(hgo.trans (if_pos (of_decide_eq_false q5)))]
        refine mV (by simp) Tryz.call210 (gn) [2,1] rfl [] rfl ?_
        rintro _ _ _ ⟨rfl,rfl,rfl⟩
        refine qE (fun w m=>m.dj (r' :=aH 5 1 (.slice none 0 0) 0 []) (.refl _ _) (Own.nil _ _ _ _) (fun k hk=>hk.elim)) ?_
        exact iv rfl rfl rfl eh lT (fun m=>aE (m.aZ 1 rfl) (i:=0) rfl) (fun m=>aE (m.aZ 2 rfl) (i:=0) rfl) [0] rfl [] rfl ⟨_,rfl,rfl,rfl⟩
       ·rintro _ _ _ ⟨rfl,rfl,rfl,q5⟩
        refine⟨(fun _=>wk [1,1,1,1] [0,1,2] rfl rfl), ?_⟩
        rw[hgo.trans (if_neg (fun h=>h (of_decide_eq_true q5)))]
        refine zH<|al (ρ' :=[(28,_),(6,_),(5,_),(4,_),(0,_),(1,_)]) ⟨rfl,rfl,rfl,rfl,rfl,rfl,trivial⟩<|ak (X' :=[_,_,_,_,_]) (S' :=[_,_,_]) (fun _ m=>m)<|ag<|ah<|aj<|hy (fun m=>aw rfl eh (aE (m.aZ 2 rfl) rfl))<| ?_
        refine cH (dO 2 rfl rfl rfl oV rfl (by first|exact Nat.le_of_ble_eq_true rfl|simp) ?_)
        refine cH (dO 2 rfl rfl rfl yx rfl (by first|exact Nat.le_of_ble_eq_true rfl|simp) ?_)
        refine ai<|al (ρ' :=[(28,_),(6,_),(5,_),(4,_),(0,_),(1,_)]) ⟨rfl,rfl,rfl,rfl,rfl,rfl,trivial⟩<|ak (X' :=[_,_,_,_,_]) (S' :=[_,_,_]) (fun _ m=>m)<|ag<|aX<| ?_
        refine w0 trivial ?_
        refine mV (by simp) Tryz.call210 (uC) [1,0] rfl [] rfl ?_
        rintro _ _ _ ⟨rfl,rfl,rfl⟩
        exact iv rfl rfl rfl eh lT (fun m=>aE (m.aZ 0 rfl) (i:=0) rfl) (fun m=>aE (m.aZ 1 rfl) (i:=0) rfl) [3] rfl [] rfl ⟨_,rfl,rfl,rfl⟩
    ·have hu:vf f k=(dI f,0):=by
      unfold vf
      exact if_neg fun e=>hpk ⟨by rw[hL];rfl,e⟩
     refine aB<|ag<|ah<|aj<|hy (fun m=>aw rfl eh (aE (m.aZ 0 rfl) rfl))<|hy (fun _=>aT rfl Tryz.underlying27)<|hy (fun _=>aa rfl)<|hy (fun _=>cM rfl rfl)<| ?_
     refine hx (gS rfl Tryz.call212 (oL) [] rfl [] rfl ?_ ?_)
     ·rintro _ _ _ ⟨rfl,rfl,rfl,q4⟩
      refine eD<|jk<| ?_
      have hno:dp f most=([],2):=by
       rw[hopen]
       unfold gj
       rw[hu]
       exact(if_neg (by simp)).trans (if_pos (by have:=of_decide_eq_false q4;simp only;omega))
      rw[hno]
      refine mV (by simp) Tryz.call210 (gn) [0,1] rfl [] rfl ?_
      rintro _ _ _ ⟨rfl,rfl,rfl⟩
      refine qE (fun w m=>m.dj (r' :=aH 5 1 (.slice none 0 0) 0 []) (.refl _ _) (Own.nil _ _ _ _) (fun k hk=>hk.elim)) ?_
      exact iv rfl rfl rfl eh lT (fun m=>aE (m.aZ 1 rfl) (i:=0) rfl) (fun m=>aE (m.aZ 2 rfl) (i:=0) rfl) [0] rfl [] rfl ⟨_,rfl,rfl,rfl⟩
     ·rintro _ _ _ ⟨rfl,rfl,rfl,q4⟩
      have hlen:((dI f)).length=k:=by have:=of_decide_eq_true q4;omega
      have hgo:dp f most=if gP (da (dI f))≠f.drop (f.length-4)then([],7)else((dI f),0):=by
       rw[hopen]
       unfold gj
       rw[hu]
       exact(if_neg (by simp)).trans (if_neg (by simp only;omega))
      refine aQ (fun w m=>m.jL 1 rfl (View.drop (n:=f.length) (c:=c) (k:=f.length-4) (by omega) (by omega))) ?_
      refine aA (fun m=>ig (m.rd 0 rfl)) ?_
      rintro⟨hl_t,hA_t⟩
      have hcl:=jP (dI f)
      refine ai<|al (ρ' :=[(28,_),(6,_),(5,_),(4,_),(0,_),(1,_)]) ⟨rfl,rfl,rfl,rfl,rfl,rfl,trivial⟩<|ak (X' :=[_,_,_]) (S' :=[_,_,_]) (fun _ m=>m)<|ag<|ah<|zy [43,44,45,46,47,48,49,50,51,52] [0,0,0] [0,1,2] rfl rfl [1,2,8,9] [(0,some 0),(3,some 2),(4,some 4),(5,some 2),(6,some 2),(7,some 2),(1,none),(2,none),(8,none),(9,none)] (by kernel_rfl) (by kernel_rfl) (by kernel_rfl) rfl 99<|cq (fun m=>aw rfl eh (aE (m.aZ 0 rfl) rfl))<|an (aa rfl)<|an (aa rfl)<|an (aT rfl Tryz.underlying27)<|an (yV (cp rfl rfl (bF (by omega) (by omega))) ((show Value.int .i64 ((f.length:Int)-4)= .int .i64 ((f.length-4:Nat):Int) by congr 1;omega)))<|an (dE rfl rfl Tryz.underlying27 dZ rfl (by omega))<| ?_
      refine ek (cI rfl Tryz.call180 (oY (by omega)) [] rfl (.x 1 rfl .own .nil) ?_)
      rintro _ _ _ ⟨rfl,rfl,rfl⟩
      refine⟨rfl, ?_⟩
      refine⟨(fun _=>wk [0,0,0] [0,1,2] rfl rfl), ?_⟩
      refine ek (aq rfl Tryz.call179 (j3 (by omega)) [] rfl [] rfl ?_)
      rintro _ _ _ ⟨v2,rfl,rfl,rfl⟩
      refine⟨(fun _=>wk [1,1,1] [0,1,2] rfl rfl), ?_⟩
      refine cm (fun m=>(m.own 0 rfl).slice) ?_
      rintro⟨A_x2,c_x2,rfl,hc_x2⟩
      refine cm (fun m=>(m.ord 0 rfl).2.1) fun hA_x2=> ?_
      refine ek (cI rfl Tryz.call215 (og) [] rfl (.x 0 rfl .own (.s 0 rfl .nil)) ?_)
      rintro _ _ _ ⟨rfl,rfl,rfl⟩
      refine⟨rfl, ?_⟩
      refine⟨(fun _=>wk [1,1,1] [0,1,2] rfl rfl), ?_⟩
      refine ek (gS rfl Tryz.call212 (oL) [] rfl [] rfl ?_ ?_)
      ·rintro _ _ _ ⟨rfl,rfl,rfl,q5⟩
       refine DI<|eD<|jk<| ?_
       rw[(hgo.trans (if_pos (of_decide_eq_false q5)))]
       refine mV (by simp) Tryz.call210 (gn) [1,2] rfl [] rfl ?_
       rintro _ _ _ ⟨rfl,rfl,rfl⟩
       refine qE (fun w m=>m.dj (r' :=aH 5 1 (.slice none 0 0) 0 []) (.refl _ _) (Own.nil _ _ _ _) (fun k hk=>hk.elim)) ?_
       exact iv rfl rfl rfl eh lT (fun m=>aE (m.aZ 1 rfl) (i:=0) rfl) (fun m=>aE (m.aZ 2 rfl) (i:=0) rfl) [0] rfl [] rfl ⟨_,rfl,rfl,rfl⟩
      ·rintro _ _ _ ⟨rfl,rfl,rfl,q5⟩
       refine⟨(fun _=>wk [1,1,1] [0,1,2] rfl rfl), ?_⟩
       rw[hgo.trans (if_neg (fun h=>h (of_decide_eq_true q5)))]
       refine zH<|al (ρ' :=[(28,_),(6,_),(5,_),(4,_),(0,_),(1,_)]) ⟨rfl,rfl,rfl,rfl,rfl,rfl,trivial⟩<|ak (X' :=[_,_,_,_]) (S' :=[_,_,_]) (fun _ m=>m)<|ag<|ah<|aj<|hy (fun m=>aw rfl eh (aE (m.aZ 1 rfl) rfl))<| ?_
       refine cH (dO 1 rfl rfl rfl oV rfl (by first|exact Nat.le_of_ble_eq_true rfl|simp) ?_)
       refine cH (dO 3 rfl rfl rfl yx rfl (by first|exact Nat.le_of_ble_eq_true rfl|simp) ?_)
       refine ai<|al (ρ' :=[(28,_),(6,_),(5,_),(4,_),(0,_),(1,_)]) ⟨rfl,rfl,rfl,rfl,rfl,rfl,trivial⟩<|ak (X' :=[_,_,_,_]) (S' :=[_,_,_]) (fun _ m=>m)<|ag<|aX<| ?_
       refine w0 trivial ?_
       refine mV (by simp) Tryz.call210 (uC) [1,0] rfl [] rfl ?_
       rintro _ _ _ ⟨rfl,rfl,rfl⟩
       exact iv rfl rfl rfl eh lT (fun m=>aE (m.aZ 0 rfl) (i:=0) rfl) (fun m=>aE (m.aZ 1 rfl) (i:=0) rfl) [3] rfl [] rfl ⟨_,rfl,rfl,rfl⟩
end Go.Proofs.YtmibdabdlgmafaaGreatDoor
end
section
set_option maxRecDepth 20000
namespace Go.Proofs.YtmibdabdlgmafaaGreatDoor
open Go.Eng Go.Hx
structure uL where
 h:List UInt32
 n:Nat
 A:Option Addr
 c:Nat
 rest:List UInt8
def nf(h:List UInt32)(n:Nat)(A:Option Addr)(m c:Nat):List Value:=ez h++[.int .i64 (n:Int),.slice A m c]
abbrev nG(g:Nat)(s:uL):bq:=fY [aL g 308 (nf s.h s.n s.A s.rest.length s.c),aH 5 1 (.slice s.A s.rest.length s.c) s.rest.length (aW s.rest)]
structure uL.ok(s:uL)(all:List UInt8):Prop where
 len:s.h.length=8
 n:s.n=all.length
 HF:∃d,d++s.rest=all∧d.length % 64=0∧s.h=fI mC d
theorem kC{h:List UInt32}{n:Nat}{A:Option Addr}{m c:Nat}(hh:h.length=8):(nf h n A m c).length=10:=by simp[nf,ez,hh]
theorem xa{h:List UInt32}{n:Nat}{A:Option Addr}{m c:Nat}(hh:h.length=8):(nf h n A m c)[8]? =some (.int .i64 (n:Int)):=by
 rw[nf,List.getElem?_append_right (by rw[bB];omega),bB,hh];rfl
theorem tY{h:List UInt32}{n:Nat}{A:Option Addr}{m c:Nat}(hh:h.length=8):(nf h n A m c)[9]? =some (.slice A m c):=by
 rw[nf,List.getElem?_append_right (by rw[bB];omega),bB,hh];rfl
theorem Aq{h:List UInt32}{n:Nat}{A:Option Addr}{m c:Nat}{j:Nat}{u:Value}(hu:(ez h)[j]? =some u):(nf h n A m c)[j]? =some u:=by
 rw[nf,List.getElem?_append_left ((List.getElem?_eq_some_iff.1 hu).1)];exact hu
theorem zm{h:List UInt32}{n n' :Nat}{A:Option Addr}{m c:Nat}(hh:h.length=8):(nf h n A m c).set 8 (.int .i64 (n' :Int))=nf h n' A m c:=by
 rw[nf,List.set_append_right _ _ (by rw[bB];omega),bB,hh];rfl
theorem uN{h:List UInt32}{n:Nat}{A A' :Option Addr}{m c m' c' :Nat}(hh:h.length=8):(nf h n A m c).set 9 (.slice A' m' c')=nf h n A' m' c' :=by
 rw[nf,List.set_append_right _ _ (by rw[bB];omega),bB,hh];rfl
theorem Cm{h h' :List UInt32}{n:Nat}{A:Option Addr}{m c:Nat}(hh:h.length=8)(hh' :h'.length=8):bJ (nf h n A m c) 0 (ez h')=nf h' n A m c:=by
 rw[bJ,List.take_zero,List.nil_append,Nat.zero_add,bB,hh',nf,List.drop_append_of_le_length (by rw[bB];omega),List.drop_of_length_le (by rw[bB];omega)];rfl
theorem Gv:cf Tryz.prog 172 [] [] [] (fun v_ X_ S_=>∃g,v_=(.pointer (some ⟨g,0,none⟩))∧X_=[nG g ⟨mC,0,none,0,[]⟩]∧S_=[]):=by
 refine aP (N:=4) Tryz.func172 rfl rfl (by simp) fun b=> ?_
 refine ah<|aj<|hy (fun _=>ab rfl)<|ai<|ag<|ah<|aj<|hy (fun _=>yV (tl (n:=8) xp (by kernel_rfl) rfl (by kernel_rfl) rfl (by kernel_rfl) (by kernel_rfl) (rK (l:=[1779033703,3144134277,1013904242,2773480762,1359893119,2600822924,528734635,1541459225]))) ((rfl:_=Value.agg (ez mC).toArray)))<|hy (fun _=>yV (cA Dy rfl rfl (by kernel_rfl) (.cons (o:=0) (sz:=8) (by kernel_rfl) rfl rfl (Nat.le_of_ble_eq_true rfl) .nil)) ((rfl:_=Value.agg (nf mC 0 none 0 0).toArray)))<| ?_
 refine hx (cw rfl (fun g3=> ?_))
 refine hy (fun _=>ab rfl)<|ai<|al (ρ' :=[(0,_)]) ⟨rfl,trivial⟩<|ak (X' :=[_]) (S' :=[]) (fun _ m=>m)<|ag<|aX<| ?_
 refine ak (fun w m=>m.bN 0 rfl (show _=aL g3 308 (nf mC 0 none 0 0)from congrArg (aL _ _) (bu _))) ?_
 refine ak (fun w m=>m.dj (r' :=aH 5 1 (.slice none 0 0) 0 []) (.refl _ _) (Own.nil _ _ _ _) (fun k hk=>hk.elim)) ?_
 refine ak (X' :=nG g3 ⟨mC,0,none,0,[]⟩::_) (fun w m=>(m.perm (au [1,0] _ [_,_] _ rfl)).pack) ?_
 exact bh trivial rfl rfl [0] rfl [] rfl ⟨_,rfl,rfl,rfl⟩
theorem Fj:uL.ok ⟨mC,0,none,0,[]⟩ []:=⟨rfl,rfl,[],rfl,rfl,rfl⟩
theorem wu{g:Nat}{s:uL}{B:Option Addr}{mb mc:Nat}{l:List UInt8}(hh:s.h.length=8)(hn:s.n+mb≤1000000000000000)(hr:s.rest.length+mb≤140737488355328):cf Tryz.prog 173 [.pointer (some ⟨g,0,none⟩),.slice B mb mc] [nG g s] [di 1 B mb (aW l),ey] (fun v_ X_ S_=>∃s1,v_=(.tuple #[])∧X_=[nG g s1]∧S_=[]∧(s1.rest.length<64∧∀all,s.ok all→s1.ok (all++l))):=by
 refine aP (N:=49) Tryz.func173 rfl rfl (by simp) fun b=> ?_
 refine a6 (fun m=>ig (m.rd 0 rfl)) ?_
 rintro⟨hl_r,hA_r⟩
 have hlm:l.length=mb:=hl_r
 have hl0:=kC (n:=s.n) (A:=s.A) (m:=s.rest.length) (c:=s.c) hh
 refine bC (fun w m=>(m.perm (au [0] _ [_] _ rfl)).unpack) ?_
 refine ah<|aj<|hy (fun _=>aa rfl)<|hy (fun _=>ba rfl)<|hy (fun _=>aI rfl mG (by decide))<|hy (fun m=>aw rfl fZ ((m.aZ 0 rfl).ax 8 _ (xa hh)))<|hy (fun _=>aa rfl)<|hy (fun _=>aT rfl Tryz.underlying27)<|hy (fun _=>aN rfl rfl (bF (by omega) (by omega)))<|hy (fun _=>ba rfl)<|hy (fun _=>aI rfl mG (by decide))<| ?_
 refine cH (ct 0 rfl rfl rfl s7 rfl (by rw[hl0];decide) ?_)
 refine ai<|al (ρ' :=[(0,_),(1,_)]) ⟨rfl,rfl,trivial⟩<|ak (X' :=[_,_]) (S' :=[_,_]) (fun _ m=>m)<|ag<|ah<|aj<| ?_
 refine aQ (fun w m=>m.bN 0 rfl (show _=aL g 308 (nf s.h (s.n+mb) s.A s.rest.length s.c)from by rw[Nat.zero_add,←Int.natCast_add,zm hh])) ?_
 refine hy (fun _=>aa rfl)<|hy (fun _=>aa rfl)<|hy (fun _=>ba rfl)<|hy (fun _=>aI rfl ky (by decide))<|hy (fun m=>aw rfl eh ((m.aZ 0 rfl).ax 9 _ (tY hh)))<|hy (fun _=>aa rfl)<| ?_
 refine hx (bx 1 rfl rfl rfl Tryz.underlying27 Tryz.underlying27 (by exact .inl rfl) fk rfl (fun m=>Src.bR (m.rd 0 rfl)) aY (by unfold maxLen;omega) (by omega) (fun u=> ?_))
 refine aA (fun m=>(m.own 0 rfl).slice) ?_
 rintro⟨A_d1,c_d1,rfl,hc_d1⟩
 refine aA (fun m=>(m.ord 0 rfl).2.1) fun hA_d1=> ?_
 refine aQ (fun w m=>m.bN 0 rfl (show _=aH 5 1 (.slice A_d1 (s.rest++l).length c_d1) (s.rest++l).length (aW (s.rest++l))from by rw[List.length_append,hlm];simp[aW])) ?_
 have hls:=kC (n:=s.n+mb) (A:=s.A) (m:=s.rest.length) (c:=s.c) hh
 refine hy (fun _=>ba rfl)<|hy (fun _=>aI rfl ky (by decide))<| ?_
 refine cH (ct 1 rfl rfl rfl oV rfl (by rw[hls];decide) ?_)
 refine ai<|al (ρ' :=[(0,_),(1,_)]) ⟨rfl,rfl,trivial⟩<|ak (X' :=[_,_]) (S' :=[_,_]) (fun _ m=>m)<|ag<|aK<| ?_
 refine bC (fun w m=>m.bN 0 rfl (show _=aL g 308 (nf s.h (s.n+mb) A_d1 (s.rest++l).length c_d1)from by rw[Nat.zero_add,uN hh,List.length_append,hlm])) ?_
 have hlen:(s.rest++l).length=s.rest.length+mb:=by rw[List.length_append,hlm]
 refine vn (fun h A1 c1 q dn=>q.length) (fun h A1 c1 q dn=>[]) (fun h A1 c1 q dn=>[aL g 308 (nf h (s.n+mb) A1 q.length c1),aH 5 1 (.slice A1 q.length c1) q.length (aW q)]) (fun h A1 c1 q dn=>[]) (fun h A1 c1 q dn=>h.length=8∧q.length≤c1∧dn++q=s.rest++l∧dn.length % 64=0∧∀D,D.length % 64=0→s.h=fI mC D→h=fI mC (D++dn)) s.h A_d1 c_d1 (s.rest++l) [] [(0,_),(1,_)] ⟨rfl,rfl,trivial⟩ [0,0] rfl [] rfl (⟨hh,(by omega),rfl,rfl,fun D _ e=>by rw[List.append_nil];exact e⟩) trivial (fun h A1 c1 q dn ⟨h8,hqc,hdq,hd64,hD⟩=> ?_)
 have hls:=kC (n:=s.n+mb) (A:=A1) (m:=q.length) (c:=c1) h8
 refine ah<|ah<|aj<|hy (fun _=>aa rfl)<|hy (fun _=>ba rfl)<|hy (fun _=>aI rfl ky (by decide))<|hy (fun m=>aw rfl eh ((m.aZ 0 rfl).ax 9 _ (tY h8)))<|hy (fun _=>aT rfl Tryz.underlying27)<|hy (fun _=>iX rfl rfl)<|ai<|al (ρ' :=[(27,_),(0,_),(1,_)]) ⟨rfl,rfl,rfl,trivial⟩<|ag<| ?_
 refine cG rfl (fun hge=> ?_) (fun hge=> ?_)
 ·have hq64:64≤q.length:=by omega
  refine aB<|ag<|aK<|ah<|cT [10,13] [(0,some 1),(1,some 0),(2,some 0),(3,some 0),(4,some 0),(5,some 1),(6,some 0),(7,some 0),(8,some 0),(9,some 0),(10,none),(11,some 1),(12,some 1),(13,none)] (by kernel_rfl) (by kernel_rfl) rfl 1<|an (aa rfl)<|an (aa rfl)<|an (ba rfl)<|an (aI rfl o6 (by decide))<|cq (fun m=>yV (aU rfl rr lZ (by rw[bB,h8]) (fun j u hu=>(m.aZ 0 rfl).ax j u (Aq hu))) ((rfl:_=Value.agg (ez h).toArray)))<|an (aa rfl)<|an (ba rfl)<|an (aI rfl ky (by decide))<|cq (fun m=>aw rfl eh ((m.aZ 0 rfl).ax 9 _ (tY h8)))<|an (kj rfl rfl Tryz.underlying27 dZ (show((64:Nat):Int)=64 from rfl) (by omega))<| ?_
  refine ek (cI rfl Tryz.call227 (He (by omega) h8 (l:=(q.take 64))) [] rfl (.x 1 rfl (View.own.trans (View.take hq64)) (.s 1 rfl .nil)) ?_)
  rintro _ _ _ ⟨rfl,rfl,rfl⟩
  refine⟨rfl, ?_⟩
  refine⟨(fun _=>wk [0,0] [0,1] rfl rfl), ?_⟩
  refine an (ba rfl)<|an (aI rfl o6 (by decide))<| ?_
  have hb8:=jA h8 (q.take 64)
  refine kI (lD 0 rfl rfl rfl lZ (by rw[bB,hb8]) iu (by rw[hls];decide) ⟨(fun h=>absurd h (by decide)), ?_⟩)
  refine gV (fun w m=>m.bN 0 rfl (show _=aL g 308 (nf (eI h (q.take 64)) (s.n+mb) A1 q.length c1)from by rw[Nat.zero_add,Cm h8 hb8])) ?_
  have hls2:=kC (n:=s.n+mb) (A:=A1) (m:=q.length) (c:=c1) hb8
  refine gV (X' :=aH 5 1 (.slice (if c1=64 then A1 else A1.map (·.add (64*1))) (q.length-64) (c1-64)) (q.length-64) ((aW q).drop (64*1))::_) (fun w m=>(m.perm (au [1] _ [_] _ rfl)).wJ (View.s8 hq64 hqc)) ?_
  refine bz<|al (ρ' :=[(27,_),(0,_),(1,_)]) ⟨rfl,rfl,rfl,trivial⟩<|ak (X' :=[_,_]) (S' :=[_,_]) (fun _ m=>m)<|ag<|aj<|hy (fun _=>aa rfl)<|hy (fun _=>aa rfl)<|hy (fun _=>ba rfl)<|hy (fun _=>aI rfl ky (by decide))<|hy (fun m=>aw rfl eh ((m.aZ 1 rfl).ax 9 _ (tY hb8)))<|hy (fun _=>dE rfl rfl Tryz.underlying27 dZ (show((64:Nat):Int)=64 from rfl) (by omega))<|hy (fun _=>ba rfl)<|hy (fun _=>aI rfl ky (by decide))<| ?_
  refine cH (ct 1 rfl rfl rfl oV rfl (by rw[hls2];decide) ?_)
  refine ai<|al (ρ' :=[(27,_),(0,_),(1,_)]) ⟨rfl,rfl,rfl,trivial⟩<|ak (X' :=[_,_]) (S' :=[_,_]) (fun _ m=>m)<|aO<| ?_
  have hqd:(q.drop 64).length=q.length-64:=List.length_drop
  have e9:(aW q).drop (64*1)=aW (q.drop 64):=by simp[aW,List.map_drop]
  generalize hA2:(if c1=64 then A1 else A1.map (·.add (64*1)))=A2
  refine ak (fun w m=>m.bN 0 rfl (show _=aL g 308 (nf (eI h (q.take 64)) (s.n+mb) A2 (q.drop 64).length (c1-64))from by rw[Nat.zero_add,uN hb8,hqd])) ?_
  refine ak (fun w m=>m.bN 1 rfl (show _=aH 5 1 (.slice A2 (q.drop 64).length (c1-64)) (q.drop 64).length (aW (q.drop 64))from by rw[hqd,e9])) ?_
  refine pz (eI h (q.take 64)) A2 (c1-64) (q.drop 64) (dn++q.take 64) ⟨rfl,rfl,trivial⟩ [1,0] rfl [0,1] rfl (⟨hb8,by omega,by rw[List.append_assoc,List.take_append_drop];exact hdq,by rw[List.length_append,List.length_take];omega,fun D h1 h2=>by rw[←List.append_assoc,p6 (by rw[List.length_append];omega) (by rw[List.length_take];omega),←hD D h1 h2]⟩) (by omega)
 ·refine bL<|ao<|ao<|aD<| ?_
  have hok:∀all,s.ok all→uL.ok ⟨h,s.n+mb,A1,c1,q⟩ (all++l):=fun all ok=>by
   obtain⟨D,e1,e2,e3⟩:=ok.HF
   refine⟨h8, ?_,D++dn, ?_, ?_,hD D e2 e3⟩
   ·show s.n+mb=_
    rw[List.length_append,ok.n,hlm]
   ·show(D++dn)++q=_
    rw[List.append_assoc,hdq,←List.append_assoc,e1]
   ·rw[List.length_append];omega
  refine ak (X' :=nG g ⟨h,s.n+mb,A1,c1,q⟩::_) (fun w m=>(m.perm (au [0,0] _ [_,_] _ rfl)).pack) ?_
  exact fJ trivial rfl [0] rfl [] rfl ⟨_,rfl,rfl,rfl,⟨(by show q.length<64;omega),hok⟩⟩
theorem Cg{h:List UInt32}{n:Nat}{A:Option Addr}{m c:Nat}(hh:h.length=8){z:List Value}(hz:z.length=10):bJ (bJ (bJ z 0 (ez h)) 8 [.int .i64 (n:Int)]) 9 [.slice A m c]=nf h n A m c:=by
 have hw:(ez h).length=8:=by rw[bB,hh]
 have e1:bJ z 0 (ez h)=ez h++z.drop 8:=by simp[bJ,hw]
 match hq:z.drop 8,(show(z.drop 8).length=2 by rw[List.length_drop,hz])with
 | [x,y],_=>
  rw[e1,hq]
  have e2:bJ (ez h++[x,y]) 8 [.int .i64 (n:Int)]=ez h++[.int .i64 (n:Int),y]:=by
   rw[bJ,List.take_append_of_le_length (by omega),List.take_of_length_le (by omega),List.drop_append,List.drop_of_length_le (by omega)]
   simp[hw]
  rw[e2,bJ,List.take_append,List.take_of_length_le (by omega),List.drop_of_length_le (by simp[hw])]
  simp[hw,nf]
theorem Fp{P:Program}{pl:Nat→Option (Nat×Nat)}{h:List UInt32}(hh:h.length=8){zs:List Value}(hz:zs.length=10)(p0:pl 0=some (0,8))(p1:pl 1=some (8,1))(p2:pl 2=some (9,1)){n:Nat}{A:Option Addr}{m c:Nat}:
  wm P pl zs [(0,.agg (ez h).toArray),(1,.int .i64 (n:Int)),(2,.slice A m c)] (nf h n A m c):=by
 have hw:(ez h).length=8:=by rw[bB,hh]
 have l1:(bJ zs 0 (ez h)).length=10:=by rw[dT (by omega),hz]
 have l2:(bJ (bJ zs 0 (ez h)) 8 [Value.int .i64 (n:Int)]).length=10:=by rw[dT (by rw[l1];show 8+1≤10;decide),l1]
 refine .cons (vs:=ez h) p0 rfl hw (by omega) (.cons (vs:=[.int .i64 (n:Int)]) p1 rfl rfl (by omega) (.cons (vs:=[.slice A m c]) p2 rfl rfl (by omega) ?_))
 have e:=Cg (n:=n) (A:=A) (m:=m) (c:=c) hh hz
 show wm P pl (bJ (bJ (bJ zs 0 (ez h)) 8 [.int .i64 (n:Int)]) 9 [.slice A m c]) [] _
 rw[e]
 exact .nil
theorem CR{g:Nat}{s:uL}(hh:s.h.length=8)(hr:s.rest.length≤140737488351232):cf Tryz.prog 228 [.pointer (some ⟨g,0,none⟩)] [nG g s] [] (fun v_ X_ S_=>∃g2 s2,v_=(.pointer (some ⟨g2,0,none⟩))∧X_=[nG g s,nG g2 s2]∧S_=[]∧(s2.h=s.h∧s2.n=s.n∧s2.rest=s.rest)):=by
 refine aP (N:=18) Tryz.func228 rfl rfl (by simp) fun b=> ?_
 refine bC (fun w m=>(m.perm (au [0] _ [_] _ rfl)).unpack) ?_
 have hl0:=kC (n:=s.n) (A:=s.A) (m:=s.rest.length) (c:=s.c) hh
 refine ah<|aj<|hy (fun _=>ab rfl)<|ai<|ag<|ah<|cT [12,14] [(0,some 2),(1,some 1),(2,some 1),(3,some 1),(4,some 2),(5,some 1),(6,some 1),(7,some 1),(8,some 2),(9,some 2),(10,some 0),(11,some 0),(12,none),(13,some 1),(14,none),(15,some 2)] (by kernel_rfl) (by kernel_rfl) rfl 99<|an (aa rfl)<|an (ba rfl)<|an (aI rfl o6 (by decide))<|cq (fun m=>yV (aU rfl rr lZ (by rw[bB,hh]) (fun j u hu=>(m.aZ 0 rfl).ax j u (Aq hu))) ((rfl:_=Value.agg (ez s.h).toArray)))<|an (aa rfl)<|an (ba rfl)<|an (aI rfl mG (by decide))<|cq (fun m=>aw rfl fZ ((m.aZ 0 rfl).ax 8 _ (xa hh)))<|an (aa rfl)<|an (ba rfl)<|an (aI rfl ky (by decide))<|cq (fun m=>aw rfl eh ((m.aZ 0 rfl).ax 9 _ (tY hh)))<| ?_
 refine ek (cI rfl Tryz.call117 (sE (by omega)) [] rfl (.x 1 rfl .own .nil) ?_)
 rintro _ _ _ ⟨v,rfl,rfl,rfl⟩
 refine⟨rfl, ?_⟩
 refine⟨(fun _=>wk [1,1] [] rfl rfl), ?_⟩
 refine cm (fun m=>(m.own 0 rfl).slice) ?_
 rintro⟨A_x,c_x,rfl,hc_x⟩
 refine cm (fun m=>(m.ord 0 rfl).2.1) fun hA_x=> ?_
 refine an (cA Dy rfl rfl (by kernel_rfl) (Fp hh rfl (by kernel_rfl) (by kernel_rfl) (by kernel_rfl)))<| ?_
 refine ek (cw rfl (fun g17=>⟨(fun _=>wk [2,2] [] rfl rfl), ?_⟩))
 refine an (ab rfl)<|bz<|al (ρ' :=[(2,_),(0,_)]) ⟨rfl,rfl,trivial⟩<|ak (X' :=[_,_,_,_]) (S' :=[]) (fun _ m=>m)<|ag<|aX<| ?_
 refine ak (fun w m=>m.bN 0 rfl (show _=aL g17 308 (nf s.h s.n A_x s.rest.length c_x)from congrArg (aL _ _) (bu _))) ?_
 refine ak (X' :=nG g s::_) (fun w m=>(m.perm (au [2,2] _ [_,_] _ rfl)).pack) ?_
 refine ak (X' :=nG g17 ⟨s.h,s.n,A_x,c_x,s.rest⟩::_) (fun w m=>(m.perm (au [1,1] _ [_,_] _ rfl)).pack) ?_
 exact bh trivial rfl rfl [1,0] rfl [] rfl ⟨_,_,rfl,rfl,rfl,⟨rfl,rfl,rfl⟩⟩
end Go.Proofs.YtmibdabdlgmafaaGreatDoor
end
section
set_option maxRecDepth 20000
namespace Go.Proofs.YtmibdabdlgmafaaGreatDoor
open Go.Eng Go.Hx
theorem AF(n:Nat)(h:n<18446744073709551616):IntKind.u64.wrap (n:Int)=(n:Int):=by
 simp[IntKind.wrap,IntKind.signed,IntKind.bits];omega
theorem Af{n i:Nat}(hi:i<8):(tb n).take (i+1)=(tb n).take i++[UInt8.ofNat (n/256 ^ (7-i))]:=by
 rw[tb,←List.map_take,←List.map_take,List.take_range,List.take_range,show min (i+1) 8=i+1 by omega,show min i 8=i by omega,List.range_succ,List.map_append];rfl
theorem Ie{i:Nat}(hi:i<8):2 ^ (56-8*i)=256 ^ (7-i):=by
 rw[show(256:Nat)=2 ^ 8 from rfl,←Nat.pow_mul];congr 1;omega
theorem xz(h:List UInt32)(j:Nat)(hj:j<h.length):eU (h.take (j+1))=eU (h.take j)++By (h.getD j 0):=by
 rw[List.take_succ_eq_append_getElem hj,eU,eU,List.flatMap_append]
 simp[List.getD,List.getElem?_eq_getElem hj]
theorem pU(h:List UInt32):∀j,j≤h.length→(eU (h.take j)).length=4*j
 |0,_=>rfl
 |j+1,hj=>by rw[xz h j (by omega),List.length_append,pU h j (by omega)];show 4*j+4=_;omega
theorem HG{p r:List UInt8}{k:Nat}{a b c d x y z u:UInt8}(hp:p.length=k):
  ((((aW (p++x::y::z::u::r)).set k (B8 a)).set (k+1) (B8 b)).set (k+2) (B8 c)).set (k+3) (B8 d)=aW (p++a::b::c::d::r):=by
 subst hp
 simp[aW,List.set_append]
theorem GU{g:Nat}{s:uL}{all:List UInt8}(ok:s.ok all)(hr:s.rest.length<64)(ha:all.length≤140737488351232):cf Tryz.prog 174 [.pointer (some ⟨g,0,none⟩)] [nG g s] [ey] (fun v_ X_ S_=>v_=(.agg (aW (bn all)).toArray)∧X_=[nG g s]∧S_=[]):=by
 have hh:=ok.len
 have hsn:=ok.n
 have hl0:=kC (n:=s.n) (A:=s.A) (m:=s.rest.length) (c:=s.c) hh
 have hz64:iO s.n<64:=Nat.mod_lt _ (by decide)
 have hzp:(s.n+(1+iO s.n)) % 64=56:=by unfold iO;omega
 have hzm:∀j,j<iO s.n→(s.n+(1+j)) % 64≠56:=fun j hj=>by unfold iO at hj;omega
 refine aP (N:=83) Tryz.func174 rfl rfl (by simp) fun b=> ?_
 refine ah<|aj<| ?_
 refine hx (aM cP (fun g2=> ?_))
 refine ai<|ak (X' :=[_,_]) (S' :=[_]) (fun _ m=>m)<|ag<|ah<|aj<|hy (fun _=>aa rfl)<| ?_
 refine hx (aq rfl Tryz.call228 (CR (by omega) (by omega)) [1] rfl [] rfl ?_)
 rintro _ _ _ ⟨g22,s2,rfl,rfl,rfl,hp⟩
 refine hy (fun _=>ab rfl)<|ai<|al (ρ' :=[(3,_),(2,_),(0,_)]) ⟨rfl,rfl,rfl,trivial⟩<|ak (X' :=[_,_,_]) (S' :=[_]) (fun _ m=>m)<|ag<|ah<|aj<| ?_
 refine hx (b6 Tryz.underlying27 fk rfl rfl rfl (by simp[Value.cells,B8]) (by decide) (by decide) (fun g12=> ?_))
 have hA_b12:0<1→(some (⟨g12,0,none⟩:Addr))≠none:=fun _ h=>by cases h
 refine hy (fun _=>ab rfl)<|ai<|al (ρ' :=[(4,_),(3,_),(2,_),(0,_)]) ⟨rfl,rfl,rfl,rfl,trivial⟩<|ak (X' :=[_,_,_,_]) (S' :=[_]) (fun _ m=>m)<|ag<|ah<|aK<| ?_
 obtain⟨c1,c2,c3⟩:=hp
 refine bC (fun w m=>m.bN 0 rfl (show _=aH 5 1 (.slice (some ⟨g12,0,none⟩) 1 1) (1+0) (aW (128::List.replicate 0 0))from rfl)) ?_
 refine fS (fun j A1 cc=>iO s.n-j) (fun j A1 cc=>[(4,.slice A1 (1+j) cc)]) (fun j A1 cc=>[aH 5 1 (.slice A1 (1+j) cc) (1+j) (aW (128::List.replicate j 0)),nG g s]) (fun j A1 cc=>[]) (fun j A1 cc=>j≤iO s.n) 0 (some ⟨g12,0,none⟩) 1 [(3,_),(2,_),(0,_)] ⟨rfl,rfl,rfl,trivial⟩ [0,0] rfl [] rfl (Nat.zero_le _) ⟨rfl,trivial⟩ (fun j A1 cc hjz=> ?_)
 refine bC (fun w m=>(m.perm (au [1] _ [_] _ rfl)).unpack) ?_
 refine ah<|ah<|aj<|hy (fun _=>aa rfl)<|hy (fun _=>ba rfl)<|hy (fun _=>aI rfl mG (by decide))<|hy (fun m=>aw rfl fZ ((m.aZ 0 rfl).ax 8 _ (xa hh)))<|hy (fun _=>aa rfl)<|hy (fun _=>aT rfl Tryz.underlying27)<|hy (fun _=>aN rfl rfl (bF (by omega) (by omega)))<|hy (fun _=>gN rfl rfl (by omega) (by omega))<|hy (fun _=>cW rfl rfl)<|ai<|al (ρ' :=[(21,_),(4,_),(3,_),(2,_),(0,_)]) ⟨rfl,rfl,rfl,rfl,rfl,trivial⟩<|ag<| ?_
 refine bC (X' :=nG g s::_) (fun w m=>(m.perm (au [0,0] _ [_,_] _ rfl)).pack) ?_
 refine cG rfl (fun hne=> ?_) (fun hne=> ?_)
 ·have hj:j<iO s.n:=by
   rcases Nat.lt_or_eq_of_le hjz with h|h
   ·exact h
   ·rw[←h]at hzp;omega
  refine aB<|ag<|aK<|aj<|hy (fun _=>aa rfl)<| ?_
  refine hx (b6 Tryz.underlying27 fk rfl rfl rfl (by simp[Value.cells,B8]) (by decide) (by decide) (fun g23=> ?_))
  have hA_b23:0<1→(some (⟨g23,0,none⟩:Addr))≠none:=fun _ h=>by cases h
  refine aQ (fun w m=>m.bN 0 rfl (show _=aH 5 1 (.slice (some ⟨g23,0,none⟩) 1 1) 1 (aW [0])from rfl)) ?_
  refine hx (bx 2 rfl rfl rfl Tryz.underlying27 Tryz.underlying27 (by exact .inl rfl) fk rfl (fun m=>Src.bR (m.ord 0 rfl)) aY (by unfold maxLen;omega) (by omega) (fun u=> ?_))
  refine aA (fun m=>(m.own 0 rfl).slice) ?_
  rintro⟨A_b12,c_b12,rfl,hc_b12⟩
  refine aA (fun m=>(m.ord 0 rfl).2.1) fun hA_b12=> ?_
  refine hy (fun _=>ab rfl)<|ai<|al (ρ' :=[(4,_),(21,_),(3,_),(2,_),(0,_)]) ⟨rfl,rfl,rfl,rfl,rfl,trivial⟩<|ak (X' :=[_,_,_,_,_]) (S' :=[_]) (fun _ m=>m)<|aO<| ?_
  refine ak (fun w m=>m.bN 0 rfl (show _=aH 5 1 (.slice A_b12 (1+(j+1)) c_b12) (1+(j+1)) (aW (128::List.replicate (j+1) 0))from by rw[Nat.add_assoc,List.replicate_succ',aW,aW,aW,←List.map_append];rfl)) ?_
  refine fG (j+1) A_b12 c_b12 ⟨rfl,rfl,rfl,rfl,trivial⟩ [0,1,1,1] rfl [0] rfl (by omega) (by omega)
 ·have hj:j=iO s.n:=by
   refine Decidable.byContradiction fun hn=> ?_
   have:=hzm j (by omega)
   omega
  subst hj
  have hsl:IntKind.u64.wrap ((s.n:Int)*8)=((8*s.n:Nat):Int):=by
   rw[show(s.n:Int)*8=((8*s.n:Nat):Int) by omega]
   exact AF _ (by omega)
  refine bL<|ao<|ao<|aD<|ag<|ah<|aj<|hy (fun _=>aa rfl)<|hy (fun _=>ba rfl)<|hy (fun _=>aI rfl mG (by decide))<|hy (fun m=>aw rfl fZ ((show fi _ _ _ _ from m.Ha 0 rfl 0 rfl).ax 8 _ (xa hh)))<|hy (fun _=>bX rfl Tryz.underlying3 Tryz.underlying310 (AF s.n (by omega)))<|hy (fun _=>tG (p:=8) rfl rfl (by decide) (by decide) (by decide) hsl)<|hy (fun _=>ab rfl)<|ai<|al (ρ' :=[(5,_),(21,_),(4,_),(3,_),(2,_),(0,_)]) ⟨rfl,rfl,rfl,rfl,rfl,rfl,trivial⟩<|ag<|ah<|ah<|aj<|hy (fun _=>aa rfl)<|ai<|ag<|aK<| ?_
  generalize hz:iO s.n=z at hz64
  refine bC (fun w m=>m.bN 1 rfl (show _=aH 5 1 (.slice A1 (1+z+0) cc) (1+z+0) (aW (128::List.replicate z 0++(tb (8*s.n)).take 0))from by rw[List.take_zero,List.append_nil];rfl)) ?_
  refine fS (fun i A2 ce=>8-i) (fun i A2 ce=>[(4,.slice A2 (1+z+i) ce),(31,.int .i64 (i:Nat))]) (fun i A2 ce=>[aH 5 1 (.slice A2 (1+z+i) ce) (1+z+i) (aW (128::List.replicate z 0++(tb (8*s.n)).take i))]) (fun i A2 ce=>[]) (fun i A2 ce=>i≤8) 0 A1 cc [(5,_),(21,_),(3,_),(2,_),(0,_)] ⟨rfl,rfl,rfl,rfl,rfl,trivial⟩ [0] rfl [] rfl (Nat.zero_le _) ⟨rfl,rfl,trivial⟩ (fun i A2 ce hi8=> ?_)
  refine ah<|aj<|hy (fun _=>bw rfl rfl)<|ai<|ag<|ah<| ?_
  refine cG rfl (fun hi=> ?_) (fun hi=> ?_)
  ·have hcv:IntKind.u8.wrap (((8*s.n:Nat):Int)/((2 ^ (56-8*i):Nat):Int))=((UInt8.ofNat (8*s.n/256 ^ (7-i))).toNat:Int):=by
    rw[←Int.natCast_ediv,Ie (by omega)]
    exact ij _
   have hsb:(56:Int)-8*(i:Int)=((56-8*i:Nat):Int):=by omega
   refine aB<|ag<|ah<|aK<|ah<|aj<|hy (fun _=>aa rfl)<|hy (fun _=>ab rfl)<|ai<|al (ρ' :=[(6,_),(32,_),(4,_),(31,_),(5,_),(21,_),(3,_),(2,_),(0,_)]) ⟨rfl,rfl,rfl,rfl,rfl,rfl,rfl,rfl,rfl,trivial⟩<|ag<|aj<|hy (fun _=>aa rfl)<|hy (fun _=>aa rfl)<|hy (fun _=>aa rfl)<|hy (fun _=>fN rfl rfl (bF (by omega) (by omega)))<|hy (fun _=>cp rfl rfl (bF (by omega) (by omega)))<| ?_
   rw[hsb]
   refine hy (fun _=>oB rfl rfl (by omega) (by simp[IntKind.bits];omega) (show(2:Int) ^ (((56-8*i:Nat):Int)).toNat=((2 ^ (56-8*i):Nat):Int) by rw[Int.toNat_natCast];simp))<|hy (fun _=>bX rfl Tryz.underlying310 Tryz.underlying5 hcv)<| ?_
   refine hx (b6 Tryz.underlying27 fk rfl rfl rfl (by simp[Value.cells,B8]) (by decide) (by decide) (fun g41=> ?_))
   have hA_b41:0<1→(some (⟨g41,0,none⟩:Addr))≠none:=fun _ h=>by cases h
   refine aQ (fun w m=>m.bN 0 rfl (show _=aH 5 1 (.slice (some ⟨g41,0,none⟩) 1 1) 1 (aW [UInt8.ofNat (8*s.n/256 ^ (7-i))])from rfl)) ?_
   refine hx (bx 1 rfl rfl rfl Tryz.underlying27 Tryz.underlying27 (by exact .inl rfl) fk rfl (fun m=>Src.bR (m.ord 0 rfl)) aY (by unfold maxLen;omega) (by omega) (fun u=> ?_))
   refine aA (fun m=>(m.own 0 rfl).slice) ?_
   rintro⟨A_b12,c_b12,rfl,hc_b12⟩
   refine aA (fun m=>(m.ord 0 rfl).2.1) fun hA_b12=> ?_
   refine hy (fun _=>ab rfl)<|ai<|al (ρ' :=[(4,_),(6,_),(32,_),(31,_),(5,_),(21,_),(3,_),(2,_),(0,_)]) ⟨rfl,rfl,rfl,rfl,rfl,rfl,rfl,rfl,rfl,trivial⟩<|ak (X' :=[_,_,_,_,_]) (S' :=[_]) (fun _ m=>m)<|aO<|ag<|aj<|hy (fun _=>aN rfl rfl (bF (by omega) (by omega)))<|hy (fun _=>aa rfl)<|ai<|al (ρ' :=[(31,_),(4,_),(6,_),(32,_),(5,_),(21,_),(3,_),(2,_),(0,_)]) ⟨rfl,rfl,rfl,rfl,rfl,rfl,rfl,rfl,rfl,trivial⟩<| ?_
   refine ak (fun w m=>m.bN 0 rfl (show _=aH 5 1 (.slice A_b12 (1+z+(i+1)) c_b12) (1+z+(i+1)) (aW (128::List.replicate z 0++(tb (8*s.n)).take (i+1)))from by rw[Af (by omega),←List.append_assoc];simp[aW,Nat.add_assoc])) ?_
   refine fG (i+1) A_b12 c_b12 ⟨rfl,rfl,rfl,rfl,rfl,rfl,rfl,trivial⟩ [0,1,1,1] rfl [0] rfl (by omega) (by omega)
  ·obtain rfl:i=8:=by omega
   have hpad:all++(128::List.replicate z 0++(tb (8*s.n)).take 8)=jx all:=by
    rw[List.take_of_length_le (by simp[tb]),jx,←hsn,hz,List.append_assoc]
   refine bL<|ao<|ao<|aD<|ag<|ah<|aj<|hy (fun _=>aa rfl)<|hy (fun _=>aa rfl)<| ?_
   refine hx (cI rfl Tryz.call173 (wu (by rw[c1];exact hh) (by rw[c2];omega) (by rw[c3];omega) (s:=s2) (l:=(128::List.replicate z 0++(tb (8*s.n)).take 8))) [2] rfl (.x 0 rfl .own (.s 0 rfl .nil)) ?_)
   rintro _ _ _ ⟨s1,rfl,rfl,rfl,hw⟩
   refine⟨rfl, ?_⟩
   obtain⟨hw1,hw2⟩:=hw
   have ok2:s2.ok all:=⟨by rw[c1];exact hh,by rw[c2];exact hsn,by rw[c1,c3];exact ok.HF⟩
   have ok3:=hw2 all ok2
   rw[hpad]at ok3
   have hh3:=ok3.len
   have hfin:s1.h=fI mC (jx all):=by
    obtain⟨D,e1,e2,e3⟩:=ok3.HF
    have hl:=congrArg List.length e1
    rw[List.length_append]at hl
    have hp:=oK all
    have:s1.rest=[]:=List.eq_nil_of_length_eq_zero (by omega)
    rw[this,List.append_nil]at e1
    rw[e3,e1]
   have hsha:eU s1.h=bn all:=by rw[hfin];rfl
   have hd32:=pU s1.h
   have hl3:=kC (n:=s1.n) (A:=s1.A) (m:=s1.rest.length) (c:=s1.c) hh3
   refine aQ (fun w m=>(m.perm (au [0] _ [_] _ rfl)).unpack) ?_
   refine ai<|al (ρ' :=[(32,_),(4,_),(31,_),(5,_),(21,_),(3,_),(2,_),(0,_)]) ⟨rfl,rfl,rfl,rfl,rfl,rfl,rfl,rfl,trivial⟩<|ak (X' :=[_,_,_,_,_]) (S' :=[_]) (fun _ m=>m)<|ag<|ah<|aj<| ?_
   refine hx (aM cP (fun g7=> ?_))
   refine aQ (fun w m=>m.bN 0 rfl (show _=aL g7 53 (aW (eU (s1.h.take 0)++List.replicate (32-4*0) 0))from rfl)) ?_
   refine ai<|ak (X' :=[_,_,_,_,_,_]) (S' :=[_]) (fun _ m=>m)<|ag<|ah<|ah<|aj<|hy (fun _=>aa rfl)<|hy (fun _=>ba rfl)<|hy (fun _=>aI rfl o6 (by decide))<|hy (fun m=>yV (aU rfl rr lZ (by rw[bB,hh3]) (fun j u hu=>(m.aZ 1 rfl).ax j u (Aq hu))) ((rfl:_=Value.agg (ez s1.h).toArray)))<|hy (fun _=>aa rfl)<|ai<|al (ρ' :=[(51,_),(50,_),(7,_),(32,_),(4,_),(31,_),(5,_),(21,_),(3,_),(2,_),(0,_)]) ⟨rfl,rfl,rfl,rfl,rfl,rfl,rfl,rfl,rfl,rfl,rfl,trivial⟩<|ag<|aK<| ?_
   refine dH (fun k=>8-k) (fun k=>[(51,.int .i64 (k:Nat))]) (fun k=>[aL g7 53 (aW (eU (s1.h.take k)++List.replicate (32-4*k) 0))]) (fun k=>[]) (fun k=>k≤8) 0 [(50,_),(7,_),(32,_),(4,_),(31,_),(5,_),(21,_),(3,_),(2,_),(0,_)] ⟨rfl,rfl,rfl,rfl,rfl,rfl,rfl,rfl,rfl,rfl,trivial⟩ [0] rfl [] rfl (Nat.zero_le _) ⟨rfl,trivial⟩ (fun k hk8=> ?_)
   refine ah<|aj<|hy (fun _=>bw rfl rfl)<|ai<|ag<|ah<| ?_
   refine cG rfl (fun hk=> ?_) (fun hk=> ?_)
   ·have hdk:=hd32 k (by omega)
    have hr4:List.replicate (32-4*k) (0:UInt8)=0::0::0::0::List.replicate (32-4*(k+1)) 0:=by
     rw[show 32-4*k=(32-4*(k+1))+4 by omega];rfl
    refine aB<|ag<|ah<|aK<|ah<|aj<|hy (fun _=>aa rfl)<|hy (fun _=>yV (Fk rfl rfl Tryz.underlying306 bQ bY rfl (by omega) (bp (by omega))) ((rfl:_=Wd (s1.h.getD k 0))))<|hy (fun _=>ab rfl)<|hy (fun _=>ab rfl)<|ai<|al (ρ' :=[(9,_),(8,_),(52,_),(51,_),(50,_),(7,_),(32,_),(4,_),(31,_),(5,_),(21,_),(3,_),(2,_),(0,_)]) ⟨rfl,rfl,rfl,rfl,rfl,rfl,rfl,rfl,rfl,rfl,rfl,rfl,rfl,rfl,trivial⟩<|ag<|aj<|hy (fun _=>aa rfl)<|hy (fun _=>fN rfl rfl (bF (by omega) (by omega)))<|hy (fun _=>aa rfl)<|hy (fun _=>fN rfl rfl (bF (by omega) (by omega)))<|hy (fun _=>aN rfl rfl (bF (by omega) (by omega)))<|hy (fun _=>aa rfl)<|hy (fun _=>fN rfl rfl (bF (by omega) (by omega)))<|hy (fun _=>aN rfl rfl (bF (by omega) (by omega)))<|hy (fun _=>aa rfl)<|hy (fun _=>fN rfl rfl (bF (by omega) (by omega)))<|hy (fun _=>aN rfl rfl (bF (by omega) (by omega)))<|hy (fun _=>aa rfl)<|hy (fun _=>m8 (k:=24) (b:=16777216) (by decide) rfl rfl rfl)<|hy (fun _=>zc rfl Tryz.underlying166 Tryz.underlying5)<|hy (fun _=>aa rfl)<|hy (fun _=>m8 (k:=16) (b:=65536) (by decide) rfl rfl rfl)<|hy (fun _=>zc rfl Tryz.underlying166 Tryz.underlying5)<|hy (fun _=>aa rfl)<|hy (fun _=>m8 (k:=8) (b:=256) (by decide) rfl rfl rfl)<|hy (fun _=>zc rfl Tryz.underlying166 Tryz.underlying5)<|hy (fun _=>aa rfl)<|hy (fun _=>zc rfl Tryz.underlying166 Tryz.underlying5)<|hy (fun _=>bZ rfl rfl Tryz.underlying53 dZ (show((4*k:Nat):Int)=_ by omega) (by omega))<| ?_
    refine cH (ct 0 rfl rfl rfl dZ rfl (by simp[aW];omega) ?_)
    refine hy (fun _=>bZ rfl rfl Tryz.underlying53 dZ (show((4*k+1:Nat):Int)=_ by omega) (by omega))<| ?_
    refine cH (ct 0 rfl rfl rfl dZ rfl (by simp[aW];omega) ?_)
    refine hy (fun _=>bZ rfl rfl Tryz.underlying53 dZ (show((4*k+2:Nat):Int)=_ by omega) (by omega))<| ?_
    refine cH (ct 0 rfl rfl rfl dZ rfl (by simp[aW];omega) ?_)
    refine hy (fun _=>bZ rfl rfl Tryz.underlying53 dZ (show((4*k+3:Nat):Int)=_ by omega) (by omega))<| ?_
    refine cH (ct 0 rfl rfl rfl dZ rfl (by simp[aW];omega) ?_)
    refine ai<|al (ρ' :=[(9,_),(8,_),(52,_),(51,_),(50,_),(7,_),(32,_),(4,_),(31,_),(5,_),(21,_),(3,_),(2,_),(0,_)]) ⟨rfl,rfl,rfl,rfl,rfl,rfl,rfl,rfl,rfl,rfl,rfl,rfl,rfl,rfl,trivial⟩<|ak (X' :=[_,_,_,_,_,_]) (S' :=[_]) (fun _ m=>m)<|aO<|ag<|aj<|hy (fun _=>aN rfl rfl (bF (by omega) (by omega)))<|hy (fun _=>aa rfl)<|ai<|al (ρ' :=[(51,_),(9,_),(8,_),(52,_),(50,_),(7,_),(32,_),(4,_),(31,_),(5,_),(21,_),(3,_),(2,_),(0,_)]) ⟨rfl,rfl,rfl,rfl,rfl,rfl,rfl,rfl,rfl,rfl,rfl,rfl,rfl,rfl,trivial⟩<| ?_
    refine ak (fun w m=>m.bN 0 rfl (show _=aL g7 53 (aW (eU (s1.h.take (k+1))++List.replicate (32-4*(k+1)) 0))from by rw[hr4,Nat.zero_add,Nat.zero_add,Nat.zero_add,Nat.zero_add,HG hdk,xz _ _ (by omega)];simp[By])) ?_
    refine cX (k+1) ⟨rfl,rfl,rfl,rfl,rfl,rfl,rfl,rfl,rfl,rfl,rfl,trivial⟩ [0,0,0,0,0,0] rfl [0] rfl (by omega) (by omega)
   ·obtain rfl:k=8:=by omega
    refine bC (fun w m=>m.bN 0 rfl (show _=aL g7 53 (aW (bn all))from by rw[List.take_of_length_le (by omega),hsha];simp)) ?_
    refine bL<|ao<|ao<|aD<|ag<|ah<|aj<|hy (fun m=>yV (aU rfl b9 bg (by rw[az,br]) ((m.aZ 0 rfl).ax)) ((rfl:_=Value.agg (aW (bn all)).toArray)))<| ?_
    refine cH (aJ 5 rfl rfl rfl bg (by rw[az,br]) aY rfl ?_)
    refine ai<|al (ρ' :=[(52,_),(51,_),(50,_),(7,_),(32,_),(4,_),(31,_),(5,_),(21,_),(3,_),(2,_),(0,_)]) ⟨rfl,rfl,rfl,rfl,rfl,rfl,rfl,rfl,rfl,rfl,rfl,rfl,trivial⟩<|ak (X' :=[_,_,_,_,_,_]) (S' :=[_]) (fun _ m=>m)<|ag<|aX<| ?_
    exact fw trivial rfl rfl b9 bg (by rw[az,br]) (fun m=>(m.aZ 0 rfl).ax) [5] rfl [] rfl ⟨rfl,rfl,rfl⟩
theorem wy{A:Option Addr}{n c:Nat}{l:List UInt8}(hn:n≤140737488351232):cf Tryz.prog 102 [.slice A n c] [] [di 1 A n (aW l),ey] (fun v_ X_ S_=>v_=(.agg (aW (bn l)).toArray)∧X_=[]∧S_=[]):=by
 refine aP (N:=10) Tryz.func102 rfl rfl (by simp) fun b=> ?_
 refine a6 (fun m=>ig (m.rd 0 rfl)) ?_
 rintro⟨hl_r,hA_r⟩
 have hln:l.length=n:=hl_r
 refine ah<|aj<| ?_
 refine hx (aM cP (fun g2=> ?_))
 refine ai<|ak (X' :=[_]) (S' :=[_,_]) (fun _ m=>m)<|ag<|ah<|aj<| ?_
 refine hx (aq rfl Tryz.call172 (Gv) [] rfl [] rfl ?_)
 rintro _ _ _ ⟨g,rfl,rfl,rfl⟩
 refine hy (fun _=>ab rfl)<|ai<|al (ρ' :=[(3,_),(2,_),(0,_)]) ⟨rfl,rfl,rfl,trivial⟩<|ak (X' :=[_,_]) (S' :=[_,_]) (fun _ m=>m)<|ag<|ah<|aj<|hy (fun _=>aa rfl)<|hy (fun _=>aa rfl)<| ?_
 refine hx (aq rfl Tryz.call173 (wu rfl (by show 0+n≤_;omega) (by show 0+n≤_;omega) (s:=⟨mC,0,none,0,[]⟩)) [0] rfl [0,1] rfl ?_)
 rintro _ _ _ ⟨s1,rfl,rfl,rfl,hw⟩
 refine ai<|al (ρ' :=[(3,_),(2,_),(0,_)]) ⟨rfl,rfl,rfl,trivial⟩<|ak (X' :=[_,_]) (S' :=[_,_]) (fun _ m=>m)<|ag<|ah<|aj<| ?_
 obtain⟨hw1,hw2⟩:=hw
 have ok1:=hw2 [] Fj
 rw[List.nil_append]at ok1
 refine hy (fun _=>aa rfl)<| ?_
 refine hx (aq rfl Tryz.call174 (GU ok1 hw1 (by omega) (all:=l)) [0] rfl [1] rfl ?_)
 rintro _ _ _ ⟨rfl,rfl,rfl⟩
 refine cH (aJ 1 rfl rfl rfl bg (by rw[az,br]) aY rfl ?_)
 refine ai<|al (ρ' :=[(3,_),(2,_),(0,_)]) ⟨rfl,rfl,rfl,trivial⟩<|ak (X' :=[_,_]) (S' :=[_,_]) (fun _ m=>m)<|ag<|aX<| ?_
 exact fw trivial rfl rfl b9 bg (by rw[az,br]) (fun m=>(m.aZ 0 rfl).ax) [] rfl [] rfl ⟨rfl,rfl,rfl⟩
end Go.Proofs.YtmibdabdlgmafaaGreatDoor
end
section
set_option maxRecDepth 20000
set_option maxHeartbeats 4000000
namespace Go.Proofs.YtmibdabdlgmafaaGreatDoor
open Go.Eng Go.Hx
theorem Gi{g:Nat}{st:cF}{d:RD}{kk:Nat}{nm:List UInt8}(hD:DS st d kk)(hm:nm.length=32):cf Tryz.prog 73 [.pointer (some ⟨g,0,none⟩),.agg (aW nm).toArray] [bk g st] [ey] (fun v_ X_ S_=>∃v,v_=(.tuple #[v,.int .i64 (d.eH nm)])∧X_=[bk g st,aH 5 1 v (d.qu nm).length (aW (d.qu nm))]∧S_=[]):=by
 have hlen:=hD.vo (aG nm)
 have hol:=rj (f:=d.cC (aG nm)) (most:=4096) (by decide)
 refine aP (N:=33) Tryz.func73 rfl rfl (by simp) fun b=> ?_
 refine ah<|aj<| ?_
 refine hx (cw rfl (fun g3=> ?_))
 refine aQ (fun w m=>m.bN 0 rfl (show _=aL g3 53 (aW nm)from congrArg (aL _ _) (bu _))) ?_
 refine hy (fun _=>ab rfl)<|hy (fun _=>ab rfl)<|ai<|ak (X' :=[_,_]) (S' :=[_]) (fun _ m=>m)<|ag<|ah<|aj<|hy (fun _=>aa rfl)<|hy (fun m=>aU rfl b9 bg (by rw[az];exact hm) ((m.aZ 0 rfl).ax))<| ?_
 refine hx (aq rfl Tryz.call94 (sD hm) [] rfl [] rfl ?_)
 rintro _ _ _ ⟨rfl,rfl,rfl⟩
 refine hx (aq rfl Tryz.call90 (Fe hD) [1] rfl [] rfl ?_)
 rintro _ _ _ ⟨v,rfl,rfl,rfl⟩
 refine aA (fun m=>(m.own 1 rfl).slice) ?_
 rintro⟨A_x,c_x,rfl,hc_x⟩
 refine aA (fun m=>(m.ord 1 rfl).2.1) fun hA_x=> ?_
 refine hy (fun _=>aa rfl)<|hy (fun _=>ar rfl rfl)<|hy (fun _=>ar rfl rfl)<|hy (fun _=>ab rfl)<|hy (fun _=>ab rfl)<|ai<|al (ρ' :=[(7,_),(6,_),(5,_),(4,_),(3,_),(0,_),(1,_)]) ⟨rfl,rfl,rfl,rfl,rfl,rfl,rfl,trivial⟩<|ak (X' :=[_,_,_]) (S' :=[_]) (fun _ m=>m)<|ag<|ah<|ah<|aj<|hy (fun _=>aa rfl)<|hy (fun _=>cW rfl rfl)<|ai<|al (ρ' :=[(17,_),(7,_),(6,_),(5,_),(4,_),(3,_),(0,_),(1,_)]) ⟨rfl,rfl,rfl,rfl,rfl,rfl,rfl,rfl,trivial⟩<|ag<| ?_
 refine cG rfl (fun h1=> ?_) (fun h1=> ?_)
 ·rw[j1 h1,lF (by rw[j1 h1];exact h1)]
  refine ah<|aj<|hy (fun _=>aa rfl)<|hy (fun _=>ab rfl)<|hy (fun _=>ab rfl)<|ai<|al (ρ' :=[(5,_),(4,_),(17,_),(7,_),(6,_),(3,_),(0,_),(1,_)]) ⟨rfl,rfl,rfl,rfl,rfl,rfl,rfl,rfl,trivial⟩<|ag<|aX<|ay<| ?_
  refine ak (fun w m=>m.dj (r' :=aH 5 1 (.slice none 0 0) 0 []) (.refl _ _) (Own.nil _ _ _ _) (fun k hk=>hk.elim)) ?_
  exact dy trivial rfl rfl rfl [1,0] rfl [] rfl ⟨_,rfl,rfl,rfl⟩
 ·have h1:=Decidable.not_not.1 h1
  refine aB<|ag<|ah<|aj<|hy (fun _=>aa rfl)<| ?_
  refine hx (cI rfl Tryz.call155 (GW hc_x (by omega) (show(4096:Int)≤1000000 by decide)) [] rfl (.x 1 rfl .own .nil) ?_)
  rintro _ _ _ ⟨v2,rfl,rfl,rfl⟩
  refine⟨rfl, ?_⟩
  refine aA (fun m=>(m.own 0 rfl).slice) ?_
  rintro⟨A_x2,c_x2,rfl,hc_x2⟩
  refine aA (fun m=>(m.ord 0 rfl).2.1) fun hA_x2=> ?_
  refine hy (fun _=>aa rfl)<|hy (fun _=>ar rfl rfl)<|hy (fun _=>ar rfl rfl)<|hy (fun _=>ab rfl)<|hy (fun _=>ab rfl)<|ai<|al (ρ' :=[(7,_),(8,_),(17,_),(6,_),(5,_),(4,_),(3,_),(0,_),(1,_)]) ⟨rfl,rfl,rfl,rfl,rfl,rfl,rfl,rfl,rfl,trivial⟩<|ak (X' :=[_,_,_,_]) (S' :=[_]) (fun _ m=>m)<|ag<|ah<|ah<|cT [4] [(0,some 0),(1,some 0),(2,some 0),(3,some 0),(5,some 1),(4,none),(6,some 1),(7,some 1)] (by kernel_rfl) (by kernel_rfl) rfl 99<|an (aa rfl)<|an (cW rfl rfl)<|an (aa rfl)<| ?_
  refine iy 26 rfl (fun h2=> ?_) (fun h2=> ?_)
  ·have hE:=nt (d:=d) (nm:=nm) h1 (.inl h2)
   rw[hE,lF (by rw[hE];decide)]
   refine aR rfl rfl rfl (by decide)<|aR rfl rfl rfl (by decide)<|wO rfl rfl rfl (by decide) (fun _=>wk [0,0,0,0] [0] rfl rfl)<|aR rfl rfl rfl (by decide)<|an (bT rfl rfl)<|bz<|al (ρ' :=[(31,_),(7,_),(8,_),(17,_),(6,_),(5,_),(4,_),(3,_),(0,_),(1,_)]) ⟨rfl,rfl,rfl,rfl,rfl,rfl,rfl,rfl,rfl,rfl,trivial⟩<|ag<| ?_
   refine gY rfl (rfl) ?_
   refine ah<|aj<|hy (fun _=>ab rfl)<|hy (fun _=>ab rfl)<|ai<|ag<|aX<|ay<| ?_
   refine ak (fun w m=>m.dj (r' :=aH 5 1 (.slice none 0 0) 0 []) (.refl _ _) (Own.nil _ _ _ _) (fun k hk=>hk.elim)) ?_
   exact dy trivial rfl rfl rfl [2,0] rfl [] rfl ⟨_,rfl,rfl,rfl⟩
  ·have h2:=Decidable.not_not.1 h2
   refine bm (o:=_) rfl rfl rfl (aa rfl)<|iV (o:=_) rfl rfl rfl (fun m=>aU rfl b9 bg (by rw[az];exact hm) ((m.aZ 3 rfl).ax))<| ?_
   refine s6 (o:=_) rfl rfl rfl (cI rfl Tryz.call102 (wy (by omega)) [] rfl (.x 0 rfl .own (.s 0 rfl .nil)) ?_)
   rintro _ _ _ ⟨rfl,rfl,rfl⟩
   refine⟨rfl, ?_⟩
   refine⟨(fun _=>wk [0,0,0,0] [0] rfl rfl), ?_⟩
   refine bm (o:=_) rfl rfl rfl (o1 rfl rfl (br _) hm)<|an (bD rfl rfl)<|bz<|al (ρ' :=[(31,_),(7,_),(8,_),(17,_),(6,_),(5,_),(4,_),(3,_),(0,_),(1,_)]) ⟨rfl,rfl,rfl,rfl,rfl,rfl,rfl,rfl,rfl,rfl,trivial⟩<|ak (X' :=[_,_,_,_]) (S' :=[_]) (fun _ m=>m)<|ag<| ?_
   refine cG rfl (fun h3=> ?_) (fun h3=> ?_)
   ·have hE:=nt (d:=d) (nm:=nm) h1 (.inr h3)
    rw[hE,lF (by rw[hE];decide)]
    refine ah<|aj<|hy (fun _=>ab rfl)<|hy (fun _=>ab rfl)<|ai<|ag<|aX<|ay<| ?_
    refine ak (fun w m=>m.dj (r' :=aH 5 1 (.slice none 0 0) 0 []) (.refl _ _) (Own.nil _ _ _ _) (fun k hk=>hk.elim)) ?_
    exact dy trivial rfl rfl rfl [2,0] rfl [] rfl ⟨_,rfl,rfl,rfl⟩
   ·have hE:=sP (d:=d) (nm:=nm) h1 (fun q=>q.elim (fun q=>q h2) h3)
    rw[hE,sF hE]
    refine aB<|ag<|ah<|aj<|hy (fun _=>aa rfl)<|hy (fun _=>ab rfl)<|hy (fun _=>ab rfl)<|ai<|al (ρ' :=[(5,_),(4,_),(31,_),(7,_),(8,_),(17,_),(6,_),(3,_),(0,_),(1,_)]) ⟨rfl,rfl,rfl,rfl,rfl,rfl,rfl,rfl,rfl,rfl,trivial⟩<|ag<|aX<| ?_
    exact dy trivial rfl rfl rfl [1,0] rfl [] rfl ⟨_,rfl,rfl,rfl⟩
theorem Fi{g:Nat}{st:cF}{d:RD}{kk:Nat}{nm:List UInt8}(hD:DS st d kk)(hm:nm.length=32):cf Tryz.prog 145 [.pointer (some ⟨g,0,none⟩),.agg (aW nm).toArray] [bk g st] [ey] (fun v_ X_ S_=>v_=(.bool (decide (d.eH nm=0)))∧X_=[bk g st]∧S_=[]):=by
 refine aP (N:=15) Tryz.func145 rfl rfl (by simp) fun b=> ?_
 refine ah<|aj<| ?_
 refine hx (cw rfl (fun g3=> ?_))
 refine aQ (fun w m=>m.bN 0 rfl (show _=aL g3 53 (aW nm)from congrArg (aL _ _) (bu _))) ?_
 refine hy (fun _=>ab rfl)<|ai<|ak (X' :=[_,_]) (S' :=[_]) (fun _ m=>m)<|ag<|ah<|aj<|hy (fun _=>aa rfl)<|hy (fun m=>aU rfl b9 bg (by rw[az];exact hm) ((m.aZ 0 rfl).ax))<| ?_
 refine hx (aq rfl Tryz.call73 (Gi hD hm) [1] rfl [0] rfl ?_)
 rintro _ _ _ ⟨v,rfl,rfl,rfl⟩
 refine aA (fun m=>(m.own 1 rfl).slice) ?_
 rintro⟨A_x,c_x,rfl,hc_x⟩
 refine aA (fun m=>(m.ord 1 rfl).2.1) fun hA_x=> ?_
 refine hy (fun _=>aa rfl)<|hy (fun _=>ar rfl rfl)<|hy (fun _=>ar rfl rfl)<|hy (fun _=>ab rfl)<|hy (fun _=>ab rfl)<|ai<|al (ρ' :=[(6,_),(4,_),(3,_),(0,_),(1,_)]) ⟨rfl,rfl,rfl,rfl,rfl,trivial⟩<|ak (X' :=[_,_,_]) (S' :=[_]) (fun _ m=>m)<|ag<|ah<|aj<|hy (fun _=>aa rfl)<|hy (fun _=>cM rfl rfl)<|hy (fun _=>ab rfl)<|ai<|al (ρ' :=[(4,_),(6,_),(3,_),(0,_),(1,_)]) ⟨rfl,rfl,rfl,rfl,rfl,trivial⟩<|ag<|aX<| ?_
 exact bh trivial rfl rfl [0] rfl [] rfl ⟨rfl,rfl,rfl⟩
end Go.Proofs.YtmibdabdlgmafaaGreatDoor
end
section
set_option maxRecDepth 20000
set_option maxHeartbeats 4000000
namespace Go.Proofs.YtmibdabdlgmafaaGreatDoor
open Go.Eng Go.Hx
theorem F9:dz Tryz.prog 179=some false:=by kernel_rfl
theorem GZ:fy Tryz.prog 179=some 1:=by kernel_rfl
theorem FJ:TI Tryz.prog 179 .nilFunc 1 8:=by unfold TI;kernel_rfl
def tF(g:Nat)(L:List bq)(v:Value)(F:RD→RD×Int):Prop:=∃(f:Nat) (first cap:List Value),v= .func (.func f) first.toArray cap.toArray∧(∀args w,(callFunc f args).run Tryz.prog w= .ok (.enter f args) w)∧
 ∀(st:cF) (d:RD) (kk:Nat),DS st d kk→kk≤99000→cf Tryz.prog f (first++[]++cap) [bk g st] [oW L] (fun v_ X_ S_=>∃st1,v_= .int .i64 (F d).2∧X_=[bk g st1]∧S_=[]∧DS st1 (F d).1 (kk+1))
theorem Hq{g:Nat}{st:cF}{d:RD}{kk:Nat}{A:Option Addr}{n c:Nat}{fs:List Value}{Fs:List (RD→RD×Int)}{L:List bq}(hD:DS st d kk)(hkk:kk+n≤99000)(hn:n≤100000)(hF:Fs.length=n)(hfs:∀(i:Nat) (F:RD→RD×Int),Fs[i]? =some F→∃v,fs[i]? =some v∧tF g L v F):cf Tryz.prog 109 [.slice A n c] [bk g st] [di 1 A n fs,oW L] (fun v_ X_ S_=>∃st1,v_=(.int .i64 (cr Fs d).2)∧X_=[bk g st1]∧S_=[]∧(DS st1 (cr Fs d).1 (kk+n))):=by
 obtain⟨d0,hd0⟩:∃d0,d0=cr Fs d:=⟨_,rfl⟩
 rw[←hd0]
 refine aP (N:=18) Tryz.func109 rfl rfl (by simp) fun b=> ?_
 refine a6 (fun m=>gX (m.rd 0 rfl)) ?_
 rintro⟨hl_f,hA_f⟩
 refine ah<|aj<|hy (fun _=>ab rfl)<|ai<|ag<|ah<|ah<|aj<|hy (fun _=>aa rfl)<|hy (fun _=>aT rfl Tryz.underlying239)<|hy (fun _=>aa rfl)<|ai<|ag<|aK<| ?_
 refine fS (fun k st d=>n-k) (fun k st d=>[(8,.int .i64 (k:Nat))]) (fun k st d=>[bk g st]) (fun k st d=>[]) (fun k st d=>k≤n∧DS st d (kk+k)∧cr (Fs.drop k) d=d0) 0 st d [(7,_),(6,_),(0,_)] ⟨rfl,rfl,rfl,trivial⟩ [0] rfl [] rfl (⟨Nat.zero_le _,hD,hd0.symm⟩) ⟨rfl,trivial⟩ (fun k st d ⟨hk,hD,hR⟩=> ?_)
 refine ah<|aj<|hy (fun _=>bw rfl rfl)<|ai<|ag<|ah<| ?_
 refine cG rfl (fun hlt=> ?_) (fun hlt=> ?_)
 ·obtain⟨F,hFk⟩:∃F,Fs[k]? =some F:=⟨_,List.getElem?_eq_getElem (by omega)⟩
  obtain⟨v,hv,f,first,cap,rfl,hcall,hcon⟩:=hfs k F hFk
  have hdr:Fs.drop k=F::Fs.drop (k+1):=by
   have hlt2:k<Fs.length:=by omega
   rw[List.drop_eq_getElem_cons hlt2]
   congr 1
   exact Option.some.inj ((List.getElem?_eq_getElem hlt2).symm.trans hFk)
  rw[hdr]at hR
  refine aB<|ag<|ah<|aK<|ah<|aj<|hy (fun _=>aS rfl rfl Tryz.underlying239 GZ hA_f rfl (by omega))<|hy (fun m=>aw rfl F9 ((m.rd 0 rfl).cell hv))<|hy (fun _=>ab rfl)<|ai<|al (ρ' :=[(4,_),(9,_),(8,_),(7,_),(6,_),(0,_)]) ⟨rfl,rfl,rfl,rfl,rfl,rfl,trivial⟩<|ag<|ah<|aj<|hy (fun _=>aa rfl)<| ?_
  refine hx (kX rfl rfl hcall (hcon st d (kk+k) hD (by omega)) [0] rfl [1] rfl ?_)
  rintro _ _ _ ⟨st1,rfl,rfl,rfl,hD1⟩
  refine hy (fun _=>ab rfl)<|ai<|al (ρ' :=[(5,_),(4,_),(9,_),(8,_),(7,_),(6,_),(0,_)]) ⟨rfl,rfl,rfl,rfl,rfl,rfl,rfl,trivial⟩<|ak (X' :=[_]) (S' :=[_,_]) (fun _ m=>m)<|ag<|ah<|aj<|hy (fun _=>aa rfl)<|hy (fun _=>cW rfl rfl)<|ai<|al (ρ' :=[(15,_),(5,_),(4,_),(9,_),(8,_),(7,_),(6,_),(0,_)]) ⟨rfl,rfl,rfl,rfl,rfl,rfl,rfl,rfl,trivial⟩<|ag<| ?_
  refine cG rfl (fun he=> ?_) (fun he=> ?_)
  ·have e0:cr (F::Fs.drop (k+1)) d=F d:=if_pos he
   rw[e0]at hR
   rw[←hR]
   refine ah<|aj<|hy (fun _=>aa rfl)<|hy (fun _=>ab rfl)<|ai<|al (ρ' :=[(2,_),(15,_),(5,_),(4,_),(9,_),(8,_),(7,_),(6,_),(0,_)]) ⟨rfl,rfl,rfl,rfl,rfl,rfl,rfl,rfl,rfl,trivial⟩<|ag<|aX<|bf<|ay<|ay<|bf<|ay<| ?_
   exact bh trivial rfl rfl [0] rfl [] rfl ⟨st1,rfl,rfl,rfl,(hD1.le (by omega))⟩
  ·have e0:cr (F::Fs.drop (k+1)) d=cr (Fs.drop (k+1)) (F d).1:=if_neg he
   rw[e0]at hR
   refine aB<|aO<|ag<|aj<|hy (fun _=>aN rfl rfl (bF (by omega) (by omega)))<|hy (fun _=>aa rfl)<|ai<|al (ρ' :=[(8,_),(15,_),(5,_),(4,_),(9,_),(7,_),(6,_),(0,_)]) ⟨rfl,rfl,rfl,rfl,rfl,rfl,rfl,rfl,trivial⟩<| ?_
   refine fG (k+1) st1 (F d).1 ⟨rfl,rfl,rfl,rfl,trivial⟩ [0] rfl [0,1] rfl (⟨by omega,hD1,hR⟩) (by omega)
 ·obtain rfl:k=n:=by omega
  rw[List.drop_of_length_le (by omega)]at hR
  have hR:(d,0)=d0:=hR
  rw[←hR]
  refine bL<|ao<|ao<|aD<|ag<|ah<|aj<|hy (fun _=>ab rfl)<|ai<|ag<|aX<| ?_
  exact bh trivial rfl rfl [0] rfl [] rfl ⟨st,rfl,rfl,rfl,hD⟩
end Go.Proofs.YtmibdabdlgmafaaGreatDoor
end
section
set_option maxRecDepth 20000
set_option maxHeartbeats 4000000
namespace Go.Proofs.YtmibdabdlgmafaaGreatDoor
open Go.Eng Go.Hx
theorem G7{g g2 g9 g3:Nat}{st:cF}{d:RD}{kk:Nat}{p:List UInt8}{A:Option Addr}{n c:Nat}{bb:List UInt8}(hD:DS st d kk)(hkk:kk≤99000)(hc:n≤c)(hl:bb.length=n)(hn:n≤4096):cf Tryz.prog 105 [.pointer (some ⟨g2,0,none⟩),.pointer (some ⟨g9,0,none⟩),.pointer (some ⟨g3,0,none⟩)] [bk g st] [aL g2 35 [.pointer (some ⟨g,0,none⟩)],aL g9 9 [SV p],aL g3 27 [.slice A n c],di 1 A n (aW bb)] (fun v_ X_ S_=>∃st1,v_=(.int .i64 (d.bP p (bK bb)))∧X_=[bk g st1]∧S_=[]∧(DS st1 (d.write p (bK bb)) (kk+1))):=by
 have hsl:=lh bb
 refine aP (N:=9) Tryz.func105 rfl rfl (by simp) fun b=> ?_
 refine a6 (fun m=>ig (m.rd 3 rfl)) ?_
 rintro⟨hl_r,hA_r⟩
 refine ah<|aj<|hy (fun _=>ab rfl)<|ai<|ag<|ah<|cT [3,4] [(0,some 1),(1,some 1),(2,some 0),(3,none),(4,none),(5,some 2)] (by kernel_rfl) (by kernel_rfl) rfl 1<|cq (fun m=>aw rfl kv (aE (m.vP 0 rfl) (i:=0) rfl))<|cq (fun m=>aw rfl lz (aE (m.vP 1 rfl) (i:=0) rfl))<|cq (fun m=>aw rfl eh (aE (m.vP 2 rfl) (i:=0) rfl))<| ?_
 refine ek (aq rfl Tryz.call106 (Gn (by omega) (by omega) hl) [] rfl [3] rfl ?_)
 rintro _ _ _ ⟨v,rfl,rfl,rfl⟩
 refine⟨(fun _=>wk [1] [0,1,2,3] rfl rfl), ?_⟩
 refine cm (fun m=>(m.own 0 rfl).slice) ?_
 rintro⟨A_x,c_x,rfl,hc_x⟩
 refine cm (fun m=>(m.ord 0 rfl).2.1) fun hA_x=> ?_
 refine ek (cI rfl Tryz.call33 (wZ hD (by omega) rfl (by omega)) [1] rfl (.x 0 rfl .own .nil) ?_)
 rintro _ _ _ ⟨st1,rfl,rfl,rfl,hp⟩
 refine⟨rfl, ?_⟩
 refine⟨(fun h=>absurd h (by decide)), ?_⟩
 refine an (ab rfl)<|bz<|al (ρ' :=[(3,_),(0,_),(1,_),(2,_)]) ⟨rfl,rfl,rfl,rfl,trivial⟩<|ak (X' :=[_,_]) (S' :=[_,_,_,_]) (fun _ m=>m)<|ag<|aX<| ?_
 exact bh trivial rfl rfl [0] rfl [] rfl ⟨st1,rfl,rfl,rfl,hp⟩
theorem G6{g g2 g9 g6:Nat}{st:cF}{d:RD}{kk:Nat}{p nm:List UInt8}(hD:DS st d kk)(hkk:kk≤99000)(hm:nm.length=32):cf Tryz.prog 107 [.pointer (some ⟨g2,0,none⟩),.pointer (some ⟨g9,0,none⟩),.pointer (some ⟨g6,0,none⟩)] [bk g st] [aL g2 35 [.pointer (some ⟨g,0,none⟩)],aL g9 9 [SV p],aL g6 53 (aW nm)] (fun v_ X_ S_=>∃st1,v_=(.int .i64 (d.b7 p (aG nm)))∧X_=[bk g st1]∧S_=[]∧(DS st1 (d.rename p (aG nm)) (kk+1))):=by
 refine aP (N:=9) Tryz.func107 rfl rfl (by simp) fun b=> ?_
 refine ah<|aj<|hy (fun _=>ab rfl)<|ai<|ag<|ah<|cT [3,4] [(0,some 1),(1,some 1),(2,some 0),(3,none),(4,none),(5,some 2)] (by kernel_rfl) (by kernel_rfl) rfl 1<|cq (fun m=>aw rfl kv (aE (m.vP 0 rfl) (i:=0) rfl))<|cq (fun m=>aw rfl lz (aE (m.vP 1 rfl) (i:=0) rfl))<|cq (fun m=>aU rfl b9 bg (by rw[az];exact hm) ((m.vP 2 rfl).ax))<| ?_
 refine ek (aq rfl Tryz.call94 (sD hm) [] rfl [] rfl ?_)
 rintro _ _ _ ⟨rfl,rfl,rfl⟩
 refine⟨(fun _=>wk [0] [0,1,2] rfl rfl), ?_⟩
 refine ek (aq rfl Tryz.call108 (AQ hD (by omega) (a:=p) (c:=aG nm)) [0] rfl [] rfl ?_)
 rintro _ _ _ ⟨st1,rfl,rfl,rfl,hp⟩
 refine⟨(fun h=>absurd h (by decide)), ?_⟩
 refine an (ab rfl)<|bz<|al (ρ' :=[(3,_),(0,_),(1,_),(2,_)]) ⟨rfl,rfl,rfl,rfl,trivial⟩<|ak (X' :=[_]) (S' :=[_,_,_]) (fun _ m=>m)<|ag<|aX<| ?_
 exact bh trivial rfl rfl [0] rfl [] rfl ⟨st1,rfl,rfl,rfl,hp⟩
abbrev j7(g g2 g9 g3 g6:Nat)(A:Option Addr)(n c:Nat)(bb nm p:List UInt8):List bq:=[aL g2 35 [.pointer (some ⟨g,0,none⟩)],aL g9 9 [SV p],aL g3 27 [.slice A n c],aL g6 53 (aW nm),di 1 A n (aW bb)]
theorem vM{g g2 g9 g3 g6:Nat}{A:Option Addr}{n c:Nat}{bb nm p:List UInt8}(hc:n≤c)(hl:bb.length=n)(hn:n≤4096):
  tF g (j7 g g2 g9 g3 g6 A n c bb nm p) (.func (.func 105) #[] #[.pointer (some ⟨g2,0,none⟩),.pointer (some ⟨g9,0,none⟩),.pointer (some ⟨g3,0,none⟩)]) (sQ p (bK bb)):=
 ⟨105,[],[.pointer (some ⟨g2,0,none⟩),.pointer (some ⟨g9,0,none⟩),.pointer (some ⟨g3,0,none⟩)],rfl,Tryz.call105,fun st d kk hD hk=>cf.vB (G7 hD hk hc hl hn) (by
  intro s hs
  simp only[List.mem_cons,List.not_mem_nil,or_false]at hs
  rcases hs with rfl|rfl|rfl|rfl
  ·exact⟨_,List.mem_singleton.2 rfl,View.pS 0 rfl⟩
  ·exact⟨_,List.mem_singleton.2 rfl,View.pS 1 rfl⟩
  ·exact⟨_,List.mem_singleton.2 rfl,View.pS 2 rfl⟩
  ·exact⟨_,List.mem_singleton.2 rfl,View.pS 4 rfl⟩) (fun v X S h=>by
  obtain⟨st1,h1,h2,h3,h4⟩:=h
  exact⟨[],⟨st1,h1,h2,rfl,h4⟩,si.nil⟩)⟩
theorem xJ{g g2 g9 g3 g6:Nat}{A:Option Addr}{n c:Nat}{bb nm p:List UInt8}(hm:nm.length=32):
  tF g (j7 g g2 g9 g3 g6 A n c bb nm p) (.func (.func 107) #[] #[.pointer (some ⟨g2,0,none⟩),.pointer (some ⟨g9,0,none⟩),.pointer (some ⟨g6,0,none⟩)]) (r7 p (aG nm)):=
 ⟨107,[],[.pointer (some ⟨g2,0,none⟩),.pointer (some ⟨g9,0,none⟩),.pointer (some ⟨g6,0,none⟩)],rfl,Tryz.call107,fun st d kk hD hk=>cf.vB (G6 hD hk hm) (by
  intro s hs
  simp only[List.mem_cons,List.not_mem_nil,or_false]at hs
  rcases hs with rfl|rfl|rfl
  ·exact⟨_,List.mem_singleton.2 rfl,View.pS 0 rfl⟩
  ·exact⟨_,List.mem_singleton.2 rfl,View.pS 1 rfl⟩
  ·exact⟨_,List.mem_singleton.2 rfl,View.pS 3 rfl⟩) (fun v X S h=>by
  obtain⟨st1,h1,h2,h3,h4⟩:=h
  exact⟨[],⟨st1,h1,h2,rfl,h4⟩,si.nil⟩)⟩
theorem qZ{g:Nat}{L:List bq}:tF g L (.func (.func 110) #[.pointer (some ⟨g,0,none⟩)] #[]) cE:=
 ⟨110,[.pointer (some ⟨g,0,none⟩)],[],rfl,Tryz.call110,fun st d kk hD hk=>cf.vB (vz hD) (fun s hs=>by cases hs) (fun v X S h=>by
  obtain⟨st1,h1,h2,h3,h4⟩:=h
  exact⟨[],⟨st1,h1,h2,rfl,h4.le (by omega)⟩,si.nil⟩)⟩
theorem fu:ei.length=32:=List.length_replicate
theorem yd:(aW ei).length=32:=by rw[az,fu]
theorem w7{d:RD}{b:List UInt8}(h:4096<b.length):d.put b=(d,ei,3):=by unfold RD.put;rw[if_pos h]
theorem zB{d:RD}{b:List UInt8}(h:¬4096<b.length)(h6:d.eH (bn b)=6):d.put b=(d,ei,6):=by unfold RD.put;rw[if_neg h,if_pos h6]
theorem yr{d:RD}{b:List UInt8}(h:¬4096<b.length)(h6:d.eH (bn b)=0):d.put b=(d,bn b,0):=by unfold RD.put;rw[if_neg h,if_neg (by rw[h6];decide),if_pos h6]
theorem Dj{d:RD}{b:List UInt8}(h:¬4096<b.length)(h6:¬d.eH (bn b)=6)(h0:¬d.eH (bn b)=0):d.put b=((d.iY b).1,if(d.iY b).2=0 then bn b else ei,(d.iY b).2):=by unfold RD.put;rw[if_neg h,if_neg h6,if_neg h0]
abbrev zF(g g2 g9 g3 g6:Nat):List Value:=[.func (.func 105) #[] #[.pointer (some ⟨g2,0,none⟩),.pointer (some ⟨g9,0,none⟩),.pointer (some ⟨g3,0,none⟩)],.func (.func 110) #[.pointer (some ⟨g,0,none⟩)] #[],.func (.func 107) #[] #[.pointer (some ⟨g2,0,none⟩),.pointer (some ⟨g9,0,none⟩),.pointer (some ⟨g6,0,none⟩)],.func (.func 110) #[.pointer (some ⟨g,0,none⟩)] #[]]
abbrev wx(p b nm:List UInt8):List (RD→RD×Int):=[sQ p (bK b),cE,r7 p (aG nm),cE]
theorem xU{g g2 g9 g3 g6:Nat}{A:Option Addr}{n c:Nat}{bb nm p:List UInt8}(hc:n≤c)(hl:bb.length=n)(hn:n≤4096)(hm:nm.length=32):
  ∀(i:Nat) (F:RD→RD×Int),(wx p bb nm)[i]? =some F→∃v,(zF g g2 g9 g3 g6)[i]? =some v∧tF g (j7 g g2 g9 g3 g6 A n c bb nm p) v F:=by
 intro i F h
 match i with
 |0=>cases h;exact⟨_,rfl,vM hc hl hn⟩
 |1=>cases h;exact⟨_,rfl,qZ⟩
 |2=>cases h;exact⟨_,rfl,xJ hm⟩
 |3=>cases h;exact⟨_,rfl,qZ⟩
 |i+4=>cases h
theorem G3{g:Nat}{st:cF}{d:RD}{kk:Nat}{A:Option Addr}{n c:Nat}{bb:List UInt8}(hD:DS st d kk)(hkk:kk≤90000)(hc:n≤c)(hl:bb.length=n)(hn:n≤100000):cf Tryz.prog 28 [.pointer (some ⟨g,0,none⟩),.slice A n c] [bk g st] [di 1 A n (aW bb),ey] (fun v_ X_ S_=>∃st1,v_=(.tuple #[.agg (aW (d.put bb).2.1).toArray,.int .i64 (d.put bb).2.2])∧X_=[bk g st1]∧S_=[]∧(DS st1 (d.put bb).1 (kk+4))):=by
 have h32:(aW (bn bb)).length=32:=by rw[az,br]
 have hhl:(cd (bn bb)).length=64:=by rw[dS,br]
 refine aP (N:=53) Tryz.func28 rfl rfl (by simp) fun b=> ?_
 refine a6 (fun m=>ig (m.rd 0 rfl)) ?_
 rintro⟨hl_r,hA_r⟩
 refine ah<|aj<| ?_
 refine hx (cw rfl (fun g2=> ?_))
 refine aQ (fun w m=>m.bN 0 rfl (show _=aL g2 35 [.pointer (some ⟨g,0,none⟩)]from rfl)) ?_
 refine hx (cw rfl (fun g3=> ?_))
 refine aQ (fun w m=>m.bN 0 rfl (show _=aL g3 27 [.slice A n c]from rfl)) ?_
 refine hx (aM cP (fun g4=> ?_))
 refine hy (fun _=>ab rfl)<|ai<|ak (X' :=[_,_,_,_]) (S' :=[_,_]) (fun _ m=>m)<|ag<|ah<|ah<|aj<|hy (fun m=>aw rfl eh (aE (m.aZ 1 rfl) rfl))<|hy (fun _=>aT rfl Tryz.underlying27)<|hy (fun _=>dh rfl rfl)<|ai<|al (ρ' :=[(15,_),(5,_),(4,_),(3,_),(2,_),(0,_),(1,_)]) ⟨rfl,rfl,rfl,rfl,rfl,rfl,rfl,trivial⟩<|ag<| ?_
 refine cG rfl (fun h1=> ?_) (fun h1=> ?_)
 ·have hb:4096<bb.length:=by omega
  rw[w7 hb]
  refine ah<|aj<|hy (fun _=>yV (eA cP rfl (by kernel_rfl)) ((rfl:_=Value.agg (aW ei).toArray)))<| ?_
  refine cH (aJ 0 rfl rfl rfl bg yd aY rfl ?_)
  refine hy (fun _=>ab rfl)<|ai<|al (ρ' :=[(5,_),(15,_),(4,_),(3,_),(2,_),(0,_),(1,_)]) ⟨rfl,rfl,rfl,rfl,rfl,rfl,rfl,trivial⟩<|ak (X' :=[_,_,_,_]) (S' :=[_,_]) (fun _ m=>m)<|ag<|aX<|ay<| ?_
  exact dX trivial rfl rfl rfl b9 bg yd (fun m=>(m.aZ 0 rfl).ax) [3] rfl [] rfl ⟨st,rfl,rfl,rfl,(hD.le (by omega))⟩
 ·have hb:¬4096<bb.length:=by omega
  refine aB<|ag<|ah<|aj<|hy (fun m=>aw rfl eh (aE (m.aZ 1 rfl) rfl))<| ?_
  refine hx (aq rfl Tryz.call102 (wy (by omega)) [] rfl [0,1] rfl ?_)
  rintro _ _ _ ⟨rfl,rfl,rfl⟩
  refine hx (aM cP (fun g6=> ?_))
  refine cH (aJ 0 rfl rfl rfl bg h32 aY rfl ?_)
  refine ai<|al (ρ' :=[(6,_),(15,_),(5,_),(4,_),(3,_),(2,_),(0,_),(1,_)]) ⟨rfl,rfl,rfl,rfl,rfl,rfl,rfl,rfl,trivial⟩<|ak (X' :=[_,_,_,_,_]) (S' :=[_,_]) (fun _ m=>m)<|ag<|ah<|aj<|hy (fun m=>aw rfl kv (aE (m.aZ 3 rfl) rfl))<|hy (fun m=>aU rfl b9 bg h32 ((m.aZ 0 rfl).ax))<| ?_
  refine hx (aq rfl Tryz.call73 (Gi hD (br _)) [4] rfl [1] rfl ?_)
  rintro _ _ _ ⟨v,rfl,rfl,rfl⟩
  refine aA (fun m=>(m.own 1 rfl).slice) ?_
  rintro⟨A_x,c_x,rfl,hc_x⟩
  refine aA (fun m=>(m.ord 1 rfl).2.1) fun hA_x=> ?_
  refine hy (fun _=>aa rfl)<|hy (fun _=>ar rfl rfl)<|hy (fun _=>ar rfl rfl)<|hy (fun _=>ab rfl)<|hy (fun _=>ab rfl)<|ai<|al (ρ' :=[(8,_),(6,_),(15,_),(5,_),(4,_),(3,_),(2,_),(0,_),(1,_)]) ⟨rfl,rfl,rfl,rfl,rfl,rfl,rfl,rfl,rfl,trivial⟩<|ak (X' :=[_,_,_,_,_,_]) (S' :=[_,_]) (fun _ m=>m)<|ag<|ah<|ah<|aj<|hy (fun _=>aa rfl)<|hy (fun _=>kK rfl Tryz.underlying47 (fun _ h=>by cases h))<|hy (fun _=>kK rfl Tryz.underlying47 (fun _ h=>by cases h))<| ?_
  refine hx (aq rfl Tryz.call103 (D9) [] rfl [] rfl ?_)
  rintro _ _ _ ⟨rfl,rfl,rfl⟩
  refine ai<|al (ρ' :=[(28,_),(8,_),(6,_),(15,_),(5,_),(4,_),(3,_),(2,_),(0,_),(1,_)]) ⟨rfl,rfl,rfl,rfl,rfl,rfl,rfl,rfl,rfl,rfl,trivial⟩<|ak (X' :=[_,_,_,_,_,_]) (S' :=[_,_]) (fun _ m=>m)<|ag<| ?_
  refine cG rfl (fun h6=> ?_) (fun h6=> ?_)
  ·rw[zB hb h6]
   have h6' :d.eH (bn bb)=6:=h6
   rw[h6']
   refine ah<|aj<|hy (fun _=>yV (eA cP rfl (by kernel_rfl)) ((rfl:_=Value.agg (aW ei).toArray)))<|hy (fun _=>aa rfl)<| ?_
   refine cH (aJ 3 rfl rfl rfl bg yd aY rfl ?_)
   refine hy (fun _=>ab rfl)<|ai<|al (ρ' :=[(5,_),(28,_),(8,_),(6,_),(15,_),(4,_),(3,_),(2,_),(0,_),(1,_)]) ⟨rfl,rfl,rfl,rfl,rfl,rfl,rfl,rfl,rfl,rfl,trivial⟩<|ak (X' :=[_,_,_,_,_,_]) (S' :=[_,_]) (fun _ m=>m)<|ag<|aX<|ay<| ?_
   exact dX trivial rfl rfl rfl b9 bg yd (fun m=>(m.aZ 0 rfl).ax) [1] rfl [] rfl ⟨st,rfl,rfl,rfl,(hD.le (by omega))⟩
  ·refine aB<|ag<|ah<|ah<|aj<|hy (fun _=>aa rfl)<|hy (fun _=>cM rfl rfl)<|ai<|al (ρ' :=[(32,_),(28,_),(8,_),(6,_),(15,_),(5,_),(4,_),(3,_),(2,_),(0,_),(1,_)]) ⟨rfl,rfl,rfl,rfl,rfl,rfl,rfl,rfl,rfl,rfl,rfl,trivial⟩<|ag<| ?_
   refine cG rfl (fun h0=> ?_) (fun h0=> ?_)
   ·rw[yr hb h0]
    have h0' :d.eH (bn bb)=0:=h0
    rw[h0']
    refine ah<|aj<|hy (fun m=>aU rfl b9 bg h32 ((m.aZ 2 rfl).ax))<|hy (fun _=>aa rfl)<| ?_
    refine cH (aJ 3 rfl rfl rfl bg h32 aY rfl ?_)
    refine hy (fun _=>ab rfl)<|ai<|al (ρ' :=[(5,_),(32,_),(28,_),(8,_),(6,_),(15,_),(4,_),(3,_),(2,_),(0,_),(1,_)]) ⟨rfl,rfl,rfl,rfl,rfl,rfl,rfl,rfl,rfl,rfl,rfl,trivial⟩<|ak (X' :=[_,_,_,_,_,_]) (S' :=[_,_]) (fun _ m=>m)<|ag<|aX<|ay<| ?_
    exact dX trivial rfl rfl rfl b9 bg h32 (fun m=>(m.aZ 0 rfl).ax) [1] rfl [] rfl ⟨st,rfl,rfl,rfl,(hD.le (by omega))⟩
   ·rw[Dj hb h6 h0]
    refine aB<|ag<|ah<|aj<|hy (fun m=>aU rfl b9 bg h32 ((m.aZ 2 rfl).ax))<| ?_
    refine hx (aq rfl Tryz.call104 (Bj (br _)) [] rfl [] rfl ?_)
    rintro _ _ _ ⟨rfl,rfl,rfl⟩
    refine hy (fun _=>yV (jG rfl rfl (jj (a:=[116,47]) (b:=cd (bn bb)) (by simp[hhl]))) ((show Value.string (strOf [116,47]++strOf (cd (bn bb)))=SV (bU (bn bb))from congrArg Value.string (dC _ _))))<| ?_
    refine hx (aM HH (fun g9=> ?_))
    refine cH (dO 0 rfl rfl rfl HI rfl (by first|exact Nat.le_of_ble_eq_true rfl|simp) ?_)
    refine ai<|al (ρ' :=[(9,_),(32,_),(28,_),(8,_),(6,_),(15,_),(5,_),(4,_),(3,_),(2,_),(0,_),(1,_)]) ⟨rfl,rfl,rfl,rfl,rfl,rfl,rfl,rfl,rfl,rfl,rfl,rfl,trivial⟩<|ak (X' :=[_,_,_,_,_,_,_]) (S' :=[_,_]) (fun _ m=>m)<|ag<|ah<|aj<|hy (fun _=>iP rfl rfl)<|hy (fun _=>ab rfl)<|ai<|al (ρ' :=[(10,_),(9,_),(32,_),(28,_),(8,_),(6,_),(15,_),(5,_),(4,_),(3,_),(2,_),(0,_),(1,_)]) ⟨rfl,rfl,rfl,rfl,rfl,rfl,rfl,rfl,rfl,rfl,rfl,rfl,rfl,trivial⟩<|ag<|ah<|aj<|hy (fun _=>iP rfl rfl)<|hy (fun _=>ab rfl)<|ai<|al (ρ' :=[(11,_),(10,_),(9,_),(32,_),(28,_),(8,_),(6,_),(15,_),(5,_),(4,_),(3,_),(2,_),(0,_),(1,_)]) ⟨rfl,rfl,rfl,rfl,rfl,rfl,rfl,rfl,rfl,rfl,rfl,rfl,rfl,rfl,trivial⟩<|ag<|ah<|ah<|aj<|hy (fun _=>aa rfl)<|hy (fun m=>aw rfl kv (aE (m.aZ 6 rfl) rfl))<|hy (fun _=>iP rfl rfl)<|hy (fun _=>aa rfl)<|hy (fun m=>aw rfl kv (aE (m.aZ 6 rfl) rfl))<|hy (fun _=>iP rfl rfl)<| ?_
    refine hx (b6 Tryz.underlying239 FJ rfl rfl rfl (by simp[Value.cells,B8]) (by decide) (by decide) (fun g46=> ?_))
    have hA_b46:0<4→(some (⟨g46,0,none⟩:Addr))≠none:=fun _ h=>by cases h
    refine aQ (fun w m=>m.bN 1 rfl (show _=aL g9 9 [SV (bU (bn bb))]from rfl)) ?_
    refine aQ (fun w m=>m.bN 4 rfl (show _=aL g6 53 (aW (bn bb))from rfl)) ?_
    refine aQ (fun w m=>m.bN 2 rfl (show _=aH 179 1 (.slice (some ⟨g46,0,none⟩) 4 4) 4 (zF g g2 g9 g3 g6)from rfl)) ?_
    refine aQ (fun w m=>(m.perm (au [7] _ [_] _ rfl)).freeze) ?_
    refine aQ (fun w m=>(m.perm (au [2] _ [_] _ rfl)).freeze) ?_
    refine aQ (fun w m=>(m.perm (au [5] _ [_] _ rfl)).freeze) ?_
    refine aQ (fun w m=>(m.perm (au [1] _ [_] _ rfl)).freeze) ?_
    refine aQ (S' :=oW (j7 g g2 g9 g3 g6 A n c bb (bn bb) (bU (bn bb)))::_) (fun w m=>m.BQ [3,2,1,0,4] rfl) ?_
    refine hx (cI rfl Tryz.call109 (Hq hD (by omega) (show 4≤100000 by decide) rfl (xU hc hl (by omega) (br _)) (kk:=kk) (Fs:=(wx (bU (bn bb)) bb (bn bb))) (fs:=(zF g g2 g9 g3 g6)) (L:=(j7 g g2 g9 g3 g6 A n c bb (bn bb) (bU (bn bb))))) [1] rfl (.x 0 rfl .own (.s 0 rfl .nil)) ?_)
    rintro _ _ _ ⟨st1,rfl,rfl,rfl,hD1⟩
    refine⟨rfl, ?_⟩
    refine hy (fun _=>ab rfl)<|ai<|al (ρ' :=[(12,_),(11,_),(10,_),(9,_),(32,_),(28,_),(8,_),(6,_),(15,_),(5,_),(4,_),(3,_),(2,_),(0,_),(1,_)]) ⟨rfl,rfl,rfl,rfl,rfl,rfl,rfl,rfl,rfl,rfl,rfl,rfl,rfl,rfl,rfl,trivial⟩<|ak (X' :=[_,_,_,_]) (S' :=[_,_,_,_,_,_,_]) (fun _ m=>m)<|ag<|ah<|aj<|hy (fun _=>aa rfl)<|hy (fun _=>cW rfl rfl)<|ai<|al (ρ' :=[(49,_),(12,_),(11,_),(10,_),(9,_),(32,_),(28,_),(8,_),(6,_),(15,_),(5,_),(4,_),(3,_),(2,_),(0,_),(1,_)]) ⟨rfl,rfl,rfl,rfl,rfl,rfl,rfl,rfl,rfl,rfl,rfl,rfl,rfl,rfl,rfl,rfl,trivial⟩<|ag<| ?_
    refine cG rfl (fun h2=> ?_) (fun h2=> ?_)
    ·have hn2:¬(d.iY bb).2=0:=h2
     rw[if_neg hn2]
     refine ah<|aj<|hy (fun _=>yV (eA cP rfl (by kernel_rfl)) ((rfl:_=Value.agg (aW ei).toArray)))<|hy (fun _=>aa rfl)<| ?_
     refine cH (aJ 3 rfl rfl rfl bg yd aY rfl ?_)
     refine hy (fun _=>ab rfl)<|ai<|al (ρ' :=[(5,_),(49,_),(12,_),(11,_),(10,_),(9,_),(32,_),(28,_),(8,_),(6,_),(15,_),(4,_),(3,_),(2,_),(0,_),(1,_)]) ⟨rfl,rfl,rfl,rfl,rfl,rfl,rfl,rfl,rfl,rfl,rfl,rfl,rfl,rfl,rfl,rfl,trivial⟩<|ak (X' :=[_,_,_,_]) (S' :=[_,_,_,_,_,_,_]) (fun _ m=>m)<|ag<|aX<|ay<| ?_
     exact dX trivial rfl rfl rfl b9 bg yd (fun m=>(m.aZ 0 rfl).ax) [1] rfl [] rfl ⟨st1,rfl,rfl,rfl,hD1⟩
    ·have h2:=Decidable.not_not.1 h2
     have h2' :(cr (wx (bU (bn bb)) bb (bn bb)) d).2=0:=h2
     have h2'' :(d.iY bb).2=0:=h2'
     rw[if_pos h2'',h2'']
     refine aB<|ag<|ah<|aj<|hy (fun m=>aU rfl b9 bg h32 ((m.vP 1 rfl).ax))<| ?_
     refine cH (aJ 3 rfl rfl rfl bg h32 aY rfl ?_)
     refine hy (fun _=>ab rfl)<|ai<|al (ρ' :=[(5,_),(49,_),(12,_),(11,_),(10,_),(9,_),(32,_),(28,_),(8,_),(6,_),(15,_),(4,_),(3,_),(2,_),(0,_),(1,_)]) ⟨rfl,rfl,rfl,rfl,rfl,rfl,rfl,rfl,rfl,rfl,rfl,rfl,rfl,rfl,rfl,rfl,trivial⟩<|ak (X' :=[_,_,_,_]) (S' :=[_,_,_,_,_,_,_]) (fun _ m=>m)<|ag<|aX<| ?_
     exact dX trivial rfl rfl rfl b9 bg h32 (fun m=>(m.aZ 0 rfl).ax) [1] rfl [] rfl ⟨st1,rfl,rfl,rfl,hD1⟩
end Go.Proofs.YtmibdabdlgmafaaGreatDoor
end
section
set_option maxRecDepth 20000
namespace Go.Proofs.YtmibdabdlgmafaaGreatDoor
open Go.Eng Go.Hx
def ss(l:List (List UInt8)):List Value:=l.map SV
theorem zZ{l:List (List UInt8)}{i:Nat}(h:i<l.length):(ss l)[i]? =some (SV (l.getD i [])):=by simp[ss,List.getElem?_map,List.getElem?_eq_getElem h,List.getD]
theorem EL{l:List (List UInt8)}:∀u∈ss l,u.oneCell' =true:=by
 intro u hu
 obtain⟨x,_,rfl⟩:=List.mem_map.1 hu
 rfl
end Go.Proofs.YtmibdabdlgmafaaGreatDoor
end
section
namespace Go.Proofs
open Go.Shelf
def Tryz.uD:Go.Shelf.Ren:=⟨fun|190=>165|125=>207|258=>223|128=>254|129=>255|302=>258|303=>259|304=>260|305=>261|306=>262|307=>263|308=>264|309=>265|310=>266|333=>291|329=>287|330=>288|334=>292|335=>293|336=>294|344=>307|n=>n,fun|31=>152|9=>9|3=>3|46=>263|0=>0|51=>166|53=>310|4=>4|183=>339|182=>338|131=>343|5=>5|218=>376|222=>380|228=>391|229=>324|n=>n,fun|n=>n⟩
theorem Tryz.Cd:Go.Proofs.Lays.n190 Tryz.prog Tryz.uD:={
 mixed:=by kernel_rfl
 f125:=Tryz.func207.trans (congrArg some (by kernel_rfl))
 f128:=Tryz.func254.trans (congrArg some (by kernel_rfl))
 f129:=Tryz.func255.trans (congrArg some (by kernel_rfl))
 f190:=Tryz.func165.trans (congrArg some (by kernel_rfl))
 f258:=Tryz.func223.trans (congrArg some (by kernel_rfl))
 f302:=Tryz.func258.trans (congrArg some (by kernel_rfl))
 f303:=Tryz.func259.trans (congrArg some (by kernel_rfl))
 f304:=Tryz.func260.trans (congrArg some (by kernel_rfl))
 f305:=Tryz.func261.trans (congrArg some (by kernel_rfl))
 f306:=Tryz.func262.trans (congrArg some (by kernel_rfl))
 f307:=Tryz.func263.trans (congrArg some (by kernel_rfl))
 f308:=Tryz.func264.trans (congrArg some (by kernel_rfl))
 f309:=Tryz.func265.trans (congrArg some (by kernel_rfl))
 f310:=Tryz.func266.trans (congrArg some (by kernel_rfl))
 f329:=Tryz.func287.trans (congrArg some (by kernel_rfl))
 f330:=Tryz.func288.trans (congrArg some (by kernel_rfl))
 f333:=Tryz.func291.trans (congrArg some (by kernel_rfl))
 f334:=Tryz.func292.trans (congrArg some (by kernel_rfl))
 f335:=Tryz.func293.trans (congrArg some (by kernel_rfl))
 f336:=Tryz.func294.trans (congrArg some (by kernel_rfl))
 f344:=Tryz.func307.trans (congrArg some (by kernel_rfl))
 t0:=Tryz.underlying0
 a0:=Tryz.isAgg0
 z0:=Tryz.sizeOf0
 v0:=Tryz.zeroValue0
 t3:=Tryz.underlying3
 a3:=Tryz.isAgg3
 z3:=Tryz.sizeOf3
 v3:=Tryz.zeroValue3
 t4:=Tryz.underlying4
 a4:=Tryz.isAgg4
 z4:=Tryz.sizeOf4
 v4:=Tryz.zeroValue4
 t5:=Tryz.underlying5
 a5:=Tryz.isAgg5
 z5:=Tryz.sizeOf5
 v5:=Tryz.zeroValue5
 t9:=Tryz.underlying9
 a9:=Tryz.isAgg9
 z9:=Tryz.sizeOf9
 v9:=Tryz.zeroValue9
 t31:=Tryz.underlying152
 a31:=Tryz.isAgg152
 z31:=Tryz.sizeOf152
 v31:=Tryz.zeroValue152
 t46:=Tryz.underlying263
 a46:=Tryz.isAgg263
 z46:=Tryz.sizeOf263
 v46:=Tryz.zeroValue263
 t51:=Tryz.underlying166
 a51:=Tryz.isAgg166
 z51:=Tryz.sizeOf166
 v51:=Tryz.zeroValue166
 t53:=Tryz.underlying310
 a53:=Tryz.isAgg310
 z53:=Tryz.sizeOf310
 v53:=Tryz.zeroValue310
 t131:=Tryz.underlying343
 a131:=Tryz.isAgg343
 z131:=Tryz.sizeOf343
 v131:=Tryz.zeroValue343
 t182:=Tryz.underlying338
 a182:=Tryz.isAgg338
 z182:=Tryz.sizeOf338
 v182:=Tryz.zeroValue338
 t183:=Tryz.underlying339
 a183:=Tryz.isAgg339
 z183:=Tryz.sizeOf339
 v183:=Tryz.zeroValue339
 t218:=Tryz.underlying376
 a218:=Tryz.isAgg376
 z218:=Tryz.sizeOf376
 v218:=Tryz.zeroValue376
 t222:=Tryz.underlying380
 a222:=Tryz.isAgg380
 z222:=Tryz.sizeOf380
 v222:=Tryz.zeroValue380
 t228:=Tryz.underlying391
 a228:=Tryz.isAgg391
 z228:=Tryz.sizeOf391
 v228:=Tryz.zeroValue391
 t229:=Tryz.underlying324
 a229:=Tryz.isAgg324
 z229:=Tryz.sizeOf324
 v229:=Tryz.zeroValue324}
end Go.Proofs
end
section
set_option maxRecDepth 20000
namespace Go.Proofs.YtmibdabdlgmafaaGreatDoor
open Go.Eng Go.Hx Go.Sort
def uZ(l:List (List UInt8)):List (List UInt8):=l.mergeSort fun x y=>decide (x≤y)
theorem yS{w:World}{g n o:Nat}{os:Array Obj}{cur:Array Value}{e:TypeId}{fr:Nat×Nat}(d:Array (List UInt8))(hb:w.heap[g]? =some (.cells cur e fr)):
  (grow (putRow encStr (Go.Sort.ahead w n) g o d) os).heap[g]? =some (.cells (putCells encStr o d cur) e fr):=by
 have hg:g<w.heap.size:=(Array.getElem?_eq_some_iff.1 hb).1
 rw[heap_grow_old _ _ (by simpa using hg)]
 simp[putRow,mapBlock,Go.Sort.ahead,Array.getElem?_modify,hb,onCells]
theorem E5{w:World}{g n o:Nat}{os:Array Obj}(d:Array (List UInt8)):Fr (fun k=>k=g) w (grow (putRow encStr (Go.Sort.ahead w n) g o d) os):=by
 refine⟨rfl,rfl,rfl,by simp,fun k hk hne=> ?_⟩
 rw[heap_grow_old _ _ (by simpa using hk)]
 have:g≠k:=fun e=>hne e.symm
 simp[putRow,mapBlock,Go.Sort.ahead,Array.getElem?_modify,this]
theorem AE(cur:List Value)(o:Nat)(ts:List (List UInt8))(h:o+ts.length≤cur.length):((putCells encStr o ts.toArray cur.toArray).toList.drop o).take ts.length=ss ts:=by
 apply List.ext_getElem?
 intro j
 by_cases hj:j<ts.length
 ·rw[List.getElem?_take_of_lt hj,List.getElem?_drop,Array.getElem?_toList]
  simp[putCells,hj,ss,show o+j<cur.length by omega,SV,strOf]
 ·rw[List.getElem?_take_eq_none (by omega),List.getElem?_eq_none (by simp[ss];omega)]
theorem sX(l:List (List UInt8)):(uZ l).length=l.length:=List.length_mergeSort ..
theorem FA{A:Option Addr}{n c base:Nat}{e:TypeId}{l:List (List UInt8)}{w:World}(h:Go.Eng.Own w base e 1 (.slice A n c) n (ss l))(hn6:n≤1000000):
  Calls Tryz.prog 165 #[.slice A n c] w fun r w' =>r= .returned (.tuple #[])∧Go.Eng.Own w' base e 1 (.slice A n c) n (ss (uZ l))∧Fr (jE (.slice A n c)) w w' :=by
 obtain⟨h1,h2⟩:=h
 have hl:l.length=n:=by simpa[ss]using h1
 rcases h2 with⟨hv,hn⟩|⟨g,o,cap,cur,hv,hb,⟨fr,hh,hf,hfl⟩,hnc,hcm,hfit,hcs⟩
 ·cases hv
  obtain rfl:l=[]:=List.eq_nil_of_length_eq_zero hl
  refine Calls.mono (rV Dp (by intro s hs;cases hs)) (fun r w' ⟨hr,hf⟩=>⟨hr,⟨by simp[uZ,ss],.inl ⟨rfl,rfl⟩⟩,hf.mono (fun _ _ e=>e.elim)⟩)
 ·cases hv
  subst hl
  have hB:fi w g e cur:=⟨fr,hh,hf,hfl⟩
  have hH:Holds encStr w g o l.toArray:=by
   intro j hj
   have hj' :j<l.length:=by simpa using hj
   have h3:((cur.drop o).take (l.length*1))[j]? =(ss l)[j]? :=by rw[hcs]
   rw[List.getElem?_take_of_lt (by omega),List.getElem?_drop,zZ hj']at h3
   refine⟨?_,hB.frozen (by omega)⟩
   rw[hB.cell h3]
   simp[List.getD,List.getElem?_eq_getElem hj',hj',SV,strOf]
  refine Calls.mono (Any.slices_Sort_string Tryz.Cd g o c l w hH hB.lt (by omega)) ?_
  rintro r w' ⟨hr,k,os,rfl⟩
  refine⟨hr,⟨by simp[ss,sX],.inr ⟨g,o,c,(putCells encStr o (uZ l).toArray cur.toArray).toList,rfl,hb, ?_,hnc,hcm,by simp[putCells];omega, ?_⟩⟩,E5 _⟩
  ·have:=yS (n:=k) (o:=o) (os:=os) (uZ l).toArray hh
   exact⟨fr,by simpa[uZ]using this,fun i hi=>hf i (by simpa[putCells]using hi),by simpa[putCells]using hfl⟩
  ·have:=AE cur o (uZ l) (by rw[sX];omega)
   rw[sX]at this
   rw[Nat.mul_one];exact this
theorem Gk{A:Option Addr}{n c:Nat}{e:TypeId}{l:List (List UInt8)}(hn:n≤1000000):cf Tryz.prog 165 [.slice A n c] [aH e 1 (.slice A n c) n (ss l)] [] (fun v_ X_ S_=>v_=(.tuple #[])∧X_=[aH e 1 (.slice A n c) n (ss (uZ l))]∧S_=[]):=by
 refine fun w m=>Calls.mono (FA (m.own 0 rfl) hn) ?_
 rintro r w' ⟨hr,ho,hf⟩
 exact⟨_,_,_,hr,⟨rfl,rfl,rfl⟩,m.change (r' :=aH e 1 (.slice A n c) n (ss (uZ l))) hf ho (fun k hk=>.inl hk)⟩
end Go.Proofs.YtmibdabdlgmafaaGreatDoor
end
