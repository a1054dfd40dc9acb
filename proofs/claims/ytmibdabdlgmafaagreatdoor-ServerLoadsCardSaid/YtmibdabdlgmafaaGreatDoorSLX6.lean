/- Part. -/
import Derived.Test.YtmibdabdlgmafaaGreatDoorSLX5
set_option linter.all false
section
set_option maxRecDepth 20000
namespace Go.Proofs.YtmibdabdlgmafaaGreatDoor
open Go.Eng Go.Hx
abbrev Frames:=List (Dg×ej)
def AB(l:Frames):List (Dg×Value):=l.map fun x=>(x.1,x.2.val)
theorem uI:∀(l:Frames) (p:Dg),bX (AB l) p=(bX l p).map ej.val
 | [],p=>rfl
 |(k,r)::q,p=>by
  have:=uI q p
  simp only[AB,List.map_cons,bX]at this ⊢
  split <;> simp_all
def k5(k:Int)(gm:Nat):List Value:=[.int .i32 k,.int .u32 0,.map (some gm)]
abbrev gZ(g gm:Nat)(l:Frames):bf:=eX [aH g 172 (k5 0 gm),dR DK gm (AB l),ik (l.map (·.2))]
theorem Dz:TI Tryz.prog 172 (.agg [.int .i32 0,.int .u32 0,.map none].toArray) 3 16:=by unfold TI;kernel_rfl
theorem ky:iN Tryz.prog 172 0=some (0,2,170):=by kernel_rfl
theorem q8:iN Tryz.prog 172 1=some (2,1,163):=by kernel_rfl
theorem uw:cj Tryz.prog 23 [] [] [] (fun v_ X_ S_=>∃g gm,v_=(.pointer (some ⟨g,0,none⟩))∧X_=[gZ g gm []]∧S_=[]):=by
 refine aU (N:=4) Tryz.func23 rfl rfl (by simp) fun b=> ?_
 refine ah<|aj<|hy (fun _=>ab rfl)<|ai<|ag<|ah<|aj<| ?_
 refine hx (lL DK (fun g1=> ?_))
 refine hy (fun _=>yV (cD Dz rfl rfl (by kernel_rfl) (.cons (o:=2) (sz:=1) (by kernel_rfl) rfl rfl (Nat.le_of_ble_eq_true rfl) .nil)) ((rfl:_=Value.agg (k5 0 g1).toArray)))<| ?_
 refine hx (cp rfl (fun g3=> ?_))
 refine hy (fun _=>ab rfl)<|ai<|al (ρ' :=[(0,_)]) ⟨rfl,trivial⟩<|ak (X' :=[_,_]) (S' :=[]) (fun _ m=>m)<|ag<|aQ<| ?_
 refine ak (fun w m=>m.yr) ?_
 refine ak (X' :=gZ g3 g1 []::_) (fun w m=>(m.perm (az [1,1,0] _ [_,_,_] _ rfl)).pack) ?_
 exact bd trivial rfl rfl [0] rfl [] rfl ⟨_,_,rfl,rfl,rfl⟩
theorem qO{g gm:Nat}:cj Tryz.prog 119 [.pointer (some ⟨g,0,none⟩)] [aH g 172 (k5 0 gm)] [] (fun v_ X_ S_=>v_=(.tuple #[])∧X_=[aH g 172 (k5 1 gm)]∧S_=[]):=by
 exact DC uj rfl
theorem Bk{g gm:Nat}{l:Frames}{nm:Dg}:cj Tryz.prog 121 [.pointer (some ⟨g,0,none⟩),DK nm] [gZ g gm l] [] (fun v_ X_ S_=>v_=(.tuple #[((bX l nm).map ej.val).getD (.slice none 0 0),.bool (bX l nm).isSome])∧X_=[gZ g gm l]∧S_=[]):=by
 refine nE (N:=26) Tryz.func121 rfl rfl (by simp) fun b=> ?_
 refine bD (fun w m=>(m.perm (az [0] _ [_] _ rfl)).unpack) ?_
 refine ah<|aj<| ?_
 refine hx (cp rfl (fun g3=> ?_))
 refine hy (fun _=>ab rfl)<|hy (fun _=>ab rfl)<|ai<|ak (X' :=[_,_,_,_]) (S' :=[]) (fun _ m=>m)<|ag<|ah<|aj<|hy (fun _=>aa rfl)<|hy (fun _=>bx rfl)<|hy (fun _=>aI rfl ky (by decide))<| ?_
 refine hx (aq rfl Tryz.call119 (qO) [1] rfl [] rfl ?_)
 rintro _ _ _ ⟨rfl,rfl,rfl⟩
 refine aV (fun w m=>m.bQ 1 rfl (show _=aH g3 53 (aK nm.1)from congrArg (aH _ _) (bq _))) ?_
 refine ai<|al (ρ' :=[(5,_),(4,_),(3,_),(0,_),(1,_)]) ⟨rfl,rfl,rfl,rfl,rfl,trivial⟩<|ak (X' :=[_,_,_,_]) (S' :=[]) (fun _ m=>m)<|ag<|ah<|aj<|hy (fun _=>aa rfl)<|hy (fun _=>bx rfl)<|hy (fun _=>aI rfl ky (by decide))<|tA rfl<|ai<|al (ρ' :=[(5,_),(4,_),(3,_),(0,_),(1,_)]) ⟨rfl,rfl,rfl,rfl,rfl,trivial⟩<|ag<|ah<|cV [] [(0,some 0),(1,some 0),(2,some 0),(3,some 0),(4,some 0),(5,some 0),(6,some 0),(7,some 0),(8,some 0),(9,some 0),(10,some 0)] (by kernel_rfl) (by kernel_rfl) rfl 99<|an (aa rfl)<|an (bx rfl)<|an (aI rfl q8 (by decide))<|cn (fun m=>av rfl yc (aB (m.aT 1 rfl) rfl))<|cn (fun m=>yV (aR rfl b5 bj (by rw[ax];exact nm.2) ((m.aT 0 rfl).au)) ((rfl:Value.agg _=DK nm)))<|cn (fun m=>iG (enc:=DK) (k:=nm) rfl rfl Tryz.underlying163 qK (x8 rfl Tryz.underlying53 Tryz.underlying5 (by kernel_rfl) (by kernel_rfl) (by kernel_rfl)) (m.mF 2 rfl))<|an (aa rfl)<|an (ao rfl rfl)<|an (ao rfl rfl)<|an (ab rfl)<|an (ab rfl)<|bE<|al (ρ' :=[(7,_),(6,_),(5,_),(4,_),(3,_),(0,_),(1,_)]) ⟨rfl,rfl,rfl,rfl,rfl,rfl,rfl,trivial⟩<|ag<|ah<|aj<|hy (fun _=>aa rfl)<|hy (fun _=>aa rfl)<|hy (fun _=>ab rfl)<|hy (fun _=>ab rfl)<|ai<|al (ρ' :=[(5,_),(4,_),(7,_),(6,_),(3,_),(0,_),(1,_)]) ⟨rfl,rfl,rfl,rfl,rfl,rfl,rfl,trivial⟩<|ag<|aQ<| ?_
 rw[uI,Option.isSome_map]
 refine q9 trivial ?_
 refine qX uj 1 rfl rfl Tryz.call120 ?_
 refine mS (fun w m=>m.bQ 0 rfl (show _=aH g 172 (k5 0 gm)from rfl)) ?_
 refine mS (X' :=gZ g gm l::_) (fun w m=>(m.perm (az [0,1,1] _ [_,_,_] _ rfl)).pack) ?_
 exact BR rfl rfl rfl [0] rfl [] rfl ⟨rfl,rfl,rfl⟩
def pf(fr:Frames)(nm:List UInt8):Option ej:=(fr.find? (fun x=>decide (x.1.1=nm))).map (·.2)
theorem vb:∀(fr:Frames) (nm:Dg),bX fr nm=pf fr nm.1
 | [],_=>rfl
 |(k,v)::q,nm=>by
  have:=vb q nm
  unfold pf at this ⊢
  simp only[bX,List.find?_cons]
  by_cases h:k=nm
  ·subst h;simp
  ·rw[if_neg h,this]
   have:¬k.1=nm.1:=fun e=>h (Subtype.ext e)
   simp[this]
theorem x3{fr:Frames}{nm:List UInt8}{r:ej}(h:pf fr nm=some r):∃x∈fr,x.2=r:=by
 unfold pf at h
 cases hf:fr.find? (fun x=>decide (x.1.1=nm))with
 |none=>rw[hf]at h;cases h
 |some x=>
  rw[hf]at h
  exact⟨x,List.mem_of_find?_eq_some hf,Option.some.inj h⟩
theorem xu{fr:Frames}{nm:List UInt8}{r:ej}(h:pf fr nm=some r):∃i:Nat,(fr.map (·.2))[i]? =some r:=by
 unfold pf at h
 cases hf:fr.find? (fun x=>decide (x.1.1=nm))with
 |none=>rw[hf]at h;cases h
 |some x=>
  rw[hf]at h
  have hm:x.2∈fr.map (·.2):=List.mem_map.2 ⟨x,List.mem_of_find?_eq_some hf,rfl⟩
  obtain⟨i,hi⟩:=List.mem_iff_getElem?.1 hm
  exact⟨i,by rw[hi];exact h⟩
def DA(fr:Frames):Prop:=∀x∈fr,x.2.n≤1000000∧x.2.l.length=x.2.n
def lS(B:List UInt8):List UInt8:=(B.drop 5).take 32
def uL(fr:Frames)(l:List UInt8):Prop:=fJ l=0∧Cf (cx l)∧wj (cx l)=1∧∀r,pf fr (lS (cx l))=some r→r.n≤4106
def En(fr:Frames)(l:List UInt8)(is:Bool)(body:List UInt8):Prop:=
 (uL fr l∧is=true∧body=gy (eo (if(pf fr (lS (cx l))).isSome then 2 else 3) (ws (cx l)) (lS (cx l)) (((pf fr (lS (cx l))).map (·.l)).getD [])))∨
 (¬uL fr l∧is=false∧body=[])
theorem ET{s n:Nat}(h:s<4294967296)(hn:n=0):gK ((3:Nat):Int) s n:=⟨by omega,.inl hn⟩
theorem EK{s n:Nat}(h:s<4294967296)(hn:n≤4106):gK ((2:Nat):Int) s n:=⟨by omega,.inr ⟨rfl,hn⟩⟩
theorem wT{g gm:Nat}{A:Option Addr}{n c:Nat}{l:List UInt8}{fr:Frames}(hc:n≤c)(hn:n≤1000000)(hfr:DA fr):cj Tryz.prog 122 [.pointer (some ⟨g,0,none⟩),.slice A n c] [gZ g gm fr] [dw 1 A n (aK l)] (fun v_ X_ S_=>∃v bn body is,v_=(.tuple #[v,.bool is])∧X_=[gZ g gm fr,aF 5 1 v bn (aK body)]∧S_=[]∧(body.length=bn∧En fr l is body)):=by
 refine aU (N:=42) Tryz.func122 rfl rfl (by simp) fun b=> ?_
 refine ba (fun m=>fG (m.rd 0 rfl)) ?_
 rintro⟨hl_r,hA_r⟩
 refine ah<|aj<|hy (fun _=>ab rfl)<|hy (fun _=>ab rfl)<|ai<|ag<|ah<|aj<|hy (fun _=>aa rfl)<| ?_
 refine hx (aq rfl Tryz.call124 (xQ (by omega) (by omega)) [] rfl [0] rfl ?_)
 rintro _ _ _ ⟨k,s,nm,body,v,err,bn,rfl,rfl,rfl,hp⟩
 refine aw (fun m=>(m.own 0 rfl).slice) ?_
 rintro⟨A_x,c_x,rfl,hc_x⟩
 refine aw (fun m=>(m.ord 0 rfl).2.1) fun hA_x=> ?_
 obtain⟨hnm,hbl,hR⟩:=hp
 refine hy (fun _=>aa rfl)<|hy (fun _=>ao rfl rfl)<|hy (fun _=>ao rfl rfl)<| ?_
 refine hx (aJ fD (fun g6=> ?_))
 refine cN (aG 0 rfl rfl rfl cB (bH hnm) (eu rfl) rfl ?_)
 refine hy (fun _=>ab rfl)<|ai<|al (ρ' :=[(7,_),(6,_),(5,_),(4,_),(0,_),(1,_)]) ⟨rfl,rfl,rfl,rfl,rfl,rfl,trivial⟩<|ak (X' :=[_,_,_]) (S' :=[_]) (fun _ m=>m)<|ag<|ah<|ah<|aj<|hy (fun _=>aa rfl)<|hy (fun _=>cM rfl rfl)<|ai<|al (ρ' :=[(19,_),(7,_),(6,_),(5,_),(4,_),(0,_),(1,_)]) ⟨rfl,rfl,rfl,rfl,rfl,rfl,rfl,trivial⟩<|ag<| ?_
 refine cI rfl (fun he=> ?_) (fun he=> ?_)
 ·refine ah<|aj<|hy (fun _=>ab rfl)<|hy (fun _=>ab rfl)<|ai<|ag<|aQ<|ay<| ?_
  refine ak (fun w m=>m.cL (r' :=aF 5 1 (.slice none 0 0) 0 []) (.refl _ _) (Own.nil _ _ _ _) (fun k hk=>hk.elim)) ?_
  exact cW trivial rfl rfl rfl [3,0] rfl [] rfl ⟨_,_,[],_,rfl,rfl,rfl,⟨rfl,.inr ⟨(fun h=>he (by rcases hR with h1|h1|h1 <;> first|exact absurd h.1 h1.1|exact h1.2.2.2.2.2.2|exact absurd h.2.1 h1.2.1)),rfl,rfl⟩⟩⟩
 ·have he:=Decidable.not_not.1 he
  have hR' :fJ l=0∧Cf (cx l)∧k=wj (cx l)∧s=ws (cx l)∧nm=lS (cx l)∧body=(cx l).drop 37:=by
   rcases hR with h1|h1|h1
   ·exact absurd (h1.2.2.2.2.2▸he) h1.1
   ·exact⟨h1.1,h1.2.1,h1.2.2.1,h1.2.2.2.1,h1.2.2.2.2.1,h1.2.2.2.2.2.1⟩
   ·exact absurd (h1.2.2.2.2.2.2▸he) (by decide)
  obtain⟨h0,hW,rfl,rfl,rfl,rfl⟩:=hR'
  refine aC<|ag<|ah<|aj<|hy (fun _=>aa rfl)<|hy (fun _=>aI rfl qT (by decide))<|hy (fun m=>yV (aR rfl b5 bj (by rw[ax];exact hnm) (uK (m.aT 0 rfl))) ((rfl:Value.agg _=DK ⟨lS (cx l),hnm⟩)))<| ?_
  refine hx (aq rfl Tryz.call121 (Bk (nm:=⟨lS (cx l),hnm⟩)) [2] rfl [] rfl ?_)
  rintro _ _ _ ⟨rfl,rfl,rfl⟩
  rw[vb]
  have hsl:ws (cx l)<4294967296:=rb _
  have hbn:bn=(cx l).length-37:=by rw[←hbl,List.length_drop]
  rcases hq:pf fr (lS (cx l))with _|r
  ·refine aV (fun w m=>m.oZ (r' :=dw 1 none 0 []) (.refl _ _) (Rd.nil _ _ _) (fun k hk=>absurd rfl hk.1)) ?_
   have hA_f:0<0→(none:Option Addr)≠none:=fun h=>absurd h (by decide)
   refine hy (fun _=>aa rfl)<|hy (fun _=>ao rfl rfl)<|hy (fun _=>ao rfl rfl)<|hy (fun _=>ab rfl)<|hy (fun _=>ab rfl)<|ai<|al (ρ' :=[(9,_),(8,_),(19,_),(7,_),(6,_),(5,_),(4,_),(0,_),(1,_)]) ⟨rfl,rfl,rfl,rfl,rfl,rfl,rfl,rfl,rfl,trivial⟩<|ak (X' :=[_,_,_]) (S' :=[_,_]) (fun _ m=>m)<|ag<|ah<|aj<|hy (fun m=>aR rfl dP cB (bH hnm) ((m.aT 1 rfl).au))<|hy (fun _=>aa rfl)<|hy (fun _=>aa rfl)<| ?_
   refine hx (aq rfl Tryz.call187 (sK (by omega) (by omega) (l:=[])) [] rfl [0] rfl ?_)
   rintro _ _ _ ⟨k1,s1,nm1,body2,v2,err2,bn2,rfl,rfl,rfl,hp2⟩
   refine aw (fun m=>(m.own 0 rfl).slice) ?_
   rintro⟨A_x2,c_x2,rfl,hc_x2⟩
   refine aw (fun m=>(m.ord 0 rfl).2.1) fun hA_x2=> ?_
   obtain⟨hnm1,hbl1,hA⟩:=hp2
   refine hy (fun _=>aa rfl)<|hy (fun _=>ao rfl rfl)<|hy (fun _=>ao rfl rfl)<| ?_
   refine hx (aJ fD (fun g10=> ?_))
   refine cN (aG 0 rfl rfl rfl cB (bH hnm1) (eu rfl) rfl ?_)
   refine hy (fun _=>ab rfl)<|ai<|al (ρ' :=[(7,_),(10,_),(9,_),(8,_),(19,_),(6,_),(5,_),(4,_),(0,_),(1,_)]) ⟨rfl,rfl,rfl,rfl,rfl,rfl,rfl,rfl,rfl,rfl,trivial⟩<|ak (X' :=[_,_,_,_,_]) (S' :=[_,_]) (fun _ m=>m)<|ag<|ah<|ah<|aj<|hy (fun _=>aa rfl)<|hy (fun _=>cM rfl rfl)<|ai<|al (ρ' :=[(35,_),(7,_),(10,_),(9,_),(8,_),(19,_),(6,_),(5,_),(4,_),(0,_),(1,_)]) ⟨rfl,rfl,rfl,rfl,rfl,rfl,rfl,rfl,rfl,rfl,rfl,trivial⟩<|ag<| ?_
   refine cI rfl (fun he1=> ?_) (fun he1=> ?_)
   ·refine ah<|aj<|hy (fun _=>ab rfl)<|hy (fun _=>ab rfl)<|ai<|ag<|aQ<|ay<| ?_
    refine ak (fun w m=>m.cL (r' :=aF 5 1 (.slice none 0 0) 0 []) (.refl _ _) (Own.nil _ _ _ _) (fun k hk=>hk.elim)) ?_
    exact cW trivial rfl rfl rfl [3,0] rfl [] rfl ⟨_,_,[],_,rfl,rfl,rfl,⟨rfl,.inr ⟨(fun h=>he1 (by rcases hA with h1|h1;exact h1.2.1;exact absurd ⟨h.2.2.1,by rw[hbn];exact h.2.1.2,(fun e=>by cases e)⟩ h1.1)),rfl,rfl⟩⟩⟩
   ·have he1:=Decidable.not_not.1 he1
    have hA' :uo (wj (cx l)) (ws (cx l)) bn false 0∧k1=((3:Nat):Int)∧s1=(ws (cx l):Nat)∧nm1=lS (cx l)∧body2=[]:=by
     rcases hA with h1|h1
     ·exact⟨h1.1,h1.2.2.1,h1.2.2.2.1,h1.2.2.2.2.1,h1.2.2.2.2.2⟩
     ·exact absurd (h1.2.1▸he1) (by decide)
    obtain⟨hAns,rfl,rfl,rfl,rfl⟩:=hA'
    refine aC<|ag<|ah<|aj<|hy (fun m=>aR rfl dP cB (bH hnm) ((m.aT 0 rfl).au))<| ?_
    refine hx (bT rfl Tryz.call188 (tT (by omega) (by omega) (ET hsl (by rw[←hbl1];rfl))) [] rfl (.x 1 rfl .own .nil) ?_)
    rintro _ _ _ ⟨v3,rfl,rfl,rfl⟩
    refine⟨rfl, ?_⟩
    refine aw (fun m=>(m.own 0 rfl).slice) ?_
    rintro⟨A_x3,c_x3,rfl,hc_x3⟩
    refine aw (fun m=>(m.ord 0 rfl).2.1) fun hA_x3=> ?_
    refine hy (fun _=>aa rfl)<|hy (fun _=>ao rfl rfl)<|hy (fun _=>ao rfl rfl)<|hy (fun _=>ab rfl)<|hy (fun _=>ab rfl)<|ai<|al (ρ' :=[(11,_),(35,_),(7,_),(10,_),(9,_),(8,_),(19,_),(6,_),(5,_),(4,_),(0,_),(1,_)]) ⟨rfl,rfl,rfl,rfl,rfl,rfl,rfl,rfl,rfl,rfl,rfl,rfl,trivial⟩<|ak (X' :=[_,_,_,_,_,_]) (S' :=[_,_]) (fun _ m=>m)<|ag<|ah<|aj<|hy (fun _=>aa rfl)<|hy (fun _=>ab rfl)<|hy (fun _=>ab rfl)<|ai<|al (ρ' :=[(5,_),(4,_),(11,_),(35,_),(7,_),(10,_),(9,_),(8,_),(19,_),(6,_),(0,_),(1,_)]) ⟨rfl,rfl,rfl,rfl,rfl,rfl,rfl,rfl,rfl,rfl,rfl,rfl,trivial⟩<|ag<|aQ<| ?_
    exact cW trivial rfl rfl rfl [3,0] rfl [] rfl ⟨_,_,gy (eo 3 (ws (cx l)) (lS (cx l)) []),_,rfl,rfl,rfl,⟨by rw[iF,fu hnm,hbl1],.inl ⟨⟨h0,hW,hAns.1,(fun r e=>by rw[hq]at e;cases e)⟩,rfl,by rw[hq];rfl⟩⟩⟩
  ·obtain⟨x0,hmx,rfl⟩:=x3 hq
   obtain⟨hrn,hrl⟩:=hfr x0 hmx
   obtain⟨ri,hri⟩:=xu hq
   refine hy (fun _=>aa rfl)<|hy (fun _=>ao rfl rfl)<|hy (fun _=>ao rfl rfl)<|hy (fun _=>ab rfl)<|hy (fun _=>ab rfl)<|ai<|al (ρ' :=[(9,_),(8,_),(19,_),(7,_),(6,_),(5,_),(4,_),(0,_),(1,_)]) ⟨rfl,rfl,rfl,rfl,rfl,rfl,rfl,rfl,rfl,trivial⟩<|ag<|ah<|aj<|hy (fun m=>aR rfl dP cB (bH hnm) ((m.aT 1 rfl).au))<|hy (fun _=>aa rfl)<|hy (fun _=>aa rfl)<| ?_
   refine hx (bT rfl Tryz.call187 (sK (by omega) (by omega) (l:=x0.2.l)) [] rfl (.x 0 rfl ((View.comp 2 rfl).trans (View.row hri)) .nil) ?_)
   rintro _ _ _ ⟨k1,s1,nm1,body2,v2,err2,bn2,rfl,rfl,rfl,hp2⟩
   refine⟨rfl, ?_⟩
   refine aw (fun m=>(m.own 0 rfl).slice) ?_
   rintro⟨A_x2,c_x2,rfl,hc_x2⟩
   refine aw (fun m=>(m.ord 0 rfl).2.1) fun hA_x2=> ?_
   obtain⟨hnm1,hbl1,hA⟩:=hp2
   refine hy (fun _=>aa rfl)<|hy (fun _=>ao rfl rfl)<|hy (fun _=>ao rfl rfl)<| ?_
   refine hx (aJ fD (fun g10=> ?_))
   refine cN (aG 0 rfl rfl rfl cB (bH hnm1) (eu rfl) rfl ?_)
   refine hy (fun _=>ab rfl)<|ai<|al (ρ' :=[(7,_),(10,_),(9,_),(8,_),(19,_),(6,_),(5,_),(4,_),(0,_),(1,_)]) ⟨rfl,rfl,rfl,rfl,rfl,rfl,rfl,rfl,rfl,rfl,trivial⟩<|ak (X' :=[_,_,_,_,_]) (S' :=[_]) (fun _ m=>m)<|ag<|ah<|ah<|aj<|hy (fun _=>aa rfl)<|hy (fun _=>cM rfl rfl)<|ai<|al (ρ' :=[(35,_),(7,_),(10,_),(9,_),(8,_),(19,_),(6,_),(5,_),(4,_),(0,_),(1,_)]) ⟨rfl,rfl,rfl,rfl,rfl,rfl,rfl,rfl,rfl,rfl,rfl,trivial⟩<|ag<| ?_
   refine cI rfl (fun he1=> ?_) (fun he1=> ?_)
   ·refine ah<|aj<|hy (fun _=>ab rfl)<|hy (fun _=>ab rfl)<|ai<|ag<|aQ<|ay<| ?_
    refine ak (fun w m=>m.cL (r' :=aF 5 1 (.slice none 0 0) 0 []) (.refl _ _) (Own.nil _ _ _ _) (fun k hk=>hk.elim)) ?_
    exact cW trivial rfl rfl rfl [3,0] rfl [] rfl ⟨_,_,[],_,rfl,rfl,rfl,⟨rfl,.inr ⟨(fun h=>he1 (by rcases hA with h1|h1;exact h1.2.1;exact absurd ⟨h.2.2.1,by rw[hbn];exact h.2.1.2,(fun _=>h.2.2.2 _ hq)⟩ h1.1)),rfl,rfl⟩⟩⟩
   ·have he1:=Decidable.not_not.1 he1
    have hA' :uo (wj (cx l)) (ws (cx l)) bn true x0.2.n∧k1=((2:Nat):Int)∧s1=(ws (cx l):Nat)∧nm1=lS (cx l)∧body2=x0.2.l:=by
     rcases hA with h1|h1
     ·exact⟨h1.1,h1.2.2.1,h1.2.2.2.1,h1.2.2.2.2.1,h1.2.2.2.2.2⟩
     ·exact absurd (h1.2.1▸he1) (by decide)
    obtain⟨hAns,rfl,rfl,rfl,rfl⟩:=hA'
    refine aC<|ag<|ah<|aj<|hy (fun m=>aR rfl dP cB (bH hnm) ((m.aT 0 rfl).au))<| ?_
    refine hx (bT rfl Tryz.call188 (tT (by omega) (by omega) (EK hsl (by rw[←hbl1,hrl];exact hAns.2.2 rfl))) [] rfl (.x 1 rfl .own .nil) ?_)
    rintro _ _ _ ⟨v3,rfl,rfl,rfl⟩
    refine⟨rfl, ?_⟩
    refine aw (fun m=>(m.own 0 rfl).slice) ?_
    rintro⟨A_x3,c_x3,rfl,hc_x3⟩
    refine aw (fun m=>(m.ord 0 rfl).2.1) fun hA_x3=> ?_
    refine hy (fun _=>aa rfl)<|hy (fun _=>ao rfl rfl)<|hy (fun _=>ao rfl rfl)<|hy (fun _=>ab rfl)<|hy (fun _=>ab rfl)<|ai<|al (ρ' :=[(11,_),(35,_),(7,_),(10,_),(9,_),(8,_),(19,_),(6,_),(5,_),(4,_),(0,_),(1,_)]) ⟨rfl,rfl,rfl,rfl,rfl,rfl,rfl,rfl,rfl,rfl,rfl,rfl,trivial⟩<|ak (X' :=[_,_,_,_,_,_]) (S' :=[_]) (fun _ m=>m)<|ag<|ah<|aj<|hy (fun _=>aa rfl)<|hy (fun _=>ab rfl)<|hy (fun _=>ab rfl)<|ai<|al (ρ' :=[(5,_),(4,_),(11,_),(35,_),(7,_),(10,_),(9,_),(8,_),(19,_),(6,_),(0,_),(1,_)]) ⟨rfl,rfl,rfl,rfl,rfl,rfl,rfl,rfl,rfl,rfl,rfl,rfl,trivial⟩<|ag<|aQ<| ?_
    exact cW trivial rfl rfl rfl [3,0] rfl [] rfl ⟨_,_,gy (eo 2 (ws (cx l)) (lS (cx l)) x0.2.l),_,rfl,rfl,rfl,⟨by rw[iF,fu hnm,hbl1],.inl ⟨⟨h0,hW,hAns.1,(fun r2 e=>by rw[hq]at e;cases e;exact hAns.2.2 rfl)⟩,rfl,by rw[hq];rfl⟩⟩⟩
end Go.Proofs.YtmibdabdlgmafaaGreatDoor
end
section
set_option maxRecDepth 20000
set_option maxHeartbeats 2000000
namespace Go.Proofs.YtmibdabdlgmafaaGreatDoor
open Go.Eng Go.Hx
theorem tV(k:Dg)(r:ej):∀l:Frames,cC (AB l) k r.val=AB (cC l k r)
 | []=>rfl
 |(q,x)::t=>by
  have ih:=tV k r t
  unfold AB at ih ⊢
  simp only[List.map_cons,cC]
  split
  ·rfl
  ·rw[ih];rfl
theorem pG{k:Dg}{r:ej}:∀{l:Frames},∀x∈(cC l k r).map (·.2),x∈l.map (·.2)∨x=r
 | [],x,h=>.inr (by simpa[cC]using h)
 |(q,y)::t,x,h=>by
  simp only[cC]at h
  split at h
  ·rw[List.map_cons]at h
   rcases List.mem_cons.1 h with h|h
   ·exact .inr h
   ·exact .inl (List.mem_cons_of_mem _ h)
  ·rw[List.map_cons]at h
   rcases List.mem_cons.1 h with h|h
   ·exact .inl (by rw[h];simp)
   ·rcases pG x h with h|h
    ·exact .inl (List.mem_cons_of_mem _ h)
    ·exact .inr h
theorem xI{g gm:Nat}{l:Frames}:cj Tryz.prog 38 [.pointer (some ⟨g,0,none⟩)] [gZ g gm l] [] (fun v_ X_ S_=>v_=(.int .i64 (l.length:Nat))∧X_=[gZ g gm l]∧S_=[]):=by
 refine nE (N:=15) Tryz.func38 rfl rfl (by simp) fun b=> ?_
 refine bD (fun w m=>(m.perm (az [0] _ [_] _ rfl)).unpack) ?_
 refine ah<|aj<|hy (fun _=>ab rfl)<|ai<|ag<|ah<|aj<|hy (fun _=>aa rfl)<|hy (fun _=>bx rfl)<|hy (fun _=>aI rfl ky (by decide))<| ?_
 refine hx (aq rfl Tryz.call119 (qO) [0] rfl [] rfl ?_)
 rintro _ _ _ ⟨rfl,rfl,rfl⟩
 refine ai<|al (ρ' :=[(2,_),(0,_)]) ⟨rfl,rfl,trivial⟩<|ak (X' :=[_,_,_]) (S' :=[]) (fun _ m=>m)<|ag<|ah<|aj<|hy (fun _=>aa rfl)<|hy (fun _=>bx rfl)<|hy (fun _=>aI rfl ky (by decide))<|tA rfl<|ai<|al (ρ' :=[(2,_),(0,_)]) ⟨rfl,rfl,trivial⟩<|ag<|ah<|aj<|hy (fun _=>aa rfl)<|hy (fun _=>bx rfl)<|hy (fun _=>aI rfl q8 (by decide))<|hy (fun m=>av rfl yc (aB (m.aT 0 rfl) rfl))<|hy (fun m=>BE rfl Tryz.underlying163 (m.mF 1 rfl))<|hy (fun _=>ab rfl)<|ai<|al (ρ' :=[(2,_),(0,_)]) ⟨rfl,rfl,trivial⟩<|ag<|aQ<| ?_
 refine q9 trivial ?_
 refine qX uj 0 rfl rfl Tryz.call120 ?_
 refine mS (fun w m=>m.bQ 0 rfl (show _=aH g 172 (k5 0 gm)from rfl)) ?_
 refine mS (X' :=gZ g gm l::_) (fun w m=>(m.perm (az [0,0,0] _ [_,_,_] _ rfl)).pack) ?_
 have hfl:(AB l).length=l.length:=by simp[AB]
 rw[hfl]
 exact CS rfl rfl [0] rfl [] rfl ⟨rfl,rfl,rfl⟩
theorem Dn{g gm:Nat}{l:Frames}{nm:Dg}:cj Tryz.prog 39 [.pointer (some ⟨g,0,none⟩),DK nm] [gZ g gm l] [] (fun v_ X_ S_=>v_=(.bool (bX l nm).isSome)∧X_=[gZ g gm l]∧S_=[]):=by
 refine aU (N:=14) Tryz.func39 rfl rfl (by simp) fun b=> ?_
 refine ah<|aj<| ?_
 refine hx (cp rfl (fun g3=> ?_))
 refine aV (fun w m=>m.bQ 0 rfl (show _=aH g3 53 (aK nm.1)from congrArg (aH _ _) (bq _))) ?_
 refine hy (fun _=>ab rfl)<|ai<|ak (X' :=[_,_]) (S' :=[]) (fun _ m=>m)<|ag<|ah<|aj<|hy (fun _=>aa rfl)<|hy (fun m=>yV (aR rfl b5 bj (by rw[ax];exact nm.2) ((m.aT 0 rfl).au)) ((rfl:Value.agg _=DK nm)))<| ?_
 refine hx (aq rfl Tryz.call121 (Bk (nm:=nm)) [1] rfl [] rfl ?_)
 rintro _ _ _ ⟨rfl,rfl,rfl⟩
 refine hy (fun _=>aa rfl)<|hy (fun _=>ao rfl rfl)<|hy (fun _=>ao rfl rfl)<|hy (fun _=>ab rfl)<|hy (fun _=>ab rfl)<|ai<|al (ρ' :=[(6,_),(4,_),(3,_),(0,_),(1,_)]) ⟨rfl,rfl,rfl,rfl,rfl,trivial⟩<|ak (X' :=[_,_]) (S' :=[]) (fun _ m=>m)<|ag<|ah<|aj<|hy (fun _=>aa rfl)<|hy (fun _=>ab rfl)<|ai<|al (ρ' :=[(4,_),(6,_),(3,_),(0,_),(1,_)]) ⟨rfl,rfl,rfl,rfl,rfl,trivial⟩<|ag<|aQ<| ?_
 exact bd trivial rfl rfl [0] rfl [] rfl ⟨rfl,rfl,rfl⟩
theorem Bl{g gm:Nat}{A:Option Addr}{n c:Nat}{bb:List UInt8}{l:Frames}(hc:n≤c)(hn:n≤4096)(hl:bb.length=n):cj Tryz.prog 35 [.pointer (some ⟨g,0,none⟩),.slice A n c] [gZ g gm l] [dw 1 A n (aK bb),eU] (fun v_ X_ S_=>∃row,v_=(.tuple #[.agg (aK (bF bb)).toArray,.int .i64 0])∧X_=[gZ g gm (cC l ⟨bF bb,bh bb⟩ row)]∧S_=[]∧(row.l=b4 bb∧row.n=(b4 bb).length)):=by
 have h32:(aK (bF bb)).length=32:=by rw[ax,bh]
 refine nE (N:=28) Tryz.func35 rfl rfl (by simp) fun b=> ?_
 refine ba (fun m=>fG (m.rd 0 rfl)) ?_
 rintro⟨hl_r,hA_r⟩
 refine ah<|aj<| ?_
 refine hx (aJ cX (fun g4=> ?_))
 refine hy (fun _=>ab rfl)<|ai<|ak (X' :=[_,_]) (S' :=[_,_]) (fun _ m=>m)<|ag<|ah<|ah<|aj<|hy (fun _=>aa rfl)<|hy (fun _=>aX rfl Tryz.underlying27)<|hy (fun _=>cF rfl rfl)<|ai<|al (ρ' :=[(9,_),(5,_),(4,_),(0,_),(1,_)]) ⟨rfl,rfl,rfl,rfl,rfl,trivial⟩<|ag<| ?_
 refine dx rfl ((decide_eq_false (by omega))) ?_
 refine bD (fun w m=>(m.perm (az [1] _ [_] _ rfl)).unpack) ?_
 refine aC<|ag<|ah<|aj<|hy (fun _=>aa rfl)<|hy (fun _=>bx rfl)<|hy (fun _=>aI rfl ky (by decide))<| ?_
 refine hx (aq rfl Tryz.call119 (qO) [0] rfl [] rfl ?_)
 rintro _ _ _ ⟨rfl,rfl,rfl⟩
 refine ai<|al (ρ' :=[(9,_),(5,_),(4,_),(0,_),(1,_)]) ⟨rfl,rfl,rfl,rfl,rfl,trivial⟩<|ak (X' :=[_,_,_,_]) (S' :=[_,_]) (fun _ m=>m)<|ag<|ah<|aj<|hy (fun _=>aa rfl)<|hy (fun _=>bx rfl)<|hy (fun _=>aI rfl ky (by decide))<|tA rfl<|ai<|al (ρ' :=[(9,_),(5,_),(4,_),(0,_),(1,_)]) ⟨rfl,rfl,rfl,rfl,rfl,trivial⟩<|ag<|ah<|aj<|hy (fun _=>aa rfl)<| ?_
 refine hx (aq rfl Tryz.call102 (qF (by omega)) [] rfl [0,1] rfl ?_)
 rintro _ _ _ ⟨rfl,rfl,rfl⟩
 refine hx (aJ cX (fun g6=> ?_))
 refine cN (aG 0 rfl rfl rfl bj h32 aS rfl ?_)
 refine ai<|al (ρ' :=[(6,_),(9,_),(5,_),(4,_),(0,_),(1,_)]) ⟨rfl,rfl,rfl,rfl,rfl,rfl,trivial⟩<|ak (X' :=[_,_,_,_,_]) (S' :=[_,_]) (fun _ m=>m)<|ag<|ah<|cV [6,7] [(0,some 1),(1,some 1),(2,some 1),(3,some 1),(4,some 1),(5,some 0),(6,none),(7,none)] (by kernel_rfl) (by kernel_rfl) rfl 1<|an (aa rfl)<|an (bx rfl)<|an (aI rfl q8 (by decide))<|cn (fun m=>av rfl yc (aB (m.aT 1 rfl) rfl))<|cn (fun m=>yV (aR rfl b5 bj h32 ((m.aT 0 rfl).au)) ((rfl:Value.agg _=DK ⟨bF bb,bh bb⟩)))<|an (aa rfl)<| ?_
 refine eK (aq rfl Tryz.call106 (Bq (by omega) (by omega) hl) [] rfl [0] rfl ?_)
 rintro _ _ _ ⟨v,rfl,rfl,rfl⟩
 refine⟨(fun _=>wk [1,1,1,1,1] [0,1] rfl rfl), ?_⟩
 refine cP (fun m=>(m.own 0 rfl).slice) ?_
 rintro⟨A_x,c_x,rfl,hc_x⟩
 refine cP (fun m=>(m.ord 0 rfl).2.1) fun hA_x=> ?_
 refine ja (oW (enc:=DK) (k:=⟨bF bb,bh bb⟩) 3 rfl rfl rfl rfl Tryz.underlying163 (x8 rfl Tryz.underlying53 Tryz.underlying5 (by kernel_rfl) (by kernel_rfl) (by kernel_rfl)) ⟨(fun h=>absurd h (by decide)), ?_⟩)
 refine bE<|al (ρ' :=[(6,_),(9,_),(5,_),(4,_),(0,_),(1,_)]) ⟨rfl,rfl,rfl,rfl,rfl,rfl,trivial⟩<|ak (X' :=[_,_,_,_,_,_]) (S' :=[_,_]) (fun _ m=>m)<|ag<|ah<|aj<|hy (fun m=>aR rfl b5 bj h32 ((m.aT 2 rfl).au))<| ?_
 refine cN (aG 5 rfl rfl rfl bj h32 aS rfl ?_)
 refine hy (fun _=>ab rfl)<|ai<|al (ρ' :=[(5,_),(6,_),(9,_),(4,_),(0,_),(1,_)]) ⟨rfl,rfl,rfl,rfl,rfl,rfl,trivial⟩<|ak (X' :=[_,_,_,_,_,_]) (S' :=[_,_]) (fun _ m=>m)<|ag<|aQ<| ?_
 refine q9 trivial ?_
 refine qX uj 4 rfl rfl Tryz.call120 ?_
 refine mS (fun w m=>m.bQ 0 rfl (show _=aH g 172 (k5 0 gm)from rfl)) ?_
 refine mS (fun w m=>m.bQ 2 rfl (show _=dR DK gm (AB (cC l ⟨bF bb,bh bb⟩ ⟨A_x,(b4 bb).length,c_x,b4 bb⟩))from congrArg (dR DK gm) (tV _ ⟨A_x,(b4 bb).length,c_x,b4 bb⟩ l))) ?_
 refine mS (X' :=ik ((cC l ⟨bF bb,bh bb⟩ ⟨A_x,(b4 bb).length,c_x,b4 bb⟩).map (·.2))::_) (fun w m=>(m.perm (az [5,3] _ [_,_] _ rfl)).yb (pG)) ?_
 refine mS (X' :=gZ g gm (cC l ⟨bF bb,bh bb⟩ ⟨A_x,(b4 bb).length,c_x,b4 bb⟩)::_) (fun w m=>(m.perm (az [2,1,0] _ [_,_,_] _ rfl)).pack) ?_
 exact zf rfl rfl rfl b5 bj h32 (fun m=>(m.aT 1 rfl).au) [0] rfl [] rfl ⟨_,rfl,rfl,rfl,⟨rfl,rfl⟩⟩
end Go.Proofs.YtmibdabdlgmafaaGreatDoor
end
section
set_option maxRecDepth 100000
namespace Go.Hx
def dp(k:Nat):List UInt8:=(List.range (3*k)).map fun i=>[UInt8.ofNat (65+k),1,UInt8.ofNat k].getD (i % 3) 0
theorem kH(k:Nat):(dp k).length=3*k:=by simp[dp]
end Go.Hx
end
section
set_option maxRecDepth 20000
set_option maxHeartbeats 4000000
namespace Go.Proofs.YtmibdabdlgmafaaGreatDoor
open Go.Eng Go.Hx
theorem tD{k:Nat}(hk:k<6):fill [UInt8.ofNat (65+k),1,UInt8.ofNat k] (3*k)=dp k:=by
 match k,hk with
 |0,_=>decide
 |1,_=>decide
 |2,_=>decide
 |3,_=>decide
 |4,_=>decide
 |5,_=>decide
theorem jz{z:Int}{k:Nat}(h0:-9223372036854775808≤z∧z≤9223372036854775807)(hz:iQ z 6=(k:Int))(hk:k<6):cj Tryz.prog 27 [.int .i64 z] [] [] (fun v_ X_ S_=>∃v,v_=v∧X_=[aF 5 1 v (3*k) (aK (dp k))]∧S_=[]):=by
 refine aU (N:=15) Tryz.func27 rfl rfl (by simp) fun b=> ?_
 refine ah<|aj<|hy (fun _=>ab rfl)<|ai<|ag<|ah<|aj<|hy (fun _=>aa rfl)<| ?_
 refine hx (aq rfl Tryz.call16 (zE (by omega) (by omega) (by omega)) [] rfl [] rfl ?_)
 rintro _ _ _ ⟨rfl,rfl,rfl⟩
 rw[hz]
 refine hy (fun _=>ab rfl)<|ai<|al (ρ' :=[(3,_),(2,_),(0,_)]) ⟨rfl,rfl,rfl,trivial⟩<|ak (X' :=[]) (S' :=[]) (fun _ m=>m)<|ag<|ah<|aj<|hy (fun _=>aa rfl)<|hy (fun _=>yV (aM rfl rfl (bB (by omega) (by omega))) ((show Value.int .i64 ((65:Int)+(k:Int))= .int .i64 ((65+k:Nat):Int) by congr 1)))<|hy (fun _=>yV (bJ rfl Tryz.underlying3 Tryz.underlying5 (fl (65+k))) ((show Value.int .u8 _=B8 (UInt8.ofNat (65+k))from rfl)))<|hy (fun _=>aa rfl)<|hy (fun _=>yV (bJ rfl Tryz.underlying3 Tryz.underlying5 (fl k)) ((show Value.int .u8 _=B8 (UInt8.ofNat k)from rfl)))<| ?_
 refine hx (cg Tryz.underlying27 ey rfl rfl rfl (by simp[Value.cells,B8]) (by decide) (by decide) (fun g11=> ?_))
 have hA_b11:0<3→(some (⟨g11,0,none⟩:Addr))≠none:=fun _ h=>by cases h
 refine hy (fun _=>aa rfl)<|hy (fun _=>yV (fv rfl rfl (bB (by omega) (by omega))) ((show Value.int .i64 ((3:Int)*(k:Int))= .int .i64 ((3*k:Nat):Int)from rfl)))<| ?_
 refine aV (fun w m=>m.bQ 0 rfl (show _=aF 5 1 (.slice (some ⟨g11,0,none⟩) 3 3) 3 (aK [UInt8.ofNat (65+k),1,UInt8.ofNat k])from rfl)) ?_
 refine hx (bT rfl Tryz.call101 (DJ (show 3≤140737488351232 by decide) (show 3*k≤1000000 by omega) (l:=[UInt8.ofNat (65+k),1,UInt8.ofNat k])) [] rfl (.x 0 rfl .own .nil) ?_)
 rintro _ _ _ ⟨v,rfl,rfl,rfl⟩
 refine⟨rfl, ?_⟩
 refine aw (fun m=>(m.own 0 rfl).slice) ?_
 rintro⟨A_x,c_x,rfl,hc_x⟩
 refine aw (fun m=>(m.ord 0 rfl).2.1) fun hA_x=> ?_
 refine hy (fun _=>ab rfl)<|ai<|al (ρ' :=[(2,_),(3,_),(0,_)]) ⟨rfl,rfl,rfl,trivial⟩<|ak (X' :=[_,_]) (S' :=[]) (fun _ m=>m)<|ag<|aQ<| ?_
 rw[tD hk]
 exact bd trivial rfl rfl [0] rfl [] rfl ⟨_,rfl,rfl,rfl⟩
theorem zp{z:Int}{k:Nat}(h0:-9223372036854775808≤z∧z≤9223372036854775807)(hz:iQ z 6=(k:Int))(hk:k<6):cj Tryz.prog 30 [.int .i64 z] [] [eU] (fun v_ X_ S_=>v_=(.agg (aK (bF (dp k))).toArray)∧X_=[]∧S_=[]):=by
 have h32:(aK (bF (dp k))).length=32:=by rw[ax,bh]
 refine aU (N:=6) Tryz.func30 rfl rfl (by simp) fun b=> ?_
 refine ah<|aj<| ?_
 refine hx (aJ cX (fun g2=> ?_))
 refine ai<|ak (X' :=[_]) (S' :=[_]) (fun _ m=>m)<|ag<|ah<|aj<|hy (fun _=>aa rfl)<| ?_
 refine hx (aq rfl Tryz.call27 (jz h0 hz hk) [] rfl [] rfl ?_)
 rintro _ _ _ ⟨v,rfl,rfl,rfl⟩
 refine aw (fun m=>(m.own 0 rfl).slice) ?_
 rintro⟨A_x,c_x,rfl,hc_x⟩
 refine aw (fun m=>(m.ord 0 rfl).2.1) fun hA_x=> ?_
 refine hx (bT rfl Tryz.call56 (lK (by omega)) [] rfl (.x 0 rfl .own .nil) ?_)
 rintro _ _ _ ⟨rfl,rfl,rfl⟩
 refine⟨rfl, ?_⟩
 refine cN (aG 1 rfl rfl rfl bj h32 aS rfl ?_)
 refine ai<|al (ρ' :=[(2,_),(0,_)]) ⟨rfl,rfl,trivial⟩<|ak (X' :=[_,_]) (S' :=[_]) (fun _ m=>m)<|ag<|aQ<| ?_
 exact gw trivial rfl rfl b5 bj h32 (fun m=>(m.aT 0 rfl).au) [] rfl [] rfl ⟨rfl,rfl,rfl⟩
abbrev Ck:=Dg×List UInt8
def Ae(x:Ck):List Value:=aK x.1.1++[SV x.2]
theorem qB(x:Ck):(Ae x).length=33:=by simp[Ae,ax,x.1.2]
theorem Ao(x:Ck):∀u∈Ae x,u.oneCell' =true:=by
 intro u hu
 rcases List.mem_append.1 hu with h|h
 ·exact aS u h
 ·rw[List.mem_singleton.1 h];rfl
def iu(l:List Ck):List Value:=l.flatMap Ae
theorem rO(a b:List Ck):iu (a++b)=iu a++iu b:=by simp[iu]
theorem sv(l:List Ck):(iu l).length=l.length*33:=by
 induction l with
 |nil=>rfl
 |cons a r ih=>
  have e:iu (a::r)=Ae a++iu r:=by simp[iu]
  rw[e,List.length_append,ih,qB,List.length_cons];omega
theorem rF{l:List Ck}:∀u∈iu l,u.oneCell' =true:=by
 intro u hu
 obtain⟨x,_,h⟩:=List.mem_flatMap.1 hu
 exact Ao x u h
def fw(l:List Ck)(nm:List UInt8):Nat:=l.findIdx fun x=>decide (x.1.1=nm)
def k7(l:List Ck)(nm:List UInt8):Int:=if fw l nm<l.length then(fw l nm:Nat)else-1
def nA(l:List Ck)(b:List UInt8):List Ck:=if fw l (bF b)<l.length then l else l++[(⟨bF b,bh b⟩,b)]
theorem wK{l:List Ck}{nm:List UInt8}{i:Nat}{x:Ck}(h:i≤fw l nm)(hx:l[i]? =some x)(e:x.1.1=nm):k7 l nm=(i:Nat):=by
 obtain⟨hi,rfl⟩:=List.getElem?_eq_some_iff.1 hx
 have h2:fw l nm=i:=by
  refine Nat.le_antisymm ?_ h
  rcases Nat.lt_or_ge i (fw l nm)with hlt|hge
  ·have:=List.not_of_lt_findIdx (p:=fun x:Ck=>decide (x.1.1=nm)) hlt
   rw[e]at this
   simp at this
  ·exact hge
 unfold k7
 rw[if_pos (by omega),h2]
theorem ta{l:List Ck}{nm:List UInt8}{i:Nat}{x:Ck}(h:i≤fw l nm)(hx:l[i]? =some x)(e:x.1.1≠nm):i+1≤fw l nm:=by
 obtain⟨hi,rfl⟩:=List.getElem?_eq_some_iff.1 hx
 rcases Nat.lt_or_ge i (fw l nm)with hlt|hge
 ·exact hlt
 ·have h2:fw l nm=i:=Nat.le_antisymm hge h
  have h3:=List.findIdx_getElem (p:=fun x:Ck=>decide (x.1.1=nm)) (xs:=l) (w:=by show fw l nm<_;omega)
  have h4:(l[fw l nm]'(by omega)).1.1=nm:=of_decide_eq_true h3
  simp only[h2]at h4
  exact absurd h4 e
theorem vm{l:List Ck}{nm:List UInt8}(h:l.length≤fw l nm):k7 l nm=-1:=by unfold k7;rw[if_neg (by omega)]
theorem x4{w:World}{A:Option Addr}{n i:Nat}{l:List Ck}{x:Ck}(h:Rd w 33 A n (iu l))(hx:l[i]? =some x):∀(j:Nat) (u:Value),(Ae x)[j]? =some u→w.cell? (((A.getD d0).add (i*33)).add j)=some u:=s3 (f:=Ae) qB h hx
theorem tP{w:World}{A:Option Addr}{n i:Nat}{l:List Ck}{x:Ck}(h:Rd w 33 A n (iu l))(hx:l[i]? =some x):∀(j:Nat) (u:Value),(aK x.1.1)[j]? =some u→w.cell? ((((A.getD d0).add (i*33)).add 0).add j)=some u:=by
 intro j u hu
 rw[add_add,Nat.zero_add]
 refine x4 h hx j u ?_
 unfold Ae
 rw[List.getElem?_append_left (List.getElem?_eq_some_iff.1 hu).1]
 exact hu
theorem Aw{A:Option Addr}{n c:Nat}{l:List Ck}{nm:List UInt8}(hm:nm.length=32)(hn:n≤1000000):cj Tryz.prog 118 [.slice A n c,.agg (aK nm).toArray] [] [dw 33 A n (iu l)] (fun v_ X_ S_=>v_=(.int .i64 (k7 l nm))∧X_=[]∧S_=[]):=by
 have h32:(aK nm).length=32:=by rw[ax,hm]
 refine aU (N:=20) Tryz.func118 rfl rfl (by simp) fun b=> ?_
 refine ba (fun m=>mX (m.rd 0 rfl)) ?_
 rintro⟨hl_r,hA_r⟩
 refine ba (fun m=>(m.rd 0 rfl).1) fun hln=> ?_
 rw[sv]at hln
 have hln:l.length=n:=by omega
 refine ah<|aj<| ?_
 refine hx (cp rfl (fun g3=> ?_))
 refine aV (fun w m=>m.bQ 0 rfl (show _=aH g3 53 (aK nm)from congrArg (aH _ _) (bq _))) ?_
 refine hy (fun _=>ab rfl)<|ai<|ak (X' :=[_]) (S' :=[_]) (fun _ m=>m)<|ag<|ah<|ah<|aj<|hy (fun _=>ab rfl)<|ai<|ag<|aN<| ?_
 refine dA (fun i=>n-i) (fun i=>[(5,.int .i64 (i:Nat))]) (fun i=>[]) (fun i=>[]) (fun i=>i≤n∧i≤fw l nm) 0 [(3,_),(0,_),(1,_)] ⟨rfl,rfl,rfl,trivial⟩ [] rfl [] rfl (⟨Nat.zero_le _,Nat.zero_le _⟩) ⟨rfl,trivial⟩ (fun i ⟨hin,hiK⟩=> ?_)
 refine ah<|ah<|aj<|hy (fun _=>aa rfl)<|hy (fun _=>aa rfl)<|hy (fun _=>aX rfl Tryz.underlying51)<|hy (fun _=>bk rfl rfl)<|ai<|al (ρ' :=[(9,_),(5,_),(3,_),(0,_),(1,_)]) ⟨rfl,rfl,rfl,rfl,rfl,trivial⟩<|ag<| ?_
 refine cI rfl (fun hlt=> ?_) (fun hlt=> ?_)
 ·have hi2:i<l.length:=by omega
  obtain⟨x,hxl⟩:∃x,l[i]? =some x:=⟨_,List.getElem?_eq_getElem hi2⟩
  refine aC<|ag<|ah<|aN<|ah<|cV [] [(0,some 0),(1,some 0),(2,some 0),(3,some 0),(4,some 0),(5,some 0),(6,some 0)] (by kernel_rfl) (by kernel_rfl) rfl 99<|an (aa rfl)<|an (aa rfl)<|an (dF rfl rfl Tryz.underlying51 Eh hA_r rfl (by omega))<|an (aI rfl yt (by decide))<|cn (fun m=>aR rfl b5 bj (by rw[ax];exact x.1.2) (tP (m.rd 0 rfl) hxl))<|cn (fun m=>aR rfl b5 bj h32 ((m.aT 0 rfl).au))<|an (qJ rfl rfl x.1.2 hm)<|bE<|al (ρ' :=[(18,_),(9,_),(5,_),(3,_),(0,_),(1,_)]) ⟨rfl,rfl,rfl,rfl,rfl,rfl,trivial⟩<|ag<| ?_
  refine cI rfl (fun h=> ?_) (fun h=> ?_)
  ·rw[wK hiK hxl h]
   refine ah<|aj<|hy (fun _=>aa rfl)<|hy (fun _=>ab rfl)<|ai<|al (ρ' :=[(4,_),(18,_),(9,_),(5,_),(3,_),(0,_),(1,_)]) ⟨rfl,rfl,rfl,rfl,rfl,rfl,rfl,trivial⟩<|ag<|aQ<|bc<|ay<|ay<|bc<|ay<| ?_
   exact bd trivial rfl rfl [] rfl [] rfl ⟨rfl,rfl,rfl⟩
  ·have hn2:=ta hiK hxl h
   refine aC<|aW<|ag<|aj<|hy (fun _=>aa rfl)<|hy (fun _=>aM rfl rfl (bB (by omega) (by omega)))<|hy (fun _=>ab rfl)<|ai<|al (ρ' :=[(5,_),(18,_),(9,_),(3,_),(0,_),(1,_)]) ⟨rfl,rfl,rfl,rfl,rfl,rfl,trivial⟩<| ?_
   refine cS (i+1) ⟨rfl,rfl,rfl,rfl,trivial⟩ [0] rfl [0] rfl (⟨by omega,hn2⟩) (by omega)
 ·have hE:=vm (l:=l) (nm:=nm) (by omega)
  rw[hE]
  refine bS<|ar<|ar<|aE<|ag<|ah<|aj<|hy (fun _=>ab rfl)<|ai<|ag<|aQ<| ?_
  exact bd trivial rfl rfl [] rfl [] rfl ⟨rfl,rfl,rfl⟩
theorem Dj{P:Program}{pl:Nat→Option (Nat×Nat)}{zi nm b:List UInt8}{z:Value}(h0:pl 0=some (0,32))(h1:pl 1=some (32,1))(hz:zi.length=32)(hn:nm.length=32):sX P pl (aK zi++[z]) [(0,.agg (aK nm).toArray),(1,.string (strOf b))] (aK nm++[SV b]):=by
 have e1:bR (aK zi++[z]) 0 (aK nm)=aK nm++[z]:=by
  simp only[bR,List.take_zero,List.nil_append,ax,hn,Nat.zero_add]
  rw[List.drop_append,List.drop_of_length_le (by rw[ax,hz];omega),ax,hz]
  rfl
 have e2:bR (aK nm++[z]) 32 [SV b]=aK nm++[SV b]:=by
  simp only[bR,List.length_singleton]
  rw[List.take_append_of_le_length (by rw[ax,hn];omega),List.take_of_length_le (by rw[ax,hn];omega),List.drop_of_length_le (by simp[ax,hn]),List.append_nil]
 exact .cons h0 (bq _) (by rw[ax,hn]) (by simp[ax,hz]) (by rw[e1];exact .cons h1 rfl rfl (by simp[ax,hn]) (by show sX P pl (bR (aK nm++[z]) 32 [SV b]) [] _;rw[e2];exact .nil))
theorem wU{A:Option Addr}{n c:Nat}{l:List Ck}{B:Option Addr}{m mc:Nat}{bb:List UInt8}(hn:n≤1000000)(hb:bb.length=m)(hm:m≤1000000):cj Tryz.prog 34 [.slice A n c,.slice B m mc] [aF 72 33 (.slice A n c) n (iu l)] [dw 1 B m (aK bb),eU] (fun v_ X_ S_=>∃A1 n1 c1,v_=(.slice A1 n1 c1)∧X_=[aF 72 33 (.slice A1 n1 c1) n1 (iu (nA l bb))]∧S_=[]∧(n1=(nA l bb).length)):=by
 have hs:=bh bb
 have h32:(aK (bF bb)).length=32:=by rw[ax,hs]
 refine aU (N:=24) Tryz.func34 rfl rfl (by simp) fun b=> ?_
 refine ba (fun m=>fG (m.rd 0 rfl)) ?_
 rintro⟨hl_r,hA_r⟩
 refine ba (fun m=>(m.ord 0 rfl).1) fun hln=> ?_
 rw[sv]at hln
 have hln:l.length=n:=by omega
 refine ah<|aj<|hy (fun _=>ab rfl)<|ai<|ag<|ah<|aj<|hy (fun _=>aa rfl)<| ?_
 refine hx (aq rfl Tryz.call56 (lK (by omega)) [] rfl [0] rfl ?_)
 rintro _ _ _ ⟨rfl,rfl,rfl⟩
 refine hx (aJ cX (fun g5=> ?_))
 refine cN (aG 0 rfl rfl rfl bj h32 aS rfl ?_)
 refine ai<|al (ρ' :=[(5,_),(4,_),(0,_),(1,_)]) ⟨rfl,rfl,rfl,rfl,trivial⟩<|ak (X' :=[_,_]) (S' :=[_,_]) (fun _ m=>m)<|ag<|ah<|ah<|aj<|hy (fun _=>aa rfl)<|hy (fun m=>aR rfl b5 bj h32 ((m.aT 0 rfl).au))<| ?_
 refine hx (bT rfl Tryz.call118 (Aw hs hn) [] rfl (.x 1 rfl .own .nil) ?_)
 rintro _ _ _ ⟨rfl,rfl,rfl⟩
 refine⟨rfl, ?_⟩
 refine hy (fun _=>gG rfl rfl)<|ai<|al (ρ' :=[(12,_),(5,_),(4,_),(0,_),(1,_)]) ⟨rfl,rfl,rfl,rfl,rfl,trivial⟩<|ak (X' :=[_,_]) (S' :=[_,_]) (fun _ m=>m)<|ag<| ?_
 refine cI rfl (fun h=> ?_) (fun h=> ?_)
 ·have hlt:fw l (bF bb)<l.length:=by
   unfold k7 at h
   split at h
   ·assumption
   ·omega
  have e0:nA l bb=l:=if_pos hlt
  rw[e0]
  refine ah<|aj<|hy (fun _=>aa rfl)<|hy (fun _=>ab rfl)<|ai<|al (ρ' :=[(4,_),(12,_),(5,_),(0,_),(1,_)]) ⟨rfl,rfl,rfl,rfl,rfl,trivial⟩<|ag<|aQ<|ay<| ?_
  exact bd trivial rfl rfl [1] rfl [] rfl ⟨_,_,_,rfl,rfl,rfl,hln.symm⟩
 ·have hge:¬fw l (bF bb)<l.length:=by
   intro hlt
   unfold k7 at h
   rw[if_pos hlt]at h
   omega
  have e0:nA l bb=l++[(⟨bF bb,hs⟩,bb)]:=if_neg hge
  rw[e0]
  refine aC<|ag<|ah<|aj<|hy (fun _=>ab rfl)<|ai<|ag<|ah<|aj<|hy (fun _=>aa rfl)<|hy (fun _=>aa rfl)<| ?_
  refine aV (fun w m=>m.cL (r' :=aF 72 33 (.slice none 0 0) 0 []) (.refl _ _) (Own.nil _ _ _ _) (fun k hk=>hk.elim)) ?_
  refine hx (bu 0 rfl rfl rfl Tryz.underlying51 Tryz.underlying51 (by exact .inl rfl) zr rfl (fun m=>Src.bN (m.ord 2 rfl)) rF (by unfold maxLen;omega) (by omega) (fun u=> ?_))
  refine aw (fun m=>(m.own 0 rfl).slice) ?_
  rintro⟨A_z,c_z,rfl,hc_z⟩
  refine aw (fun m=>(m.ord 0 rfl).2.1) fun hA_z=> ?_
  refine hy (fun _=>ab rfl)<|ai<|al (ρ' :=[(6,_),(12,_),(5,_),(4,_),(0,_),(1,_)]) ⟨rfl,rfl,rfl,rfl,rfl,rfl,trivial⟩<|ak (X' :=[_,_,_]) (S' :=[_,_]) (fun _ m=>m)<|ag<|ah<|aj<|hy (fun _=>aa rfl)<|hy (fun m=>aR rfl b5 bj h32 ((m.aT 1 rfl).au))<|hy (fun _=>aa rfl)<|hy (fun m=>eZ rfl Tryz.underlying27 Tryz.underlying5 Tryz.underlying9 (m.rd 0 rfl))<|hy (fun _=>cD zr rfl rfl (by kernel_rfl) (Dj (zi:=List.replicate 32 0) B0 CA (by rw[List.length_replicate]) hs))<| ?_
  refine hx (cg Tryz.underlying51 zr rfl rfl rfl (by intro v hv;rw[List.mem_singleton.1 hv];show(Ae (⟨bF bb,hs⟩,bb)).toArray.size=33;rw[List.size_toArray,qB]) (by decide) (by decide) (fun g22=> ?_))
  have hA_b22:0<1→(some (⟨g22,0,none⟩:Addr))≠none:=fun _ h=>by cases h
  refine aV (fun w m=>m.bQ 0 rfl (show _=aF 72 33 (.slice (some ⟨g22,0,none⟩) 1 1) 1 (iu [(⟨bF bb,hs⟩,bb)])from rfl)) ?_
  refine hx (bu 1 rfl rfl rfl Tryz.underlying51 Tryz.underlying51 (by exact .inl rfl) zr rfl (fun m=>Src.bN (m.ord 0 rfl)) rF (by unfold maxLen;omega) (by omega) (fun u2=> ?_))
  refine aw (fun m=>(m.own 0 rfl).slice) ?_
  rintro⟨A_z2,c_z2,rfl,hc_z⟩
  refine aw (fun m=>(m.ord 0 rfl).2.1) fun hA_z=> ?_
  refine hy (fun _=>ab rfl)<|ai<|al (ρ' :=[(4,_),(6,_),(12,_),(5,_),(0,_),(1,_)]) ⟨rfl,rfl,rfl,rfl,rfl,rfl,trivial⟩<|ak (X' :=[_,_,_,_]) (S' :=[_,_]) (fun _ m=>m)<|ag<|aQ<| ?_
  refine ak (fun w m=>m.bQ 0 rfl (show _=aF 72 33 (.slice A_z2 (0+n+1) c_z2) (0+n+1) (iu (l++[(⟨bF bb,hs⟩,bb)]))from congrArg (aF _ _ _ _) (by rw[rO,List.nil_append]))) ?_
  exact bd trivial rfl rfl [0] rfl [] rfl ⟨_,_,_,rfl,rfl,rfl,(by rw[List.length_append,hln,Nat.zero_add];rfl)⟩
end Go.Proofs.YtmibdabdlgmafaaGreatDoor
end
section
set_option maxRecDepth 20000
namespace Go.Proofs.YtmibdabdlgmafaaGreatDoor
open Go.Eng Go.Hx
def my(ks:List (List UInt8))(q:List UInt8):List (List UInt8):=if q∈ks then ks else ks++[q]
def fM(d:RD)(ks:List (List UInt8))(nm:List UInt8):List (List UInt8):=if d.fS nm=0 then my ks nm else ks
def eH(ks:List (List UInt8))(d:RD)(i:Nat):List (List UInt8):=((bW d).take i).foldl (fM d) ks
theorem n6{ks:List (List UInt8)}{d:RD}{i:Nat}(h:i<(bW d).length):eH ks d (i+1)=fM d (eH ks d i) ((bW d).getD i []):=by
 have h1:(bW d).take (i+1)=(bW d).take i++[(bW d).getD i []]:=by
  rw[List.take_add_one,List.getElem?_eq_getElem h]
  simp[List.getD,List.getElem?_eq_getElem h]
 unfold eH
 rw[h1,List.foldl_append]
 rfl
theorem xz{ks:List (List UInt8)}{q x:List UInt8}(h:x∈ks):x∈my ks q:=by
 unfold my
 split
 ·exact h
 ·exact List.mem_append_left _ h
theorem vW{d:RD}{ks:List (List UInt8)}{q x:List UInt8}(h:x∈ks):x∈fM d ks q:=by
 unfold fM
 split
 ·exact xz h
 ·exact h
theorem pD{d:RD}{x:List UInt8}:∀(l ks:List (List UInt8)),x∈ks→x∈l.foldl (fM d) ks
 | [],_,h=>h
 |a::r,ks,h=>pD r _ (vW h)
theorem pW{d:RD}{x:List UInt8}:∀(l ks:List (List UInt8)),x∈l→d.fS x=0→x∈l.foldl (fM d) ks
 | [],_,h,_=>absurd h (List.not_mem_nil)
 |a::r,ks,h,he=>by
  rcases List.mem_cons.1 h with rfl|h
  ·refine pD r _ ?_
   unfold fM
   rw[if_pos he]
   unfold my
   split
   ·assumption
   ·exact List.mem_append_right _ (List.mem_singleton_self _)
  ·exact pW r _ h he
theorem ni{d:RD}:∀(l ks:List (List UInt8)),(∀x∈l,d.fS x=0→x∈ks)→l.foldl (fM d) ks=ks
 | [],_,_=>rfl
 |a::r,ks,h=>by
  have e:fM d ks a=ks:=by
   unfold fM
   split
   ·rename_i he
    exact if_pos (h a (List.mem_cons_self ..) he)
   ·rfl
  rw[List.foldl_cons,e]
  exact ni r ks (fun x hx=>h x (List.mem_cons_of_mem _ hx))
theorem rI(ks:List (List UInt8))(d:RD):eH (eH ks d (bW d).length) d (bW d).length=eH ks d (bW d).length:=by
 unfold eH
 rw[List.take_length]
 exact ni _ _ (fun x hx he=>pW _ _ hx he)
def ez(fr:Frames):List (List UInt8):=(b7 fr).map (·.1)
def eb(w:List Ck):List (List UInt8):=w.map (·.1.1)
theorem qf(fr:Frames)(q:Dg)(r:ej):ez (cC fr q r)=my (ez fr) q.1:=by
 unfold ez my
 rw[mi]
 have h:q∈b7 fr↔q.1∈(b7 fr).map (·.1):=⟨fun h=>List.mem_map.2 ⟨q,h,rfl⟩,fun h=>by
  obtain⟨x,hx,e⟩:=List.mem_map.1 h
  rwa [←Subtype.ext e]⟩
 by_cases hq:q∈b7 fr
 ·rw[if_pos hq,if_pos (h.1 hq)]
 ·rw[if_neg hq,if_neg (fun k=>hq (h.2 k)),List.map_append];rfl
theorem pT(w:List Ck)(b:List UInt8):eb (nA w b)=my (eb w) (bF b):=by
 have h:fw w (bF b)<w.length↔bF b∈eb w:=by
  unfold fw eb
  rw[List.findIdx_lt_length]
  constructor
  ·rintro⟨x,hx,e⟩;exact List.mem_map.2 ⟨x,hx,of_decide_eq_true e⟩
  ·intro h
   obtain⟨x,hx,e⟩:=List.mem_map.1 h
   exact⟨x,hx,decide_eq_true e⟩
 unfold nA my
 by_cases hq:fw w (bF b)<w.length
 ·rw[if_pos hq,if_pos (h.1 hq)]
 ·rw[if_neg hq,if_neg (fun k=>hq (h.2 k))]
  simp[eb]
theorem uW{d:RD}{nm:List UInt8}(h:d.fS nm=0):bF (d.jd nm)=nm:=by
 rw[nG h]
 unfold RD.fS at h
 split at h
 ·rename_i h1;exact absurd h h1
 ·split at h
  ·cases h
  ·rename_i h2
   exact Decidable.not_not.1 (fun q=>h2 (.inr q))
theorem jm(fr:Frames):(ez fr).length=fr.length:=by simp[ez,b7]
theorem fR(w:List Ck):(eb w).length=w.length:=by simp[eb]
theorem we{fr:Frames}{nm:Dg}(h:nm.1∈ez fr):(bX fr nm).isSome=true:=by
 cases hq:bX fr nm with
 |some r=>rfl
 |none=>
  obtain⟨x,hx,e⟩:=List.mem_map.1 h
  exact absurd (by rwa [←Subtype.ext e]) (je.1 hq)
theorem lg(d:RD):Aq (bW d):=fun x hx=>by
 obtain⟨p,_,h⟩:=List.mem_filterMap.1 hx
 rw[←j6]at h
 exact(eF h).1
end Go.Proofs.YtmibdabdlgmafaaGreatDoor
end
section
set_option maxRecDepth 20000
namespace Go.Proofs.YtmibdabdlgmafaaGreatDoor
open Go.Eng Go.Hx
theorem mD(b:List UInt8):fJ (gy b)=0∧cx (gy b)=b:=by
 have hl:=iF b
 have ht:(gy b).take ((gy b).length-4)=b:=by rw[hl,Nat.add_sub_cancel,gy];simp
 have he:fJ (gy b)=0:=by unfold fJ;rw[if_neg (by omega),ht,if_pos rfl]
 exact⟨he,by rw[cx,if_pos he,ht]⟩
theorem AJ{k s:Nat}{nm body:List UInt8}(hk:k<256):wj (eo k s nm body)=k:=by
 have:(eo k s nm body).getD 0 0=UInt8.ofNat k:=by simp[eo]
 unfold wj
 rw[this,UInt8.toNat_ofNat',Nat.mod_eq_of_lt (by omega)]
theorem AE{k s:Nat}{nm body:List UInt8}(hs:s<4294967296):ws (eo k s nm body)=s:=by
 have:((eo k s nm body).drop 1).take 4=gx s:=by
  simp only[eo,List.cons_append,List.nil_append,List.drop_succ_cons,List.drop_zero]
  rw[List.append_assoc,List.take_append_of_le_length (by rw[dN];exact Nat.le_refl _),List.take_of_length_le (by rw[dN];exact Nat.le_refl _)]
 unfold ws
 rw[this,yJ hs]
theorem Dy{k s:Nat}{nm body:List UInt8}(hm:nm.length=32):lS (eo k s nm body)=nm:=by
 have:(eo k s nm body).drop 5=nm++body:=by simp[eo,gx]
 unfold lS
 rw[this,List.take_append_of_le_length (by omega),List.take_of_length_le (by omega)]
theorem AK{k s:Nat}{nm body:List UInt8}(hk:k<256)(hs:s<4294967296)(hm:nm.length=32)(hM:gK k s body.length):uL [] (gy (eo k s nm body))↔k=1:=by
 obtain⟨h1,h2⟩:=mD (eo k s nm body)
 unfold uL
 rw[h1,h2,AJ hk]
 constructor
 ·intro h;have:=h.2.2.1;omega
 ·intro h
  refine⟨rfl,⟨by rw[fu hm];omega, ?_⟩,by omega,fun r e=>by cases e⟩
  rw[AJ hk,AE hs,fu hm,Nat.add_sub_cancel_left]
  exact hM
theorem xf:DA []:=fun x h=>by cases h
theorem vR:zm.length=32:=by simp[zm]
theorem w0:cj Tryz.prog 40 [] [] [] (fun v_ X_ S_=>v_=(.bool true)∧X_=[]∧S_=[]):=by
 refine aU (N:=36) Tryz.func40 rfl rfl (by simp) fun b=> ?_
 refine ah<|aj<|hy (fun _=>ab rfl)<|ai<|ag<|ah<|aj<| ?_
 refine hx (aq rfl Tryz.call23 (uw) [] rfl [] rfl ?_)
 rintro _ _ _ ⟨g,gm,rfl,rfl,rfl⟩
 refine hy (fun _=>ab rfl)<|ai<|al (ρ' :=[(1,_),(0,_)]) ⟨rfl,rfl,trivial⟩<|ak (X' :=[_]) (S' :=[]) (fun _ m=>m)<|ag<|ah<|ah<|aj<|hy (fun _=>aa rfl)<|hy (fun _=>tB rfl rfl (by kernel_rfl))<|ai<|al (ρ' :=[(8,_),(1,_),(0,_)]) ⟨rfl,rfl,rfl,trivial⟩<|ag<| ?_
 refine dx rfl (rfl) ?_
 have e0:([]:List UInt8).length=0:=rfl
 have hM7:gK ((1:Nat):Int) ((7:Nat):Int) ([]:List UInt8).length:=⟨by omega,.inl rfl⟩
 have hi7:=AK (k:=1) (s:=7) (nm:=zm) (body:=[]) (by decide) (by decide) vR hM7
 refine aC<|ag<|ah<|aj<|hy (fun _=>aa rfl)<|hy (fun _=>yV (cD Ek rfl rfl (by kernel_rfl) (.cons (o:=0) (sz:=1) (by kernel_rfl) rfl rfl (Nat.le_of_ble_eq_true rfl) (.cons (o:=1) (sz:=1) (by kernel_rfl) rfl rfl (Nat.le_of_ble_eq_true rfl) .nil))) ((rfl:_=Value.agg (mc ((1:Nat):Int) ((7:Nat):Int) zm (.string (strOf []))).toArray)))<| ?_
 refine hx (aq rfl Tryz.call123 (xC (by omega) (by omega) vR (by omega) (body:=[])) [] rfl [] rfl ?_)
 rintro _ _ _ ⟨v,rfl,rfl,rfl⟩
 refine aw (fun m=>(m.own 0 rfl).slice) ?_
 rintro⟨A_x,c_x,rfl,hc_x⟩
 refine aw (fun m=>(m.ord 0 rfl).2.1) fun hA_x=> ?_
 refine hx (bT rfl Tryz.call122 (wT (by omega) (by omega) xf) [1] rfl (.x 0 rfl .own .nil) ?_)
 rintro _ _ _ ⟨v2,bn,body,is,rfl,rfl,rfl,hp⟩
 refine⟨rfl, ?_⟩
 refine aw (fun m=>(m.own 1 rfl).slice) ?_
 rintro⟨A_x2,c_x2,rfl,hc_x2⟩
 refine aw (fun m=>(m.ord 1 rfl).2.1) fun hA_x2=> ?_
 obtain⟨hbl,hS⟩:=hp
 have hS' :is=true∧body=gy (eo 3 7 zm []):=by
  rcases hS with h|h
  ·refine⟨h.2.1,h.2.2.trans ?_⟩
   rw[(mD _).2,Dy vR,AE (by decide)];rfl
  ·exact absurd (hi7.2 rfl) h.1
 obtain⟨rfl,rfl⟩:=hS'
 rw[iF,fu vR]at hbl
 refine hy (fun _=>aa rfl)<|hy (fun _=>ao rfl rfl)<|hy (fun _=>ao rfl rfl)<|hy (fun _=>ab rfl)<|hy (fun _=>ab rfl)<|ai<|al (ρ' :=[(3,_),(2,_),(8,_),(1,_),(0,_)]) ⟨rfl,rfl,rfl,rfl,rfl,trivial⟩<|ak (X' :=[_,_,_]) (S' :=[]) (fun _ m=>m)<|ag<|ah<|aj<|hy (fun _=>aa rfl)<| ?_
 refine hx (bT rfl Tryz.call124 (xQ (by omega) (by omega)) [] rfl (.x 1 rfl .own .nil) ?_)
 rintro _ _ _ ⟨k,s,nm,body2,v3,err,bn2,rfl,rfl,rfl,hp2⟩
 refine⟨rfl, ?_⟩
 refine aw (fun m=>(m.own 0 rfl).slice) ?_
 rintro⟨A_x3,c_x3,rfl,hc_x3⟩
 refine aw (fun m=>(m.ord 0 rfl).2.1) fun hA_x3=> ?_
 obtain⟨hnm,hbl2,hR⟩:=hp2
 have h9:=mD (eo 3 7 zm [])
 have hM9:Cf (eo 3 7 zm []):=⟨by rw[fu vR];omega,by rw[AJ (by decide),AE (by decide),fu vR];exact⟨by omega,.inl rfl⟩⟩
 have hR' :k=3∧s=7∧err=0:=by
  rcases hR with h|h|h
  ·exact absurd h9.1 h.1
  ·rw[h9.2]at h
   exact⟨h.2.2.1.trans (AJ (by decide)),h.2.2.2.1.trans (congrArg _ (AE (by decide))),h.2.2.2.2.2.2⟩
  ·rw[h9.2]at h;exact absurd hM9 h.2.1
 obtain⟨rfl,rfl,rfl⟩:=hR'
 refine hy (fun _=>aa rfl)<|hy (fun _=>ao rfl rfl)<|hy (fun _=>ao rfl rfl)<| ?_
 refine hx (aJ fD (fun g4=> ?_))
 refine cN (aG 0 rfl rfl rfl cB (bH hnm) (eu rfl) rfl ?_)
 refine hy (fun _=>ab rfl)<|ai<|al (ρ' :=[(5,_),(4,_),(3,_),(2,_),(8,_),(1,_),(0,_)]) ⟨rfl,rfl,rfl,rfl,rfl,rfl,rfl,trivial⟩<|ak (X' :=[_,_,_,_,_]) (S' :=[]) (fun _ m=>m)<|ag<|ah<|aj<|hy (fun _=>aa rfl)<|hy (fun _=>aa rfl)<|ca (o:=_) rfl rfl rfl (fun _=>aa rfl)<|ca (o:=_) rfl rfl rfl (fun _=>yT (cy rfl rfl) ((decide_eq_true rfl)))<|hy (fun _=>bo rfl rfl)<|hy (fun _=>aa rfl)<|ca (o:=_) rfl rfl rfl (fun _=>aI rfl de (by decide))<|ca (o:=_) rfl rfl rfl (fun m=>av rfl dV (aB (m.aT 0 rfl) rfl))<|ca (o:=_) rfl rfl rfl (fun _=>yT (cy rfl rfl) ((decide_eq_true rfl)))<|hy (fun _=>bo rfl rfl)<|hy (fun _=>aa rfl)<|ca (o:=_) rfl rfl rfl (fun _=>aI rfl gh (by decide))<|ca (o:=_) rfl rfl rfl (fun m=>av rfl dV (aB (m.aT 0 rfl) rfl))<|ca (o:=_) rfl rfl rfl (fun _=>yT (cy rfl rfl) ((decide_eq_true rfl)))<|hy (fun _=>bo rfl rfl)<|hy (fun _=>ab rfl)<|ai<|al (ρ' :=[(0,_),(5,_),(4,_),(3,_),(2,_),(8,_),(1,_)]) ⟨rfl,rfl,rfl,rfl,rfl,rfl,rfl,trivial⟩<|ag<|aQ<| ?_
 exact bd trivial rfl rfl [] rfl [] rfl ⟨rfl,rfl,rfl⟩
end Go.Proofs.YtmibdabdlgmafaaGreatDoor
end
section
set_option maxRecDepth 20000
set_option maxHeartbeats 4000000
namespace Go.Proofs.YtmibdabdlgmafaaGreatDoor
open Go.Eng Go.Hx
theorem k9(d:RD):(bW d).length≤d.seen.length:=by
 unfold bW
 have:=List.length_filterMap_le jO (d.seen.map (·.1))
 rwa [List.length_map]at this
theorem xc(ks:List (List UInt8))(q:List UInt8):(my ks q).length≤ks.length+1:=by
 unfold my
 split
 ·omega
 ·rw[List.length_append];exact Nat.le_refl _
theorem qh(d:RD):∀(l ks:List (List UInt8)),(l.foldl (fM d) ks).length≤ks.length+l.length
 | [],_=>Nat.le_refl _
 |a::r,ks=>by
  have h1:=qh d r (fM d ks a)
  have h2:(fM d ks a).length≤ks.length+1:=by
   unfold fM
   split
   ·exact xc ks a
   ·omega
  rw[List.foldl_cons,List.length_cons]
  omega
theorem ml(ks:List (List UInt8))(d:RD)(i:Nat):(eH ks d i).length≤ks.length+(bW d).length:=by
 have:=qh d ((bW d).take i) ks
 rw[List.length_take]at this
 unfold eH
 omega
theorem yz{g gm gd:Nat}{fr:Frames}{st:c7}{d:RD}{kk:Nat}(hD:DS st d kk)(hkk:kk≤90000)(hnl:∀x∈d.seen,x.1.length≤1000000)(hfl:fr.length≤1000000):cj Tryz.prog 37 [.pointer (some ⟨g,0,none⟩),.pointer (some ⟨gd,0,none⟩)] [gZ g gm fr,bM gd st] [eU] (fun v_ X_ S_=>∃fr2,v_=(.int .i64 ((fr2.length:Nat)-(fr.length:Nat)))∧X_=[gZ g gm fr2,bM gd st]∧S_=[]∧(ez fr2=eH (ez fr) d (bW d).length)):=by
 have hcd:=lg d
 have hcl:(bW d).length≤kk:=Nat.le_trans (k9 d) hD.ny.seen
 refine aU (N:=35) Tryz.func37 rfl rfl (by simp) fun b=> ?_
 refine ah<|aj<|hy (fun _=>ab rfl)<|ai<|ag<|ah<|aj<|hy (fun _=>aa rfl)<| ?_
 refine hx (aq rfl Tryz.call38 (xI) [0] rfl [] rfl ?_)
 rintro _ _ _ ⟨rfl,rfl,rfl⟩
 refine hy (fun _=>ab rfl)<|ai<|al (ρ' :=[(5,_),(4,_),(0,_),(1,_)]) ⟨rfl,rfl,rfl,rfl,trivial⟩<|ak (X' :=[_,_]) (S' :=[_]) (fun _ m=>m)<|ag<|ah<|ah<|aj<|hy (fun _=>aa rfl)<| ?_
 refine hx (aq rfl Tryz.call20 (BO hD (by omega) hnl) [1] rfl [] rfl ?_)
 rintro _ _ _ ⟨v,k,rfl,rfl,rfl,hk⟩
 refine aw (fun m=>(m.own 1 rfl).slice) ?_
 rintro⟨A_o,c_o,rfl,hc_o⟩
 refine aw (fun m=>(m.ord 1 rfl).2.1) fun hA_o=> ?_
 obtain rfl:=hk
 refine hy (fun _=>aX rfl Tryz.underlying33)<|hy (fun _=>aa rfl)<|ai<|al (ρ' :=[(15,_),(14,_),(13,_),(5,_),(4,_),(0,_),(1,_)]) ⟨rfl,rfl,rfl,rfl,rfl,rfl,rfl,trivial⟩<|ak (X' :=[_,_,_]) (S' :=[_]) (fun _ m=>m)<|ag<|aN<| ?_
 refine tm (fun i fr1=>(bW d).length-i) (fun i fr1=>[(15,.int .i64 (i:Nat))]) (fun i fr1=>[gZ g gm fr1,bM gd st]) (fun i fr1=>[]) (fun i fr1=>i≤(bW d).length∧ez fr1=eH (ez fr) d i) 0 fr [(14,_),(13,_),(5,_),(4,_),(0,_),(1,_)] ⟨rfl,rfl,rfl,rfl,rfl,rfl,trivial⟩ [2,0] rfl [] rfl (⟨Nat.zero_le _,rfl⟩) ⟨rfl,trivial⟩ (fun i fr1 ⟨hin,hks⟩=> ?_)
 refine ah<|aj<|hy (fun _=>bk rfl rfl)<|ai<|ag<|ah<| ?_
 refine cI rfl (fun hlt=> ?_) (fun hlt=> ?_)
 ·have hi2:i<(bW d).length:=by omega
  have hm:=lR hcd hi2
  have h32:(aK ((bW d).getD i [])).length=32:=by rw[ax,hm]
  have hsc:=n6 (ks:=ez fr) hi2
  refine aC<|ag<|ah<|aN<|ah<|aj<|hy (fun _=>dF rfl rfl Tryz.underlying33 bj hA_o rfl (by omega))<|hy (fun m=>aR rfl b5 bj h32 ((m.ord 2 rfl).jM hcd hi2))<| ?_
  refine hx (aJ cX (fun g7=> ?_))
  refine cN (aG 0 rfl rfl rfl bj h32 aS rfl ?_)
  generalize hnm:(bW d).getD i []=nm at hm h32 hsc ⊢
  have hgl:=rC d nm
  refine ai<|al (ρ' :=[(7,_),(16,_),(15,_),(14,_),(13,_),(5,_),(4,_),(0,_),(1,_)]) ⟨rfl,rfl,rfl,rfl,rfl,rfl,rfl,rfl,rfl,trivial⟩<|ak (X' :=[_,_,_,_]) (S' :=[_]) (fun _ m=>m)<|ag<|ah<|aj<|hy (fun _=>aa rfl)<|hy (fun m=>aR rfl b5 bj h32 ((m.aT 0 rfl).au))<| ?_
  refine hx (aq rfl Tryz.call73 (Du hD hm) [2] rfl [0] rfl ?_)
  rintro _ _ _ ⟨v2,rfl,rfl,rfl⟩
  refine aw (fun m=>(m.own 1 rfl).slice) ?_
  rintro⟨A_x,c_x,rfl,hc_x⟩
  refine aw (fun m=>(m.ord 1 rfl).2.1) fun hA_x=> ?_
  refine hy (fun _=>aa rfl)<|hy (fun _=>ao rfl rfl)<|hy (fun _=>ao rfl rfl)<|hy (fun _=>ab rfl)<|hy (fun _=>ab rfl)<|ai<|al (ρ' :=[(9,_),(8,_),(7,_),(16,_),(15,_),(14,_),(13,_),(5,_),(4,_),(0,_),(1,_)]) ⟨rfl,rfl,rfl,rfl,rfl,rfl,rfl,rfl,rfl,rfl,rfl,trivial⟩<|ak (X' :=[_,_,_,_,_]) (S' :=[_]) (fun _ m=>m)<|ag<|ah<|aj<|hy (fun _=>aa rfl)<|hy (fun _=>cy rfl rfl)<|ai<|al (ρ' :=[(26,_),(9,_),(8,_),(7,_),(16,_),(15,_),(14,_),(13,_),(5,_),(4,_),(0,_),(1,_)]) ⟨rfl,rfl,rfl,rfl,rfl,rfl,rfl,rfl,rfl,rfl,rfl,rfl,trivial⟩<|ag<| ?_
  refine cI rfl (fun he=> ?_) (fun he=> ?_)
  ·have hsc2:eH (ez fr) d (i+1)=my (eH (ez fr) d i) nm:=by rw[hsc];unfold fM;exact if_pos he
   have hsha:=uW he
   refine aj<|hy (fun _=>aa rfl)<|hy (fun _=>aa rfl)<| ?_
   refine hx (bT rfl Tryz.call35 (Bl hc_x hgl rfl) [3] rfl (.x 1 rfl .own (.s 0 rfl .nil)) ?_)
   rintro _ _ _ ⟨row,rfl,rfl,rfl,hrow⟩
   refine⟨rfl, ?_⟩
   refine ai<|al (ρ' :=[(26,_),(9,_),(8,_),(7,_),(16,_),(15,_),(14,_),(13,_),(5,_),(4,_),(0,_),(1,_)]) ⟨rfl,rfl,rfl,rfl,rfl,rfl,rfl,rfl,rfl,rfl,rfl,rfl,trivial⟩<|ak (X' :=[_,_,_,_,_]) (S' :=[_]) (fun _ m=>m)<|aW<|ag<|aj<|hy (fun _=>aM rfl rfl (bB (by omega) (by omega)))<|hy (fun _=>aa rfl)<|ai<|al (ρ' :=[(15,_),(26,_),(9,_),(8,_),(7,_),(16,_),(14,_),(13,_),(5,_),(4,_),(0,_),(1,_)]) ⟨rfl,rfl,rfl,rfl,rfl,rfl,rfl,rfl,rfl,rfl,rfl,rfl,trivial⟩<| ?_
   have hk2:ez (cC fr1 ⟨bF (d.jd nm),bh _⟩ row)=eH (ez fr) d (i+1):=by
    rw[qf,hsc2,hks]
    show my _ (bF (d.jd nm))=_
    rw[hsha]
   refine oR (i+1) _ ⟨rfl,rfl,rfl,rfl,rfl,rfl,rfl,trivial⟩ [0,0,2] rfl [0] rfl (⟨by omega,hk2⟩) (by omega)
  ·have hsc2:eH (ez fr) d (i+1)=eH (ez fr) d i:=by rw[hsc];unfold fM;exact if_neg he
   refine aC<|aW<|ag<|aj<|hy (fun _=>aM rfl rfl (bB (by omega) (by omega)))<|hy (fun _=>aa rfl)<|ai<|al (ρ' :=[(15,_),(26,_),(9,_),(8,_),(7,_),(16,_),(14,_),(13,_),(5,_),(4,_),(0,_),(1,_)]) ⟨rfl,rfl,rfl,rfl,rfl,rfl,rfl,rfl,rfl,rfl,rfl,rfl,trivial⟩<| ?_
   refine oR (i+1) fr1 ⟨rfl,rfl,rfl,rfl,rfl,rfl,rfl,trivial⟩ [3,0,2] rfl [0] rfl (⟨by omega,by rw[hsc2];exact hks⟩) (by omega)
 ·obtain rfl:i=(bW d).length:=by omega
  have hll:=ml (ez fr) d (bW d).length
  rw[←hks,jm,jm]at hll
  refine bS<|ar<|ar<|aE<|ag<|ah<|aj<|hy (fun _=>aa rfl)<| ?_
  refine hx (aq rfl Tryz.call38 (xI) [0] rfl [] rfl ?_)
  rintro _ _ _ ⟨rfl,rfl,rfl⟩
  refine hy (fun _=>aa rfl)<|hy (fun _=>b6 rfl rfl (bB (by omega) (by omega)))<|hy (fun _=>ab rfl)<|ai<|al (ρ' :=[(4,_),(16,_),(15,_),(14,_),(13,_),(5,_),(0,_),(1,_)]) ⟨rfl,rfl,rfl,rfl,rfl,rfl,rfl,rfl,trivial⟩<|ak (X' :=[_,_,_]) (S' :=[_]) (fun _ m=>m)<|ag<|aQ<| ?_
  exact bd trivial rfl rfl [0,0] rfl [] rfl ⟨_,rfl,rfl,rfl,hks⟩
theorem zP{A:Option Addr}{c:Nat}{w:List Ck}{x:RX}{kk:Nat}(hD:x.d.ok kk)(hkk:kk≤90000)(hnl:∀y∈x.d.seen,y.1.length≤1000000)(hsrt:oJ x.d.seen)(hw:w.length≤100000):cj Tryz.prog 36 [.slice A w.length c,.agg x.cs.toArray] [aF 72 33 (.slice A w.length c) w.length (iu w)] [cY x,eU] (fun v_ X_ S_=>∃A1 c1 w2,v_=(.slice A1 w2.length c1)∧X_=[aF 72 33 (.slice A1 w2.length c1) w2.length (iu w2)]∧S_=[]∧(eb w2=eH (eb w) x.d (bW x.d).length)):=by
 have hcd:=lg x.d
 have okr:=hD.ny
 have hcl:(bW x.d).length≤kk:=Nat.le_trans (k9 x.d) okr.seen
 have hls:=tH hsrt
 have hrd:∀p,(x.d.cR p).length≤10000000:=fun p=>by
  obtain⟨st,hst⟩:=hD
  have:=hst.tz p
  omega
 refine aU (N:=33) Tryz.func36 rfl rfl (by simp) fun b=> ?_
 refine ah<|aj<| ?_
 refine hx (cp rfl (fun g3=> ?_))
 refine aV (fun w m=>m.bQ 0 rfl (show _=aH g3 39 x.cs from congrArg (aH _ _) (bq _))) ?_
 refine hy (fun _=>ab rfl)<|ai<|ak (X' :=[_,_]) (S' :=[_,_]) (fun _ m=>m)<|ag<|ah<|aj<|hy (fun m=>yV (aR rfl cz bp rfl ((m.aT 0 rfl).au)) ((rfl:_=Value.agg x.cs.toArray)))<| ?_
 refine hx (aq rfl Tryz.call21 (wZ okr (by omega) hnl) [] rfl [0] rfl ?_)
 rintro _ _ _ ⟨A1,k,c1,rfl,rfl,rfl,hk⟩
 refine hy (fun _=>ab rfl)<|ai<|al (ρ' :=[(5,_),(4,_),(3,_),(0,_),(1,_)]) ⟨rfl,rfl,rfl,rfl,rfl,trivial⟩<|ak (X' :=[_,_,_]) (S' :=[_,_]) (fun _ m=>m)<|ag<|ah<|ah<| ?_
 rw[hls]at hk ⊢
 obtain rfl:=hk
 refine aj<|hy (fun _=>ab rfl)<|ai<|ag<|aN<| ?_
 refine lf (fun i A1 c1 w1=>(bW x.d).length-i) (fun i A1 c1 w1=>[(0,.slice A1 (w1:List Ck).length c1),(6,.int .i64 (i:Nat))]) (fun i A1 c1 w1=>[aF 72 33 (.slice A1 w1.length c1) w1.length (iu w1)]) (fun i A1 c1 w1=>[]) (fun i A1 c1 w1=>i≤(bW x.d).length∧eb w1=eH (eb w) x.d i) 0 A c w [(5,_),(4,_),(3,_),(1,_)] ⟨rfl,rfl,rfl,rfl,trivial⟩ [2] rfl [] rfl (⟨Nat.zero_le _,rfl⟩) ⟨rfl,rfl,trivial⟩ (fun i A1 c1 w1 ⟨hin,hks⟩=> ?_)
 refine ah<|ah<|aj<|hy (fun _=>aa rfl)<|hy (fun _=>aa rfl)<|hy (fun _=>aX rfl Tryz.underlying33)<|hy (fun _=>bk rfl rfl)<|ai<|al (ρ' :=[(14,_),(0,_),(6,_),(5,_),(4,_),(3,_),(1,_)]) ⟨rfl,rfl,rfl,rfl,rfl,rfl,rfl,trivial⟩<|ag<| ?_
 refine cI rfl (fun hlt=> ?_) (fun hlt=> ?_)
 ·have hi2:i<(bW x.d).length:=by omega
  have hm:=lR hcd hi2
  have h32:(aK ((bW x.d).getD i [])).length=32:=by rw[ax,hm]
  have hsc:=n6 (ks:=eb w) hi2
  have hll:=ml (eb w) x.d i
  rw[←hks,fR,fR]at hll
  refine ba (fun m=>(m.ord 1 rfl).2.1) fun hA_o2=> ?_
  refine aC<|ag<|ah<|aN<|ah<|cV [5] [(0,some 0),(1,some 0),(2,some 0),(3,some 0),(4,some 0),(5,none),(6,some 1),(7,some 1),(8,some 1),(9,some 1),(10,some 1)] (by kernel_rfl) (by kernel_rfl) rfl 99<|cn (fun m=>yV (aR rfl cz bp rfl ((m.aT 2 rfl).au)) ((rfl:_=Value.agg x.cs.toArray)))<|an (aa rfl)<|an (aa rfl)<|an (dF rfl rfl Tryz.underlying33 bj hA_o2 rfl (by omega))<|cn (fun m=>aR rfl b5 bj h32 ((m.ord 1 rfl).jM hcd hi2))<| ?_
  refine eK (aq rfl Tryz.call74 (AY okr (by omega) hm (hrd _)) [] rfl [0,1] rfl ?_)
  rintro _ _ _ ⟨rfl,rfl,rfl⟩
  refine⟨(fun _=>wk [0,0,0] [0,1] rfl rfl), ?_⟩
  refine an (aa rfl)<|an (ao rfl rfl)<|an (ao rfl rfl)<|an (ab rfl)<|an (ab rfl)<|bE<|al (ρ' :=[(8,_),(7,_),(14,_),(0,_),(6,_),(5,_),(4,_),(3,_),(1,_)]) ⟨rfl,rfl,rfl,rfl,rfl,rfl,rfl,rfl,rfl,trivial⟩<|ak (X' :=[_,_,_]) (S' :=[_,_]) (fun _ m=>m)<|ag<|ah<|aj<|hy (fun _=>aa rfl)<|hy (fun _=>cy rfl rfl)<|ai<|al (ρ' :=[(27,_),(8,_),(7,_),(14,_),(0,_),(6,_),(5,_),(4,_),(3,_),(1,_)]) ⟨rfl,rfl,rfl,rfl,rfl,rfl,rfl,rfl,rfl,rfl,trivial⟩<|ag<| ?_
  generalize hnm:(bW x.d).getD i []=nm at hm h32 hsc ⊢
  have hgl:=rC x.d nm
  refine cI rfl (fun he=> ?_) (fun he=> ?_)
  ·have hsc2:eH (eb w) x.d (i+1)=my (eH (eb w) x.d i) nm:=by rw[hsc];unfold fM;exact if_pos he
   have hsha:=uW he
   have hbs:(bytesOf (strOf (x.d.jd nm))).length=(x.d.jd nm).length:=rfl
   refine aj<|hy (fun _=>aa rfl)<|hy (fun _=>aa rfl)<| ?_
   refine hx (tk rfl Tryz.underlying9 Tryz.underlying27 Tryz.underlying5 (show(x.d.jd nm).length≤maxLen by unfold maxLen;omega) (fun v30=> ?_))
   refine aw (fun m=>(m.own 0 rfl).slice) ?_
   rintro⟨A_b30,c_b30,rfl,hc_b30⟩
   refine aw (fun m=>(m.ord 0 rfl).2.1) fun hA_b30=> ?_
   refine aV (fun w m=>m.bQ 0 rfl (show _=aF 5 1 (.slice A_b30 (x.d.jd nm).length c_b30) (x.d.jd nm).length (aK (x.d.jd nm))from rfl)) ?_
   refine hx (bT rfl Tryz.call34 (wU (by omega) rfl (by omega) (bb:=(x.d.jd nm))) [1] rfl (.x 0 rfl .own (.s 1 rfl .nil)) ?_)
   rintro _ _ _ ⟨A12,n1,c12,rfl,rfl,rfl,hn1⟩
   refine⟨rfl, ?_⟩
   obtain rfl:=hn1
   have hk2:eb (nA w1 (x.d.jd nm))=eH (eb w) x.d (i+1):=by rw[pT,hsc2,hks,hsha]
   refine hy (fun _=>ab rfl)<|ai<|al (ρ' :=[(0,_),(27,_),(8,_),(7,_),(14,_),(6,_),(5,_),(4,_),(3,_),(1,_)]) ⟨rfl,rfl,rfl,rfl,rfl,rfl,rfl,rfl,rfl,rfl,trivial⟩<|ak (X' :=[_,_,_,_]) (S' :=[_,_]) (fun _ m=>m)<|aW<|ag<|aj<|hy (fun _=>aa rfl)<|hy (fun _=>aM rfl rfl (bB (by omega) (by omega)))<|hy (fun _=>ab rfl)<|ai<|al (ρ' :=[(6,_),(0,_),(27,_),(8,_),(7,_),(14,_),(5,_),(4,_),(3,_),(1,_)]) ⟨rfl,rfl,rfl,rfl,rfl,rfl,rfl,rfl,rfl,rfl,trivial⟩<| ?_
   refine fA (i+1) _ _ (nA w1 (x.d.jd nm)) ⟨rfl,rfl,rfl,rfl,rfl,rfl,trivial⟩ [0,1,1] rfl [0,1] rfl (⟨by omega,hk2⟩) (by omega)
  ·have hsc2:eH (eb w) x.d (i+1)=eH (eb w) x.d i:=by rw[hsc];unfold fM;exact if_neg he
   refine aC<|aW<|ag<|aj<|hy (fun _=>aa rfl)<|hy (fun _=>aM rfl rfl (bB (by omega) (by omega)))<|hy (fun _=>ab rfl)<|ai<|al (ρ' :=[(6,_),(27,_),(8,_),(7,_),(14,_),(0,_),(5,_),(4,_),(3,_),(1,_)]) ⟨rfl,rfl,rfl,rfl,rfl,rfl,rfl,rfl,rfl,rfl,trivial⟩<| ?_
   refine fA (i+1) A1 c1 w1 ⟨rfl,rfl,rfl,rfl,rfl,rfl,trivial⟩ [0,0,0] rfl [0,1] rfl (⟨by omega,by rw[hsc2];exact hks⟩) (by omega)
 ·obtain rfl:i=(bW x.d).length:=by omega
  refine bS<|ar<|ar<|aE<|ag<|ah<|aj<|hy (fun _=>aa rfl)<|hy (fun _=>ab rfl)<|ai<|al (ρ' :=[(4,_),(14,_),(0,_),(6,_),(5,_),(3,_),(1,_)]) ⟨rfl,rfl,rfl,rfl,rfl,rfl,rfl,trivial⟩<|ag<|aQ<| ?_
  exact bd trivial rfl rfl [0] rfl [] rfl ⟨_,_,_,rfl,rfl,rfl,hks⟩
end Go.Proofs.YtmibdabdlgmafaaGreatDoor
end
section
set_option maxRecDepth 20000
set_option maxHeartbeats 4000000
namespace Go.Proofs.YtmibdabdlgmafaaGreatDoor
open Go.Eng Go.Hx
def ints(l:List Int):List Value:=l.map (Value.int .i64)
def tb(l:List Int):Prop:=∀z∈l,-9223372036854775808≤z∧z≤9223372036854775807
theorem j0{l:List Int}{i:Nat}(h:i<l.length):(ints l)[i]? =some (.int .i64 (l.getD i 0)):=by simp[ints,List.getElem?_map,List.getElem?_eq_getElem h,List.getD]
theorem tb.at{l:List Int}(h:tb l){i:Nat}(hi:i<l.length):-9223372036854775808≤l.getD i 0∧l.getD i 0≤9223372036854775807:=by
 rw[List.getD,List.getElem?_eq_getElem hi]
 exact h _ (List.getElem_mem hi)
def nF(d:RD):Prop:=∀y∈d.seen,y.1.length≤1000
theorem sa{l:List FP}{p b:List UInt8}(h:∀y∈l,y.1.length≤1000)(hp:p.length≤1000):∀y∈gI l (p,b),y.1.length≤1000:=by
 intro y hy
 rw[pE]at hy
 rcases uX hy with rfl|hy
 ·exact hp
 ·exact h y hy
theorem nF.write{d:RD}{p l:List UInt8}(h:nF d)(hp:p.length≤1000):nF (d.write p l):=by
 unfold RD.write
 split
 ·show∀y∈eB d.seen 0 p [] l,_
  rw[eB,if_pos rfl]
  exact sa h hp
 ·exact h
theorem nF.rename{d:RD}{a c:List UInt8}(h:nF d)(hc:c.length≤1000):nF (d.rename a c):=by
 unfold RD.rename
 split
 ·show∀y∈eB d.seen 1 a c [],_
  rw[eB,if_neg (by decide)]
  split
  ·exact h
  ·rw[if_neg (by decide)]
   exact sa (fun y hy=>h y (List.mem_filter.1 hy).1) hc
 ·exact h
theorem nF.sync{d:RD}(h:nF d):nF d.sync:=by
 unfold RD.sync
 split
 ·exact h
 ·exact h
theorem pU{P:RD→Prop}:∀(Fs:List (RD→RD×Int)) (d:RD),(∀F∈Fs,∀d,P d→P (F d).1)→P d→P (iz Fs d).1
 | [],d,_,h=>h
 |F::r,d,hF,h=>by
  have h1:=hF F (List.mem_cons_self ..) d h
  rw[iz]
  split
  ·exact h1
  ·exact pU r _ (fun G hG=>hF G (List.mem_cons_of_mem _ hG)) h1
theorem nF.put{d:RD}(h:nF d)(bb:List UInt8):nF (d.put bb).1:=by
 have hm:=bh bb
 have hR:nF (d.jK bb).1:=pU _ _ (fun F hF d h=>by
  simp only[List.mem_cons,List.not_mem_nil,or_false]at hF
  rcases hF with rfl|rfl|rfl|rfl
  ·exact h.write (by rw[kM hm];decide)
  ·exact h.sync
  ·exact h.rename (by rw[e8 hm];decide)
  ·exact h.sync) h
 unfold RD.put
 split
 ·exact h
 ·split
  ·exact h
  ·split
   ·exact h
   ·exact hR
theorem AV(d:RD)(bb:List UInt8):(d.put bb).2.1.length=32:=by
 unfold RD.put
 split
 ·exact fb
 ·split
  ·exact fb
  ·split
   ·exact bh _
   ·show(if _ then _ else _:List UInt8).length=32
    split
    ·exact bh _
    ·exact fb
theorem y9(l:List Ck)(b:List UInt8):(nA l b).length≤l.length+1:=by
 unfold nA
 split
 ·omega
 ·rw[List.length_append];exact Nat.le_refl _
theorem tJ(z:Int):∃k:Nat,iQ z 6=(k:Int)∧k<6:=by
 have:=vx z 6 (by decide)
 exact⟨(iQ z 6).toNat,by omega,by omega⟩
theorem qD{A B K H:Option Addr}{n c m mc_ k kc h hc_:Nat}{zl zb zh:List Int}{bl:List UInt8}(hzl:tb zl)(hzb:tb zb)(hzh:tb zh)(hkc:k≤kc)(hkb:k≤140737488351232):cj Tryz.prog 4 [.slice A n c,.slice B m mc_,.slice K k kc,.slice H h hc_] [] [dw 1 A n (ints zl),dw 1 B m (ints zb),dw 1 K k (aK bl),dw 1 H h (ints zh),eU] (fun v_ X_ S_=>v_=(.bool true)∧X_=[]∧S_=[]):=by
 refine aU (N:=168) Tryz.func4 rfl rfl (by simp) fun b=> ?_
 refine ba (fun m=>mX (m.rd 0 rfl)) ?_
 rintro⟨hl_rl,hA_rl⟩
 refine ba (fun m=>mX (m.rd 1 rfl)) ?_
 rintro⟨hl_rb,hA_rb⟩
 refine ba (fun m=>fG (m.rd 2 rfl)) ?_
 rintro⟨hl_rk,hA_rk⟩
 refine ba (fun m=>mX (m.rd 3 rfl)) ?_
 rintro⟨hl_rh,hA_rh⟩
 refine ah<|aj<|hy (fun _=>ab rfl)<|ai<|ag<|ah<|aj<| ?_
 refine hx (aq rfl Tryz.call23 (uw) [] rfl [] rfl ?_)
 rintro _ _ _ ⟨g,gm,rfl,rfl,rfl⟩
 refine hy (fun _=>ab rfl)<|ai<|al (ρ' :=[(9,_),(8,_),(0,_),(1,_),(2,_),(3,_)]) ⟨rfl,rfl,rfl,rfl,rfl,rfl,trivial⟩<|ak (X' :=[_]) (S' :=[_,_,_,_,_]) (fun _ m=>m)<|ag<|ah<|aj<| ?_
 refine hx (aq rfl Tryz.call24 (EP (by decide) (by decide)) [] rfl [] rfl ?_)
 rintro _ _ _ ⟨g2,gs,gl,rfl,rfl,rfl⟩
 refine hy (fun _=>aa rfl)<|hy (fun _=>ao rfl rfl)<|hy (fun _=>ao rfl rfl)<|hy (fun _=>ab rfl)<|hy (fun _=>ab rfl)<|ai<|al (ρ' :=[(11,_),(10,_),(9,_),(8,_),(0,_),(1,_),(2,_),(3,_)]) ⟨rfl,rfl,rfl,rfl,rfl,rfl,rfl,rfl,trivial⟩<|ak (X' :=[_,_]) (S' :=[_,_,_,_,_]) (fun _ m=>m)<|ag<|ah<|ah<|aj<|hy (fun _=>aa rfl)<|hy (fun _=>tB rfl rfl (by kernel_rfl))<|hy (fun _=>aa rfl)<| ?_
 refine ca (o:=_) rfl rfl rfl (fun _=>aa rfl)<|ca (o:=_) rfl rfl rfl (fun _=>tB rfl rfl (by kernel_rfl))<|hy (fun _=>a7 rfl rfl)<|hy (fun _=>aa rfl)<|ca (o:=_) rfl rfl rfl (fun _=>aa rfl)<|ca (o:=_) rfl rfl rfl (fun _=>cM rfl rfl)<|hy (fun _=>a7 rfl rfl)<|ai<|al (ρ' :=[(40,_),(11,_),(10,_),(9,_),(8,_),(0,_),(1,_),(2,_),(3,_)]) ⟨rfl,rfl,rfl,rfl,rfl,rfl,rfl,rfl,rfl,trivial⟩<|ag<| ?_
 refine dx rfl (rfl) ?_
 refine aC<|ag<|ah<|aj<| ?_
 refine hx (aq rfl Tryz.call25 (Eo) [] rfl [] rfl ?_)
 rintro _ _ _ ⟨y,rfl,rfl,rfl,hyd⟩
 refine hx (aJ fB (fun g12=> ?_))
 refine cN (aG 0 rfl rfl rfl bp rfl bP rfl ?_)
 have hD0:DS (lE 3000 gs gl) y.d 0:=by rw[hyd];exact DS.init (by decide)
 have hN0:nF y.d:=by rw[hyd];exact fun y h=>(List.not_mem_nil h).elim
 refine aw (fun m=>(m.rd 1 rfl).1) fun hln1=> ?_
 refine aw (fun m=>(m.rd 2 rfl).1) fun hln2=> ?_
 refine aw (fun m=>(m.rd 4 rfl).1) fun hln3=> ?_
 refine ai<|al (ρ' :=[(12,_),(40,_),(11,_),(10,_),(9,_),(8,_),(0,_),(1,_),(2,_),(3,_)]) ⟨rfl,rfl,rfl,rfl,rfl,rfl,rfl,rfl,rfl,rfl,trivial⟩<|ak (X' :=[_,_,_]) (S' :=[_,_,_,_,_,_]) (fun _ m=>m)<|ag<|ah<|aj<|hy (fun _=>ab rfl)<|ai<|ag<|ah<|ah<|aj<|hy (fun _=>ab rfl)<|ai<|ag<| ?_
 refine qS (fun(st1:c7) (x1:RX)=>[]) (fun(st1:c7) (x1:RX)=>[bM g2 st1,aH g12 39 x1.cs]) (fun(st1:c7) (x1:RX)=>[cY x1]) (fun(st1:c7) (x1:RX)=>DS st1 x1.d 24∧nF x1.d) [(13,_),(12,_),(40,_),(11,_),(10,_),(9,_),(8,_),(0,_),(1,_),(2,_),(3,_)] ⟨rfl,rfl,rfl,rfl,rfl,rfl,rfl,rfl,rfl,rfl,rfl,trivial⟩ [1,0] rfl ?_ (fun st1 x1 ⟨hD1,hN1⟩=> ?_)
 ·refine aN<| ?_
  refine gY (fun i st x=>n-i) (fun i st x=>[(14,.int .i64 (i:Nat))]) (fun i st x=>[bM g2 st,aH g12 39 x.cs]) (fun i st x=>[cY x]) (fun i st x=>i≤n∧i≤6∧DS st x.d (4*i)∧nF x.d) 0 (lE 3000 gs gl) y [(13,_),(12,_),(40,_),(11,_),(10,_),(9,_),(8,_),(0,_),(1,_),(2,_),(3,_)] ⟨rfl,rfl,rfl,rfl,rfl,rfl,rfl,rfl,rfl,rfl,rfl,trivial⟩ [1,0] rfl [0] rfl (⟨Nat.zero_le _,Nat.zero_le _,hD0,hN0⟩) ⟨rfl,trivial⟩ (fun i st x ⟨hin,hi6,hD,hN⟩=> ?_)
  refine ah<|ah<|aj<|hy (fun _=>aa rfl)<|hy (fun _=>aa rfl)<|hy (fun _=>aX rfl Tryz.underlying44)<|hy (fun _=>bk rfl rfl)<|hy (fun _=>aa rfl)<| ?_
  refine eG 46 rfl (fun h1=> ?_) (fun h1=> ?_)
  ·refine ca (o:=_) rfl rfl rfl (fun _=>aa rfl)<|ca (o:=_) rfl rfl rfl (fun _=>bk rfl rfl)<|hy (fun _=>bo rfl rfl)<|ai<|al (ρ' :=[(49,_),(14,_),(13,_),(12,_),(40,_),(11,_),(10,_),(9,_),(8,_),(0,_),(1,_),(2,_),(3,_)]) ⟨rfl,rfl,rfl,rfl,rfl,rfl,rfl,rfl,rfl,rfl,rfl,rfl,rfl,trivial⟩<|ag<| ?_
   refine cI rfl (fun h2=> ?_) (fun h2=> ?_)
   ·obtain⟨k6,hk6,hk6l⟩:=tJ (zl.getD i 0)
    have hil:i<zl.length:=by rw[ints,List.length_map,Nat.mul_one]at hln1;omega
    have hz:=hzl.at hil
    have hcl:=kH k6
    have hDo:x.d.ok (4*i):=⟨st,hD⟩
    have hp32:(aK (x.d.put (dp k6)).2.1).length=32:=by
     rw[ax]
     exact AV _ _
    refine aC<|ag<|ah<|aN<|ah<| ?_
    refine qS (fun(y2:RX) (g15:Nat)=>[(15,.pointer (some ⟨g15,0,none⟩))]) (fun(y2:RX) (g15:Nat)=>[aH g15 39 y2.cs]) (fun(y2:RX) (g15:Nat)=>[cY y2]) (fun(y2:RX) (g15:Nat)=>y2.d=(x.d.put (dp k6)).1) [(49,_),(14,_),(13,_),(12,_),(40,_),(11,_),(10,_),(9,_),(8,_),(0,_),(1,_),(2,_),(3,_)] ⟨rfl,rfl,rfl,rfl,rfl,rfl,rfl,rfl,rfl,rfl,rfl,rfl,rfl,trivial⟩ [] rfl ?_ (fun y2 g15 hyd2=> ?_)
    ·refine ve [5,6,11,12,13,14] (.take 0 4<|.take 1 4<|.take 2 4<|.take 3 4<|.take 4 4<|.alt 5 (.alt 6 (.take 7 4<|.take 8 4<|.take 9 5<|.take 10 6<|.alt 11 (.alt 12 (.alt 13 (.alt 14 (.take 15 6<|.done) (.stop)) (.stop)) (.stop)) (.alt 12 (.alt 11 (.alt 13 (.alt 14 (.take 15 6<|.done) (.stop)) (.stop)) (.stop)) (.stop))) (.alt 11 (.alt 6 (.take 7 4<|.take 8 4<|.take 9 5<|.take 10 6<|.alt 12 (.alt 13 (.alt 14 (.take 15 6<|.done) (.stop)) (.stop)) (.stop)) (.alt 12 (.alt 6 (.take 7 4<|.take 8 4<|.take 9 5<|.take 10 6<|.alt 13 (.alt 14 (.take 15 6<|.done) (.stop)) (.stop)) (.stop)) (.stop))) (.alt 12 (.alt 6 (.take 7 4<|.take 8 4<|.take 9 5<|.take 10 6<|.alt 11 (.alt 13 (.alt 14 (.take 15 6<|.done) (.stop)) (.stop)) (.stop)) (.alt 11 (.alt 6 (.take 7 4<|.take 8 4<|.take 9 5<|.take 10 6<|.alt 13 (.alt 14 (.take 15 6<|.done) (.stop)) (.stop)) (.stop)) (.stop))) (.stop)))) (.alt 11 (.alt 5 (.alt 6 (.take 7 4<|.take 8 4<|.take 9 5<|.take 10 6<|.alt 12 (.alt 13 (.alt 14 (.take 15 6<|.done) (.stop)) (.stop)) (.stop)) (.alt 12 (.alt 6 (.take 7 4<|.take 8 4<|.take 9 5<|.take 10 6<|.alt 13 (.alt 14 (.take 15 6<|.done) (.stop)) (.stop)) (.stop)) (.stop))) (.alt 12 (.alt 5 (.alt 6 (.take 7 4<|.take 8 4<|.take 9 5<|.take 10 6<|.alt 13 (.alt 14 (.take 15 6<|.done) (.stop)) (.stop)) (.stop)) (.stop)) (.stop))) (.alt 12 (.alt 5 (.alt 6 (.take 7 4<|.take 8 4<|.take 9 5<|.take 10 6<|.alt 11 (.alt 13 (.alt 14 (.take 15 6<|.done) (.stop)) (.stop)) (.stop)) (.alt 11 (.alt 6 (.take 7 4<|.take 8 4<|.take 9 5<|.take 10 6<|.alt 13 (.alt 14 (.take 15 6<|.done) (.stop)) (.stop)) (.stop)) (.stop))) (.alt 11 (.alt 5 (.alt 6 (.take 7 4<|.take 8 4<|.take 9 5<|.take 10 6<|.alt 13 (.alt 14 (.take 15 6<|.done) (.stop)) (.stop)) (.stop)) (.stop)) (.stop))) (.stop)))) (by kernel_rfl) (by kernel_rfl) rfl 4<|E6 (fun m=>yV (aR rfl cz bp rfl ((m.aT 1 rfl).au)) ((rfl:_=Value.agg x.cs.toArray)))<|bw (aa rfl)<|bw (aa rfl)<|bw (aL rfl rfl Tryz.underlying44 rl hA_rl rfl (by omega))<|E6 (fun m=>av rfl dV ((m.rd 2 rfl).cell (j0 hil)))<| ?_
     refine c5 ?_ ?_
     ·refine dL (aq rfl Tryz.call27 (jz hz hk6 hk6l) [] rfl [] rfl ?_)
      rintro _ _ _ ⟨v,rfl,rfl,rfl⟩
      refine⟨(fun _=>wk [1,1,1] [0,1,2,3,4,5,6] rfl rfl), ?_⟩
      refine ec (fun m=>(m.own 0 rfl).slice) ?_
      rintro⟨A_x,c_x,rfl,hc_x⟩
      refine ec (fun m=>(m.ord 0 rfl).2.1) fun hA_x=> ?_
      refine kN (fun w m=>(m.perm (az [0] _ [_] _ rfl)).freeze) ?_
      refine kN (fun w m=>m.lq 0 rfl .own) ?_
      refine c5 ?_ ?_
      ·refine dL (aq rfl Tryz.call26 (jR hDo (by omega) hc_x hcl (by omega)) [] rfl [2,0,8] rfl ?_)
       rintro _ _ _ ⟨y2,rfl,rfl,rfl,hyd2⟩
       refine⟨(fun _=>wk [0,0,0] [3,4,5,6,7,8,9] rfl rfl), ?_⟩
       refine bw (aa rfl)<|bw (ao rfl rfl)<|bw (ao rfl rfl)<|bw (ao rfl rfl)<| ?_
       refine c5 ?_ ?_
       ·refine dL (aJ fB (fun g15=>⟨(fun _=>wk [1,1,1] [3,4,5,6,7,8,9] rfl rfl), ?_⟩))
        refine dL (aJ cX (fun g16=>⟨(fun _=>wk [2,2,2] [3,4,5,6,7,8,9] rfl rfl), ?_⟩))
        refine dC (aG 1 rfl rfl rfl bp rfl bP rfl ⟨(fun h=>absurd h (by decide)), ?_⟩)
        refine dC (aG 1 rfl rfl rfl bj hp32 aS rfl ⟨(fun h=>absurd h (by decide)), ?_⟩)
        refine bw (ab rfl)<|dD<|al (ρ' :=[(15,_),(49,_),(14,_),(13,_),(12,_),(40,_),(11,_),(10,_),(9,_),(8,_),(0,_),(1,_),(2,_),(3,_)]) ⟨rfl,rfl,rfl,rfl,rfl,rfl,rfl,rfl,rfl,rfl,rfl,rfl,rfl,rfl,trivial⟩<|ak (X' :=[_,_,_,_,_]) (S' :=[_,_,_,_,_,_,_,_,_,_]) (fun _ m=>m)<| ?_
        exact cq (R:=fun(y2:RX) (g15:Nat)=>[(15,.pointer (some ⟨g15,0,none⟩))]) (X1:=fun(y2:RX) (g15:Nat)=>[aH g15 39 y2.cs]) (S1:=fun(y2:RX) (g15:Nat)=>[cY y2]) (I:=fun(y2:RX) (g15:Nat)=>y2.d=(x.d.put (dp k6)).1) y2 g15 ⟨rfl,rfl,rfl,rfl,rfl,rfl,rfl,rfl,rfl,rfl,rfl,rfl,rfl,rfl,trivial⟩ [1,1,1,1] rfl [0,3,4,5,6,7,8,9] rfl hyd2
       ·refine dL (aJ cX (fun g16=>⟨(fun _=>wk [1,1,1] [3,4,5,6,7,8,9] rfl rfl), ?_⟩))
        refine dL (aJ fB (fun g15=>⟨(fun _=>wk [2,2,2] [3,4,5,6,7,8,9] rfl rfl), ?_⟩))
        refine dC (aG 0 rfl rfl rfl bp rfl bP rfl ⟨(fun h=>absurd h (by decide)), ?_⟩)
        refine dC (aG 1 rfl rfl rfl bj hp32 aS rfl ⟨(fun h=>absurd h (by decide)), ?_⟩)
        refine bw (ab rfl)<|dD<|al (ρ' :=[(15,_),(49,_),(14,_),(13,_),(12,_),(40,_),(11,_),(10,_),(9,_),(8,_),(0,_),(1,_),(2,_),(3,_)]) ⟨rfl,rfl,rfl,rfl,rfl,rfl,rfl,rfl,rfl,rfl,rfl,rfl,rfl,rfl,trivial⟩<|ak (X' :=[_,_,_,_,_]) (S' :=[_,_,_,_,_,_,_,_,_,_]) (fun _ m=>m)<| ?_
        exact cq (R:=fun(y2:RX) (g15:Nat)=>[(15,.pointer (some ⟨g15,0,none⟩))]) (X1:=fun(y2:RX) (g15:Nat)=>[aH g15 39 y2.cs]) (S1:=fun(y2:RX) (g15:Nat)=>[cY y2]) (I:=fun(y2:RX) (g15:Nat)=>y2.d=(x.d.put (dp k6)).1) y2 g15 ⟨rfl,rfl,rfl,rfl,rfl,rfl,rfl,rfl,rfl,rfl,rfl,rfl,rfl,rfl,trivial⟩ [1,1,1,1] rfl [0,3,4,5,6,7,8,9] rfl hyd2
      ·refine c5 ?_ ?_
       ·refine dL (aJ fB (fun g15=>⟨(fun _=>wk [1,1,1] [2,3,4,5,6,7,8] rfl rfl), ?_⟩))
        refine c5 ?_ ?_
        ·refine dL (aq rfl Tryz.call26 (jR hDo (by omega) hc_x hcl (by omega)) [] rfl [2,0,8] rfl ?_)
         rintro _ _ _ ⟨y2,rfl,rfl,rfl,hyd2⟩
         refine⟨(fun _=>wk [1,1,1] [3,4,5,6,7,8,9] rfl rfl), ?_⟩
         refine bw (aa rfl)<|bw (ao rfl rfl)<|bw (ao rfl rfl)<|bw (ao rfl rfl)<| ?_
         refine dL (aJ cX (fun g16=>⟨(fun _=>wk [2,2,2] [3,4,5,6,7,8,9] rfl rfl), ?_⟩))
         refine dC (aG 1 rfl rfl rfl bp rfl bP rfl ⟨(fun h=>absurd h (by decide)), ?_⟩)
         refine dC (aG 1 rfl rfl rfl bj hp32 aS rfl ⟨(fun h=>absurd h (by decide)), ?_⟩)
         refine bw (ab rfl)<|dD<|al (ρ' :=[(15,_),(49,_),(14,_),(13,_),(12,_),(40,_),(11,_),(10,_),(9,_),(8,_),(0,_),(1,_),(2,_),(3,_)]) ⟨rfl,rfl,rfl,rfl,rfl,rfl,rfl,rfl,rfl,rfl,rfl,rfl,rfl,rfl,trivial⟩<|ak (X' :=[_,_,_,_,_]) (S' :=[_,_,_,_,_,_,_,_,_,_]) (fun _ m=>m)<| ?_
         exact cq (R:=fun(y2:RX) (g15:Nat)=>[(15,.pointer (some ⟨g15,0,none⟩))]) (X1:=fun(y2:RX) (g15:Nat)=>[aH g15 39 y2.cs]) (S1:=fun(y2:RX) (g15:Nat)=>[cY y2]) (I:=fun(y2:RX) (g15:Nat)=>y2.d=(x.d.put (dp k6)).1) y2 g15 ⟨rfl,rfl,rfl,rfl,rfl,rfl,rfl,rfl,rfl,rfl,rfl,rfl,rfl,rfl,trivial⟩ [1,1,1,1] rfl [0,3,4,5,6,7,8,9] rfl hyd2
        ·refine dL (aJ cX (fun g16=>⟨(fun _=>wk [2,2,2] [2,3,4,5,6,7,8] rfl rfl), ?_⟩))
         refine dL (aq rfl Tryz.call26 (jR hDo (by omega) hc_x hcl (by omega)) [] rfl [2,0,8] rfl ?_)
         rintro _ _ _ ⟨y2,rfl,rfl,rfl,hyd2⟩
         refine⟨(fun _=>wk [2,2,2] [3,4,5,6,7,8,9] rfl rfl), ?_⟩
         refine bw (aa rfl)<|bw (ao rfl rfl)<|bw (ao rfl rfl)<|bw (ao rfl rfl)<| ?_
         refine dC (aG 1 rfl rfl rfl bp rfl bP rfl ⟨(fun h=>absurd h (by decide)), ?_⟩)
         refine dC (aG 1 rfl rfl rfl bj hp32 aS rfl ⟨(fun h=>absurd h (by decide)), ?_⟩)
         refine bw (ab rfl)<|dD<|al (ρ' :=[(15,_),(49,_),(14,_),(13,_),(12,_),(40,_),(11,_),(10,_),(9,_),(8,_),(0,_),(1,_),(2,_),(3,_)]) ⟨rfl,rfl,rfl,rfl,rfl,rfl,rfl,rfl,rfl,rfl,rfl,rfl,rfl,rfl,trivial⟩<|ak (X' :=[_,_,_,_,_]) (S' :=[_,_,_,_,_,_,_,_,_,_]) (fun _ m=>m)<| ?_
         exact cq (R:=fun(y2:RX) (g15:Nat)=>[(15,.pointer (some ⟨g15,0,none⟩))]) (X1:=fun(y2:RX) (g15:Nat)=>[aH g15 39 y2.cs]) (S1:=fun(y2:RX) (g15:Nat)=>[cY y2]) (I:=fun(y2:RX) (g15:Nat)=>y2.d=(x.d.put (dp k6)).1) y2 g15 ⟨rfl,rfl,rfl,rfl,rfl,rfl,rfl,rfl,rfl,rfl,rfl,rfl,rfl,rfl,trivial⟩ [1,1,1,1] rfl [0,3,4,5,6,7,8,9] rfl hyd2
       ·refine dL (aJ cX (fun g16=>⟨(fun _=>wk [1,1,1] [2,3,4,5,6,7,8] rfl rfl), ?_⟩))
        refine c5 ?_ ?_
        ·refine dL (aq rfl Tryz.call26 (jR hDo (by omega) hc_x hcl (by omega)) [] rfl [2,0,8] rfl ?_)
         rintro _ _ _ ⟨y2,rfl,rfl,rfl,hyd2⟩
         refine⟨(fun _=>wk [1,1,1] [3,4,5,6,7,8,9] rfl rfl), ?_⟩
         refine bw (aa rfl)<|bw (ao rfl rfl)<|bw (ao rfl rfl)<|bw (ao rfl rfl)<| ?_
         refine dL (aJ fB (fun g15=>⟨(fun _=>wk [2,2,2] [3,4,5,6,7,8,9] rfl rfl), ?_⟩))
         refine dC (aG 0 rfl rfl rfl bp rfl bP rfl ⟨(fun h=>absurd h (by decide)), ?_⟩)
         refine dC (aG 1 rfl rfl rfl bj hp32 aS rfl ⟨(fun h=>absurd h (by decide)), ?_⟩)
         refine bw (ab rfl)<|dD<|al (ρ' :=[(15,_),(49,_),(14,_),(13,_),(12,_),(40,_),(11,_),(10,_),(9,_),(8,_),(0,_),(1,_),(2,_),(3,_)]) ⟨rfl,rfl,rfl,rfl,rfl,rfl,rfl,rfl,rfl,rfl,rfl,rfl,rfl,rfl,trivial⟩<|ak (X' :=[_,_,_,_,_]) (S' :=[_,_,_,_,_,_,_,_,_,_]) (fun _ m=>m)<| ?_
         exact cq (R:=fun(y2:RX) (g15:Nat)=>[(15,.pointer (some ⟨g15,0,none⟩))]) (X1:=fun(y2:RX) (g15:Nat)=>[aH g15 39 y2.cs]) (S1:=fun(y2:RX) (g15:Nat)=>[cY y2]) (I:=fun(y2:RX) (g15:Nat)=>y2.d=(x.d.put (dp k6)).1) y2 g15 ⟨rfl,rfl,rfl,rfl,rfl,rfl,rfl,rfl,rfl,rfl,rfl,rfl,rfl,rfl,trivial⟩ [1,1,1,1] rfl [0,3,4,5,6,7,8,9] rfl hyd2
        ·refine dL (aJ fB (fun g15=>⟨(fun _=>wk [2,2,2] [2,3,4,5,6,7,8] rfl rfl), ?_⟩))
         refine dL (aq rfl Tryz.call26 (jR hDo (by omega) hc_x hcl (by omega)) [] rfl [2,0,8] rfl ?_)
         rintro _ _ _ ⟨y2,rfl,rfl,rfl,hyd2⟩
         refine⟨(fun _=>wk [2,2,2] [3,4,5,6,7,8,9] rfl rfl), ?_⟩
         refine bw (aa rfl)<|bw (ao rfl rfl)<|bw (ao rfl rfl)<|bw (ao rfl rfl)<| ?_
         refine dC (aG 0 rfl rfl rfl bp rfl bP rfl ⟨(fun h=>absurd h (by decide)), ?_⟩)
         refine dC (aG 1 rfl rfl rfl bj hp32 aS rfl ⟨(fun h=>absurd h (by decide)), ?_⟩)
         refine bw (ab rfl)<|dD<|al (ρ' :=[(15,_),(49,_),(14,_),(13,_),(12,_),(40,_),(11,_),(10,_),(9,_),(8,_),(0,_),(1,_),(2,_),(3,_)]) ⟨rfl,rfl,rfl,rfl,rfl,rfl,rfl,rfl,rfl,rfl,rfl,rfl,rfl,rfl,trivial⟩<|ak (X' :=[_,_,_,_,_]) (S' :=[_,_,_,_,_,_,_,_,_,_]) (fun _ m=>m)<| ?_
         exact cq (R:=fun(y2:RX) (g15:Nat)=>[(15,.pointer (some ⟨g15,0,none⟩))]) (X1:=fun(y2:RX) (g15:Nat)=>[aH g15 39 y2.cs]) (S1:=fun(y2:RX) (g15:Nat)=>[cY y2]) (I:=fun(y2:RX) (g15:Nat)=>y2.d=(x.d.put (dp k6)).1) y2 g15 ⟨rfl,rfl,rfl,rfl,rfl,rfl,rfl,rfl,rfl,rfl,rfl,rfl,rfl,rfl,trivial⟩ [1,1,1,1] rfl [0,3,4,5,6,7,8,9] rfl hyd2
     ·refine c5 ?_ ?_
      ·refine dL (aJ fB (fun g15=>⟨(fun _=>wk [1,1,1] [0,1,2,3,4,5,6] rfl rfl), ?_⟩))
       refine c5 ?_ ?_
       ·refine dL (aq rfl Tryz.call27 (jz hz hk6 hk6l) [] rfl [] rfl ?_)
        rintro _ _ _ ⟨v,rfl,rfl,rfl⟩
        refine⟨(fun _=>wk [2,2,2] [0,1,2,3,4,5,6] rfl rfl), ?_⟩
        refine ec (fun m=>(m.own 0 rfl).slice) ?_
        rintro⟨A_x,c_x,rfl,hc_x⟩
        refine ec (fun m=>(m.ord 0 rfl).2.1) fun hA_x=> ?_
        refine kN (fun w m=>(m.perm (az [0] _ [_] _ rfl)).freeze) ?_
        refine kN (fun w m=>m.lq 0 rfl .own) ?_
        refine c5 ?_ ?_
        ·refine dL (aq rfl Tryz.call26 (jR hDo (by omega) hc_x hcl (by omega)) [] rfl [2,0,8] rfl ?_)
         rintro _ _ _ ⟨y2,rfl,rfl,rfl,hyd2⟩
         refine⟨(fun _=>wk [1,1,1] [3,4,5,6,7,8,9] rfl rfl), ?_⟩
         refine bw (aa rfl)<|bw (ao rfl rfl)<|bw (ao rfl rfl)<|bw (ao rfl rfl)<| ?_
         refine dL (aJ cX (fun g16=>⟨(fun _=>wk [2,2,2] [3,4,5,6,7,8,9] rfl rfl), ?_⟩))
         refine dC (aG 1 rfl rfl rfl bp rfl bP rfl ⟨(fun h=>absurd h (by decide)), ?_⟩)
         refine dC (aG 1 rfl rfl rfl bj hp32 aS rfl ⟨(fun h=>absurd h (by decide)), ?_⟩)
         refine bw (ab rfl)<|dD<|al (ρ' :=[(15,_),(49,_),(14,_),(13,_),(12,_),(40,_),(11,_),(10,_),(9,_),(8,_),(0,_),(1,_),(2,_),(3,_)]) ⟨rfl,rfl,rfl,rfl,rfl,rfl,rfl,rfl,rfl,rfl,rfl,rfl,rfl,rfl,trivial⟩<|ak (X' :=[_,_,_,_,_]) (S' :=[_,_,_,_,_,_,_,_,_,_]) (fun _ m=>m)<| ?_
         exact cq (R:=fun(y2:RX) (g15:Nat)=>[(15,.pointer (some ⟨g15,0,none⟩))]) (X1:=fun(y2:RX) (g15:Nat)=>[aH g15 39 y2.cs]) (S1:=fun(y2:RX) (g15:Nat)=>[cY y2]) (I:=fun(y2:RX) (g15:Nat)=>y2.d=(x.d.put (dp k6)).1) y2 g15 ⟨rfl,rfl,rfl,rfl,rfl,rfl,rfl,rfl,rfl,rfl,rfl,rfl,rfl,rfl,trivial⟩ [1,1,1,1] rfl [0,3,4,5,6,7,8,9] rfl hyd2
        ·refine dL (aJ cX (fun g16=>⟨(fun _=>wk [2,2,2] [2,3,4,5,6,7,8] rfl rfl), ?_⟩))
         refine dL (aq rfl Tryz.call26 (jR hDo (by omega) hc_x hcl (by omega)) [] rfl [2,0,8] rfl ?_)
         rintro _ _ _ ⟨y2,rfl,rfl,rfl,hyd2⟩
         refine⟨(fun _=>wk [2,2,2] [3,4,5,6,7,8,9] rfl rfl), ?_⟩
         refine bw (aa rfl)<|bw (ao rfl rfl)<|bw (ao rfl rfl)<|bw (ao rfl rfl)<| ?_
         refine dC (aG 1 rfl rfl rfl bp rfl bP rfl ⟨(fun h=>absurd h (by decide)), ?_⟩)
         refine dC (aG 1 rfl rfl rfl bj hp32 aS rfl ⟨(fun h=>absurd h (by decide)), ?_⟩)
         refine bw (ab rfl)<|dD<|al (ρ' :=[(15,_),(49,_),(14,_),(13,_),(12,_),(40,_),(11,_),(10,_),(9,_),(8,_),(0,_),(1,_),(2,_),(3,_)]) ⟨rfl,rfl,rfl,rfl,rfl,rfl,rfl,rfl,rfl,rfl,rfl,rfl,rfl,rfl,trivial⟩<|ak (X' :=[_,_,_,_,_]) (S' :=[_,_,_,_,_,_,_,_,_,_]) (fun _ m=>m)<| ?_
         exact cq (R:=fun(y2:RX) (g15:Nat)=>[(15,.pointer (some ⟨g15,0,none⟩))]) (X1:=fun(y2:RX) (g15:Nat)=>[aH g15 39 y2.cs]) (S1:=fun(y2:RX) (g15:Nat)=>[cY y2]) (I:=fun(y2:RX) (g15:Nat)=>y2.d=(x.d.put (dp k6)).1) y2 g15 ⟨rfl,rfl,rfl,rfl,rfl,rfl,rfl,rfl,rfl,rfl,rfl,rfl,rfl,rfl,trivial⟩ [1,1,1,1] rfl [0,3,4,5,6,7,8,9] rfl hyd2
       ·refine dL (aJ cX (fun g16=>⟨(fun _=>wk [2,2,2] [0,1,2,3,4,5,6] rfl rfl), ?_⟩))
        refine dL (aq rfl Tryz.call27 (jz hz hk6 hk6l) [] rfl [] rfl ?_)
        rintro _ _ _ ⟨v,rfl,rfl,rfl⟩
        refine⟨(fun _=>wk [3,3,3] [0,1,2,3,4,5,6] rfl rfl), ?_⟩
        refine ec (fun m=>(m.own 0 rfl).slice) ?_
        rintro⟨A_x,c_x,rfl,hc_x⟩
        refine ec (fun m=>(m.ord 0 rfl).2.1) fun hA_x=> ?_
        refine kN (fun w m=>(m.perm (az [0] _ [_] _ rfl)).freeze) ?_
        refine kN (fun w m=>m.lq 0 rfl .own) ?_
        refine dL (aq rfl Tryz.call26 (jR hDo (by omega) hc_x hcl (by omega)) [] rfl [2,0,8] rfl ?_)
        rintro _ _ _ ⟨y2,rfl,rfl,rfl,hyd2⟩
        refine⟨(fun _=>wk [2,2,2] [3,4,5,6,7,8,9] rfl rfl), ?_⟩
        refine bw (aa rfl)<|bw (ao rfl rfl)<|bw (ao rfl rfl)<|bw (ao rfl rfl)<| ?_
        refine dC (aG 1 rfl rfl rfl bp rfl bP rfl ⟨(fun h=>absurd h (by decide)), ?_⟩)
        refine dC (aG 1 rfl rfl rfl bj hp32 aS rfl ⟨(fun h=>absurd h (by decide)), ?_⟩)
        refine bw (ab rfl)<|dD<|al (ρ' :=[(15,_),(49,_),(14,_),(13,_),(12,_),(40,_),(11,_),(10,_),(9,_),(8,_),(0,_),(1,_),(2,_),(3,_)]) ⟨rfl,rfl,rfl,rfl,rfl,rfl,rfl,rfl,rfl,rfl,rfl,rfl,rfl,rfl,trivial⟩<|ak (X' :=[_,_,_,_,_]) (S' :=[_,_,_,_,_,_,_,_,_,_]) (fun _ m=>m)<| ?_
        exact cq (R:=fun(y2:RX) (g15:Nat)=>[(15,.pointer (some ⟨g15,0,none⟩))]) (X1:=fun(y2:RX) (g15:Nat)=>[aH g15 39 y2.cs]) (S1:=fun(y2:RX) (g15:Nat)=>[cY y2]) (I:=fun(y2:RX) (g15:Nat)=>y2.d=(x.d.put (dp k6)).1) y2 g15 ⟨rfl,rfl,rfl,rfl,rfl,rfl,rfl,rfl,rfl,rfl,rfl,rfl,rfl,rfl,trivial⟩ [1,1,1,1] rfl [0,3,4,5,6,7,8,9] rfl hyd2
      ·refine dL (aJ cX (fun g16=>⟨(fun _=>wk [1,1,1] [0,1,2,3,4,5,6] rfl rfl), ?_⟩))
       refine c5 ?_ ?_
       ·refine dL (aq rfl Tryz.call27 (jz hz hk6 hk6l) [] rfl [] rfl ?_)
        rintro _ _ _ ⟨v,rfl,rfl,rfl⟩
        refine⟨(fun _=>wk [2,2,2] [0,1,2,3,4,5,6] rfl rfl), ?_⟩
        refine ec (fun m=>(m.own 0 rfl).slice) ?_
        rintro⟨A_x,c_x,rfl,hc_x⟩
        refine ec (fun m=>(m.ord 0 rfl).2.1) fun hA_x=> ?_
        refine kN (fun w m=>(m.perm (az [0] _ [_] _ rfl)).freeze) ?_
        refine kN (fun w m=>m.lq 0 rfl .own) ?_
        refine c5 ?_ ?_
        ·refine dL (aq rfl Tryz.call26 (jR hDo (by omega) hc_x hcl (by omega)) [] rfl [2,0,8] rfl ?_)
         rintro _ _ _ ⟨y2,rfl,rfl,rfl,hyd2⟩
         refine⟨(fun _=>wk [1,1,1] [3,4,5,6,7,8,9] rfl rfl), ?_⟩
         refine bw (aa rfl)<|bw (ao rfl rfl)<|bw (ao rfl rfl)<|bw (ao rfl rfl)<| ?_
         refine dL (aJ fB (fun g15=>⟨(fun _=>wk [2,2,2] [3,4,5,6,7,8,9] rfl rfl), ?_⟩))
         refine dC (aG 0 rfl rfl rfl bp rfl bP rfl ⟨(fun h=>absurd h (by decide)), ?_⟩)
         refine dC (aG 1 rfl rfl rfl bj hp32 aS rfl ⟨(fun h=>absurd h (by decide)), ?_⟩)
         refine bw (ab rfl)<|dD<|al (ρ' :=[(15,_),(49,_),(14,_),(13,_),(12,_),(40,_),(11,_),(10,_),(9,_),(8,_),(0,_),(1,_),(2,_),(3,_)]) ⟨rfl,rfl,rfl,rfl,rfl,rfl,rfl,rfl,rfl,rfl,rfl,rfl,rfl,rfl,trivial⟩<|ak (X' :=[_,_,_,_,_]) (S' :=[_,_,_,_,_,_,_,_,_,_]) (fun _ m=>m)<| ?_
         exact cq (R:=fun(y2:RX) (g15:Nat)=>[(15,.pointer (some ⟨g15,0,none⟩))]) (X1:=fun(y2:RX) (g15:Nat)=>[aH g15 39 y2.cs]) (S1:=fun(y2:RX) (g15:Nat)=>[cY y2]) (I:=fun(y2:RX) (g15:Nat)=>y2.d=(x.d.put (dp k6)).1) y2 g15 ⟨rfl,rfl,rfl,rfl,rfl,rfl,rfl,rfl,rfl,rfl,rfl,rfl,rfl,rfl,trivial⟩ [1,1,1,1] rfl [0,3,4,5,6,7,8,9] rfl hyd2
        ·refine dL (aJ fB (fun g15=>⟨(fun _=>wk [2,2,2] [2,3,4,5,6,7,8] rfl rfl), ?_⟩))
         refine dL (aq rfl Tryz.call26 (jR hDo (by omega) hc_x hcl (by omega)) [] rfl [2,0,8] rfl ?_)
         rintro _ _ _ ⟨y2,rfl,rfl,rfl,hyd2⟩
         refine⟨(fun _=>wk [2,2,2] [3,4,5,6,7,8,9] rfl rfl), ?_⟩
         refine bw (aa rfl)<|bw (ao rfl rfl)<|bw (ao rfl rfl)<|bw (ao rfl rfl)<| ?_
         refine dC (aG 0 rfl rfl rfl bp rfl bP rfl ⟨(fun h=>absurd h (by decide)), ?_⟩)
         refine dC (aG 1 rfl rfl rfl bj hp32 aS rfl ⟨(fun h=>absurd h (by decide)), ?_⟩)
         refine bw (ab rfl)<|dD<|al (ρ' :=[(15,_),(49,_),(14,_),(13,_),(12,_),(40,_),(11,_),(10,_),(9,_),(8,_),(0,_),(1,_),(2,_),(3,_)]) ⟨rfl,rfl,rfl,rfl,rfl,rfl,rfl,rfl,rfl,rfl,rfl,rfl,rfl,rfl,trivial⟩<|ak (X' :=[_,_,_,_,_]) (S' :=[_,_,_,_,_,_,_,_,_,_]) (fun _ m=>m)<| ?_
         exact cq (R:=fun(y2:RX) (g15:Nat)=>[(15,.pointer (some ⟨g15,0,none⟩))]) (X1:=fun(y2:RX) (g15:Nat)=>[aH g15 39 y2.cs]) (S1:=fun(y2:RX) (g15:Nat)=>[cY y2]) (I:=fun(y2:RX) (g15:Nat)=>y2.d=(x.d.put (dp k6)).1) y2 g15 ⟨rfl,rfl,rfl,rfl,rfl,rfl,rfl,rfl,rfl,rfl,rfl,rfl,rfl,rfl,trivial⟩ [1,1,1,1] rfl [0,3,4,5,6,7,8,9] rfl hyd2
       ·refine dL (aJ fB (fun g15=>⟨(fun _=>wk [2,2,2] [0,1,2,3,4,5,6] rfl rfl), ?_⟩))
        refine dL (aq rfl Tryz.call27 (jz hz hk6 hk6l) [] rfl [] rfl ?_)
        rintro _ _ _ ⟨v,rfl,rfl,rfl⟩
        refine⟨(fun _=>wk [3,3,3] [0,1,2,3,4,5,6] rfl rfl), ?_⟩
        refine ec (fun m=>(m.own 0 rfl).slice) ?_
        rintro⟨A_x,c_x,rfl,hc_x⟩
        refine ec (fun m=>(m.ord 0 rfl).2.1) fun hA_x=> ?_
        refine kN (fun w m=>(m.perm (az [0] _ [_] _ rfl)).freeze) ?_
        refine kN (fun w m=>m.lq 0 rfl .own) ?_
        refine dL (aq rfl Tryz.call26 (jR hDo (by omega) hc_x hcl (by omega)) [] rfl [2,0,8] rfl ?_)
        rintro _ _ _ ⟨y2,rfl,rfl,rfl,hyd2⟩
        refine⟨(fun _=>wk [2,2,2] [3,4,5,6,7,8,9] rfl rfl), ?_⟩
        refine bw (aa rfl)<|bw (ao rfl rfl)<|bw (ao rfl rfl)<|bw (ao rfl rfl)<| ?_
        refine dC (aG 0 rfl rfl rfl bp rfl bP rfl ⟨(fun h=>absurd h (by decide)), ?_⟩)
        refine dC (aG 1 rfl rfl rfl bj hp32 aS rfl ⟨(fun h=>absurd h (by decide)), ?_⟩)
        refine bw (ab rfl)<|dD<|al (ρ' :=[(15,_),(49,_),(14,_),(13,_),(12,_),(40,_),(11,_),(10,_),(9,_),(8,_),(0,_),(1,_),(2,_),(3,_)]) ⟨rfl,rfl,rfl,rfl,rfl,rfl,rfl,rfl,rfl,rfl,rfl,rfl,rfl,rfl,trivial⟩<|ak (X' :=[_,_,_,_,_]) (S' :=[_,_,_,_,_,_,_,_,_,_]) (fun _ m=>m)<| ?_
        exact cq (R:=fun(y2:RX) (g15:Nat)=>[(15,.pointer (some ⟨g15,0,none⟩))]) (X1:=fun(y2:RX) (g15:Nat)=>[aH g15 39 y2.cs]) (S1:=fun(y2:RX) (g15:Nat)=>[cY y2]) (I:=fun(y2:RX) (g15:Nat)=>y2.d=(x.d.put (dp k6)).1) y2 g15 ⟨rfl,rfl,rfl,rfl,rfl,rfl,rfl,rfl,rfl,rfl,rfl,rfl,rfl,rfl,trivial⟩ [1,1,1,1] rfl [0,3,4,5,6,7,8,9] rfl hyd2
    ·refine ag<|ah<|aj<|hy (fun m=>yV (aR rfl cz bp rfl ((m.aT 0 rfl).au)) ((rfl:_=Value.agg y2.cs.toArray)))<| ?_
     refine cN (aG 2 rfl rfl rfl bp rfl bP rfl ?_)
     refine ai<|al (ρ' :=[(15,_),(49,_),(14,_),(13,_),(12,_),(40,_),(11,_),(10,_),(9,_),(8,_),(0,_),(1,_),(2,_),(3,_)]) ⟨rfl,rfl,rfl,rfl,rfl,rfl,rfl,rfl,rfl,rfl,rfl,rfl,rfl,rfl,trivial⟩<|ak (X' :=[_,_,_,_]) (S' :=[_,_,_,_,_,_,_,_]) (fun _ m=>m)<|ag<|aj<|hy (fun _=>aa rfl)<|hy (fun _=>aa rfl)<|hy (fun _=>aa rfl)<|hy (fun _=>aL rfl rfl Tryz.underlying44 rl hA_rl rfl (by omega))<|hy (fun m=>av rfl dV ((m.rd 3 rfl).cell (j0 hil)))<| ?_
     refine hx (aq rfl Tryz.call27 (jz hz hk6 hk6l) [] rfl [] rfl ?_)
     rintro _ _ _ ⟨v,rfl,rfl,rfl⟩
     refine aw (fun m=>(m.own 0 rfl).slice) ?_
     rintro⟨A_x,c_x,rfl,hc_x⟩
     refine aw (fun m=>(m.ord 0 rfl).2.1) fun hA_x=> ?_
     refine hx (bT rfl Tryz.call28 (D4 hD (by omega) hc_x hcl (by omega)) [3] rfl (.x 0 rfl .own (.s 7 rfl .nil)) ?_)
     rintro _ _ _ ⟨st1,rfl,rfl,rfl,hD2⟩
     refine⟨rfl, ?_⟩
     refine ai<|al (ρ' :=[(15,_),(49,_),(14,_),(13,_),(12,_),(40,_),(11,_),(10,_),(9,_),(8,_),(0,_),(1,_),(2,_),(3,_)]) ⟨rfl,rfl,rfl,rfl,rfl,rfl,rfl,rfl,rfl,rfl,rfl,rfl,rfl,rfl,trivial⟩<|ak (X' :=[_,_,_,_,_]) (S' :=[_,_,_,_,_,_,_,_]) (fun _ m=>m)<|aW<|ag<|aj<|hy (fun _=>aa rfl)<|hy (fun _=>aM rfl rfl (bB (by omega) (by omega)))<|hy (fun _=>ab rfl)<|ai<|al (ρ' :=[(14,_),(15,_),(49,_),(13,_),(12,_),(40,_),(11,_),(10,_),(9,_),(8,_),(0,_),(1,_),(2,_),(3,_)]) ⟨rfl,rfl,rfl,rfl,rfl,rfl,rfl,rfl,rfl,rfl,rfl,rfl,rfl,rfl,trivial⟩<| ?_
     rw[←hyd2]at hD2
     have hN2:nF y2.d:=by rw[hyd2];exact hN.put _
     refine gV (i+1) st1 y2 ⟨rfl,rfl,rfl,rfl,rfl,rfl,rfl,rfl,rfl,rfl,rfl,rfl,trivial⟩ [0,1,2] rfl [0,2,3,4,5,6,7] rfl (⟨by omega,by omega,hD2,hN2⟩) (by omega)
   ·refine bS<|ar<|ar<|aE<| ?_
    exact cq (R:=fun(st1:c7) (x1:RX)=>[]) (X1:=fun(st1:c7) (x1:RX)=>[bM g2 st1,aH g12 39 x1.cs]) (S1:=fun(st1:c7) (x1:RX)=>[cY x1]) (I:=fun(st1:c7) (x1:RX)=>DS st1 x1.d 24∧nF x1.d) st x ⟨rfl,rfl,rfl,rfl,rfl,rfl,rfl,rfl,rfl,rfl,rfl,trivial⟩ [0,0,0] rfl [0,1,2,3,4,5,6] rfl (⟨hD.le (by omega),hN⟩)
  ·refine a6 rfl rfl rfl (by decide)<|a6 rfl rfl rfl (by decide)<|hy (fun _=>a7 rfl rfl)<|ai<|al (ρ' :=[(49,_),(14,_),(13,_),(12,_),(40,_),(11,_),(10,_),(9,_),(8,_),(0,_),(1,_),(2,_),(3,_)]) ⟨rfl,rfl,rfl,rfl,rfl,rfl,rfl,rfl,rfl,rfl,rfl,rfl,rfl,trivial⟩<|ag<| ?_
   refine dx rfl (rfl) ?_
   refine bS<|ar<|ar<|aE<| ?_
   exact cq (R:=fun(st1:c7) (x1:RX)=>[]) (X1:=fun(st1:c7) (x1:RX)=>[bM g2 st1,aH g12 39 x1.cs]) (S1:=fun(st1:c7) (x1:RX)=>[cY x1]) (I:=fun(st1:c7) (x1:RX)=>DS st1 x1.d 24∧nF x1.d) st x ⟨rfl,rfl,rfl,rfl,rfl,rfl,rfl,rfl,rfl,rfl,rfl,trivial⟩ [0,0,0] rfl [0,1,2,3,4,5,6] rfl (⟨hD.le (by omega),hN⟩)
 ·refine ag<|ah<|ah<|aj<|hy (fun _=>ab rfl)<|ai<|ag<| ?_
  refine qS (fun(st2:c7) (x2:RX)=>[]) (fun(st2:c7) (x2:RX)=>[bM g2 st2,aH g12 39 x2.cs]) (fun(st2:c7) (x2:RX)=>[cY x2]) (fun(st2:c7) (x2:RX)=>DS st2 x2.d 26∧nF x2.d) [(13,_),(12,_),(40,_),(11,_),(10,_),(9,_),(8,_),(0,_),(1,_),(2,_),(3,_)] ⟨rfl,rfl,rfl,rfl,rfl,rfl,rfl,rfl,rfl,rfl,rfl,trivial⟩ [0,0] rfl ?_ (fun st2 x2 ⟨hD2,hN2⟩=> ?_)
  ·refine aN<| ?_
   refine gY (fun i st x=>m-i) (fun i st x=>[(18,.int .i64 (i:Nat))]) (fun i st x=>[bM g2 st,aH g12 39 x.cs]) (fun i st x=>[cY x]) (fun i st x=>i≤m∧i≤2∧DS st x.d (24+i)∧nF x.d) 0 st1 x1 [(13,_),(12,_),(40,_),(11,_),(10,_),(9,_),(8,_),(0,_),(1,_),(2,_),(3,_)] ⟨rfl,rfl,rfl,rfl,rfl,rfl,rfl,rfl,rfl,rfl,rfl,trivial⟩ [0,0] rfl [0] rfl (⟨Nat.zero_le _,Nat.zero_le _,hD1,hN1⟩) ⟨rfl,trivial⟩ (fun i st x ⟨hin,hi6,hD,hN⟩=> ?_)
   refine ah<|ah<|aj<|hy (fun _=>aa rfl)<|hy (fun _=>aa rfl)<|hy (fun _=>aX rfl Tryz.underlying44)<|hy (fun _=>bk rfl rfl)<|hy (fun _=>aa rfl)<| ?_
   refine eG 75 rfl (fun h1=> ?_) (fun h1=> ?_)
   ·refine ca (o:=_) rfl rfl rfl (fun _=>aa rfl)<|ca (o:=_) rfl rfl rfl (fun _=>bk rfl rfl)<|hy (fun _=>bo rfl rfl)<|ai<|al (ρ' :=[(78,_),(18,_),(13,_),(12,_),(40,_),(11,_),(10,_),(9,_),(8,_),(0,_),(1,_),(2,_),(3,_)]) ⟨rfl,rfl,rfl,rfl,rfl,rfl,rfl,rfl,rfl,rfl,rfl,rfl,rfl,trivial⟩<|ag<| ?_
    refine cI rfl (fun h2=> ?_) (fun h2=> ?_)
    ·obtain⟨k6,hk6,hk6l⟩:=tJ (zb.getD i 0)
     have hil:i<zb.length:=by rw[ints,List.length_map,Nat.mul_one]at hln2;omega
     have hz:=hzb.at hil
     have hm:=bh (dp k6)
     have hDo:x.d.ok (24+i):=⟨st,hD⟩
     have hbt:(bl.take 30).length≤30:=by rw[List.length_take];omega
     have hbm:(bl.take 30).length=min k 30:=by rw[List.length_take,hl_rk];omega
     refine aC<|ag<|ah<|aN<|ah<|aj<|hy (fun _=>aa rfl)<|hy (fun _=>aa rfl)<|hy (fun _=>aL rfl rfl Tryz.underlying44 rl hA_rb rfl (by omega))<|hy (fun m=>av rfl dV ((m.rd 4 rfl).cell (j0 hil)))<| ?_
     refine hx (aq rfl Tryz.call30 (zp hz hk6 hk6l) [] rfl [7] rfl ?_)
     rintro _ _ _ ⟨rfl,rfl,rfl⟩
     refine hx (aq rfl Tryz.call29 (nI hm) [] rfl [] rfl ?_)
     rintro _ _ _ ⟨rfl,rfl,rfl⟩
     refine hy (fun _=>ab rfl)<|ai<|al (ρ' :=[(19,_),(78,_),(18,_),(13,_),(12,_),(40,_),(11,_),(10,_),(9,_),(8,_),(0,_),(1,_),(2,_),(3,_)]) ⟨rfl,rfl,rfl,rfl,rfl,rfl,rfl,rfl,rfl,rfl,rfl,rfl,rfl,rfl,trivial⟩<|ak (X' :=[_,_,_]) (S' :=[_,_,_,_,_,_,_,_]) (fun _ m=>m)<|ag<|ah<| ?_
     generalize hpp:bz (bF (dp k6))=pp
     have hpl:pp.length=69:=by rw[←hpp,e8 hm]
     refine qS (fun(y2:RX) (g20:Nat)=>[(20,.pointer (some ⟨g20,0,none⟩))]) (fun(y2:RX) (g20:Nat)=>[aH g20 39 y2.cs]) (fun(y2:RX) (g20:Nat)=>[cY y2]) (fun(y2:RX) (g20:Nat)=>y2.d=x.d.write pp (bl.take 30)) [(19,_),(78,_),(18,_),(13,_),(12,_),(40,_),(11,_),(10,_),(9,_),(8,_),(0,_),(1,_),(2,_),(3,_)] ⟨rfl,rfl,rfl,rfl,rfl,rfl,rfl,rfl,rfl,rfl,rfl,rfl,rfl,rfl,trivial⟩ [] rfl ?_ (fun y2 g20 hyd2=> ?_)
     ·refine ve [0,3,4,5,9,10] (.take 1 5<|.take 2 5<|.alt 0 (.alt 3 (.alt 4 (.alt 5 (.take 6 5<|.take 7 5<|.take 8 6<|.alt 9 (.alt 10 (.take 11 6<|.done) (.stop)) (.stop)) (.alt 9 (.alt 5 (.take 6 5<|.take 7 5<|.take 8 6<|.alt 10 (.take 11 6<|.done) (.stop)) (.stop)) (.stop))) (.alt 9 (.alt 4 (.alt 5 (.take 6 5<|.take 7 5<|.take 8 6<|.alt 10 (.take 11 6<|.done) (.stop)) (.stop)) (.stop)) (.stop))) (.alt 9 (.alt 3 (.alt 4 (.alt 5 (.take 6 5<|.take 7 5<|.take 8 6<|.alt 10 (.take 11 6<|.done) (.stop)) (.stop)) (.stop)) (.stop)) (.stop))) (.alt 3 (.alt 0 (.alt 4 (.alt 5 (.take 6 5<|.take 7 5<|.take 8 6<|.alt 9 (.alt 10 (.take 11 6<|.done) (.stop)) (.stop)) (.alt 9 (.alt 5 (.take 6 5<|.take 7 5<|.take 8 6<|.alt 10 (.take 11 6<|.done) (.stop)) (.stop)) (.stop))) (.alt 9 (.alt 4 (.alt 5 (.take 6 5<|.take 7 5<|.take 8 6<|.alt 10 (.take 11 6<|.done) (.stop)) (.stop)) (.stop)) (.stop))) (.alt 4 (.alt 0 (.alt 5 (.take 6 5<|.take 7 5<|.take 8 6<|.alt 9 (.alt 10 (.take 11 6<|.done) (.stop)) (.stop)) (.alt 9 (.alt 5 (.take 6 5<|.take 7 5<|.take 8 6<|.alt 10 (.take 11 6<|.done) (.stop)) (.stop)) (.stop))) (.alt 9 (.alt 0 (.alt 5 (.take 6 5<|.take 7 5<|.take 8 6<|.alt 10 (.take 11 6<|.done) (.stop)) (.stop)) (.stop)) (.stop))) (.alt 9 (.alt 0 (.alt 4 (.alt 5 (.take 6 5<|.take 7 5<|.take 8 6<|.alt 10 (.take 11 6<|.done) (.stop)) (.stop)) (.stop)) (.alt 4 (.alt 0 (.alt 5 (.take 6 5<|.take 7 5<|.take 8 6<|.alt 10 (.take 11 6<|.done) (.stop)) (.stop)) (.stop)) (.stop))) (.stop)))) (.alt 9 (.alt 0 (.alt 3 (.alt 4 (.alt 5 (.take 6 5<|.take 7 5<|.take 8 6<|.alt 10 (.take 11 6<|.done) (.stop)) (.stop)) (.stop)) (.stop)) (.alt 3 (.alt 0 (.alt 4 (.alt 5 (.take 6 5<|.take 7 5<|.take 8 6<|.alt 10 (.take 11 6<|.done) (.stop)) (.stop)) (.stop)) (.alt 4 (.alt 0 (.alt 5 (.take 6 5<|.take 7 5<|.take 8 6<|.alt 10 (.take 11 6<|.done) (.stop)) (.stop)) (.stop)) (.stop))) (.stop))) (.stop)))) (by kernel_rfl) (by kernel_rfl) rfl 1<|bw (aa rfl)<|bw (aa rfl)<| ?_
      refine c5 ?_ ?_
      ·refine dL<|fj (fun m=>yV (aR rfl cz bp rfl ((m.aT 1 rfl).au)) ((rfl:_=Value.agg x.cs.toArray)))<|And.intro (fun _=>wk [0,0,0] [0,1,2,3,4,5,6,7] rfl rfl)<| ?_
       refine c5 ?_ ?_
       ·refine dL (aq rfl Tryz.call32 (vn hkc hkb (m:=30)) [] rfl [5] rfl ?_)
        rintro _ _ _ ⟨v,rfl,rfl,rfl⟩
        refine⟨(fun h=>absurd h (by decide)), ?_⟩
        refine ec (fun m=>(m.own 0 rfl).slice) ?_
        rintro⟨A_x,c_x,rfl,hc_x⟩
        refine ec (fun m=>(m.ord 0 rfl).2.1) fun hA_x=> ?_
        refine c5 ?_ ?_
        ·refine dL<|fj (fun m=>eZ rfl Tryz.underlying27 Tryz.underlying5 Tryz.underlying9 (m.ord 0 rfl))<|And.intro (fun h=>absurd h (by decide))<| ?_
         refine c5 ?_ ?_
         ·refine dL (aq rfl Tryz.call31 (dZ hDo.ny (by omega) (by omega) (by omega) (p:=pp) (bb:=(bl.take 30))) [] rfl [0] rfl ?_)
          rintro _ _ _ ⟨y2,rfl,rfl,rfl,hyd2⟩
          refine⟨(fun h=>absurd h (by decide)), ?_⟩
          refine bw (aa rfl)<|bw (ao rfl rfl)<|bw (ao rfl rfl)<| ?_
          refine dL (aJ fB (fun g20=>⟨(fun h=>absurd h (by decide)), ?_⟩))
          refine dC (aG 0 rfl rfl rfl bp rfl bP rfl ⟨(fun h=>absurd h (by decide)), ?_⟩)
          refine bw (ab rfl)<|dD<|al (ρ' :=[(20,_),(19,_),(78,_),(18,_),(13,_),(12,_),(40,_),(11,_),(10,_),(9,_),(8,_),(0,_),(1,_),(2,_),(3,_)]) ⟨rfl,rfl,rfl,rfl,rfl,rfl,rfl,rfl,rfl,rfl,rfl,rfl,rfl,rfl,rfl,trivial⟩<|ak (X' :=[_,_,_,_,_]) (S' :=[_,_,_,_,_,_,_,_,_]) (fun _ m=>m)<| ?_
          exact cq (R:=fun(y2:RX) (g20:Nat)=>[(20,.pointer (some ⟨g20,0,none⟩))]) (X1:=fun(y2:RX) (g20:Nat)=>[aH g20 39 y2.cs]) (S1:=fun(y2:RX) (g20:Nat)=>[cY y2]) (I:=fun(y2:RX) (g20:Nat)=>y2.d=x.d.write pp (bl.take 30)) y2 g20 ⟨rfl,rfl,rfl,rfl,rfl,rfl,rfl,rfl,rfl,rfl,rfl,rfl,rfl,rfl,rfl,trivial⟩ [0,1,1,1] rfl [0,1,2,3,4,5,6,7,8] rfl hyd2
         ·refine dL (aJ fB (fun g20=>⟨(fun h=>absurd h (by decide)), ?_⟩))
          refine dL (aq rfl Tryz.call31 (dZ hDo.ny (by omega) (by omega) (by omega) (p:=pp) (bb:=(bl.take 30))) [] rfl [0] rfl ?_)
          rintro _ _ _ ⟨y2,rfl,rfl,rfl,hyd2⟩
          refine⟨(fun h=>absurd h (by decide)), ?_⟩
          refine bw (aa rfl)<|bw (ao rfl rfl)<|bw (ao rfl rfl)<| ?_
          refine dC (aG 0 rfl rfl rfl bp rfl bP rfl ⟨(fun h=>absurd h (by decide)), ?_⟩)
          refine bw (ab rfl)<|dD<|al (ρ' :=[(20,_),(19,_),(78,_),(18,_),(13,_),(12,_),(40,_),(11,_),(10,_),(9,_),(8,_),(0,_),(1,_),(2,_),(3,_)]) ⟨rfl,rfl,rfl,rfl,rfl,rfl,rfl,rfl,rfl,rfl,rfl,rfl,rfl,rfl,rfl,trivial⟩<|ak (X' :=[_,_,_,_,_]) (S' :=[_,_,_,_,_,_,_,_,_]) (fun _ m=>m)<| ?_
          exact cq (R:=fun(y2:RX) (g20:Nat)=>[(20,.pointer (some ⟨g20,0,none⟩))]) (X1:=fun(y2:RX) (g20:Nat)=>[aH g20 39 y2.cs]) (S1:=fun(y2:RX) (g20:Nat)=>[cY y2]) (I:=fun(y2:RX) (g20:Nat)=>y2.d=x.d.write pp (bl.take 30)) y2 g20 ⟨rfl,rfl,rfl,rfl,rfl,rfl,rfl,rfl,rfl,rfl,rfl,rfl,rfl,rfl,rfl,trivial⟩ [0,1,1,1] rfl [0,1,2,3,4,5,6,7,8] rfl hyd2
        ·refine dL (aJ fB (fun g20=>⟨(fun h=>absurd h (by decide)), ?_⟩))
         refine dL<|fj (fun m=>eZ rfl Tryz.underlying27 Tryz.underlying5 Tryz.underlying9 (m.ord 1 rfl))<|And.intro (fun h=>absurd h (by decide))<| ?_
         refine dL (aq rfl Tryz.call31 (dZ hDo.ny (by omega) (by omega) (by omega) (p:=pp) (bb:=(bl.take 30))) [] rfl [0] rfl ?_)
         rintro _ _ _ ⟨y2,rfl,rfl,rfl,hyd2⟩
         refine⟨(fun h=>absurd h (by decide)), ?_⟩
         refine bw (aa rfl)<|bw (ao rfl rfl)<|bw (ao rfl rfl)<| ?_
         refine dC (aG 0 rfl rfl rfl bp rfl bP rfl ⟨(fun h=>absurd h (by decide)), ?_⟩)
         refine bw (ab rfl)<|dD<|al (ρ' :=[(20,_),(19,_),(78,_),(18,_),(13,_),(12,_),(40,_),(11,_),(10,_),(9,_),(8,_),(0,_),(1,_),(2,_),(3,_)]) ⟨rfl,rfl,rfl,rfl,rfl,rfl,rfl,rfl,rfl,rfl,rfl,rfl,rfl,rfl,rfl,trivial⟩<|ak (X' :=[_,_,_,_,_]) (S' :=[_,_,_,_,_,_,_,_,_]) (fun _ m=>m)<| ?_
         exact cq (R:=fun(y2:RX) (g20:Nat)=>[(20,.pointer (some ⟨g20,0,none⟩))]) (X1:=fun(y2:RX) (g20:Nat)=>[aH g20 39 y2.cs]) (S1:=fun(y2:RX) (g20:Nat)=>[cY y2]) (I:=fun(y2:RX) (g20:Nat)=>y2.d=x.d.write pp (bl.take 30)) y2 g20 ⟨rfl,rfl,rfl,rfl,rfl,rfl,rfl,rfl,rfl,rfl,rfl,rfl,rfl,rfl,rfl,trivial⟩ [0,1,1,1] rfl [0,1,2,3,4,5,6,7,8] rfl hyd2
       ·refine dL (aJ fB (fun g20=>⟨(fun h=>absurd h (by decide)), ?_⟩))
        refine dL (aq rfl Tryz.call32 (vn hkc hkb (m:=30)) [] rfl [5] rfl ?_)
        rintro _ _ _ ⟨v,rfl,rfl,rfl⟩
        refine⟨(fun h=>absurd h (by decide)), ?_⟩
        refine ec (fun m=>(m.own 0 rfl).slice) ?_
        rintro⟨A_x,c_x,rfl,hc_x⟩
        refine ec (fun m=>(m.ord 0 rfl).2.1) fun hA_x=> ?_
        refine dL<|fj (fun m=>eZ rfl Tryz.underlying27 Tryz.underlying5 Tryz.underlying9 (m.ord 0 rfl))<|And.intro (fun h=>absurd h (by decide))<| ?_
        refine dL (aq rfl Tryz.call31 (dZ hDo.ny (by omega) (by omega) (by omega) (p:=pp) (bb:=(bl.take 30))) [] rfl [0] rfl ?_)
        rintro _ _ _ ⟨y2,rfl,rfl,rfl,hyd2⟩
        refine⟨(fun h=>absurd h (by decide)), ?_⟩
        refine bw (aa rfl)<|bw (ao rfl rfl)<|bw (ao rfl rfl)<| ?_
        refine dC (aG 1 rfl rfl rfl bp rfl bP rfl ⟨(fun h=>absurd h (by decide)), ?_⟩)
        refine bw (ab rfl)<|dD<|al (ρ' :=[(20,_),(19,_),(78,_),(18,_),(13,_),(12,_),(40,_),(11,_),(10,_),(9,_),(8,_),(0,_),(1,_),(2,_),(3,_)]) ⟨rfl,rfl,rfl,rfl,rfl,rfl,rfl,rfl,rfl,rfl,rfl,rfl,rfl,rfl,rfl,trivial⟩<|ak (X' :=[_,_,_,_,_]) (S' :=[_,_,_,_,_,_,_,_,_]) (fun _ m=>m)<| ?_
        exact cq (R:=fun(y2:RX) (g20:Nat)=>[(20,.pointer (some ⟨g20,0,none⟩))]) (X1:=fun(y2:RX) (g20:Nat)=>[aH g20 39 y2.cs]) (S1:=fun(y2:RX) (g20:Nat)=>[cY y2]) (I:=fun(y2:RX) (g20:Nat)=>y2.d=x.d.write pp (bl.take 30)) y2 g20 ⟨rfl,rfl,rfl,rfl,rfl,rfl,rfl,rfl,rfl,rfl,rfl,rfl,rfl,rfl,rfl,trivial⟩ [0,1,1,1] rfl [0,1,2,3,4,5,6,7,8] rfl hyd2
      ·refine c5 ?_ ?_
       ·refine dL (aq rfl Tryz.call32 (vn hkc hkb (m:=30)) [] rfl [5] rfl ?_)
        rintro _ _ _ ⟨v,rfl,rfl,rfl⟩
        refine⟨(fun _=>wk [1,1,1] [0,1,2,3,4,5,6,7] rfl rfl), ?_⟩
        refine ec (fun m=>(m.own 0 rfl).slice) ?_
        rintro⟨A_x,c_x,rfl,hc_x⟩
        refine ec (fun m=>(m.ord 0 rfl).2.1) fun hA_x=> ?_
        refine c5 ?_ ?_
        ·refine dL<|fj (fun m=>yV (aR rfl cz bp rfl ((m.aT 2 rfl).au)) ((rfl:_=Value.agg x.cs.toArray)))<|And.intro (fun h=>absurd h (by decide))<| ?_
         refine c5 ?_ ?_
         ·refine dL<|fj (fun m=>eZ rfl Tryz.underlying27 Tryz.underlying5 Tryz.underlying9 (m.ord 0 rfl))<|And.intro (fun h=>absurd h (by decide))<| ?_
          refine c5 ?_ ?_
          ·refine dL (aq rfl Tryz.call31 (dZ hDo.ny (by omega) (by omega) (by omega) (p:=pp) (bb:=(bl.take 30))) [] rfl [0] rfl ?_)
           rintro _ _ _ ⟨y2,rfl,rfl,rfl,hyd2⟩
           refine⟨(fun h=>absurd h (by decide)), ?_⟩
           refine bw (aa rfl)<|bw (ao rfl rfl)<|bw (ao rfl rfl)<| ?_
           refine dL (aJ fB (fun g20=>⟨(fun h=>absurd h (by decide)), ?_⟩))
           refine dC (aG 0 rfl rfl rfl bp rfl bP rfl ⟨(fun h=>absurd h (by decide)), ?_⟩)
           refine bw (ab rfl)<|dD<|al (ρ' :=[(20,_),(19,_),(78,_),(18,_),(13,_),(12,_),(40,_),(11,_),(10,_),(9,_),(8,_),(0,_),(1,_),(2,_),(3,_)]) ⟨rfl,rfl,rfl,rfl,rfl,rfl,rfl,rfl,rfl,rfl,rfl,rfl,rfl,rfl,rfl,trivial⟩<|ak (X' :=[_,_,_,_,_]) (S' :=[_,_,_,_,_,_,_,_,_]) (fun _ m=>m)<| ?_
           exact cq (R:=fun(y2:RX) (g20:Nat)=>[(20,.pointer (some ⟨g20,0,none⟩))]) (X1:=fun(y2:RX) (g20:Nat)=>[aH g20 39 y2.cs]) (S1:=fun(y2:RX) (g20:Nat)=>[cY y2]) (I:=fun(y2:RX) (g20:Nat)=>y2.d=x.d.write pp (bl.take 30)) y2 g20 ⟨rfl,rfl,rfl,rfl,rfl,rfl,rfl,rfl,rfl,rfl,rfl,rfl,rfl,rfl,rfl,trivial⟩ [0,1,1,1] rfl [0,1,2,3,4,5,6,7,8] rfl hyd2
          ·refine dL (aJ fB (fun g20=>⟨(fun h=>absurd h (by decide)), ?_⟩))
           refine dL (aq rfl Tryz.call31 (dZ hDo.ny (by omega) (by omega) (by omega) (p:=pp) (bb:=(bl.take 30))) [] rfl [0] rfl ?_)
           rintro _ _ _ ⟨y2,rfl,rfl,rfl,hyd2⟩
           refine⟨(fun h=>absurd h (by decide)), ?_⟩
           refine bw (aa rfl)<|bw (ao rfl rfl)<|bw (ao rfl rfl)<| ?_
           refine dC (aG 0 rfl rfl rfl bp rfl bP rfl ⟨(fun h=>absurd h (by decide)), ?_⟩)
           refine bw (ab rfl)<|dD<|al (ρ' :=[(20,_),(19,_),(78,_),(18,_),(13,_),(12,_),(40,_),(11,_),(10,_),(9,_),(8,_),(0,_),(1,_),(2,_),(3,_)]) ⟨rfl,rfl,rfl,rfl,rfl,rfl,rfl,rfl,rfl,rfl,rfl,rfl,rfl,rfl,rfl,trivial⟩<|ak (X' :=[_,_,_,_,_]) (S' :=[_,_,_,_,_,_,_,_,_]) (fun _ m=>m)<| ?_
           exact cq (R:=fun(y2:RX) (g20:Nat)=>[(20,.pointer (some ⟨g20,0,none⟩))]) (X1:=fun(y2:RX) (g20:Nat)=>[aH g20 39 y2.cs]) (S1:=fun(y2:RX) (g20:Nat)=>[cY y2]) (I:=fun(y2:RX) (g20:Nat)=>y2.d=x.d.write pp (bl.take 30)) y2 g20 ⟨rfl,rfl,rfl,rfl,rfl,rfl,rfl,rfl,rfl,rfl,rfl,rfl,rfl,rfl,rfl,trivial⟩ [0,1,1,1] rfl [0,1,2,3,4,5,6,7,8] rfl hyd2
         ·refine dL (aJ fB (fun g20=>⟨(fun h=>absurd h (by decide)), ?_⟩))
          refine dL<|fj (fun m=>eZ rfl Tryz.underlying27 Tryz.underlying5 Tryz.underlying9 (m.ord 1 rfl))<|And.intro (fun h=>absurd h (by decide))<| ?_
          refine dL (aq rfl Tryz.call31 (dZ hDo.ny (by omega) (by omega) (by omega) (p:=pp) (bb:=(bl.take 30))) [] rfl [0] rfl ?_)
          rintro _ _ _ ⟨y2,rfl,rfl,rfl,hyd2⟩
          refine⟨(fun h=>absurd h (by decide)), ?_⟩
          refine bw (aa rfl)<|bw (ao rfl rfl)<|bw (ao rfl rfl)<| ?_
          refine dC (aG 0 rfl rfl rfl bp rfl bP rfl ⟨(fun h=>absurd h (by decide)), ?_⟩)
          refine bw (ab rfl)<|dD<|al (ρ' :=[(20,_),(19,_),(78,_),(18,_),(13,_),(12,_),(40,_),(11,_),(10,_),(9,_),(8,_),(0,_),(1,_),(2,_),(3,_)]) ⟨rfl,rfl,rfl,rfl,rfl,rfl,rfl,rfl,rfl,rfl,rfl,rfl,rfl,rfl,rfl,trivial⟩<|ak (X' :=[_,_,_,_,_]) (S' :=[_,_,_,_,_,_,_,_,_]) (fun _ m=>m)<| ?_
          exact cq (R:=fun(y2:RX) (g20:Nat)=>[(20,.pointer (some ⟨g20,0,none⟩))]) (X1:=fun(y2:RX) (g20:Nat)=>[aH g20 39 y2.cs]) (S1:=fun(y2:RX) (g20:Nat)=>[cY y2]) (I:=fun(y2:RX) (g20:Nat)=>y2.d=x.d.write pp (bl.take 30)) y2 g20 ⟨rfl,rfl,rfl,rfl,rfl,rfl,rfl,rfl,rfl,rfl,rfl,rfl,rfl,rfl,rfl,trivial⟩ [0,1,1,1] rfl [0,1,2,3,4,5,6,7,8] rfl hyd2
        ·refine c5 ?_ ?_
         ·refine dL<|fj (fun m=>eZ rfl Tryz.underlying27 Tryz.underlying5 Tryz.underlying9 (m.ord 0 rfl))<|And.intro (fun h=>absurd h (by decide))<| ?_
          refine c5 ?_ ?_
          ·refine dL<|fj (fun m=>yV (aR rfl cz bp rfl ((m.aT 2 rfl).au)) ((rfl:_=Value.agg x.cs.toArray)))<|And.intro (fun h=>absurd h (by decide))<| ?_
           refine c5 ?_ ?_
           ·refine dL (aq rfl Tryz.call31 (dZ hDo.ny (by omega) (by omega) (by omega) (p:=pp) (bb:=(bl.take 30))) [] rfl [0] rfl ?_)
            rintro _ _ _ ⟨y2,rfl,rfl,rfl,hyd2⟩
            refine⟨(fun h=>absurd h (by decide)), ?_⟩
            refine bw (aa rfl)<|bw (ao rfl rfl)<|bw (ao rfl rfl)<| ?_
            refine dL (aJ fB (fun g20=>⟨(fun h=>absurd h (by decide)), ?_⟩))
            refine dC (aG 0 rfl rfl rfl bp rfl bP rfl ⟨(fun h=>absurd h (by decide)), ?_⟩)
            refine bw (ab rfl)<|dD<|al (ρ' :=[(20,_),(19,_),(78,_),(18,_),(13,_),(12,_),(40,_),(11,_),(10,_),(9,_),(8,_),(0,_),(1,_),(2,_),(3,_)]) ⟨rfl,rfl,rfl,rfl,rfl,rfl,rfl,rfl,rfl,rfl,rfl,rfl,rfl,rfl,rfl,trivial⟩<|ak (X' :=[_,_,_,_,_]) (S' :=[_,_,_,_,_,_,_,_,_]) (fun _ m=>m)<| ?_
            exact cq (R:=fun(y2:RX) (g20:Nat)=>[(20,.pointer (some ⟨g20,0,none⟩))]) (X1:=fun(y2:RX) (g20:Nat)=>[aH g20 39 y2.cs]) (S1:=fun(y2:RX) (g20:Nat)=>[cY y2]) (I:=fun(y2:RX) (g20:Nat)=>y2.d=x.d.write pp (bl.take 30)) y2 g20 ⟨rfl,rfl,rfl,rfl,rfl,rfl,rfl,rfl,rfl,rfl,rfl,rfl,rfl,rfl,rfl,trivial⟩ [0,1,1,1] rfl [0,1,2,3,4,5,6,7,8] rfl hyd2
           ·refine dL (aJ fB (fun g20=>⟨(fun h=>absurd h (by decide)), ?_⟩))
            refine dL (aq rfl Tryz.call31 (dZ hDo.ny (by omega) (by omega) (by omega) (p:=pp) (bb:=(bl.take 30))) [] rfl [0] rfl ?_)
            rintro _ _ _ ⟨y2,rfl,rfl,rfl,hyd2⟩
            refine⟨(fun h=>absurd h (by decide)), ?_⟩
            refine bw (aa rfl)<|bw (ao rfl rfl)<|bw (ao rfl rfl)<| ?_
            refine dC (aG 0 rfl rfl rfl bp rfl bP rfl ⟨(fun h=>absurd h (by decide)), ?_⟩)
            refine bw (ab rfl)<|dD<|al (ρ' :=[(20,_),(19,_),(78,_),(18,_),(13,_),(12,_),(40,_),(11,_),(10,_),(9,_),(8,_),(0,_),(1,_),(2,_),(3,_)]) ⟨rfl,rfl,rfl,rfl,rfl,rfl,rfl,rfl,rfl,rfl,rfl,rfl,rfl,rfl,rfl,trivial⟩<|ak (X' :=[_,_,_,_,_]) (S' :=[_,_,_,_,_,_,_,_,_]) (fun _ m=>m)<| ?_
            exact cq (R:=fun(y2:RX) (g20:Nat)=>[(20,.pointer (some ⟨g20,0,none⟩))]) (X1:=fun(y2:RX) (g20:Nat)=>[aH g20 39 y2.cs]) (S1:=fun(y2:RX) (g20:Nat)=>[cY y2]) (I:=fun(y2:RX) (g20:Nat)=>y2.d=x.d.write pp (bl.take 30)) y2 g20 ⟨rfl,rfl,rfl,rfl,rfl,rfl,rfl,rfl,rfl,rfl,rfl,rfl,rfl,rfl,rfl,trivial⟩ [0,1,1,1] rfl [0,1,2,3,4,5,6,7,8] rfl hyd2
          ·refine dL (aJ fB (fun g20=>⟨(fun h=>absurd h (by decide)), ?_⟩))
           refine dL<|fj (fun m=>yV (aR rfl cz bp rfl ((m.aT 3 rfl).au)) ((rfl:_=Value.agg x.cs.toArray)))<|And.intro (fun h=>absurd h (by decide))<| ?_
           refine dL (aq rfl Tryz.call31 (dZ hDo.ny (by omega) (by omega) (by omega) (p:=pp) (bb:=(bl.take 30))) [] rfl [0] rfl ?_)
           rintro _ _ _ ⟨y2,rfl,rfl,rfl,hyd2⟩
           refine⟨(fun h=>absurd h (by decide)), ?_⟩
           refine bw (aa rfl)<|bw (ao rfl rfl)<|bw (ao rfl rfl)<| ?_
           refine dC (aG 0 rfl rfl rfl bp rfl bP rfl ⟨(fun h=>absurd h (by decide)), ?_⟩)
           refine bw (ab rfl)<|dD<|al (ρ' :=[(20,_),(19,_),(78,_),(18,_),(13,_),(12,_),(40,_),(11,_),(10,_),(9,_),(8,_),(0,_),(1,_),(2,_),(3,_)]) ⟨rfl,rfl,rfl,rfl,rfl,rfl,rfl,rfl,rfl,rfl,rfl,rfl,rfl,rfl,rfl,trivial⟩<|ak (X' :=[_,_,_,_,_]) (S' :=[_,_,_,_,_,_,_,_,_]) (fun _ m=>m)<| ?_
           exact cq (R:=fun(y2:RX) (g20:Nat)=>[(20,.pointer (some ⟨g20,0,none⟩))]) (X1:=fun(y2:RX) (g20:Nat)=>[aH g20 39 y2.cs]) (S1:=fun(y2:RX) (g20:Nat)=>[cY y2]) (I:=fun(y2:RX) (g20:Nat)=>y2.d=x.d.write pp (bl.take 30)) y2 g20 ⟨rfl,rfl,rfl,rfl,rfl,rfl,rfl,rfl,rfl,rfl,rfl,rfl,rfl,rfl,rfl,trivial⟩ [0,1,1,1] rfl [0,1,2,3,4,5,6,7,8] rfl hyd2
         ·refine dL (aJ fB (fun g20=>⟨(fun h=>absurd h (by decide)), ?_⟩))
          refine c5 ?_ ?_
          ·refine dL<|fj (fun m=>yV (aR rfl cz bp rfl ((m.aT 3 rfl).au)) ((rfl:_=Value.agg x.cs.toArray)))<|And.intro (fun h=>absurd h (by decide))<|dL<|fj (fun m=>eZ rfl Tryz.underlying27 Tryz.underlying5 Tryz.underlying9 (m.ord 1 rfl))<|And.intro (fun h=>absurd h (by decide))<| ?_
           refine dL (aq rfl Tryz.call31 (dZ hDo.ny (by omega) (by omega) (by omega) (p:=pp) (bb:=(bl.take 30))) [] rfl [0] rfl ?_)
           rintro _ _ _ ⟨y2,rfl,rfl,rfl,hyd2⟩
           refine⟨(fun h=>absurd h (by decide)), ?_⟩
           refine bw (aa rfl)<|bw (ao rfl rfl)<|bw (ao rfl rfl)<| ?_
           refine dC (aG 0 rfl rfl rfl bp rfl bP rfl ⟨(fun h=>absurd h (by decide)), ?_⟩)
           refine bw (ab rfl)<|dD<|al (ρ' :=[(20,_),(19,_),(78,_),(18,_),(13,_),(12,_),(40,_),(11,_),(10,_),(9,_),(8,_),(0,_),(1,_),(2,_),(3,_)]) ⟨rfl,rfl,rfl,rfl,rfl,rfl,rfl,rfl,rfl,rfl,rfl,rfl,rfl,rfl,rfl,trivial⟩<|ak (X' :=[_,_,_,_,_]) (S' :=[_,_,_,_,_,_,_,_,_]) (fun _ m=>m)<| ?_
           exact cq (R:=fun(y2:RX) (g20:Nat)=>[(20,.pointer (some ⟨g20,0,none⟩))]) (X1:=fun(y2:RX) (g20:Nat)=>[aH g20 39 y2.cs]) (S1:=fun(y2:RX) (g20:Nat)=>[cY y2]) (I:=fun(y2:RX) (g20:Nat)=>y2.d=x.d.write pp (bl.take 30)) y2 g20 ⟨rfl,rfl,rfl,rfl,rfl,rfl,rfl,rfl,rfl,rfl,rfl,rfl,rfl,rfl,rfl,trivial⟩ [0,1,1,1] rfl [0,1,2,3,4,5,6,7,8] rfl hyd2
          ·refine dL<|fj (fun m=>eZ rfl Tryz.underlying27 Tryz.underlying5 Tryz.underlying9 (m.ord 1 rfl))<|And.intro (fun h=>absurd h (by decide))<|dL<|fj (fun m=>yV (aR rfl cz bp rfl ((m.aT 3 rfl).au)) ((rfl:_=Value.agg x.cs.toArray)))<|And.intro (fun h=>absurd h (by decide))<| ?_
           refine dL (aq rfl Tryz.call31 (dZ hDo.ny (by omega) (by omega) (by omega) (p:=pp) (bb:=(bl.take 30))) [] rfl [0] rfl ?_)
           rintro _ _ _ ⟨y2,rfl,rfl,rfl,hyd2⟩
           refine⟨(fun h=>absurd h (by decide)), ?_⟩
           refine bw (aa rfl)<|bw (ao rfl rfl)<|bw (ao rfl rfl)<| ?_
           refine dC (aG 0 rfl rfl rfl bp rfl bP rfl ⟨(fun h=>absurd h (by decide)), ?_⟩)
           refine bw (ab rfl)<|dD<|al (ρ' :=[(20,_),(19,_),(78,_),(18,_),(13,_),(12,_),(40,_),(11,_),(10,_),(9,_),(8,_),(0,_),(1,_),(2,_),(3,_)]) ⟨rfl,rfl,rfl,rfl,rfl,rfl,rfl,rfl,rfl,rfl,rfl,rfl,rfl,rfl,rfl,trivial⟩<|ak (X' :=[_,_,_,_,_]) (S' :=[_,_,_,_,_,_,_,_,_]) (fun _ m=>m)<| ?_
           exact cq (R:=fun(y2:RX) (g20:Nat)=>[(20,.pointer (some ⟨g20,0,none⟩))]) (X1:=fun(y2:RX) (g20:Nat)=>[aH g20 39 y2.cs]) (S1:=fun(y2:RX) (g20:Nat)=>[cY y2]) (I:=fun(y2:RX) (g20:Nat)=>y2.d=x.d.write pp (bl.take 30)) y2 g20 ⟨rfl,rfl,rfl,rfl,rfl,rfl,rfl,rfl,rfl,rfl,rfl,rfl,rfl,rfl,rfl,trivial⟩ [0,1,1,1] rfl [0,1,2,3,4,5,6,7,8] rfl hyd2
       ·refine dL (aJ fB (fun g20=>⟨(fun _=>wk [1,1,1] [0,1,2,3,4,5,6,7] rfl rfl), ?_⟩))
        refine c5 ?_ ?_
        ·refine dL<|fj (fun m=>yV (aR rfl cz bp rfl ((m.aT 2 rfl).au)) ((rfl:_=Value.agg x.cs.toArray)))<|And.intro (fun h=>absurd h (by decide))<| ?_
         refine dL (aq rfl Tryz.call32 (vn hkc hkb (m:=30)) [] rfl [5] rfl ?_)
         rintro _ _ _ ⟨v,rfl,rfl,rfl⟩
         refine⟨(fun h=>absurd h (by decide)), ?_⟩
         refine ec (fun m=>(m.own 0 rfl).slice) ?_
         rintro⟨A_x,c_x,rfl,hc_x⟩
         refine ec (fun m=>(m.ord 0 rfl).2.1) fun hA_x=> ?_
         refine dL<|fj (fun m=>eZ rfl Tryz.underlying27 Tryz.underlying5 Tryz.underlying9 (m.ord 0 rfl))<|And.intro (fun h=>absurd h (by decide))<| ?_
         refine dL (aq rfl Tryz.call31 (dZ hDo.ny (by omega) (by omega) (by omega) (p:=pp) (bb:=(bl.take 30))) [] rfl [0] rfl ?_)
         rintro _ _ _ ⟨y2,rfl,rfl,rfl,hyd2⟩
         refine⟨(fun h=>absurd h (by decide)), ?_⟩
         refine bw (aa rfl)<|bw (ao rfl rfl)<|bw (ao rfl rfl)<| ?_
         refine dC (aG 1 rfl rfl rfl bp rfl bP rfl ⟨(fun h=>absurd h (by decide)), ?_⟩)
         refine bw (ab rfl)<|dD<|al (ρ' :=[(20,_),(19,_),(78,_),(18,_),(13,_),(12,_),(40,_),(11,_),(10,_),(9,_),(8,_),(0,_),(1,_),(2,_),(3,_)]) ⟨rfl,rfl,rfl,rfl,rfl,rfl,rfl,rfl,rfl,rfl,rfl,rfl,rfl,rfl,rfl,trivial⟩<|ak (X' :=[_,_,_,_,_]) (S' :=[_,_,_,_,_,_,_,_,_]) (fun _ m=>m)<| ?_
         exact cq (R:=fun(y2:RX) (g20:Nat)=>[(20,.pointer (some ⟨g20,0,none⟩))]) (X1:=fun(y2:RX) (g20:Nat)=>[aH g20 39 y2.cs]) (S1:=fun(y2:RX) (g20:Nat)=>[cY y2]) (I:=fun(y2:RX) (g20:Nat)=>y2.d=x.d.write pp (bl.take 30)) y2 g20 ⟨rfl,rfl,rfl,rfl,rfl,rfl,rfl,rfl,rfl,rfl,rfl,rfl,rfl,rfl,rfl,trivial⟩ [0,1,1,1] rfl [0,1,2,3,4,5,6,7,8] rfl hyd2
        ·refine dL (aq rfl Tryz.call32 (vn hkc hkb (m:=30)) [] rfl [5] rfl ?_)
         rintro _ _ _ ⟨v,rfl,rfl,rfl⟩
         refine⟨(fun h=>absurd h (by decide)), ?_⟩
         refine ec (fun m=>(m.own 0 rfl).slice) ?_
         rintro⟨A_x,c_x,rfl,hc_x⟩
         refine ec (fun m=>(m.ord 0 rfl).2.1) fun hA_x=> ?_
         refine c5 ?_ ?_
         ·refine dL<|fj (fun m=>yV (aR rfl cz bp rfl ((m.aT 3 rfl).au)) ((rfl:_=Value.agg x.cs.toArray)))<|And.intro (fun h=>absurd h (by decide))<|dL<|fj (fun m=>eZ rfl Tryz.underlying27 Tryz.underlying5 Tryz.underlying9 (m.ord 0 rfl))<|And.intro (fun h=>absurd h (by decide))<| ?_
          refine dL (aq rfl Tryz.call31 (dZ hDo.ny (by omega) (by omega) (by omega) (p:=pp) (bb:=(bl.take 30))) [] rfl [0] rfl ?_)
          rintro _ _ _ ⟨y2,rfl,rfl,rfl,hyd2⟩
          refine⟨(fun h=>absurd h (by decide)), ?_⟩
          refine bw (aa rfl)<|bw (ao rfl rfl)<|bw (ao rfl rfl)<| ?_
          refine dC (aG 1 rfl rfl rfl bp rfl bP rfl ⟨(fun h=>absurd h (by decide)), ?_⟩)
          refine bw (ab rfl)<|dD<|al (ρ' :=[(20,_),(19,_),(78,_),(18,_),(13,_),(12,_),(40,_),(11,_),(10,_),(9,_),(8,_),(0,_),(1,_),(2,_),(3,_)]) ⟨rfl,rfl,rfl,rfl,rfl,rfl,rfl,rfl,rfl,rfl,rfl,rfl,rfl,rfl,rfl,trivial⟩<|ak (X' :=[_,_,_,_,_]) (S' :=[_,_,_,_,_,_,_,_,_]) (fun _ m=>m)<| ?_
          exact cq (R:=fun(y2:RX) (g20:Nat)=>[(20,.pointer (some ⟨g20,0,none⟩))]) (X1:=fun(y2:RX) (g20:Nat)=>[aH g20 39 y2.cs]) (S1:=fun(y2:RX) (g20:Nat)=>[cY y2]) (I:=fun(y2:RX) (g20:Nat)=>y2.d=x.d.write pp (bl.take 30)) y2 g20 ⟨rfl,rfl,rfl,rfl,rfl,rfl,rfl,rfl,rfl,rfl,rfl,rfl,rfl,rfl,rfl,trivial⟩ [0,1,1,1] rfl [0,1,2,3,4,5,6,7,8] rfl hyd2
         ·refine dL<|fj (fun m=>eZ rfl Tryz.underlying27 Tryz.underlying5 Tryz.underlying9 (m.ord 0 rfl))<|And.intro (fun h=>absurd h (by decide))<|dL<|fj (fun m=>yV (aR rfl cz bp rfl ((m.aT 3 rfl).au)) ((rfl:_=Value.agg x.cs.toArray)))<|And.intro (fun h=>absurd h (by decide))<| ?_
          refine dL (aq rfl Tryz.call31 (dZ hDo.ny (by omega) (by omega) (by omega) (p:=pp) (bb:=(bl.take 30))) [] rfl [0] rfl ?_)
          rintro _ _ _ ⟨y2,rfl,rfl,rfl,hyd2⟩
          refine⟨(fun h=>absurd h (by decide)), ?_⟩
          refine bw (aa rfl)<|bw (ao rfl rfl)<|bw (ao rfl rfl)<| ?_
          refine dC (aG 1 rfl rfl rfl bp rfl bP rfl ⟨(fun h=>absurd h (by decide)), ?_⟩)
          refine bw (ab rfl)<|dD<|al (ρ' :=[(20,_),(19,_),(78,_),(18,_),(13,_),(12,_),(40,_),(11,_),(10,_),(9,_),(8,_),(0,_),(1,_),(2,_),(3,_)]) ⟨rfl,rfl,rfl,rfl,rfl,rfl,rfl,rfl,rfl,rfl,rfl,rfl,rfl,rfl,rfl,trivial⟩<|ak (X' :=[_,_,_,_,_]) (S' :=[_,_,_,_,_,_,_,_,_]) (fun _ m=>m)<| ?_
          exact cq (R:=fun(y2:RX) (g20:Nat)=>[(20,.pointer (some ⟨g20,0,none⟩))]) (X1:=fun(y2:RX) (g20:Nat)=>[aH g20 39 y2.cs]) (S1:=fun(y2:RX) (g20:Nat)=>[cY y2]) (I:=fun(y2:RX) (g20:Nat)=>y2.d=x.d.write pp (bl.take 30)) y2 g20 ⟨rfl,rfl,rfl,rfl,rfl,rfl,rfl,rfl,rfl,rfl,rfl,rfl,rfl,rfl,rfl,trivial⟩ [0,1,1,1] rfl [0,1,2,3,4,5,6,7,8] rfl hyd2
     ·refine ag<|ah<|aj<|hy (fun m=>yV (aR rfl cz bp rfl ((m.aT 0 rfl).au)) ((rfl:_=Value.agg y2.cs.toArray)))<| ?_
      refine cN (aG 2 rfl rfl rfl bp rfl bP rfl ?_)
      refine ai<|al (ρ' :=[(20,_),(19,_),(78,_),(18,_),(13,_),(12,_),(40,_),(11,_),(10,_),(9,_),(8,_),(0,_),(1,_),(2,_),(3,_)]) ⟨rfl,rfl,rfl,rfl,rfl,rfl,rfl,rfl,rfl,rfl,rfl,rfl,rfl,rfl,rfl,trivial⟩<|ak (X' :=[_,_,_,_]) (S' :=[_,_,_,_,_,_,_,_,_]) (fun _ m=>m)<|ag<|aj<|hy (fun _=>aa rfl)<|hy (fun _=>aa rfl)<|hy (fun _=>aa rfl)<| ?_
      refine hx (aq rfl Tryz.call32 (vn hkc hkb (m:=30)) [] rfl [6] rfl ?_)
      rintro _ _ _ ⟨v,rfl,rfl,rfl⟩
      refine aw (fun m=>(m.own 0 rfl).slice) ?_
      rintro⟨A_x,c_x,rfl,hc_x⟩
      refine aw (fun m=>(m.ord 0 rfl).2.1) fun hA_x=> ?_
      refine hx (bT rfl Tryz.call33 (u0 hD (by omega) hbm (Nat.le_trans (Nat.min_le_right _ _) (by decide)) (p:=pp) (l:=(bl.take 30))) [3] rfl (.x 0 rfl .own .nil) ?_)
      rintro _ _ _ ⟨st12,rfl,rfl,rfl,hD2⟩
      refine⟨rfl, ?_⟩
      refine ai<|al (ρ' :=[(20,_),(19,_),(78,_),(18,_),(13,_),(12,_),(40,_),(11,_),(10,_),(9,_),(8,_),(0,_),(1,_),(2,_),(3,_)]) ⟨rfl,rfl,rfl,rfl,rfl,rfl,rfl,rfl,rfl,rfl,rfl,rfl,rfl,rfl,rfl,trivial⟩<|ak (X' :=[_,_,_,_,_]) (S' :=[_,_,_,_,_,_,_,_,_]) (fun _ m=>m)<|aW<|ag<|aj<|hy (fun _=>aa rfl)<|hy (fun _=>aM rfl rfl (bB (by omega) (by omega)))<|hy (fun _=>ab rfl)<|ai<|al (ρ' :=[(18,_),(20,_),(19,_),(78,_),(13,_),(12,_),(40,_),(11,_),(10,_),(9,_),(8,_),(0,_),(1,_),(2,_),(3,_)]) ⟨rfl,rfl,rfl,rfl,rfl,rfl,rfl,rfl,rfl,rfl,rfl,rfl,rfl,rfl,rfl,trivial⟩<| ?_
      rw[←hyd2]at hD2
      have hN2:nF y2.d:=by rw[hyd2];exact hN.write (by omega)
      refine gV (i+1) st12 y2 ⟨rfl,rfl,rfl,rfl,rfl,rfl,rfl,rfl,rfl,rfl,rfl,rfl,trivial⟩ [0,1,2] rfl [0,2,3,4,5,6,7,8] rfl (⟨by omega,by omega,hD2,hN2⟩) (by omega)
    ·refine bS<|ar<|ar<|aE<| ?_
     exact cq (R:=fun(st2:c7) (x2:RX)=>[]) (X1:=fun(st2:c7) (x2:RX)=>[bM g2 st2,aH g12 39 x2.cs]) (S1:=fun(st2:c7) (x2:RX)=>[cY x2]) (I:=fun(st2:c7) (x2:RX)=>DS st2 x2.d 26∧nF x2.d) st x ⟨rfl,rfl,rfl,rfl,rfl,rfl,rfl,rfl,rfl,rfl,rfl,trivial⟩ [0,0,0] rfl [0,1,2,3,4,5,6,7] rfl (⟨hD.le (by omega),hN⟩)
   ·refine a6 rfl rfl rfl (by decide)<|a6 rfl rfl rfl (by decide)<|hy (fun _=>a7 rfl rfl)<|ai<|al (ρ' :=[(78,_),(18,_),(13,_),(12,_),(40,_),(11,_),(10,_),(9,_),(8,_),(0,_),(1,_),(2,_),(3,_)]) ⟨rfl,rfl,rfl,rfl,rfl,rfl,rfl,rfl,rfl,rfl,rfl,rfl,rfl,trivial⟩<|ag<| ?_
    refine dx rfl (rfl) ?_
    refine bS<|ar<|ar<|aE<| ?_
    exact cq (R:=fun(st2:c7) (x2:RX)=>[]) (X1:=fun(st2:c7) (x2:RX)=>[bM g2 st2,aH g12 39 x2.cs]) (S1:=fun(st2:c7) (x2:RX)=>[cY x2]) (I:=fun(st2:c7) (x2:RX)=>DS st2 x2.d 26∧nF x2.d) st x ⟨rfl,rfl,rfl,rfl,rfl,rfl,rfl,rfl,rfl,rfl,rfl,trivial⟩ [0,0,0] rfl [0,1,2,3,4,5,6,7] rfl (⟨hD.le (by omega),hN⟩)
  ·refine ak (fun w m=>m.cL (r' :=aF 72 33 (.slice none 0 0) 0 []) (.refl _ _) (Own.nil _ _ _ _) (fun k hk=>hk.elim)) ?_
   refine ag<|ah<|ah<|aj<|hy (fun _=>ab rfl)<|ai<|ag<| ?_
   refine CH (fun(fr1:Frames) w1 A9 c9=>[(13,.slice A9 (w1:List Ck).length c9)]) (fun(fr1:Frames) w1 A9 c9=>[gZ g gm fr1,aF 72 33 (.slice A9 w1.length c9) w1.length (iu w1)]) (fun(fr1:Frames) w1 A9 c9=>[]) (fun(fr1:Frames) w1 A9 c9=>ez fr1=eb w1∧w1.length≤4) [(12,_),(40,_),(11,_),(10,_),(9,_),(8,_),(0,_),(1,_),(2,_),(3,_)] ⟨rfl,rfl,rfl,rfl,rfl,rfl,rfl,rfl,rfl,rfl,trivial⟩ [3,0] rfl ?_ (fun fr1 w1 A9 c9 ⟨hkeq,hw4⟩=> ?_)
   ·refine aN<| ?_
    refine qM (fun i fr w A8 c8=>h-i) (fun i fr w A8 c8=>[(13,.slice A8 (w:List Ck).length c8),(22,.int .i64 (i:Nat))]) (fun i fr w A8 c8=>[gZ g gm fr,aF 72 33 (.slice A8 w.length c8) w.length (iu w)]) (fun i fr w A8 c8=>[]) (fun i fr w A8 c8=>i≤h∧i≤4∧w.length≤i∧ez fr=eb w) 0 [] [] none 0 [(12,_),(40,_),(11,_),(10,_),(9,_),(8,_),(0,_),(1,_),(2,_),(3,_)] ⟨rfl,rfl,rfl,rfl,rfl,rfl,rfl,rfl,rfl,rfl,trivial⟩ [3,0] rfl [] rfl (⟨Nat.zero_le _,Nat.zero_le _,Nat.le_refl _,rfl⟩) ⟨rfl,rfl,trivial⟩ (fun i fr w A8 c8 ⟨hin,hi4,hwi,hke⟩=> ?_)
    refine ah<|ah<|aj<|hy (fun _=>aa rfl)<|hy (fun _=>aa rfl)<|hy (fun _=>aX rfl Tryz.underlying44)<|hy (fun _=>bk rfl rfl)<|hy (fun _=>aa rfl)<| ?_
    refine eG 106 rfl (fun h1=> ?_) (fun h1=> ?_)
    ·refine ca (o:=_) rfl rfl rfl (fun _=>aa rfl)<|ca (o:=_) rfl rfl rfl (fun _=>bk rfl rfl)<|hy (fun _=>bo rfl rfl)<|ai<|al (ρ' :=[(109,_),(13,_),(22,_),(12,_),(40,_),(11,_),(10,_),(9,_),(8,_),(0,_),(1,_),(2,_),(3,_)]) ⟨rfl,rfl,rfl,rfl,rfl,rfl,rfl,rfl,rfl,rfl,rfl,rfl,rfl,trivial⟩<|ag<| ?_
     refine cI rfl (fun h2=> ?_) (fun h2=> ?_)
     ·obtain⟨k6,hk6,hk6l⟩:=tJ (zh.getD i 0)
      have hil:i<zh.length:=by rw[ints,List.length_map,Nat.mul_one]at hln3;omega
      have hz:=hzh.at hil
      have hcl:=kH k6
      refine aC<|ag<|ah<|aN<|ah<|aj<|hy (fun _=>aa rfl)<|hy (fun _=>aa rfl)<|hy (fun _=>aa rfl)<|hy (fun _=>aL rfl rfl Tryz.underlying44 rl hA_rh rfl (by omega))<|hy (fun m=>av rfl dV ((m.rd 6 rfl).cell (j0 hil)))<| ?_
      refine hx (aq rfl Tryz.call27 (jz hz hk6 hk6l) [] rfl [] rfl ?_)
      rintro _ _ _ ⟨v,rfl,rfl,rfl⟩
      refine aw (fun m=>(m.own 0 rfl).slice) ?_
      rintro⟨A_x,c_x,rfl,hc_x⟩
      refine aw (fun m=>(m.ord 0 rfl).2.1) fun hA_x=> ?_
      refine hx (bT rfl Tryz.call34 (wU (by omega) hcl (by omega)) [2] rfl (.x 0 rfl .own (.s 7 rfl .nil)) ?_)
      rintro _ _ _ ⟨A1,n1,c1,rfl,rfl,rfl,hn1⟩
      refine⟨rfl, ?_⟩
      refine hy (fun _=>ab rfl)<|ai<|al (ρ' :=[(13,_),(109,_),(22,_),(12,_),(40,_),(11,_),(10,_),(9,_),(8,_),(0,_),(1,_),(2,_),(3,_)]) ⟨rfl,rfl,rfl,rfl,rfl,rfl,rfl,rfl,rfl,rfl,rfl,rfl,rfl,trivial⟩<|ak (X' :=[_,_,_,_,_]) (S' :=[_,_,_,_,_,_,_,_]) (fun _ m=>m)<|ag<| ?_
      obtain rfl:=hn1
      refine aj<|hy (fun _=>aa rfl)<|hy (fun _=>aa rfl)<|hy (fun _=>aa rfl)<|hy (fun _=>aL rfl rfl Tryz.underlying44 rl hA_rh rfl (by omega))<|hy (fun m=>av rfl dV ((m.rd 6 rfl).cell (j0 hil)))<| ?_
      refine hx (aq rfl Tryz.call27 (jz hz hk6 hk6l) [] rfl [] rfl ?_)
      rintro _ _ _ ⟨v2,rfl,rfl,rfl⟩
      refine aw (fun m=>(m.own 0 rfl).slice) ?_
      rintro⟨A_x2,c_x2,rfl,hc_x2⟩
      refine aw (fun m=>(m.ord 0 rfl).2.1) fun hA_x2=> ?_
      refine hx (bT rfl Tryz.call35 (Bl hc_x2 (by omega) hcl) [3] rfl (.x 0 rfl .own (.s 7 rfl .nil)) ?_)
      rintro _ _ _ ⟨row,rfl,rfl,rfl,hrow⟩
      refine⟨rfl, ?_⟩
      refine ai<|al (ρ' :=[(13,_),(109,_),(22,_),(12,_),(40,_),(11,_),(10,_),(9,_),(8,_),(0,_),(1,_),(2,_),(3,_)]) ⟨rfl,rfl,rfl,rfl,rfl,rfl,rfl,rfl,rfl,rfl,rfl,rfl,rfl,trivial⟩<|ak (X' :=[_,_,_,_,_,_]) (S' :=[_,_,_,_,_,_,_,_]) (fun _ m=>m)<|aW<|ag<|aj<|hy (fun _=>aa rfl)<|hy (fun _=>aM rfl rfl (bB (by omega) (by omega)))<|hy (fun _=>ab rfl)<|ai<|al (ρ' :=[(22,_),(13,_),(109,_),(12,_),(40,_),(11,_),(10,_),(9,_),(8,_),(0,_),(1,_),(2,_),(3,_)]) ⟨rfl,rfl,rfl,rfl,rfl,rfl,rfl,rfl,rfl,rfl,rfl,rfl,rfl,trivial⟩<| ?_
      have hke2:ez (cC fr ⟨bF (dp k6),bh _⟩ row)=eb (nA w (dp k6)):=by rw[qf,pT,hke]
      have hal:=y9 w (dp k6)
      refine mg (i+1) _ (nA w (dp k6)) A1 c1 ⟨rfl,rfl,rfl,rfl,rfl,rfl,rfl,rfl,rfl,rfl,rfl,rfl,trivial⟩ [0,1,2,2] rfl [0,1,2,3,4,5,6,7] rfl (⟨by omega,by omega,by omega,hke2⟩) (by omega)
     ·refine bS<|ar<|ar<|aE<| ?_
      exact vg (R:=fun(fr1:Frames) w1 A9 c9=>[(13,.slice A9 (w1:List Ck).length c9)]) (X1:=fun(fr1:Frames) w1 A9 c9=>[gZ g gm fr1,aF 72 33 (.slice A9 w1.length c9) w1.length (iu w1)]) (S1:=fun(fr1:Frames) w1 A9 c9=>[]) (I:=fun(fr1:Frames) w1 A9 c9=>ez fr1=eb w1∧w1.length≤4) fr w A8 c8 ⟨rfl,rfl,rfl,rfl,rfl,rfl,rfl,rfl,rfl,rfl,rfl,trivial⟩ [0,0,0,0] rfl [0,1,2,3,4,5,6,7] rfl (⟨hke,by omega⟩)
    ·refine a6 rfl rfl rfl (by decide)<|a6 rfl rfl rfl (by decide)<|hy (fun _=>a7 rfl rfl)<|ai<|al (ρ' :=[(109,_),(13,_),(22,_),(12,_),(40,_),(11,_),(10,_),(9,_),(8,_),(0,_),(1,_),(2,_),(3,_)]) ⟨rfl,rfl,rfl,rfl,rfl,rfl,rfl,rfl,rfl,rfl,rfl,rfl,rfl,trivial⟩<|ag<| ?_
     refine dx rfl (rfl) ?_
     refine bS<|ar<|ar<|aE<| ?_
     exact vg (R:=fun(fr1:Frames) w1 A9 c9=>[(13,.slice A9 (w1:List Ck).length c9)]) (X1:=fun(fr1:Frames) w1 A9 c9=>[gZ g gm fr1,aF 72 33 (.slice A9 w1.length c9) w1.length (iu w1)]) (S1:=fun(fr1:Frames) w1 A9 c9=>[]) (I:=fun(fr1:Frames) w1 A9 c9=>ez fr1=eb w1∧w1.length≤4) fr w A8 c8 ⟨rfl,rfl,rfl,rfl,rfl,rfl,rfl,rfl,rfl,rfl,rfl,trivial⟩ [0,0,0,0] rfl [0,1,2,3,4,5,6,7] rfl (⟨hke,by omega⟩)
   ·have hfl1:fr1.length=w1.length:=by rw[←jm,hkeq,fR]
    have hDo:x2.d.ok 26:=⟨st2,hD2⟩
    have hnl:∀y∈x2.d.seen,y.1.length≤1000000:=fun y hy=>Nat.le_trans (hN2 y hy) (by decide)
    refine ag<|ah<|aj<|hy (fun _=>aa rfl)<|hy (fun _=>aX rfl Tryz.underlying51)<|hy (fun _=>ab rfl)<|ai<|al (ρ' :=[(23,_),(13,_),(12,_),(40,_),(11,_),(10,_),(9,_),(8,_),(0,_),(1,_),(2,_),(3,_)]) ⟨rfl,rfl,rfl,rfl,rfl,rfl,rfl,rfl,rfl,rfl,rfl,rfl,trivial⟩<|ag<|ah<|aj<|hy (fun _=>aa rfl)<|hy (fun m=>yV (aR rfl cz bp rfl ((m.aT 3 rfl).au)) ((rfl:_=Value.agg x2.cs.toArray)))<| ?_
    refine hx (aq rfl Tryz.call36 (zP hDo (by decide) hnl hD2.pe.files.ord (by omega)) [1] rfl [0,7] rfl ?_)
    rintro _ _ _ ⟨A1,c1,w2,rfl,rfl,rfl,hk1⟩
    refine hy (fun _=>ab rfl)<|ai<|al (ρ' :=[(13,_),(23,_),(12,_),(40,_),(11,_),(10,_),(9,_),(8,_),(0,_),(1,_),(2,_),(3,_)]) ⟨rfl,rfl,rfl,rfl,rfl,rfl,rfl,rfl,rfl,rfl,rfl,rfl,trivial⟩<|ak (X' :=[_,_,_,_]) (S' :=[_,_,_,_,_,_,_,_]) (fun _ m=>m)<|ag<|ah<|aj<|hy (fun _=>aa rfl)<|hy (fun _=>aa rfl)<| ?_
    refine hx (aq rfl Tryz.call37 (yz hD2 (by decide) hnl (by omega)) [1,1] rfl [7] rfl ?_)
    rintro _ _ _ ⟨fr2,rfl,rfl,rfl,hk2⟩
    refine hy (fun _=>ab rfl)<|ai<|al (ρ' :=[(24,_),(13,_),(23,_),(12,_),(40,_),(11,_),(10,_),(9,_),(8,_),(0,_),(1,_),(2,_),(3,_)]) ⟨rfl,rfl,rfl,rfl,rfl,rfl,rfl,rfl,rfl,rfl,rfl,rfl,rfl,trivial⟩<|ak (X' :=[_,_,_,_]) (S' :=[_,_,_,_,_,_,_,_]) (fun _ m=>m)<|ag<|ah<|ah<| ?_
    rw[hkeq]at hk2
    have hke2:ez fr2=eb w2:=hk2.trans hk1.symm
    have hfl2:fr2.length=w2.length:=by rw[←jm,hke2,fR]
    have hll:=ml (eb w1) x2.d (bW x2.d).length
    rw[←hk1,fR,fR]at hll
    have hcl:=k9 x2.d
    have hsl:=hD2.ny.seen
    have hkg:=rI (eb w1) x2.d
    rw[←hk1]at hkg
    refine aj<|hy (fun _=>aa rfl)<|hy (fun _=>aa rfl)<|hy (fun _=>aX rfl Tryz.underlying51)<|hy (fun _=>aa rfl)<|hy (fun _=>b6 rfl rfl (bB (by omega) (by omega)))<|hy (fun _=>yF (cM rfl rfl) ((decide_eq_false (by omega))))<|hy (fun _=>aa rfl)<|ca (o:=_) rfl rfl rfl (fun _=>aa rfl)<| ?_
    refine tw (o:=_) rfl rfl rfl (aq rfl Tryz.call38 (xI) [0] rfl [] rfl ?_)
    rintro _ _ _ ⟨rfl,rfl,rfl⟩
    refine ca (o:=_) rfl rfl rfl (fun _=>aa rfl)<|ca (o:=_) rfl rfl rfl (fun _=>aX rfl Tryz.underlying51)<|ca (o:=_) rfl rfl rfl (fun _=>yF (cM rfl rfl) ((decide_eq_false (by omega))))<|hy (fun _=>a7 rfl rfl)<|hy (fun _=>aa rfl)<|ca (o:=_) rfl rfl rfl (fun _=>aa rfl)<|ca (o:=_) rfl rfl rfl (fun _=>aa rfl)<| ?_
    refine tw (o:=_) rfl rfl rfl (aq rfl Tryz.call37 (yz hD2 (by decide) hnl (by omega)) [0,0] rfl [7] rfl ?_)
    rintro _ _ _ ⟨fr22,rfl,rfl,rfl,hk3⟩
    rw[hke2,hkg]at hk3
    have hfl3:fr22.length=w2.length:=by rw[←jm,hk3,fR]
    refine ca (o:=_) rfl rfl rfl (fun _=>yF (cM rfl rfl) ((decide_eq_false (by omega))))<|hy (fun _=>a7 rfl rfl)<|ai<|al (ρ' :=[(152,_),(24,_),(13,_),(23,_),(12,_),(40,_),(11,_),(10,_),(9,_),(8,_),(0,_),(1,_),(2,_),(3,_)]) ⟨rfl,rfl,rfl,rfl,rfl,rfl,rfl,rfl,rfl,rfl,rfl,rfl,rfl,rfl,trivial⟩<|ak (X' :=[_,_,_,_]) (S' :=[_,_,_,_,_,_,_,_]) (fun _ m=>m)<|ag<| ?_
    refine dx rfl (rfl) ?_
    refine aC<|ag<|ah<|ah<|aj<|hy (fun _=>ab rfl)<|ai<|ag<|aN<| ?_
    refine dA (fun j=>w2.length-j) (fun j=>[(25,.int .i64 (j:Nat))]) (fun j=>[gZ g gm fr22]) (fun j=>[]) (fun j=>j≤w2.length) 0 [(152,_),(24,_),(13,_),(23,_),(12,_),(40,_),(11,_),(10,_),(9,_),(0,_),(1,_),(2,_),(3,_)] ⟨rfl,rfl,rfl,rfl,rfl,rfl,rfl,rfl,rfl,rfl,rfl,rfl,rfl,trivial⟩ [0] rfl [] rfl (Nat.zero_le _) ⟨rfl,trivial⟩ (fun j hj=> ?_)
    refine ah<|ah<|aj<|hy (fun _=>aa rfl)<|hy (fun _=>aa rfl)<|hy (fun _=>aX rfl Tryz.underlying51)<|hy (fun _=>bk rfl rfl)<|ai<|al (ρ' :=[(156,_),(25,_),(152,_),(24,_),(13,_),(23,_),(12,_),(40,_),(11,_),(10,_),(9,_),(0,_),(1,_),(2,_),(3,_)]) ⟨rfl,rfl,rfl,rfl,rfl,rfl,rfl,rfl,rfl,rfl,rfl,rfl,rfl,rfl,rfl,trivial⟩<|ag<| ?_
    refine cI rfl (fun hlt=> ?_) (fun hlt=> ?_)
    ·have hj2:j<w2.length:=by omega
     obtain⟨u,hu⟩:∃u,w2[j]? =some u:=⟨_,List.getElem?_eq_getElem hj2⟩
     have hhas:(bX fr22 u.1).isSome=true:=we (by
      rw[hk3]
      exact List.mem_map.2 ⟨u,List.mem_of_getElem? hu,rfl⟩)
     refine ba (fun m=>(m.ord 2 rfl).2.1) fun hA_o=> ?_
     refine aC<|ag<|ah<|aN<|ah<|aj<|hy (fun _=>aa rfl)<|hy (fun _=>aa rfl)<|hy (fun _=>aa rfl)<|hy (fun _=>dF rfl rfl Tryz.underlying51 Eh hA_o rfl (by omega))<|hy (fun _=>aI rfl yt (by decide))<|hy (fun m=>yV (aR rfl b5 bj (by rw[ax];exact u.1.2) (tP (m.ord 2 rfl) hu)) ((rfl:_=DK u.1)))<| ?_
     refine hx (aq rfl Tryz.call39 (Dn (nm:=u.1)) [0] rfl [] rfl ?_)
     rintro _ _ _ ⟨rfl,rfl,rfl⟩
     rw[hhas]
     refine hy (fun _=>(mN rfl))<|ai<|al (ρ' :=[(166,_),(156,_),(25,_),(152,_),(24,_),(13,_),(23,_),(12,_),(40,_),(11,_),(10,_),(9,_),(0,_),(1,_),(2,_),(3,_)]) ⟨rfl,rfl,rfl,rfl,rfl,rfl,rfl,rfl,rfl,rfl,rfl,rfl,rfl,rfl,rfl,rfl,trivial⟩<|ak (X' :=[_,_,_,_]) (S' :=[_,_,_,_,_,_,_,_]) (fun _ m=>m)<|ag<| ?_
     refine dx rfl (rfl) ?_
     refine aC<|aW<|ag<|aj<|hy (fun _=>aa rfl)<|hy (fun _=>aM rfl rfl (bB (by omega) (by omega)))<|hy (fun _=>ab rfl)<|ai<|al (ρ' :=[(25,_),(166,_),(156,_),(152,_),(24,_),(13,_),(23,_),(12,_),(40,_),(11,_),(10,_),(9,_),(0,_),(1,_),(2,_),(3,_)]) ⟨rfl,rfl,rfl,rfl,rfl,rfl,rfl,rfl,rfl,rfl,rfl,rfl,rfl,rfl,rfl,rfl,trivial⟩<| ?_
     refine cS (j+1) ⟨rfl,rfl,rfl,rfl,rfl,rfl,rfl,rfl,rfl,rfl,rfl,rfl,rfl,rfl,trivial⟩ [0,0,0,0] rfl [0,1,2,3,4,5,6,7] rfl ((by omega)) (by omega)
    ·refine bS<|ar<|ar<|aE<|ag<|ah<|aj<| ?_
     refine hx (aq rfl Tryz.call40 (w0) [] rfl [] rfl ?_)
     rintro _ _ _ ⟨rfl,rfl,rfl⟩
     refine hy (fun _=>ab rfl)<|ai<|al (ρ' :=[(8,_),(156,_),(25,_),(152,_),(24,_),(13,_),(23,_),(12,_),(40,_),(11,_),(10,_),(9,_),(0,_),(1,_),(2,_),(3,_)]) ⟨rfl,rfl,rfl,rfl,rfl,rfl,rfl,rfl,rfl,rfl,rfl,rfl,rfl,rfl,rfl,rfl,trivial⟩<|ak (X' :=[_,_,_,_]) (S' :=[_,_,_,_,_,_,_,_]) (fun _ m=>m)<|ag<|aQ<| ?_
     exact bd trivial rfl rfl [] rfl [] rfl ⟨rfl,rfl,rfl⟩
theorem vk{P:Program}{e:TypeId}(he:P.underlying e=some (.int .i64)):∀{n:Nat} {ys:List Cell},ys.length=n→(∀i,i<n→Ty P e ((ys.drop i).take 1))→∃l:List Int,ys.map Cell.val=ints l∧l.length=n∧tb l:=by
 intro n ys hl h
 have hg:∀i,i<n→∃z:Int,ys[i]? =some (.v (.int .i64 z))∧-9223372036854775808≤z∧z≤9223372036854775807:=fun i hi=>by
  obtain⟨z,hz,hb⟩:=CG he (h i hi)
  have h2:((ys.drop i).take 1)[0]? =some (.v (.int .i64 z)):=by rw[hz];rfl
  rw[List.getElem?_take,if_pos (by omega),List.getElem?_drop,Nat.add_zero]at h2
  exact⟨z,h2,hb⟩
 refine⟨ys.map fun y=>match y.val with| .int _ z=>z|_=>0, ?_,by simpa using hl,fun z hz=> ?_⟩
 ·apply List.ext_getElem?
  intro i
  simp only[ints,List.map_map,List.getElem?_map]
  by_cases hi:i<n
  ·obtain⟨z,hz,_⟩:=hg i hi
   rw[hz]
   simp[Cell.val]
  ·rw[List.getElem?_eq_none (by omega)]
   rfl
 ·obtain⟨y,hy,rfl⟩:=List.mem_map.1 hz
  obtain⟨i,hi⟩:=List.mem_iff_getElem?.1 hy
  have hin:i<n:=by rw[←hl];exact(List.getElem?_eq_some_iff.1 hi).1
  obtain⟨z,hz2,hb⟩:=hg i hin
  rw[hi]at hz2
  cases hz2
  exact hb
theorem qx{xs:List Cell}(h:Ty Tryz.prog 44 xs):∃A n c ys l,xs=[.s 1 A n c ys]∧ys.map Cell.val=ints l∧tb l:=by
 obtain⟨A,n,c,ys,rfl,h1,h2,h3,h4⟩:=rK Tryz.underlying44 h
 have c1:Tryz.prog.cellsOf 3=1:=by kernel_rfl
 rw[c1]at h3 h4 ⊢
 obtain⟨l,h5,h6,h7⟩:=vk Tryz.underlying3 (by omega:ys.length=n) (fun i hi=>by have:=h4 i hi;rwa [Nat.mul_one]at this)
 exact⟨A,n,c,ys,l,rfl,h5,h7⟩
theorem iO(A:Option Addr)(n c:Nat)(xs:List Cell)(B:Option Addr)(m mc_:Nat)(ys:List Cell)(K:Option Addr)(k kc:Nat)(bl:List UInt8)(H:Option Addr)(h hc_:Nat)(zs:List Cell)(W:World)(h1:(pS (.s 1 A n c xs)).holds W)(hT1:Ty Tryz.prog 44 [.s 1 A n c xs])(h2:(pS (.s 1 B m mc_ ys)).holds W)(hT2:Ty Tryz.prog 44 [.s 1 B m mc_ ys])(h3:Rd W 1 K k (aK bl))(hkc:k≤kc)(hkb:k≤140737488351232)(h4:(pS (.s 1 H h hc_ zs)).holds W)(hT4:Ty Tryz.prog 44 [.s 1 H h hc_ zs])(hro:eU.holds W):
  Calls Tryz.prog 4 #[.slice A n c,.slice B m mc_,.slice K k kc,.slice H h hc_] W fun e w' =>e= .returned (.bool true)∧Fr No W w' :=by
 obtain⟨_,_,_,_,l1,e1,hv1,hz1⟩:=qx hT1
 cases e1
 obtain⟨_,_,_,_,l2,e2,hv2,hz2⟩:=qx hT2
 cases e2
 obtain⟨_,_,_,_,l4,e4,hv4,hz4⟩:=qx hT4
 cases e4
 have r1:=(View.rowOf (n:=n) (c:=c) (A:=A) hv1).ok.1 W h1
 have r2:=(View.rowOf (n:=m) (c:=mc_) (A:=B) hv2).ok.1 W h2
 have r4:=(View.rowOf (n:=h) (c:=hc_) (A:=H) hv4).ok.1 W h4
 exact pA (qD hz1 hz2 hz4 hkc hkb) (by
  intro s hs
  simp only[List.mem_cons,List.not_mem_nil,or_false]at hs
  rcases hs with rfl|rfl|rfl|rfl|rfl
  ·exact r1
  ·exact r2
  ·exact h3
  ·exact r4
  ·exact hro)
end Go.Proofs.YtmibdabdlgmafaaGreatDoor
end
