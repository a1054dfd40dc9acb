/- Part. -/
import Derived.Test.YtmibdabdlgmafaaGreatDoorSWK4
import Derived.Test.YtmibdabdlgmafaaGreatDoorProg
import Derived.Conc.MuLib
import Derived.KernelRfl
set_option linter.all false
section
namespace Go.Proofs.YtmibdabdlgmafaaGreatDoor
open Go.Eng Go.Hx
theorem ou(q:FP→Bool)(l:List FP):dF (l.filter q)≤dF l:=by
 induction l with
 |nil=>exact Nat.le_refl _
 |cons x r ih=>
  rw[List.filter_cons]
  have e:dF (x::r)=x.2.length+dF r:=by simp[dF]
  split
  ·have e2:dF (x::r.filter q)=x.2.length+dF (r.filter q):=by simp[dF]
   omega
  ·omega
theorem oN{q:FP→Bool}{l:List FP}{x:FP}(hx:x∈l)(hq:q x=false):dF (l.filter q)+x.2.length≤dF l:=by
 induction l with
 |nil=>cases hx
 |cons y r ih=>
  rw[List.filter_cons]
  have e:dF (y::r)=y.2.length+dF r:=by simp[dF]
  rcases List.mem_cons.1 hx with rfl|hm
  ·rw[hq]
   have:=ou q r
   simp only[Bool.false_eq_true,if_false]
   omega
  ·have h1:=ih hm
   split
   ·have e2:dF (y::r.filter q)=y.2.length+dF (r.filter q):=by simp[dF]
    omega
   ·omega
theorem tn(l:List FP)(f:FP):dF (hZ l f)≤dF l+f.2.length:=by
 induction l with
 |nil=>simp[hZ,dF]
 |cons x r ih=>
  have e:dF (x::r)=x.2.length+dF r:=by simp[dF]
  rw[hZ]
  split
  ·have e2:dF (x::hZ r f)=x.2.length+dF (hZ r f):=by simp[dF]
   omega
  ·have e2:dF (f::(x::r).filter fun y=>decide (y.1≠f.1))=f.2.length+dF ((x::r).filter fun y=>decide (y.1≠f.1)):=by simp[dF]
   have:=ou (fun y=>decide (y.1≠f.1)) (x::r)
   omega
structure At(d:RD)(F:List UInt8→Option (List UInt8))(T:Nat)(room:Int):Prop where
 pw:d.pw=-1
 room:d.room=room
 look:∀p,lk d.seen p=F p
 me:dF d.seen≤T
def sj(F:List UInt8→Option (List UInt8))(p:List UInt8)(v:Option (List UInt8)):List UInt8→Option (List UInt8):=fun q=>if q=p then v else F q
theorem At.ct{d:RD}{F:List UInt8→Option (List UInt8)}{T:Nat}{room:Int}(h:At d F T room)(p:List UInt8):d.ct p=if F p=none then 4 else 0:=by
 have h1:=h.look p
 rw[←fN]at h1
 rw[RD.ct,if_neg (by rw[h.pw];decide)]
 cases hq:d.seen[cB d.seen p]? with
 |none=>rw[hq]at h1;rw[if_pos rfl,if_pos (by rw[←h1];rfl)]
 |some x=>rw[hq]at h1;rw[if_neg (by simp),if_neg (by rw[←h1];simp)]
theorem At.cz{d:RD}{F:List UInt8→Option (List UInt8)}{T:Nat}{room:Int}(h:At d F T room)(p:List UInt8):d.cz p=(F p).getD []:=by
 have h1:=h.look p
 rw[←fN]at h1
 rw[RD.cz,if_neg (by rw[h.pw];decide),h1]
theorem At.bH{d:RD}{F:List UInt8→Option (List UInt8)}{T:Nat}{room:Int}(h:At d F T room){p l:List UInt8}(hp:fV p)(hr:(T:Int)+(l.length:Nat)≤room):d.bH p l=0:=by
 have h1:=h.me
 have h2:=h.room
 rw[RD.bH,if_neg (fun h=>h hp),if_neg (by rw[h.pw];decide),if_neg (by omega)]
theorem At.write{d:RD}{F:List UInt8→Option (List UInt8)}{T:Nat}{room:Int}(h:At d F T room){p l:List UInt8}(hp:fV p)(hr:(T:Int)+(l.length:Nat)≤room):At (d.write p l) (sj F p (some l)) (T+l.length) room:=by
 have hs:(d.write p l).seen=hZ d.seen (p,l):=by
  rw[RD.write,if_pos (h.bH hp hr)]
  show dj d.seen 0 p [] l=_
  rw[dj,if_pos rfl,jC]
 refine⟨?_, ?_,fun q=> ?_, ?_⟩
 ·rw[RD.write,if_pos (h.bH hp hr)]
  show dQ d.pw=-1
  rw[h.pw];rfl
 ·rw[RD.write,if_pos (h.bH hp hr)];exact h.room
 ·rw[hs,r6]
  unfold sj
  split
  ·rfl
  ·exact h.look q
 ·rw[hs]
  have:=tn d.seen (p,l)
  have:=h.me
  have e:(p,l).2.length=l.length:=rfl
  omega
theorem At.c7{d:RD}{F:List UInt8→Option (List UInt8)}{T:Nat}{room:Int}(h:At d F T room):d.c7=0:=by rw[RD.c7,if_neg (by rw[h.pw];decide)]
theorem At.sync{d:RD}{F:List UInt8→Option (List UInt8)}{T:Nat}{room:Int}(h:At d F T room):At d.sync F T room:=by
 have e:d.sync={d with bO:=d.seen,waits:=[],pw:=dQ d.pw}:=by rw[RD.sync,if_neg (by rw[h.pw];decide)]
 rw[e]
 exact⟨by show dQ d.pw=-1;rw[h.pw];rfl,h.room,h.look,h.me⟩
theorem At.bU{d:RD}{F:List UInt8→Option (List UInt8)}{T:Nat}{room:Int}(h:At d F T room){a c x:List UInt8}(hc:fV c)(hx:F a=some x):d.bU a c=0:=by
 rw[RD.bU,if_neg (fun h=>h hc),h.ct,if_neg (by rw[hx];simp)]
theorem At.rename{d:RD}{F:List UInt8→Option (List UInt8)}{T:Nat}{room:Int}(h:At d F T room){a c x:List UInt8}(hc:fV c)(hx:F a=some x):At (d.rename a c) (sj (sj F a none) c (some x)) T room:=by
 have h1:=h.look a
 rw[←fN,hx]at h1
 obtain⟨y,hy,hyx⟩:∃y,d.seen[cB d.seen a]? =some y∧y.2=x:=by
  cases hq:d.seen[cB d.seen a]? with
  |none=>rw[hq]at h1;cases h1
  |some y=>rw[hq]at h1;exact⟨y,rfl,by simpa using h1⟩
 have hya:y.1=a:=by
  obtain⟨hi,he⟩:=List.getElem?_eq_some_iff.1 hy
  have:=List.findIdx_getElem (p:=fun x:FP=>decide (x.1=a)) (xs:=d.seen) (w:=hi)
  rw[←he]
  exact of_decide_eq_true this
 have hs:(d.rename a c).seen=hZ (da d.seen a) (c,x):=by
  rw[RD.rename,if_pos (h.bU hc hx)]
  show dj d.seen 1 a c []=_
  rw[dj,if_neg (by decide),hy]
  show(if(1:Int)=2 then _ else _)=_
  rw[if_neg (by decide),jC,hyx]
 refine⟨?_, ?_,fun q=> ?_, ?_⟩
 ·rw[RD.rename,if_pos (h.bU hc hx)]
  show dQ d.pw=-1
  rw[h.pw];rfl
 ·rw[RD.rename,if_pos (h.bU hc hx)];exact h.room
 ·rw[hs,r6]
  unfold sj da
  split
  ·rfl
  ·rw[ir]
   split
   ·rfl
   ·exact h.look q
 ·rw[hs]
  have h2:=tn (da d.seen a) (c,x)
  have h3:dF (da d.seen a)+y.2.length≤dF d.seen:=oN (List.mem_of_getElem? hy) (by simp[hya])
  have:=h.me
  have e:(c,x).2.length=x.length:=rfl
  rw[hyx]at h3
  omega
end Go.Proofs.YtmibdabdlgmafaaGreatDoor
end
section
namespace Go.Proofs.YtmibdabdlgmafaaGreatDoor
open Go.Eng Go.Hx
theorem tC:∀i:Nat,i<16→ki.getD i 0≠0:=by decide
theorem qj(l:List UInt8):¬(0:UInt8)∈b4 l:=by
 intro h
 unfold b4 at h
 obtain⟨x,hx,hc⟩:=List.mem_flatMap.1 h
 have hb:=x.toNat_lt
 simp only[pk,List.mem_cons,List.not_mem_nil,or_false]at hc
 rcases hc with hc|hc
 ·exact tC _ (by omega) hc.symm
 ·exact tC _ (by omega) hc.symm
theorem zV{nm:List UInt8}(h:nm.length=32):fV (aE nm):=by
 refine⟨by simp[aE],by rw[dX h];decide,fun hz=> ?_⟩
 unfold aE at hz
 simp only[List.mem_append,List.mem_cons,List.not_mem_nil,or_false]at hz
 rcases hz with((hz|hz)|hz)|hz
 ·rcases hz with hz|hz <;> exact absurd hz (by decide)
 ·exact qj nm (List.mem_of_mem_take hz)
 ·exact absurd hz (by decide)
 ·exact qj nm hz
theorem Ai{nm:List UInt8}(h:nm.length=32):fV (bN nm):=by
 refine⟨by simp[bN],by rw[jl h];decide,fun hz=> ?_⟩
 unfold bN at hz
 simp only[List.mem_append,List.mem_cons,List.not_mem_nil,or_false]at hz
 rcases hz with hz|hz
 ·rcases hz with hz|hz <;> exact absurd hz (by decide)
 ·exact qj nm hz
theorem ep(a b:List UInt8):aE a≠bN b:=by
 intro h
 unfold aE bN at h
 simp only[List.cons_append,List.nil_append,List.cons.injEq]at h
 exact absurd h.1 (by decide)
theorem uJ{d:RD}(h:d.pw=-1):d.sync.bO=d.sync.seen∧d.sync.waits=[]:=by
 have e:d.sync={d with bO:=d.seen,waits:=[],pw:=dQ d.pw}:=by rw[RD.sync,if_neg (by rw[h];decide)]
 rw[e]
 exact⟨rfl,rfl⟩
structure SD(d:RD)(F:List UInt8→Option (List UInt8))(T:Nat)(room:Int):Prop where
 at_:At d F T room
 same:d.bO=d.seen
 waits:d.waits=[]
theorem SD.new(room:Int):SD (RD.new room) (fun _=>none) 0 room:=⟨⟨rfl,rfl,fun p=>rfl,Nat.le_refl _⟩,rfl,rfl⟩
theorem wX{d:RD}{F:List UInt8→Option (List UInt8)}{T:Nat}{room:Int}(h:At d F T room){nm:List UInt8}(hF:F (aE nm)=none):d.eZ nm=4:=by
 have e:d.ct (aE nm)=4:=by rw[h.ct,if_pos hF]
 rw[jr (by rw[e];decide),e]
theorem get_at{d:RD}{F:List UInt8→Option (List UInt8)}{T:Nat}{room:Int}(h:At d F T room){b:List UInt8}(hb:b.length≤4096)(hF:F (aE (bc b))=some (bE b)):d.eZ (bc b)=0∧d.py (bc b)=b:=by
 have e:d.ct (aE (bc b))=0:=by rw[h.ct,if_neg (by rw[hF];simp)]
 have eB:d.cz (aE (bc b))=bE b:=by rw[h.cz,hF];rfl
 have eo:d.yk (bc b)=(b,0):=by unfold RD.yk;rw[eB];exact xr (by omega) (by omega)
 have e0:d.eZ (bc b)=0:=sP e (by rw[eo];simp)
 exact⟨e0,by rw[sA e0,eo]⟩
def oK(F:List UInt8→Option (List UInt8))(b:List UInt8):List UInt8→Option (List UInt8):=sj (sj (sj F (bN (bc b)) (some (bE b))) (bN (bc b)) none) (aE (bc b)) (some (bE b))
theorem pK(F:List UInt8→Option (List UInt8))(b:List UInt8):oK F b (aE (bc b))=some (bE b):=if_pos rfl
theorem SD.iF{d:RD}{F:List UInt8→Option (List UInt8)}{T:Nat}{room:Int}(h:SD d F T room){b:List UInt8}(hr:(T:Int)+(bE b).length≤room):
  ∃d',d.iF b=(d',0)∧SD d' (oK F b) (T+(bE b).length) room:=by
 have hn:=Ai (nm:=bc b) (bk b)
 have hp:=zV (nm:=bc b) (bk b)
 have h1:=h.at_.write (p:=bN (bc b)) (l:=bE b) hn (by omega)
 have h2:=h1.sync
 have hx:sj F (bN (bc b)) (some (bE b)) (bN (bc b))=some (bE b):=if_pos rfl
 have h3:=h2.rename hp hx
 obtain⟨c1,c2⟩:=uJ h3.pw
 refine⟨_, ?_,⟨h3.sync,c1,c2⟩⟩
 unfold RD.iF
 rw[bZ,if_neg (by show¬d.bH _ _≠0;rw[h.at_.bH hn (by omega)];decide)]
 rw[bZ,if_neg (by show¬(d.write _ _).c7≠0;rw[h1.c7];decide)]
 rw[bZ,if_neg (by show¬(d.write _ _).sync.bU _ _≠0;rw[h2.bU hp hx];decide)]
 rw[bZ,if_neg (by show¬((d.write _ _).sync.rename _ _).c7≠0;rw[h3.c7];decide)]
 rfl
theorem SD.put{d:RD}{F:List UInt8→Option (List UInt8)}{T:Nat}{room:Int}(h:SD d F T room){b:List UInt8}(hb:b.length≤4096)(hF:F (aE (bc b))=none)(hr:(T:Int)+(bE b).length≤room):
  ∃d',d.put b=(d',bc b,0)∧SD d' (oK F b) (T+(bE b).length) room:=by
 have e4:=wX h.at_ hF
 obtain⟨d',e,hd⟩:=h.iF hr
 refine⟨d', ?_,hd⟩
 unfold RD.put
 rw[if_neg (by omega),if_neg (by rw[e4];decide),if_neg (by rw[e4];decide),e]
 rfl
end Go.Proofs.YtmibdabdlgmafaaGreatDoor
end
section
set_option maxRecDepth 20000
set_option maxHeartbeats 4000000
namespace Go.Proofs.YtmibdabdlgmafaaGreatDoor
open Go.Eng Go.Hx
def fg(c:UInt8):List UInt8→Nat
 | []=>0
 |x::r=>if 0<fg c r then fg c r+1 else if x=c then 1 else 0
theorem jv{c:UInt8}:∀{s:List UInt8} {k:Nat},k≤s.length→(0<k→s.getD (k-1) 0=c)→(∀j,k≤j→j<s.length→s.getD j 0≠c)→fg c s=k
 | [],k,hk,_,_=>by
  have:k=0:=by simpa using hk
  subst this;rfl
 |x::r,0,hk,h1,h2=>by
  have ih:=jv (c:=c) (s:=r) (k:=0) (Nat.zero_le _) (fun h=>absurd h (by decide)) (fun j _ hj=>by
   have:=h2 (j+1) (Nat.zero_le _) (by rw[List.length_cons];omega)
   simpa using this)
  have hx:x≠c:=by
   have:=h2 0 (Nat.le_refl _) (by simp)
   simpa using this
  unfold fg
  rw[ih,if_neg (by decide),if_neg hx]
 |x::r,1,hk,h1,h2=>by
  have ih:=jv (c:=c) (s:=r) (k:=0) (Nat.zero_le _) (fun h=>absurd h (by decide)) (fun j _ hj=>by
   have:=h2 (j+1) (by omega) (by rw[List.length_cons];omega)
   simpa using this)
  have hx:x=c:=by simpa using h1 (by decide)
  unfold fg
  rw[ih,if_neg (by decide),if_pos hx]
 |x::r,k+2,hk,h1,h2=>by
  have ih:=jv (c:=c) (s:=r) (k:=k+1) (by rw[List.length_cons]at hk;omega) (fun _=>by
   have:=h1 (by omega)
   simpa using this) (fun j hj hl=>by
   have:=h2 (j+1) (by omega) (by rw[List.length_cons];omega)
   simpa using this)
  unfold fg
  rw[ih,if_pos (by omega)]
theorem xz{s:List UInt8}{c:UInt8}(hs:s.length≤1000000000):cj Tryz.prog 167 [.string (strOf s),B8 c] [] [] (fun v_ X_ S_=>v_=(.int .i64 ((fg c s:Nat)-1))∧X_=[]∧S_=[]):=by
 have hsz:=di s
 refine aQ (N:=19) Tryz.func167 rfl rfl (by simp) fun b=> ?_
 refine ah<|aj<|hy (fun _=>ab rfl)<|ai<|ag<|ah<|ah<|aj<|hy (fun _=>aa rfl)<|hy (fun _=>db rfl Tryz.underlying9)<|hy (fun _=>cw rfl rfl (bC (by omega) (by omega)))<|hy (fun _=>ab rfl)<|ai<|al (ρ' :=[(5,_),(4,_),(0,_),(1,_)]) ⟨rfl,rfl,rfl,rfl,trivial⟩<|ag<|aI<| ?_
 refine dD (fun k=>k) (fun k=>[(5,.int .i64 ((k:Nat)-1))]) (fun k=>[]) (fun k=>[]) (fun k=>k≤s.length∧∀j,k≤j→j<s.length→s.getD j 0≠c) s.length [(0,_),(1,_)] ⟨rfl,rfl,trivial⟩ [] rfl [] rfl (⟨Nat.le_refl _,fun j h1 h2=>absurd h2 (by omega)⟩) ⟨rfl,trivial⟩ (fun k ⟨hk,hno⟩=> ?_)
 refine ah<|ah<|aj<|hy (fun _=>aa rfl)<|hy (fun _=>kl rfl rfl)<|ai<|al (ρ' :=[(10,_),(5,_),(0,_),(1,_)]) ⟨rfl,rfl,rfl,rfl,trivial⟩<|ag<| ?_
 refine cD rfl (fun h=> ?_) (fun h=> ?_)
 ·have hil:k-1<s.length:=by omega
  refine aC<|ag<|ah<|aI<|ah<|aj<|hy (fun _=>aa rfl)<|hy (fun _=>aa rfl)<|hy (fun _=>fO rfl rfl Tryz.underlying9 (show((k-1:Nat):Int)=_ by omega) (k7 hil))<|hy (fun _=>aa rfl)<|hy (fun _=>cM rfl rfl)<|ai<|al (ρ' :=[(17,_),(10,_),(5,_),(0,_),(1,_)]) ⟨rfl,rfl,rfl,rfl,rfl,trivial⟩<|ag<| ?_
  refine cD rfl (fun h0=> ?_) (fun h0=> ?_)
  ·have h00:s.getD (k-1) 0=c:=UInt8.toNat_inj.1 (by omega)
   rw[jv hk (fun _=>h00) hno]
   refine ah<|aj<|hy (fun _=>aa rfl)<|hy (fun _=>ab rfl)<|ai<|al (ρ' :=[(4,_),(17,_),(10,_),(5,_),(0,_),(1,_)]) ⟨rfl,rfl,rfl,rfl,rfl,rfl,trivial⟩<|ag<|aX<|a8<|ax<|ax<|a8<|ax<| ?_
   exact bf trivial rfl rfl [] rfl [] rfl ⟨rfl,rfl,rfl⟩
  ·have h00:s.getD (k-1) 0≠c:=fun e=>h0 (by rw[e])
   have hno2:∀j,k-1≤j→j<s.length→s.getD j 0≠c:=fun j h1 h2=>by
    rcases Nat.lt_or_ge j k with hlt|hge
    ·rw[show j=k-1 by omega];exact h00
    ·exact hno j hge h2
   refine aC<|aM<|ag<|aj<|hy (fun _=>aa rfl)<|hy (fun _=>yV (cw rfl rfl (bC (by omega) (by omega))) ((show Value.int .i64 _= .int .i64 (((k-1:Nat):Int)-1) by congr 1;omega)))<|hy (fun _=>ab rfl)<|ai<|al (ρ' :=[(5,_),(17,_),(10,_),(0,_),(1,_)]) ⟨rfl,rfl,rfl,rfl,rfl,trivial⟩<| ?_
   refine cR (k-1) ⟨rfl,rfl,rfl,trivial⟩ [] rfl [] rfl (⟨by omega,hno2⟩) (by omega)
 ·obtain rfl:k=0:=by omega
  rw[jv (Nat.zero_le _) (fun h=>absurd h (by decide)) hno]
  refine bK<|ao<|ao<|aB<|ag<|ah<|aj<|hy (fun _=>ab rfl)<|ai<|ag<|aX<| ?_
  exact bf trivial rfl rfl [] rfl [] rfl ⟨rfl,rfl,rfl⟩
theorem uT{s:List UInt8}(hs:s.length≤1000000000):cj Tryz.prog 93 [.string (strOf s),.string (strOf [47])] [] [] (fun v_ X_ S_=>v_=(.int .i64 ((fg 47 s:Nat)-1))∧X_=[]∧S_=[]):=by
 refine aQ (N:=36) Tryz.func93 rfl rfl (by simp) fun b=> ?_
 refine ah<|aj<|hy (fun _=>ab rfl)<|ai<|ag<|ah<|aj<|hy (fun _=>aa rfl)<|hy (fun _=>db rfl Tryz.underlying9)<|hy (fun _=>ab rfl)<|ai<|al (ρ' :=[(5,_),(4,_),(0,_),(1,_)]) ⟨rfl,rfl,rfl,rfl,trivial⟩<|ag<|ah<|aI<|ah<|aj<|hy (fun _=>aa rfl)<|hy (fun _=>cM rfl rfl)<|hy (fun _=>ab rfl)<|ai<|al (ρ' :=[(8,_),(5,_),(4,_),(0,_),(1,_)]) ⟨rfl,rfl,rfl,rfl,rfl,trivial⟩<|ag<| ?_
 refine dL rfl ((decide_eq_false (by decide))) ?_
 refine ah<|aj<|hy (fun _=>aa rfl)<|hy (fun _=>cM rfl rfl)<|hy (fun _=>ab rfl)<|ai<|al (ρ' :=[(13,_),(8,_),(5,_),(4,_),(0,_),(1,_)]) ⟨rfl,rfl,rfl,rfl,rfl,rfl,trivial⟩<|ag<| ?_
 refine ic rfl ((decide_eq_true (by decide))) ?_
 refine ah<|aj<|hy (fun _=>aa rfl)<|hy (fun _=>aa rfl)<|hy (fun _=>fO rfl rfl Tryz.underlying9 rfl (show(strOf [47]).data[0]? =some 47 from rfl))<| ?_
 refine hx (aq rfl Tryz.call167 (xz hs (c:=47)) [] rfl [] rfl ?_)
 rintro _ _ _ ⟨rfl,rfl,rfl⟩
 refine hy (fun _=>ab rfl)<|ai<|al (ρ' :=[(4,_),(13,_),(8,_),(5,_),(0,_),(1,_)]) ⟨rfl,rfl,rfl,rfl,rfl,rfl,trivial⟩<|ak (X' :=[]) (S' :=[]) (fun _ m=>m)<|ag<|aX<|a8<|ax<| ?_
 exact bf trivial rfl rfl [] rfl [] rfl ⟨rfl,rfl,rfl⟩
theorem yn(l:List UInt8):¬(47:UInt8)∈b4 l:=by
 have hd:∀i:Nat,i<16→ki.getD i 0≠47:=by decide
 intro h
 unfold b4 at h
 obtain⟨x,hx,hc⟩:=List.mem_flatMap.1 h
 have hb:=x.toNat_lt
 simp only[pk,List.mem_cons,List.not_mem_nil,or_false]at hc
 rcases hc with hc|hc
 ·exact hd _ (by omega) hc.symm
 ·exact hd _ (by omega) hc.symm
theorem tM{nm:List UInt8}(h:nm.length=32):fg 47 (aE nm)=5:=by
 have h64:(b4 nm).length=64:=by rw[dI,h]
 obtain⟨a,b,r,hr⟩:∃a b r,b4 nm=a::b::r:=by
  match hq:b4 nm with
  | []=>rw[hq]at h64;cases h64
  | [_]=>rw[hq]at h64;cases h64
  |a::b::r=>exact⟨a,b,r,rfl⟩
 have hp:aE nm=[99,47,a,b,47]++b4 nm:=by unfold aE;rw[hr];rfl
 refine jv (by rw[dX h];decide) (fun _=>by rw[hp];rfl) (fun j h1 h2 e=> ?_)
 rw[hp]at e h2
 rw[List.getD_eq_getElem?_getD,List.getElem?_append_right (by exact h1)]at e
 have hj:j-5<(b4 nm).length:=by simp at h2;omega
 have e2:(b4 nm)[j-5]?.getD 0=47:=e
 rw[List.getElem?_eq_getElem hj]at e2
 exact yn nm (by rw[←show(b4 nm)[j-5]=47 from e2];exact List.getElem_mem hj)
def mo(p q:List UInt8):Option (List UInt8):=if(cX q).2=0∧aE (cX q).1=p then some (cX q).1 else none
theorem eL{p q nm:List UInt8}(h:mo p q=some nm):nm.length=32∧p=aE nm:=by
 unfold mo at h
 split at h
 ·rename_i hq
  cases h
  exact⟨kn _,hq.2.symm⟩
 ·cases h
theorem qu{nm:List UInt8}(h:nm.length=32):mo (aE nm) (b4 nm)=some nm:=by
 unfold mo
 rw[qD nm h,if_pos ⟨rfl,rfl⟩]
def gX(p:List UInt8):Option (List UInt8):=mo p (p.drop (fg 47 p))
def mG(p:List UInt8):Option (List UInt8):=if p.length=69 then mo p (p.drop 5)else none
theorem kJ(p:List UInt8):gX p=mG p:=by
 have h1:∀{nm:List UInt8},nm.length=32→gX (aE nm)=some nm∧mG (aE nm)=some nm:=fun{nm} h=>by
  unfold gX mG
  rw[tM h,iO h,dX h,if_pos rfl]
  exact⟨qu h,qu h⟩
 cases h:gX p with
 |some nm=>
  obtain⟨h2,rfl⟩:=eL h
  exact(h1 h2).2.symm
 |none=>
  cases h3:mG p with
  |none=>rfl
  |some nm=>
   have h4:mo p (p.drop 5)=some nm:=by
    unfold mG at h3
    split at h3
    ·exact h3
    ·cases h3
   obtain⟨h2,rfl⟩:=eL h4
   rw[(h1 h2).1]at h
   cases h
def bp(d:RD):List (List UInt8):=(d.seen.map (·.1)).filterMap mG
end Go.Proofs.YtmibdabdlgmafaaGreatDoor
end
section
set_option maxRecDepth 20000
set_option maxHeartbeats 4000000
namespace Go.Proofs.YtmibdabdlgmafaaGreatDoor
open Go.Eng Go.Hx
def zP:List UInt8:=[99,47]
theorem tr(c:UInt8):∀s:List UInt8,fg c s≤s.length
 | []=>Nat.le_refl _
 |x::r=>by
  have:=tr c r
  unfold fg
  split
  ·rw[List.length_cons];omega
  ·split <;> (rw[List.length_cons];omega)
theorem zg{p nm:List UInt8}(h:gX p=some nm):pre zP p=true:=by
 obtain⟨h1,rfl⟩:=eL h
 unfold pre
 exact decide_eq_true rfl
theorem sL(d:RD):(gQ d zP).filterMap gX=bp d:=by
 unfold gQ bp
 rw[show mG=gX from funext fun p=>(kJ p).symm]
 generalize d.seen.map (·.1)=l
 induction l with
 |nil=>rfl
 |cons p r ih=>
  rw[List.filter_cons]
  cases h:gX p with
  |some nm=>rw[if_pos (zg h),List.filterMap_cons,List.filterMap_cons,h,ih]
  |none=>
   rw[List.filterMap_cons,h]
   split
   ·rw[List.filterMap_cons,h];exact ih
   ·exact ih
theorem x4{ns:List (List UInt8)}{i:Nat}(h:i<ns.length):(ns.take (i+1)).filterMap gX=(ns.take i).filterMap gX++(gX (ns.getD i [])).toList:=by
 have h1:ns.take (i+1)=ns.take i++[ns.getD i []]:=by
  rw[List.take_add_one,List.getElem?_eq_getElem h]
  simp[List.getD,List.getElem?_eq_getElem h]
 rw[h1,List.filterMap_append]
 generalize ns.getD i []=x
 cases hq:gX x <;> simp[hq]
theorem uH{g:Nat}{st:cA}{d:RD}{kk:Nat}(hD:DS st d kk)(hkk:kk≤99000)(hnl:∀x∈d.seen,x.1.length≤1000000):cj Tryz.prog 20 [.pointer (some ⟨g,0,none⟩)] [bj g st] [] (fun v_ X_ S_=>∃v k,v_=v∧X_=[bj g st,aG 53 32 v k (dc (bp d))]∧S_=[]∧(k=(bp d).length)):=by
 have hcn:=sL d
 have hnl2:∀p∈gQ d zP,p.length≤1000000:=fun p hp=>by
  obtain⟨x,hx,rfl⟩:=List.mem_map.1 (List.mem_filter.1 hp).1
  exact hnl x hx
 refine aQ (N:=38) Tryz.func20 rfl rfl (by simp) fun b=> ?_
 refine ah<|aj<|hy (fun _=>ab rfl)<|ai<|ag<|ah<|aj<|hy (fun _=>ab rfl)<|ai<|ag<|ah<|ah<|aj<|hy (fun _=>aa rfl)<| ?_
 refine hx (aq rfl Tryz.call86 (DN hD hkk (p:=zP)) [0] rfl [] rfl ?_)
 rintro _ _ _ ⟨v,rfl,rfl,rfl,hn⟩
 refine aD (fun m=>(m.own 1 rfl).slice) ?_
 rintro⟨A_x,c_x,rfl,hc_x⟩
 refine aD (fun m=>(m.ord 1 rfl).2.1) fun hA_x=> ?_
 generalize gQ d zP=ns at hn hcn hnl2 hc_x hA_x ⊢
 refine hy (fun _=>aU rfl Tryz.underlying152)<|hy (fun _=>aa rfl)<|ai<|al (ρ' :=[(11,_),(10,_),(9,_),(3,_),(2,_),(0,_)]) ⟨rfl,rfl,rfl,rfl,rfl,rfl,trivial⟩<|ak (X' :=[_,_]) (S' :=[]) (fun _ m=>m)<|ag<|aI<| ?_
 refine bw (fun w m=>m.dG (r' :=aG 53 32 (.slice none 0 0) 0 []) (.refl _ _) (Own.nil _ _ _ _) (fun k hk=>hk.elim)) ?_
 refine kZ (fun i k A1 c1=>ns.length-i) (fun i k A1 c1=>[(3,.slice A1 k c1),(11,.int .i64 (i:Nat))]) (fun i k A1 c1=>[aG 53 32 (.slice A1 k c1) k (dc ((ns.take i).filterMap gX))]) (fun i k A1 c1=>[]) (fun i k A1 c1=>i≤ns.length∧k=((ns.take i).filterMap gX).length∧k≤i) 0 0 none 0 [(10,_),(9,_),(2,_),(0,_)] ⟨rfl,rfl,rfl,rfl,trivial⟩ [0] rfl [] rfl (⟨Nat.zero_le _,rfl,Nat.le_refl _⟩) ⟨rfl,rfl,trivial⟩ (fun i k A1 c1 ⟨hin,hk,hki⟩=> ?_)
 refine ah<|aj<|hy (fun _=>bu rfl rfl)<|ai<|ag<|ah<| ?_
 refine cD rfl (fun hlt=> ?_) (fun hlt=> ?_)
 ·have hi2:i<ns.length:=by omega
  have hsn:=x4 hi2
  have hpl:=hnl2 (ns.getD i []) (by rw[List.getD,List.getElem?_eq_getElem hi2];exact List.getElem_mem hi2)
  refine aC<|ag<|ah<|aI<|ah<|aj<|hy (fun _=>aO rfl rfl Tryz.underlying152 Hp hA_x rfl (by omega))<|hy (fun m=>aw rfl l0 ((m.ord 2 rfl).cell (yD hi2)))<|hy (fun _=>ab rfl)<|ai<|al (ρ' :=[(5,_),(12,_),(3,_),(11,_),(10,_),(9,_),(2,_),(0,_)]) ⟨rfl,rfl,rfl,rfl,rfl,rfl,rfl,rfl,trivial⟩<|ag<|ah<|aj<|hy (fun _=>aa rfl)<|hy (fun _=>aa rfl)<| ?_
  generalize ns.getD i []=p at hsn hpl ⊢
  have hlp:=tr 47 p
  have hdl:=kn (p.drop (fg 47 p))
  have h32:(aR (cX (p.drop (fg 47 p))).1).length=32:=by rw[ay,hdl]
  have hql:(p.drop (fg 47 p)).length≤1000000:=by rw[List.length_drop];omega
  have ho1:gX p=if(cX (p.drop (fg 47 p))).2=0∧aE (cX (p.drop (fg 47 p))).1=p then some (cX (p.drop (fg 47 p))).1 else none:=rfl
  refine hx (aq rfl Tryz.call93 (uT (by omega) (s:=p)) [] rfl [] rfl ?_)
  rintro _ _ _ ⟨rfl,rfl,rfl⟩
  refine hy (fun _=>aN rfl rfl (bC (by omega) (by omega)))<|hy (fun _=>xh rfl rfl Tryz.underlying9 (show((fg 47 p:Nat):Int)=_ by omega) hlp)<| ?_
  refine hx (aq rfl Tryz.call92 (yE hql (s:=(p.drop (fg 47 p)))) [] rfl [] rfl ?_)
  rintro _ _ _ ⟨rfl,rfl,rfl⟩
  refine hy (fun _=>aa rfl)<|hy (fun _=>au rfl rfl)<|hy (fun _=>au rfl rfl)<| ?_
  refine hx (aP dT (fun g6=> ?_))
  refine cJ (aK 0 rfl rfl rfl bo h32 aS rfl ?_)
  generalize hdo:cX (p.drop (fg 47 p))=dq at hdl h32 ho1 ⊢
  by_cases hE:dq.2=0
  ·refine hy (fun _=>ab rfl)<|ai<|al (ρ' :=[(7,_),(6,_),(5,_),(12,_),(3,_),(11,_),(10,_),(9,_),(2,_),(0,_)]) ⟨rfl,rfl,rfl,rfl,rfl,rfl,rfl,rfl,rfl,rfl,trivial⟩<|ak (X' :=[_,_,_,_]) (S' :=[]) (fun _ m=>m)<|ag<|ah<|aj<|hy (fun _=>aa rfl)<|hy (fun _=>yT (cM rfl rfl) ((decide_eq_true hE)))<|hy (fun _=>aa rfl)<|dU (o:=_) rfl rfl rfl (fun m=>a6 rfl cx bo h32 ((m.aZ 0 rfl).az))<| ?_
   refine GF (o:=_) rfl rfl rfl (aq rfl Tryz.call94 (sr hdl) [] rfl [] rfl ?_)
   rintro _ _ _ ⟨rfl,rfl,rfl⟩
   refine dU (o:=_) rfl rfl rfl (fun _=>aa rfl)<|dU (o:=_) rfl rfl rfl (fun _=>tj rfl rfl)<|hy (fun _=>bX rfl rfl)<|ai<|al (ρ' :=[(31,_),(7,_),(6,_),(5,_),(12,_),(3,_),(11,_),(10,_),(9,_),(2,_),(0,_)]) ⟨rfl,rfl,rfl,rfl,rfl,rfl,rfl,rfl,rfl,rfl,rfl,trivial⟩<|ak (X' :=[_,_,_,_]) (S' :=[]) (fun _ m=>m)<|ag<| ?_
   refine xf rfl (fun hp=> ?_) (fun hp=> ?_)
   ·have hp:=cF.1 (of_decide_eq_true hp)
    rw[ho1,if_pos ⟨hE,hp⟩]at hsn
    have hsn:(ns.take (i+1)).filterMap gX=(ns.take i).filterMap gX++[dq.1]:=hsn
    refine aj<|hy (fun _=>aa rfl)<|hy (fun m=>a6 rfl cx bo h32 ((m.aZ 0 rfl).az))<| ?_
    refine hx (bY Tryz.underlying33 dT rfl rfl rfl (by simpa[Value.cells,B8]using h32) (by decide) (by decide) (fun g34=> ?_))
    have hA_b34:0<1→(some (⟨g34,0,none⟩:Addr))≠none:=fun _ h=>by cases h
    refine aT (fun w m=>m.bQ 0 rfl (show _=aG 53 32 (.slice (some ⟨g34,0,none⟩) 1 1) 1 (dc [dq.1])from rfl)) ?_
    refine hx (bL 2 rfl rfl rfl Tryz.underlying33 Tryz.underlying33 (by exact .inl rfl) dT rfl (fun m=>Src.b7 (m.ord 0 rfl)) j3 (by unfold maxLen;omega) (by omega) (fun u=> ?_))
    refine aD (fun m=>(m.own 0 rfl).slice) ?_
    rintro⟨A_o,c_o,rfl,hc_o⟩
    refine aD (fun m=>(m.ord 0 rfl).2.1) fun hA_o=> ?_
    refine aT (fun w m=>m.bQ 0 rfl (show _=aG 53 32 (.slice A_o (k+1) c_o) (k+1) (dc ((ns.take (i+1)).filterMap gX))from congrArg (aG _ _ _ _) (by rw[hsn,fy]))) ?_
    refine hy (fun _=>ab rfl)<|ai<|al (ρ' :=[(3,_),(31,_),(7,_),(6,_),(5,_),(12,_),(11,_),(10,_),(9,_),(2,_),(0,_)]) ⟨rfl,rfl,rfl,rfl,rfl,rfl,rfl,rfl,rfl,rfl,rfl,trivial⟩<|ak (X' :=[_,_,_,_,_]) (S' :=[]) (fun _ m=>m)<|aM<|ag<|aj<|hy (fun _=>aN rfl rfl (bC (by omega) (by omega)))<|hy (fun _=>aa rfl)<|ai<|al (ρ' :=[(11,_),(3,_),(31,_),(7,_),(6,_),(5,_),(12,_),(10,_),(9,_),(2,_),(0,_)]) ⟨rfl,rfl,rfl,rfl,rfl,rfl,rfl,rfl,rfl,rfl,rfl,trivial⟩<| ?_
    refine gN (i+1) (k+1) A_o c_o ⟨rfl,rfl,rfl,rfl,rfl,rfl,trivial⟩ [0,2,2] rfl [] rfl (⟨by omega,by rw[hsn,hk,List.length_append];rfl,by omega⟩) (by omega)
   ·have hp:=of_decide_eq_false hp
    rw[ho1,if_neg (fun h=>hp (by rw[h.2]))]at hsn
    have hsn:(ns.take (i+1)).filterMap gX=(ns.take i).filterMap gX:=hsn.trans (List.append_nil _)
    refine bw (fun w m=>m.bQ 1 rfl (show _=aG 53 32 (.slice A1 k c1) k (dc ((ns.take (i+1)).filterMap gX))from by rw[hsn])) ?_
    refine aC<|aM<|ag<|aj<|hy (fun _=>aN rfl rfl (bC (by omega) (by omega)))<|hy (fun _=>aa rfl)<|ai<|al (ρ' :=[(11,_),(31,_),(7,_),(6,_),(5,_),(12,_),(3,_),(10,_),(9,_),(2,_),(0,_)]) ⟨rfl,rfl,rfl,rfl,rfl,rfl,rfl,rfl,rfl,rfl,rfl,trivial⟩<| ?_
    refine gN (i+1) k A1 c1 ⟨rfl,rfl,rfl,rfl,rfl,rfl,trivial⟩ [0,1,1] rfl [] rfl (⟨by omega,by rw[hsn,hk],by omega⟩) (by omega)
  ·refine hy (fun _=>ab rfl)<|ai<|al (ρ' :=[(7,_),(6,_),(5,_),(12,_),(3,_),(11,_),(10,_),(9,_),(2,_),(0,_)]) ⟨rfl,rfl,rfl,rfl,rfl,rfl,rfl,rfl,rfl,rfl,trivial⟩<|ag<|ah<|aj<|hy (fun _=>aa rfl)<|hy (fun _=>yF (cM rfl rfl) ((decide_eq_false hE)))<|hy (fun _=>aa rfl)<|bD rfl rfl rfl (by decide)<|bD rfl rfl rfl (by decide)<|bD rfl rfl rfl (by decide)<|bD rfl rfl rfl (by decide)<|hy (fun _=>bP rfl rfl)<|ai<|al (ρ' :=[(31,_),(7,_),(6,_),(5,_),(12,_),(3,_),(11,_),(10,_),(9,_),(2,_),(0,_)]) ⟨rfl,rfl,rfl,rfl,rfl,rfl,rfl,rfl,rfl,rfl,rfl,trivial⟩<|ag<| ?_
   refine dL rfl (rfl) ?_
   rw[ho1,if_neg (fun h=>hE h.1)]at hsn
   have hsn:(ns.take (i+1)).filterMap gX=(ns.take i).filterMap gX:=hsn.trans (List.append_nil _)
   refine bw (fun w m=>m.bQ 1 rfl (show _=aG 53 32 (.slice A1 k c1) k (dc ((ns.take (i+1)).filterMap gX))from by rw[hsn])) ?_
   refine aC<|aM<|ag<|aj<|hy (fun _=>aN rfl rfl (bC (by omega) (by omega)))<|hy (fun _=>aa rfl)<|ai<|al (ρ' :=[(11,_),(31,_),(7,_),(6,_),(5,_),(12,_),(3,_),(10,_),(9,_),(2,_),(0,_)]) ⟨rfl,rfl,rfl,rfl,rfl,rfl,rfl,rfl,rfl,rfl,rfl,trivial⟩<| ?_
   refine gN (i+1) k A1 c1 ⟨rfl,rfl,rfl,rfl,rfl,rfl,trivial⟩ [0,1,1] rfl [] rfl (⟨by omega,by rw[hsn,hk],by omega⟩) (by omega)
 ·obtain rfl:i=ns.length:=by omega
  rw[List.take_length,hcn]at hk ⊢
  refine bK<|ao<|ao<|aB<|ag<|ah<|aj<|hy (fun _=>aa rfl)<|hy (fun _=>ab rfl)<|ai<|al (ρ' :=[(2,_),(12,_),(3,_),(11,_),(10,_),(9,_),(0,_)]) ⟨rfl,rfl,rfl,rfl,rfl,rfl,rfl,trivial⟩<|ag<|aX<| ?_
  exact bf trivial rfl rfl [1,0] rfl [] rfl ⟨_,_,rfl,rfl,rfl,hk⟩
end Go.Proofs.YtmibdabdlgmafaaGreatDoor
end
section
namespace Go.Eng
open Go.RowKit
section
variable{P:Program}{fn:Func}{R:Value→List bh→List bh→Prop}{N:Nat}{ρ:Env}{b:cC}{X X' Xz S S' :List bh}{e:Exit}
theorem fi{t t2 t' sz sz2:Nat}{ty ty2:TypeId}{p p2:Addr}{cs cs2:List Value}{v' :Value}(he:Leaves e)(hr:fn.results= #[.cell t ty,.cell t2 ty2,.tmp t'])(hv:get ρ t=some (.pointer (some p)))(hv2:get ρ t2=some (.pointer (some p2)))(hv' :get ρ t' =some v')(ha:dg P ty=some true)(hs:fm P ty=some sz)(hl:cs.length=sz)
  (hc:∀{w},Mem b X S w→∀j u,cs[j]? =some u→w.cell? (p.add j)=some u) (ha2:dg P ty2=some true) (hs2:fm P ty2=some sz2) (hl2:cs2.length=sz2)
  (hc2:∀{w},Mem b X S w→∀j u,cs2[j]? =some u→w.cell? (p2.add j)=some u) (is:List Nat) (hX:bT is X=some (X',Xz)) (js:List Nat) (hS:dS js S=some S') (hR:R (.tuple #[.agg cs.toArray,.agg cs2.toArray,v']) X' S'):HQ (bodyPost P fn (RB b R)) N [] e ρ b X S:=
 fun w m=>iK he (fun a hA=>by have h1:=hA.getD hv;have h2:=hA.getD hv2;have h3:=hA.getD hv';simp at h1 h2 h3;simp[results,hr,h1,h2,h3,asAddr,lx ha hs hl (hc m),lx ha2 hs2 hl2 (hc2 m)]) ⟨_,_,_,rfl,hR,m.out is hX js hS⟩
end
end Go.Eng
end
section
set_option maxRecDepth 20000
set_option maxHeartbeats 2000000
namespace Go.Proofs.YtmibdabdlgmafaaGreatDoor
open Go.Eng Go.Hx
def mv(s:Nat×Nat):List Value:=[.int .i64 (s.1:Nat),.int .i64 (s.2:Nat)]
theorem nN{s:Nat×Nat}:∀u∈mv s,u.oneCell' =true:=by
 intro u hu
 simp only[mv,List.mem_cons,List.not_mem_nil,or_false]at hu
 rcases hu with rfl|rfl <;> rfl
theorem CV{A:Option Addr}{n c i:Nat}{l:List UInt8}(hn:n≤1000000000)(hl:l.length=n)(hi:i<n):cj Tryz.prog 218 [.slice A n c,.int .i64 (i:Nat)] [] [cV 1 A n (aR l)] (fun v_ X_ S_=>v_=(.agg (mv (aW l i)).toArray)∧X_=[]∧S_=[]):=by
 refine aQ (N:=67) Tryz.func218 rfl rfl (by simp) fun b=> ?_
 refine aY (fun m=>ig (m.rd 0 rfl)) ?_
 rintro⟨hl_r,hA_r⟩
 refine ah<|aj<| ?_
 refine hx (aP rL (fun g4=> ?_))
 refine ai<|ak (X' :=[_]) (S' :=[_]) (fun _ m=>m)<|ag<|ah<|aj<| ?_
 refine hx (aP rL (fun g5=> ?_))
 refine ai<|ak (X' :=[_,_]) (S' :=[_]) (fun _ m=>m)<|ag<|ah<|ah<|aj<|hy (fun _=>aa rfl)<|hy (fun _=>bu rfl rfl)<|hy (fun _=>aa rfl)<| ?_
 refine eN 10 rfl (fun h0=> ?_) (fun h0=> ?_)
 ·exact absurd h0 (by omega)
 ·refine dU (o:=_) rfl rfl rfl (fun _=>aa rfl)<|dU (o:=_) rfl rfl rfl (fun _=>aa rfl)<|dU (o:=_) rfl rfl rfl (fun _=>aU rfl Tryz.underlying27)<|dU (o:=_) rfl rfl rfl (fun _=>kl rfl rfl)<|hy (fun _=>bP rfl rfl)<|ai<|al (ρ' :=[(15,_),(5,_),(4,_),(0,_),(1,_)]) ⟨rfl,rfl,rfl,rfl,rfl,trivial⟩<|ag<| ?_
  refine dL rfl ((decide_eq_false (by omega))) ?_
  refine bw (fun w m=>m.bQ 0 rfl (show _=aL g5 298 (mv (cp l i 0))from rfl)) ?_
  refine bw (fun w m=>m.bQ 1 rfl (show _=aL g4 298 (mv (0,0))from rfl)) ?_
  refine aC<|ag<|ah<|ah<|aj<|hy (fun _=>ab rfl)<|ai<|ag<|aI<| ?_
  refine dD (fun q=>2000-q) (fun q=>[(6,.int .i64 ((q+1:Nat):Int))]) (fun q=>[aL g5 298 (mv (cp l i q))]) (fun q=>[]) (fun q=>q≤min i 1024) 0 [(15,_),(5,_),(4,_),(0,_),(1,_)] ⟨rfl,rfl,rfl,rfl,rfl,trivial⟩ [1] rfl [] rfl (Nat.zero_le _) ⟨rfl,trivial⟩ (fun q hI=> ?_)
  refine ah<|ah<|aj<|hy (fun _=>aa rfl)<|hy (fun _=>aa rfl)<|hy (fun _=>qG rfl rfl)<|hy (fun _=>aa rfl)<| ?_
  refine eN 20 rfl (fun h1=> ?_) (fun h1=> ?_)
  ·refine dU (o:=_) rfl rfl rfl (fun _=>aa rfl)<|dU (o:=_) rfl rfl rfl (fun _=>qG rfl rfl)<|hy (fun _=>bX rfl rfl)<|ai<|al (ρ' :=[(23,_),(6,_),(15,_),(5,_),(4,_),(0,_),(1,_)]) ⟨rfl,rfl,rfl,rfl,rfl,rfl,rfl,trivial⟩<|ag<| ?_
   refine cD rfl (fun h2=> ?_) (fun h2=> ?_)
   ·refine aC<|ag<|ah<|aI<|ah<|aj<|hy (fun _=>ab rfl)<|ai<|ag<|ah<|aI<| ?_
    refine dD (fun j=>131-j) (fun j=>[(7,.int .i64 (j:Nat))]) (fun j=>[]) (fun j=>[]) (fun j=>j≤131∧i+j≤n∧lM l i (i-(q+1)) (131-j) j=mi l i (i-(q+1))) 0 [(23,_),(6,_),(15,_),(5,_),(4,_),(0,_),(1,_)] ⟨rfl,rfl,rfl,rfl,rfl,rfl,rfl,trivial⟩ [] rfl [] rfl (⟨by decide,by omega,rfl⟩) ⟨rfl,trivial⟩ (fun j ⟨hj,hij,hL⟩=> ?_)
    refine ah<|ah<|cG [] [(0,some 0),(1,some 0),(2,some 0),(3,some 0),(4,some 0),(5,some 0),(6,some 0),(7,some 0),(8,some 0),(9,some 0),(10,some 0),(11,some 0),(12,some 0),(13,some 0),(14,some 0),(15,some 0),(16,some 0),(17,some 0),(18,some 0),(19,some 0),(20,some 0),(21,some 0),(22,some 0),(23,some 0),(24,some 0),(25,some 0),(26,some 0)] (by kernel_rfl) (by kernel_rfl) rfl 99<|an (aa rfl)<|an (aa rfl)<|an (aN rfl rfl (bC (by omega) (by omega)))<|an (aa rfl)<|an (aU rfl Tryz.underlying27)<|an (bu rfl rfl)<|an (aa rfl)<| ?_
    refine lH 32 rfl (fun g1=> ?_) (fun g1=> ?_)
    ·refine bI (o:=_) rfl rfl rfl (aa rfl)<|bI (o:=_) rfl rfl rfl (bu rfl rfl)<|an (bX rfl rfl)<|an (aa rfl)<| ?_
     refine lH 36 rfl (fun g2=> ?_) (fun g2=> ?_)
     ·refine bI (o:=_) rfl rfl rfl (aa rfl)<|bI (o:=_) rfl rfl rfl (aa rfl)<|bI (o:=_) rfl rfl rfl (aa rfl)<|bI (o:=_) rfl rfl rfl (aN rfl rfl (bC (by omega) (by omega)))<|bI (o:=_) rfl rfl rfl (aO rfl rfl Tryz.underlying27 ek hA_r (show((i+j:Nat):Int)=_ by omega) (by omega))<|lL (o:=_) rfl rfl rfl (fun m=>aw rfl jL ((m.rd 0 rfl).cell (bM (by omega))))<|bI (o:=_) rfl rfl rfl (aa rfl)<|bI (o:=_) rfl rfl rfl (aa rfl)<|bI (o:=_) rfl rfl rfl (aa rfl)<|bI (o:=_) rfl rfl rfl (aN rfl rfl (bC (by omega) (by omega)))<|bI (o:=_) rfl rfl rfl (aa rfl)<|bI (o:=_) rfl rfl rfl (yV (cw rfl rfl (bC (by omega) (by omega))) ((show Value.int .i64 ((i:Int)+(j:Int)-((q+1:Nat):Int))= .int .i64 ((i-(q+1)+j:Nat):Int) by congr 1;omega)))<|bI (o:=_) rfl rfl rfl (aO rfl rfl Tryz.underlying27 ek hA_r rfl (by omega))<|lL (o:=_) rfl rfl rfl (fun m=>aw rfl jL ((m.rd 0 rfl).cell (bM (by omega))))<|bI (o:=_) rfl rfl rfl (cM rfl rfl)<|an (bX rfl rfl)<|br<|al (ρ' :=[(52,_),(7,_),(23,_),(6,_),(15,_),(5,_),(4,_),(0,_),(1,_)]) ⟨rfl,rfl,rfl,rfl,rfl,rfl,rfl,rfl,rfl,trivial⟩<|ag<| ?_
      refine cD rfl (fun g3=> ?_) (fun g3=> ?_)
      ·have e3:l.getD (i+j) 0=l.getD (i-(q+1)+j) 0:=UInt8.toNat_inj.1 (by omega)
       rw[ik (by omega) ⟨by omega,e3⟩]at hL
       refine aC<|ag<|aI<|aj<|hy (fun _=>aa rfl)<|hy (fun _=>aN rfl rfl (bC (by omega) (by omega)))<|hy (fun _=>ab rfl)<|ai<|al (ρ' :=[(7,_),(52,_),(23,_),(6,_),(15,_),(5,_),(4,_),(0,_),(1,_)]) ⟨rfl,rfl,rfl,rfl,rfl,rfl,rfl,rfl,rfl,trivial⟩<|aM<| ?_
       refine cR (j+1) ⟨rfl,rfl,rfl,rfl,rfl,rfl,rfl,rfl,trivial⟩ [0,0] rfl [0] rfl (⟨by omega,by omega,by rw[←hL];rfl⟩) (by omega)
      ·refine bK<|ao<|ao<|aB<|ag<|ah<|aj<|hy (fun _=>aa rfl)<|hy (fun _=>cY rfl rfl)<|hy (fun _=>aa rfl)<| ?_
       have hL2:j=mi l i (i-(q+1)):=(by rw[←hL,lf (fun e=>g3 (by rw[e.2]))])
       subst hL2
       refine eN 57 rfl (fun h3=> ?_) (fun h3=> ?_)
       ·refine dU (o:=_) rfl rfl rfl (fun _=>aa rfl)<|dU (o:=_) rfl rfl rfl (fun _=>aH rfl lr (by decide))<|dU (o:=_) rfl rfl rfl (fun m=>aw rfl fS (aA (m.aZ 0 rfl) rfl))<|dU (o:=_) rfl rfl rfl (fun _=>cY rfl rfl)<|hy (fun _=>bX rfl rfl)<|ai<|al (ρ' :=[(62,_),(52,_),(7,_),(23,_),(6,_),(15,_),(5,_),(4,_),(0,_),(1,_)]) ⟨rfl,rfl,rfl,rfl,rfl,rfl,rfl,rfl,rfl,rfl,trivial⟩<|ag<| ?_
        refine cD rfl (fun h4=> ?_) (fun h4=> ?_)
        ·refine aj<|hy (fun _=>aa rfl)<|hy (fun _=>aa rfl)<|hy (fun _=>cy rL rfl rfl (by kernel_rfl) (.cons (o:=0) (sz:=1) (by kernel_rfl) rfl rfl (Nat.le_of_ble_eq_true rfl) (.cons (o:=1) (sz:=1) (by kernel_rfl) rfl rfl (Nat.le_of_ble_eq_true rfl) .nil)))<| ?_
         refine cJ (aK 0 rfl rfl rfl lW rfl (nN (s:=(mi l i (i-(q+1)),q+1))) rfl ?_)
         have hst:mv (mi l i (i-(q+1)),q+1)=mv (cp l i (q+1)):=by
          rw[dJ]
          unfold gF
          rw[if_pos ⟨by omega,by omega⟩]
         refine aT (fun w m=>m.bQ 0 rfl (show _=aL g5 298 (mv (cp l i (q+1)))from congrArg (aL g5 _) hst)) ?_
         refine ai<|al (ρ' :=[(62,_),(52,_),(7,_),(23,_),(6,_),(15,_),(5,_),(4,_),(0,_),(1,_)]) ⟨rfl,rfl,rfl,rfl,rfl,rfl,rfl,rfl,rfl,rfl,trivial⟩<|ak (X' :=[_,_]) (S' :=[_]) (fun _ m=>m)<|aM<|ag<|aj<|hy (fun _=>aa rfl)<|hy (fun _=>aN rfl rfl (bC (by omega) (by omega)))<|hy (fun _=>ab rfl)<|ai<|al (ρ' :=[(6,_),(62,_),(52,_),(7,_),(23,_),(15,_),(5,_),(4,_),(0,_),(1,_)]) ⟨rfl,rfl,rfl,rfl,rfl,rfl,rfl,rfl,rfl,rfl,trivial⟩<| ?_
         refine cR (q+1) ⟨rfl,rfl,rfl,rfl,rfl,rfl,trivial⟩ [0,0] rfl [0] rfl ((by omega)) (by omega)
        ·have hst:mv (cp l i q)=mv (cp l i (q+1)):=by
          rw[dJ]
          unfold gF
          rw[if_neg (fun h=>by omega)]
         refine aC<|aM<|ag<|aj<|hy (fun _=>aa rfl)<|hy (fun _=>aN rfl rfl (bC (by omega) (by omega)))<|hy (fun _=>ab rfl)<|ai<|al (ρ' :=[(6,_),(62,_),(52,_),(7,_),(23,_),(15,_),(5,_),(4,_),(0,_),(1,_)]) ⟨rfl,rfl,rfl,rfl,rfl,rfl,rfl,rfl,rfl,rfl,trivial⟩<| ?_
         refine ak (fun w m=>m.bQ 0 rfl (show _=aL g5 298 (mv (cp l i (q+1)))from congrArg (aL g5 _) hst)) ?_
         refine cR (q+1) ⟨rfl,rfl,rfl,rfl,rfl,rfl,trivial⟩ [0,0] rfl [0] rfl ((by omega)) (by omega)
       ·have hst:mv (cp l i q)=mv (cp l i (q+1)):=by
         rw[dJ]
         unfold gF
         rw[if_neg (fun h=>by omega)]
        refine bD rfl rfl rfl (by decide)<|bD rfl rfl rfl (by decide)<|bD rfl rfl rfl (by decide)<|bD rfl rfl rfl (by decide)<|hy (fun _=>bP rfl rfl)<|ai<|al (ρ' :=[(62,_),(52,_),(7,_),(23,_),(6,_),(15,_),(5,_),(4,_),(0,_),(1,_)]) ⟨rfl,rfl,rfl,rfl,rfl,rfl,rfl,rfl,rfl,rfl,trivial⟩<|ag<| ?_
        refine dL rfl (rfl) ?_
        refine aC<|aM<|ag<|aj<|hy (fun _=>aa rfl)<|hy (fun _=>aN rfl rfl (bC (by omega) (by omega)))<|hy (fun _=>ab rfl)<|ai<|al (ρ' :=[(6,_),(62,_),(52,_),(7,_),(23,_),(15,_),(5,_),(4,_),(0,_),(1,_)]) ⟨rfl,rfl,rfl,rfl,rfl,rfl,rfl,rfl,rfl,rfl,trivial⟩<| ?_
        refine ak (fun w m=>m.bQ 0 rfl (show _=aL g5 298 (mv (cp l i (q+1)))from congrArg (aL g5 _) hst)) ?_
        refine cR (q+1) ⟨rfl,rfl,rfl,rfl,rfl,rfl,trivial⟩ [0,0] rfl [0] rfl ((by omega)) (by omega)
     ·refine aV rfl rfl rfl (by decide)<|aV rfl rfl rfl (by decide)<|aV rfl rfl rfl (by decide)<|aV rfl rfl rfl (by decide)<|aV rfl rfl rfl (by decide)<|aV rfl rfl rfl (by decide)<|aV rfl rfl rfl (by decide)<|aV rfl rfl rfl (by decide)<|aV rfl rfl rfl (by decide)<|aV rfl rfl rfl (by decide)<|aV rfl rfl rfl (by decide)<|aV rfl rfl rfl (by decide)<|aV rfl rfl rfl (by decide)<|aV rfl rfl rfl (by decide)<|aV rfl rfl rfl (by decide)<|an (bP rfl rfl)<|br<|al (ρ' :=[(52,_),(7,_),(23,_),(6,_),(15,_),(5,_),(4,_),(0,_),(1,_)]) ⟨rfl,rfl,rfl,rfl,rfl,rfl,rfl,rfl,rfl,trivial⟩<|ag<| ?_
      refine dL rfl (rfl) ?_
      refine bK<|ao<|ao<|aB<|ag<|ah<|aj<|hy (fun _=>aa rfl)<|hy (fun _=>cY rfl rfl)<|hy (fun _=>aa rfl)<| ?_
      have hL2:j=mi l i (i-(q+1)):=(by rw[←hL,show 131-j=0 by omega];rfl)
      subst hL2
      refine eN 57 rfl (fun h3=> ?_) (fun h3=> ?_)
      ·refine dU (o:=_) rfl rfl rfl (fun _=>aa rfl)<|dU (o:=_) rfl rfl rfl (fun _=>aH rfl lr (by decide))<|dU (o:=_) rfl rfl rfl (fun m=>aw rfl fS (aA (m.aZ 0 rfl) rfl))<|dU (o:=_) rfl rfl rfl (fun _=>cY rfl rfl)<|hy (fun _=>bX rfl rfl)<|ai<|al (ρ' :=[(62,_),(52,_),(7,_),(23,_),(6,_),(15,_),(5,_),(4,_),(0,_),(1,_)]) ⟨rfl,rfl,rfl,rfl,rfl,rfl,rfl,rfl,rfl,rfl,trivial⟩<|ag<| ?_
       refine cD rfl (fun h4=> ?_) (fun h4=> ?_)
       ·refine aj<|hy (fun _=>aa rfl)<|hy (fun _=>aa rfl)<|hy (fun _=>cy rL rfl rfl (by kernel_rfl) (.cons (o:=0) (sz:=1) (by kernel_rfl) rfl rfl (Nat.le_of_ble_eq_true rfl) (.cons (o:=1) (sz:=1) (by kernel_rfl) rfl rfl (Nat.le_of_ble_eq_true rfl) .nil)))<| ?_
        refine cJ (aK 0 rfl rfl rfl lW rfl (nN (s:=(mi l i (i-(q+1)),q+1))) rfl ?_)
        have hst:mv (mi l i (i-(q+1)),q+1)=mv (cp l i (q+1)):=by
         rw[dJ]
         unfold gF
         rw[if_pos ⟨by omega,by omega⟩]
        refine aT (fun w m=>m.bQ 0 rfl (show _=aL g5 298 (mv (cp l i (q+1)))from congrArg (aL g5 _) hst)) ?_
        refine ai<|al (ρ' :=[(62,_),(52,_),(7,_),(23,_),(6,_),(15,_),(5,_),(4,_),(0,_),(1,_)]) ⟨rfl,rfl,rfl,rfl,rfl,rfl,rfl,rfl,rfl,rfl,trivial⟩<|ak (X' :=[_,_]) (S' :=[_]) (fun _ m=>m)<|aM<|ag<|aj<|hy (fun _=>aa rfl)<|hy (fun _=>aN rfl rfl (bC (by omega) (by omega)))<|hy (fun _=>ab rfl)<|ai<|al (ρ' :=[(6,_),(62,_),(52,_),(7,_),(23,_),(15,_),(5,_),(4,_),(0,_),(1,_)]) ⟨rfl,rfl,rfl,rfl,rfl,rfl,rfl,rfl,rfl,rfl,trivial⟩<| ?_
        refine cR (q+1) ⟨rfl,rfl,rfl,rfl,rfl,rfl,trivial⟩ [0,0] rfl [0] rfl ((by omega)) (by omega)
       ·have hst:mv (cp l i q)=mv (cp l i (q+1)):=by
         rw[dJ]
         unfold gF
         rw[if_neg (fun h=>by omega)]
        refine aC<|aM<|ag<|aj<|hy (fun _=>aa rfl)<|hy (fun _=>aN rfl rfl (bC (by omega) (by omega)))<|hy (fun _=>ab rfl)<|ai<|al (ρ' :=[(6,_),(62,_),(52,_),(7,_),(23,_),(15,_),(5,_),(4,_),(0,_),(1,_)]) ⟨rfl,rfl,rfl,rfl,rfl,rfl,rfl,rfl,rfl,rfl,trivial⟩<| ?_
        refine ak (fun w m=>m.bQ 0 rfl (show _=aL g5 298 (mv (cp l i (q+1)))from congrArg (aL g5 _) hst)) ?_
        refine cR (q+1) ⟨rfl,rfl,rfl,rfl,rfl,rfl,trivial⟩ [0,0] rfl [0] rfl ((by omega)) (by omega)
      ·have hst:mv (cp l i q)=mv (cp l i (q+1)):=by
        rw[dJ]
        unfold gF
        rw[if_neg (fun h=>by omega)]
       refine bD rfl rfl rfl (by decide)<|bD rfl rfl rfl (by decide)<|bD rfl rfl rfl (by decide)<|bD rfl rfl rfl (by decide)<|hy (fun _=>bP rfl rfl)<|ai<|al (ρ' :=[(62,_),(52,_),(7,_),(23,_),(6,_),(15,_),(5,_),(4,_),(0,_),(1,_)]) ⟨rfl,rfl,rfl,rfl,rfl,rfl,rfl,rfl,rfl,rfl,trivial⟩<|ag<| ?_
       refine dL rfl (rfl) ?_
       refine aC<|aM<|ag<|aj<|hy (fun _=>aa rfl)<|hy (fun _=>aN rfl rfl (bC (by omega) (by omega)))<|hy (fun _=>ab rfl)<|ai<|al (ρ' :=[(6,_),(62,_),(52,_),(7,_),(23,_),(15,_),(5,_),(4,_),(0,_),(1,_)]) ⟨rfl,rfl,rfl,rfl,rfl,rfl,rfl,rfl,rfl,rfl,trivial⟩<| ?_
       refine ak (fun w m=>m.bQ 0 rfl (show _=aL g5 298 (mv (cp l i (q+1)))from congrArg (aL g5 _) hst)) ?_
       refine cR (q+1) ⟨rfl,rfl,rfl,rfl,rfl,rfl,trivial⟩ [0,0] rfl [0] rfl ((by omega)) (by omega)
    ·refine aV rfl rfl rfl (by decide)<|aV rfl rfl rfl (by decide)<|an (bP rfl rfl)<|an (aa rfl)<| ?_
     refine aV rfl rfl rfl (by decide)<|aV rfl rfl rfl (by decide)<|aV rfl rfl rfl (by decide)<|aV rfl rfl rfl (by decide)<|aV rfl rfl rfl (by decide)<|aV rfl rfl rfl (by decide)<|aV rfl rfl rfl (by decide)<|aV rfl rfl rfl (by decide)<|aV rfl rfl rfl (by decide)<|aV rfl rfl rfl (by decide)<|aV rfl rfl rfl (by decide)<|aV rfl rfl rfl (by decide)<|aV rfl rfl rfl (by decide)<|aV rfl rfl rfl (by decide)<|aV rfl rfl rfl (by decide)<|an (bP rfl rfl)<|br<|al (ρ' :=[(52,_),(7,_),(23,_),(6,_),(15,_),(5,_),(4,_),(0,_),(1,_)]) ⟨rfl,rfl,rfl,rfl,rfl,rfl,rfl,rfl,rfl,trivial⟩<|ag<| ?_
     refine dL rfl (rfl) ?_
     refine bK<|ao<|ao<|aB<|ag<|ah<|aj<|hy (fun _=>aa rfl)<|hy (fun _=>cY rfl rfl)<|hy (fun _=>aa rfl)<| ?_
     have hL2:j=mi l i (i-(q+1)):=(by rw[←hL,lf (fun e=>g1 (by omega))])
     subst hL2
     refine eN 57 rfl (fun h3=> ?_) (fun h3=> ?_)
     ·refine dU (o:=_) rfl rfl rfl (fun _=>aa rfl)<|dU (o:=_) rfl rfl rfl (fun _=>aH rfl lr (by decide))<|dU (o:=_) rfl rfl rfl (fun m=>aw rfl fS (aA (m.aZ 0 rfl) rfl))<|dU (o:=_) rfl rfl rfl (fun _=>cY rfl rfl)<|hy (fun _=>bX rfl rfl)<|ai<|al (ρ' :=[(62,_),(52,_),(7,_),(23,_),(6,_),(15,_),(5,_),(4,_),(0,_),(1,_)]) ⟨rfl,rfl,rfl,rfl,rfl,rfl,rfl,rfl,rfl,rfl,trivial⟩<|ag<| ?_
      refine cD rfl (fun h4=> ?_) (fun h4=> ?_)
      ·refine aj<|hy (fun _=>aa rfl)<|hy (fun _=>aa rfl)<|hy (fun _=>cy rL rfl rfl (by kernel_rfl) (.cons (o:=0) (sz:=1) (by kernel_rfl) rfl rfl (Nat.le_of_ble_eq_true rfl) (.cons (o:=1) (sz:=1) (by kernel_rfl) rfl rfl (Nat.le_of_ble_eq_true rfl) .nil)))<| ?_
       refine cJ (aK 0 rfl rfl rfl lW rfl (nN (s:=(mi l i (i-(q+1)),q+1))) rfl ?_)
       have hst:mv (mi l i (i-(q+1)),q+1)=mv (cp l i (q+1)):=by
        rw[dJ]
        unfold gF
        rw[if_pos ⟨by omega,by omega⟩]
       refine aT (fun w m=>m.bQ 0 rfl (show _=aL g5 298 (mv (cp l i (q+1)))from congrArg (aL g5 _) hst)) ?_
       refine ai<|al (ρ' :=[(62,_),(52,_),(7,_),(23,_),(6,_),(15,_),(5,_),(4,_),(0,_),(1,_)]) ⟨rfl,rfl,rfl,rfl,rfl,rfl,rfl,rfl,rfl,rfl,trivial⟩<|ak (X' :=[_,_]) (S' :=[_]) (fun _ m=>m)<|aM<|ag<|aj<|hy (fun _=>aa rfl)<|hy (fun _=>aN rfl rfl (bC (by omega) (by omega)))<|hy (fun _=>ab rfl)<|ai<|al (ρ' :=[(6,_),(62,_),(52,_),(7,_),(23,_),(15,_),(5,_),(4,_),(0,_),(1,_)]) ⟨rfl,rfl,rfl,rfl,rfl,rfl,rfl,rfl,rfl,rfl,trivial⟩<| ?_
       refine cR (q+1) ⟨rfl,rfl,rfl,rfl,rfl,rfl,trivial⟩ [0,0] rfl [0] rfl ((by omega)) (by omega)
      ·have hst:mv (cp l i q)=mv (cp l i (q+1)):=by
        rw[dJ]
        unfold gF
        rw[if_neg (fun h=>by omega)]
       refine aC<|aM<|ag<|aj<|hy (fun _=>aa rfl)<|hy (fun _=>aN rfl rfl (bC (by omega) (by omega)))<|hy (fun _=>ab rfl)<|ai<|al (ρ' :=[(6,_),(62,_),(52,_),(7,_),(23,_),(15,_),(5,_),(4,_),(0,_),(1,_)]) ⟨rfl,rfl,rfl,rfl,rfl,rfl,rfl,rfl,rfl,rfl,trivial⟩<| ?_
       refine ak (fun w m=>m.bQ 0 rfl (show _=aL g5 298 (mv (cp l i (q+1)))from congrArg (aL g5 _) hst)) ?_
       refine cR (q+1) ⟨rfl,rfl,rfl,rfl,rfl,rfl,trivial⟩ [0,0] rfl [0] rfl ((by omega)) (by omega)
     ·have hst:mv (cp l i q)=mv (cp l i (q+1)):=by
       rw[dJ]
       unfold gF
       rw[if_neg (fun h=>by omega)]
      refine bD rfl rfl rfl (by decide)<|bD rfl rfl rfl (by decide)<|bD rfl rfl rfl (by decide)<|bD rfl rfl rfl (by decide)<|hy (fun _=>bP rfl rfl)<|ai<|al (ρ' :=[(62,_),(52,_),(7,_),(23,_),(6,_),(15,_),(5,_),(4,_),(0,_),(1,_)]) ⟨rfl,rfl,rfl,rfl,rfl,rfl,rfl,rfl,rfl,rfl,trivial⟩<|ag<| ?_
      refine dL rfl (rfl) ?_
      refine aC<|aM<|ag<|aj<|hy (fun _=>aa rfl)<|hy (fun _=>aN rfl rfl (bC (by omega) (by omega)))<|hy (fun _=>ab rfl)<|ai<|al (ρ' :=[(6,_),(62,_),(52,_),(7,_),(23,_),(15,_),(5,_),(4,_),(0,_),(1,_)]) ⟨rfl,rfl,rfl,rfl,rfl,rfl,rfl,rfl,rfl,rfl,trivial⟩<| ?_
      refine ak (fun w m=>m.bQ 0 rfl (show _=aL g5 298 (mv (cp l i (q+1)))from congrArg (aL g5 _) hst)) ?_
      refine cR (q+1) ⟨rfl,rfl,rfl,rfl,rfl,rfl,trivial⟩ [0,0] rfl [0] rfl ((by omega)) (by omega)
   ·have hq:q=min i 1024:=by omega
    subst hq
    refine bK<|ao<|ao<|aB<|ag<|ah<|aj<|hy (fun m=>a6 rfl w8 lW rfl ((m.aZ 0 rfl).az))<| ?_
    refine cJ (aK 1 rfl rfl rfl lW rfl nN rfl ?_)
    refine ai<|al (ρ' :=[(23,_),(6,_),(15,_),(5,_),(4,_),(0,_),(1,_)]) ⟨rfl,rfl,rfl,rfl,rfl,rfl,rfl,trivial⟩<|ak (X' :=[_,_]) (S' :=[_]) (fun _ m=>m)<|ag<|aX<| ?_
    exact fx trivial rfl rfl w8 lW rfl (fun m=>(m.aZ 0 rfl).az) [] rfl [] rfl ⟨rfl,rfl,rfl⟩
  ·refine bD rfl rfl rfl (by decide)<|bD rfl rfl rfl (by decide)<|hy (fun _=>bP rfl rfl)<|ai<|al (ρ' :=[(23,_),(6,_),(15,_),(5,_),(4,_),(0,_),(1,_)]) ⟨rfl,rfl,rfl,rfl,rfl,rfl,rfl,trivial⟩<|ag<| ?_
   refine dL rfl (rfl) ?_
   have hq:q=min i 1024:=by omega
   subst hq
   refine bK<|ao<|ao<|aB<|ag<|ah<|aj<|hy (fun m=>a6 rfl w8 lW rfl ((m.aZ 0 rfl).az))<| ?_
   refine cJ (aK 1 rfl rfl rfl lW rfl nN rfl ?_)
   refine ai<|al (ρ' :=[(23,_),(6,_),(15,_),(5,_),(4,_),(0,_),(1,_)]) ⟨rfl,rfl,rfl,rfl,rfl,rfl,rfl,trivial⟩<|ak (X' :=[_,_]) (S' :=[_]) (fun _ m=>m)<|ag<|aX<| ?_
   exact fx trivial rfl rfl w8 lW rfl (fun m=>(m.aZ 0 rfl).az) [] rfl [] rfl ⟨rfl,rfl,rfl⟩
theorem Db{A:Option Addr}{n c:Nat}{l:List UInt8}(hc:n≤c)(hn:n≤500000000)(hl:l.length=n):cj Tryz.prog 219 [.slice A n c] [] [cV 1 A n (aR l)] (fun v_ X_ S_=>∃v,v_=v∧X_=[aG 5 1 v (ey l).length (aR (ey l))]∧S_=[]):=by
 refine aQ (N:=31) Tryz.func219 rfl rfl (by simp) fun b=> ?_
 refine aY (fun m=>ig (m.rd 0 rfl)) ?_
 rintro⟨hl_r,hA_r⟩
 refine ah<|aj<|hy (fun _=>ab rfl)<|ai<|ag<|ah<|aj<|hy (fun _=>ab rfl)<|ai<|ag<|ah<|ah<|aj<|hy (fun _=>ab rfl)<|ai<|ag<|aI<| ?_
 refine bw (fun w m=>m.dG (r' :=aG 5 1 (.slice none 0 0) 0 []) (.refl _ _) (Own.nil _ _ _ _) (fun k hk=>hk.elim)) ?_
 refine kZ (fun i o A3 c3=>n-i) (fun i o A3 c3=>[(3,.slice A3 o.length c3),(4,.int .i64 (i:Nat))]) (fun i o A3 c3=>[aG 5 1 (.slice A3 o.length c3) o.length (aR o)]) (fun i o A3 c3=>[]) (fun i o A3 c3=>i≤n+128∧o.length≤2*i∧o++ey (l.drop i)=ey l) 0 [] none 0 [(2,_),(0,_)] ⟨rfl,rfl,trivial⟩ [0] rfl [] rfl (⟨by omega,by decide,rfl⟩) ⟨rfl,rfl,trivial⟩ (fun i o A3 c3 ⟨hin,hon,hE⟩=> ?_)
 refine ah<|ah<|aj<|hy (fun _=>aa rfl)<|hy (fun _=>aa rfl)<|hy (fun _=>aU rfl Tryz.underlying27)<|hy (fun _=>bu rfl rfl)<|ai<|al (ρ' :=[(9,_),(3,_),(4,_),(2,_),(0,_)]) ⟨rfl,rfl,rfl,rfl,rfl,trivial⟩<|ag<| ?_
 refine cD rfl (fun hi=> ?_) (fun hi=> ?_)
 ·obtain⟨k,hk⟩:∃k,k=min (n-i) 128:=⟨_,rfl⟩
  have hki:1≤k∧k≤128∧i+k≤n:=by omega
  have hdl:(l.drop i).length=n-i:=by rw[List.length_drop,hl]
  have hne:l.drop i≠ []:=fun e=>by rw[e]at hdl;simp at hdl;omega
  have htk:(l.drop i).take 128=(l.drop i).take k:=by
   rcases Nat.lt_or_ge (n-i) 128 with h|h
   ·rw[List.take_of_length_le (by omega),List.take_of_length_le (by omega)]
   ·rw[show k=128 by omega]
  rw[lg hne,hdl,←hk,htk,List.drop_drop]at hE
  refine bw (fun w m=>m.jN 0 rfl (View.sub (n:=n) (c:=c) (k:=i) (m:=k) (by omega) (by omega))) ?_
  refine aY (fun m=>ig (m.rd 0 rfl)) ?_
  rintro⟨hl_p,hA_p⟩
  refine aC<|ag<|ah<|aI<|ah<|aj<|hy (fun _=>aa rfl)<|hy (fun _=>aa rfl)<|hy (fun _=>aa rfl)<|hy (fun _=>aN rfl rfl (bC (by omega) (by omega)))<|hy (fun _=>aa rfl)<|hy (fun _=>aU rfl Tryz.underlying27)<|hy (fun _=>yV (wa rfl rfl) ((show Value.int .i64 _= .int .i64 ((i+k:Nat):Int) by congr 1;omega)))<|hy (fun _=>yV (eG rfl rfl rfl Tryz.underlying27 ek rfl rfl (by omega) (by omega)) ((show Value.slice (if c=i then A else A.map (·.add (i*1))) (i+k-i) (c-i)= .slice (if c=i then A else A.map (·.add (i*1))) k (c-i) by congr 1;omega)))<|hy (fun _=>ab rfl)<|ai<|al (ρ' :=[(5,_),(9,_),(3,_),(4,_),(2,_),(0,_)]) ⟨rfl,rfl,rfl,rfl,rfl,rfl,trivial⟩<|ag<|ah<|aj<|hy (fun _=>aa rfl)<|hy (fun _=>aa rfl)<|hy (fun _=>aU rfl Tryz.underlying27)<|hy (fun _=>yV (cw rfl rfl (bC (by omega) (by omega))) ((show Value.int .i64 ((k:Int)-1)= .int .i64 ((k-1:Nat):Int) by congr 1;omega)))<|hy (fun _=>yV (bW rfl Tryz.underlying3 Tryz.underlying5 (gS _)) ((show Value.int .u8 _=B8 (UInt8.ofNat (k-1))from rfl)))<| ?_
  refine hx (bY Tryz.underlying27 fb rfl rfl rfl (by simp[Value.cells,B8]) (by decide) (by decide) (fun g25=> ?_))
  have hA_b25:0<1→(some (⟨g25,0,none⟩:Addr))≠none:=fun _ h=>by cases h
  refine aT (fun w m=>m.bQ 0 rfl (show _=aG 5 1 (.slice (some ⟨g25,0,none⟩) 1 1) 1 (aR [UInt8.ofNat (k-1)])from rfl)) ?_
  refine hx (bL 1 rfl rfl rfl Tryz.underlying27 Tryz.underlying27 (by exact .inl rfl) fb rfl (fun m=>Src.b7 (m.ord 0 rfl)) aS (by unfold maxLen;omega) (by omega) (fun u=> ?_))
  refine aD (fun m=>(m.own 0 rfl).slice) ?_
  rintro⟨A_x,c_x,rfl,hc_x⟩
  refine aD (fun m=>(m.ord 0 rfl).2.1) fun hA_x=> ?_
  refine hy (fun _=>ab rfl)<|ai<|al (ρ' :=[(3,_),(5,_),(9,_),(4,_),(2,_),(0,_)]) ⟨rfl,rfl,rfl,rfl,rfl,rfl,trivial⟩<|ak (X' :=[_,_]) (S' :=[_,_]) (fun _ m=>m)<|ag<|aj<|hy (fun _=>aa rfl)<|hy (fun _=>aa rfl)<| ?_
  refine hx (bL 0 rfl rfl rfl Tryz.underlying27 Tryz.underlying27 (by exact .inl rfl) fb rfl (fun m=>Src.b7 (m.rd 0 rfl)) aS (by unfold maxLen;omega) (by omega) (fun u2=> ?_))
  refine aD (fun m=>(m.own 0 rfl).slice) ?_
  rintro⟨A_x2,c_x2,rfl,hc_x⟩
  refine aD (fun m=>(m.ord 0 rfl).2.1) fun hA_x=> ?_
  refine hy (fun _=>ab rfl)<|ai<|al (ρ' :=[(3,_),(5,_),(9,_),(4,_),(2,_),(0,_)]) ⟨rfl,rfl,rfl,rfl,rfl,rfl,trivial⟩<|ak (X' :=[_,_]) (S' :=[_,_]) (fun _ m=>m)<|aM<|ag<|aj<|hy (fun _=>aa rfl)<|hy (fun _=>aN rfl rfl (bC (by omega) (by omega)))<|hy (fun _=>ab rfl)<|ai<|al (ρ' :=[(4,_),(3,_),(5,_),(9,_),(2,_),(0,_)]) ⟨rfl,rfl,rfl,rfl,rfl,rfl,trivial⟩<| ?_
  have hol:o.length+1+k=(o++(UInt8.ofNat (k-1)::(l.drop i).take k)).length:=by simp;omega
  rw[hol]
  refine ak (fun w m=>m.bQ 0 rfl (show _=aG 5 1 (.slice A_x2 (o++(UInt8.ofNat (k-1)::(l.drop i).take k)).length c_x2) (o++(UInt8.ofNat (k-1)::(l.drop i).take k)).length (aR (o++(UInt8.ofNat (k-1)::(l.drop i).take k)))from congrArg (aG _ _ _ _) (show aR o++aR [UInt8.ofNat (k-1)]++aR ((l.drop i).take k)=_ by rw[←bx,←bx,List.append_assoc];rfl))) ?_
  refine gN (i+128) (o++(UInt8.ofNat (k-1)::(l.drop i).take k)) _ _ ⟨rfl,rfl,rfl,rfl,trivial⟩ [0] rfl [1] rfl (⟨by omega,by rw[←hol];omega,by rw[←hE];simp⟩) (by omega)
 ·rw[List.drop_of_length_le (by omega),np,List.append_nil]at hE
  subst hE
  refine bK<|ao<|ao<|aB<|ag<|ah<|aj<|hy (fun _=>aa rfl)<|hy (fun _=>ab rfl)<|ai<|al (ρ' :=[(2,_),(9,_),(3,_),(4,_),(0,_)]) ⟨rfl,rfl,rfl,rfl,rfl,trivial⟩<|ag<|aX<| ?_
  exact bf trivial rfl rfl [0] rfl [] rfl ⟨_,rfl,rfl,rfl⟩
theorem EK{A:Option Addr}{n c:Nat}{l:List UInt8}(hc:n≤c)(hn:n≤500000000)(hl:l.length=n):cj Tryz.prog 159 [.slice A n c] [] [cV 1 A n (aR l)] (fun v_ X_ S_=>∃v,v_=v∧X_=[aG 5 1 v (eD l).length (aR (eD l))]∧S_=[]):=by
 refine aQ (N:=54) Tryz.func159 rfl rfl (by simp) fun b=> ?_
 refine aY (fun m=>ig (m.rd 0 rfl)) ?_
 rintro⟨hl_r,hA_r⟩
 refine ah<|aj<|hy (fun _=>ab rfl)<|ai<|ag<|ah<|aj<|hy (fun _=>ab rfl)<|ai<|ag<|ah<|aj<|hy (fun _=>ab rfl)<|ai<|ag<|ah<|aj<|hy (fun _=>ab rfl)<|ai<|ag<|ah<|aI<| ?_
 refine bw (fun w m=>m.dG (r' :=aG 5 1 (.slice none 0 0) 0 []) (.refl _ _) (Own.nil _ _ _ _) (fun k hk=>hk.elim)) ?_
 refine uV (fun i f o A3 c3=>n-i) (fun i f o A3 c3=>[(3,.slice A3 o.length c3),(4,.int .i64 (f:Nat)),(5,.int .i64 (i:Nat))]) (fun i f o A3 c3=>[aG 5 1 (.slice A3 o.length c3) o.length (aR o)]) (fun i f o A3 c3=>[]) (fun i f o A3 c3=>i≤n∧f≤i∧o.length+2*(i-f)≤2*i∧gJ l i ((l.drop f).take (i-f)) o=eD l) 0 0 [] none 0 [(2,_),(0,_)] ⟨rfl,rfl,trivial⟩ [0] rfl [] rfl (⟨by omega,by decide,by decide,rfl⟩) ⟨rfl,rfl,rfl,trivial⟩ (fun i f o A3 c3 ⟨hin,hfi,hon,hE⟩=> ?_)
 have hown:((l.drop f).take (i-f)).length=i-f:=by rw[List.length_take,List.length_drop];omega
 refine ah<|ah<|aj<|hy (fun _=>aa rfl)<|hy (fun _=>aa rfl)<|hy (fun _=>aU rfl Tryz.underlying27)<|hy (fun _=>bu rfl rfl)<|ai<|al (ρ' :=[(10,_),(3,_),(4,_),(5,_),(2,_),(0,_)]) ⟨rfl,rfl,rfl,rfl,rfl,rfl,trivial⟩<|ag<| ?_
 refine cD rfl (fun hi=> ?_) (fun hi=> ?_)
 ·refine aC<|ag<|aI<|ah<|aj<|hy (fun _=>aa rfl)<|hy (fun _=>aa rfl)<| ?_
  refine hx (aq rfl Tryz.call218 (CV (by omega) hl (by omega)) [] rfl [0] rfl ?_)
  rintro _ _ _ ⟨rfl,rfl,rfl⟩
  refine hx (aP rL (fun g6=> ?_))
  refine cJ (aK 0 rfl rfl rfl lW rfl nN rfl ?_)
  refine ai<|al (ρ' :=[(6,_),(10,_),(3,_),(4,_),(5,_),(2,_),(0,_)]) ⟨rfl,rfl,rfl,rfl,rfl,rfl,rfl,trivial⟩<|ak (X' :=[_,_]) (S' :=[_]) (fun _ m=>m)<|ag<|ah<|ah<|aj<|hy (fun _=>aH rfl lr (by decide))<|hy (fun m=>aw rfl fS (aA (m.aZ 0 rfl) rfl))<|hy (fun _=>cM rfl rfl)<|ai<|al (ρ' :=[(16,_),(6,_),(10,_),(3,_),(4,_),(5,_),(2,_),(0,_)]) ⟨rfl,rfl,rfl,rfl,rfl,rfl,rfl,rfl,trivial⟩<|ag<| ?_
  refine cD rfl (fun h0=> ?_) (fun h0=> ?_)
  ·rw[ly (by omega) (by omega)]at hE
   have hsn:(l.drop f).take (i-f)++[l.getD i 0]=(l.drop f).take (i+1-f):=by
    rw[show i+1-f=(i-f)+1 by omega,eU (by rw[List.length_drop];omega)]
    congr 2
    simp only[List.getD,List.getElem?_drop]
    rw[show f+(i-f)=i by omega]
   rw[hsn]at hE
   refine ah<|aj<|hy (fun _=>aa rfl)<|hy (fun _=>aN rfl rfl (bC (by omega) (by omega)))<|hy (fun _=>ab rfl)<|ai<|al (ρ' :=[(5,_),(16,_),(6,_),(10,_),(3,_),(4,_),(2,_),(0,_)]) ⟨rfl,rfl,rfl,rfl,rfl,rfl,rfl,rfl,trivial⟩<|ag<|bK<|ao<|aB<| ?_
   refine pz (i+1) f o A3 c3 ⟨rfl,rfl,rfl,rfl,rfl,trivial⟩ [1] rfl [0] rfl (⟨by omega,by omega,by omega,hE⟩) (by omega)
  ·have hm:=lF (b:=l) (i:=i) (by omega)
   rw[iZ (by omega) (by omega)]at hE
   obtain⟨m1,m2,m3,m4,m5,m6⟩:=hm.resolve_left (fun e=>h0 (by rw[e];rfl))
   have hll:=fz ((l.drop f).take (i-f))
   refine bw (fun w m=>m.jN 0 rfl (View.sub (n:=n) (c:=c) (k:=f) (m:=i-f) (by omega) (by omega))) ?_
   refine aY (fun m=>ig (m.rd 0 rfl)) ?_
   rintro⟨hl_p,hA_p⟩
   refine aC<|ag<|ah<|aj<|hy (fun _=>aa rfl)<|hy (fun _=>aa rfl)<|hy (fun _=>aa rfl)<|hy (fun _=>aa rfl)<|hy (fun _=>eG rfl rfl rfl Tryz.underlying27 ek rfl rfl (by omega) (by omega))<| ?_
   refine hx (aq rfl Tryz.call219 (Db (by omega) (by omega) hown) [] rfl [0] rfl ?_)
   rintro _ _ _ ⟨v,rfl,rfl,rfl⟩
   refine aD (fun m=>(m.own 0 rfl).slice) ?_
   rintro⟨A_x2,c_x2,rfl,hc_x2⟩
   refine aD (fun m=>(m.ord 0 rfl).2.1) fun hA_x2=> ?_
   refine hx (bL 2 rfl rfl rfl Tryz.underlying27 Tryz.underlying27 (by exact .inl rfl) fb rfl (fun m=>Src.b7 (m.ord 0 rfl)) aS (by unfold maxLen;omega) (by omega) (fun u=> ?_))
   refine aD (fun m=>(m.own 0 rfl).slice) ?_
   rintro⟨A_x,c_x,rfl,hc_x⟩
   refine aD (fun m=>(m.ord 0 rfl).2.1) fun hA_x=> ?_
   generalize hLL:ey ((l.drop f).take (i-f))=L at hE hll ⊢
   refine hy (fun _=>ab rfl)<|ai<|al (ρ' :=[(3,_),(16,_),(6,_),(10,_),(4,_),(5,_),(2,_),(0,_)]) ⟨rfl,rfl,rfl,rfl,rfl,rfl,rfl,rfl,trivial⟩<|ak (X' :=[_,_,_]) (S' :=[_,_]) (fun _ m=>m)<|ag<|ah<|aj<|hy (fun _=>aa rfl)<|hy (fun _=>aH rfl lr (by decide))<|hy (fun m=>aw rfl fS (aA (m.aZ 2 rfl) rfl))<|hy (fun _=>yV (aN rfl rfl (bC (by omega) (by omega))) ((show Value.int .i64 (124+((aW l i).1:Int))= .int .i64 ((124+(aW l i).1:Nat):Int) by congr 1)))<|hy (fun _=>yV (bW rfl Tryz.underlying3 Tryz.underlying5 (gS _)) ((show Value.int .u8 _=B8 (UInt8.ofNat (124+(aW l i).1))from rfl)))<|hy (fun _=>aH rfl wM (by decide))<|hy (fun m=>aw rfl fS (aA (m.aZ 2 rfl) rfl))<|hy (fun _=>yV (cw rfl rfl (bC (by omega) (by omega))) ((show Value.int .i64 (((aW l i).2:Int)-1)= .int .i64 (((aW l i).2-1:Nat):Int) by congr 1;omega)))<|hy (fun _=>yV (gU rfl rfl (by omega) (by omega)) ((show Value.int .i64 ((((aW l i).2-1:Nat):Int) % 256)= .int .i64 ((((aW l i).2-1) % 256:Nat):Int) by congr 1)))<|hy (fun _=>yV (bW rfl Tryz.underlying3 Tryz.underlying5 (gS _)) ((show Value.int .u8 _=B8 (UInt8.ofNat (((aW l i).2-1) % 256))from rfl)))<|hy (fun _=>aH rfl wM (by decide))<|hy (fun m=>aw rfl fS (aA (m.aZ 2 rfl) rfl))<|hy (fun _=>yV (cw rfl rfl (bC (by omega) (by omega))) ((show Value.int .i64 (((aW l i).2:Int)-1)= .int .i64 (((aW l i).2-1:Nat):Int) by congr 1;omega)))<|hy (fun _=>yV (jF rfl rfl (by omega) (by omega) (bC (by omega) (by omega))) ((show Value.int .i64 ((((aW l i).2-1:Nat):Int)/256)= .int .i64 ((((aW l i).2-1)/256:Nat):Int) by congr 1)))<|hy (fun _=>yV (bW rfl Tryz.underlying3 Tryz.underlying5 (gS _)) ((show Value.int .u8 _=B8 (UInt8.ofNat (((aW l i).2-1)/256))from rfl)))<| ?_
   refine hx (bY Tryz.underlying27 fb rfl rfl rfl (by simp[Value.cells,B8]) (by decide) (by decide) (fun g41=> ?_))
   have hA_b41:0<3→(some (⟨g41,0,none⟩:Addr))≠none:=fun _ h=>by cases h
   have htm:[UInt8.ofNat (124+(aW l i).1),UInt8.ofNat (((aW l i).2-1) % 256),UInt8.ofNat (((aW l i).2-1)/256)]=gk (aW l i):=by
    unfold gk
    congr 2
    exact UInt8.toNat_inj.1 (by rw[UInt8.toNat_ofNat',UInt8.toNat_ofNat'];omega)
   refine aT (fun w m=>m.bQ 0 rfl (show _=aG 5 1 (.slice (some ⟨g41,0,none⟩) 3 3) 3 (aR (gk (aW l i)))from congrArg (aG _ _ _ _) (show aR [UInt8.ofNat (124+(aW l i).1),UInt8.ofNat (((aW l i).2-1) % 256),UInt8.ofNat (((aW l i).2-1)/256)]=_ by rw[htm]))) ?_
   refine hx (bL 1 rfl rfl rfl Tryz.underlying27 Tryz.underlying27 (by exact .inl rfl) fb rfl (fun m=>Src.b7 (m.ord 0 rfl)) aS (by unfold maxLen;omega) (by omega) (fun u2=> ?_))
   refine aD (fun m=>(m.own 0 rfl).slice) ?_
   rintro⟨A_x3,c_x3,rfl,hc_x⟩
   refine aD (fun m=>(m.ord 0 rfl).2.1) fun hA_x=> ?_
   refine hy (fun _=>ab rfl)<|ai<|al (ρ' :=[(3,_),(16,_),(6,_),(10,_),(4,_),(5,_),(2,_),(0,_)]) ⟨rfl,rfl,rfl,rfl,rfl,rfl,rfl,rfl,trivial⟩<|ak (X' :=[_,_,_,_]) (S' :=[_,_]) (fun _ m=>m)<|ag<|ah<|aj<|hy (fun _=>aa rfl)<|hy (fun _=>aH rfl lr (by decide))<|hy (fun m=>aw rfl fS (aA (m.aZ 3 rfl) rfl))<|hy (fun _=>yV (aN rfl rfl (bC (by omega) (by omega))) ((show Value.int .i64 ((i:Int)+((aW l i).1:Int))= .int .i64 ((i+(aW l i).1:Nat):Int) by congr 1)))<|hy (fun _=>ab rfl)<|ai<|al (ρ' :=[(5,_),(3,_),(16,_),(6,_),(10,_),(4,_),(2,_),(0,_)]) ⟨rfl,rfl,rfl,rfl,rfl,rfl,rfl,rfl,trivial⟩<|ag<|aj<|hy (fun _=>aa rfl)<|hy (fun _=>ab rfl)<|ai<|al (ρ' :=[(4,_),(5,_),(3,_),(16,_),(6,_),(10,_),(2,_),(0,_)]) ⟨rfl,rfl,rfl,rfl,rfl,rfl,rfl,rfl,trivial⟩<|aM<| ?_
   have hol:o.length+L.length+3=(o++L++gk (aW l i)).length:=by simp[gk];omega
   rw[hol]
   refine ak (fun w m=>m.bQ 0 rfl (show _=aG 5 1 (.slice A_x3 (o++L++gk (aW l i)).length c_x3) (o++L++gk (aW l i)).length (aR (o++L++gk (aW l i)))from congrArg (aG _ _ _ _) (show aR o++aR L++aR (gk (aW l i))=aR (o++L++gk (aW l i)) by rw[bx,bx]))) ?_
   have hE2:gJ l (i+(aW l i).1) ((l.drop (i+(aW l i).1)).take (i+(aW l i).1-(i+(aW l i).1))) (o++L++gk (aW l i))=eD l:=by rw[Nat.sub_self,List.take_zero];exact hE
   refine pz (i+(aW l i).1) (i+(aW l i).1) (o++L++gk (aW l i)) _ _ ⟨rfl,rfl,rfl,rfl,rfl,trivial⟩ [0] rfl [1] rfl (⟨by omega,Nat.le_refl _,by rw[←hol];omega,hE2⟩) (by omega)
 ·obtain rfl:i=n:=by omega
  rw[ln (by omega),List.take_of_length_le (by rw[List.length_drop];omega)]at hE
  have hdl:(l.drop f).length=i-f:=by rw[List.length_drop];omega
  have hll:=fz (l.drop f)
  refine bw (fun w m=>m.jN 0 rfl (View.drop (n:=i) (c:=c) (k:=f) (by omega) (by omega))) ?_
  refine aY (fun m=>ig (m.rd 0 rfl)) ?_
  rintro⟨hl_p,hA_p⟩
  refine bK<|ao<|ao<|aB<|ag<|ah<|aj<|hy (fun _=>aa rfl)<|hy (fun _=>aa rfl)<|hy (fun _=>aa rfl)<|hy (fun _=>ej rfl rfl Tryz.underlying27 ek rfl (by omega))<| ?_
  refine hx (aq rfl Tryz.call219 (Db (by omega) (by omega) hdl) [] rfl [0] rfl ?_)
  rintro _ _ _ ⟨v,rfl,rfl,rfl⟩
  refine aD (fun m=>(m.own 0 rfl).slice) ?_
  rintro⟨A_x2,c_x2,rfl,hc_x2⟩
  refine aD (fun m=>(m.ord 0 rfl).2.1) fun hA_x2=> ?_
  refine hx (bL 1 rfl rfl rfl Tryz.underlying27 Tryz.underlying27 (by exact .inl rfl) fb rfl (fun m=>Src.b7 (m.ord 0 rfl)) aS (by unfold maxLen;omega) (by omega) (fun u=> ?_))
  refine aD (fun m=>(m.own 0 rfl).slice) ?_
  rintro⟨A_x,c_x,rfl,hc_x⟩
  refine aD (fun m=>(m.ord 0 rfl).2.1) fun hA_x=> ?_
  have hol:o.length+(ey (l.drop f)).length=(eD l).length:=by rw[←hE];simp
  rw[hol]
  refine aT (fun w m=>m.bQ 0 rfl (show _=aG 5 1 (.slice A_x (eD l).length c_x) (eD l).length (aR (eD l))from congrArg (aG _ _ _ _) (show aR o++aR (ey (l.drop f))=aR (eD l) by rw[←hE,bx]))) ?_
  refine hy (fun _=>ab rfl)<|ai<|al (ρ' :=[(2,_),(10,_),(3,_),(4,_),(5,_),(0,_)]) ⟨rfl,rfl,rfl,rfl,rfl,rfl,trivial⟩<|ak (X' :=[_,_]) (S' :=[_,_]) (fun _ m=>m)<|ag<|aX<| ?_
  exact bf trivial rfl rfl [0] rfl [] rfl ⟨_,rfl,rfl,rfl⟩
end Go.Proofs.YtmibdabdlgmafaaGreatDoor
end
section
set_option maxRecDepth 20000
set_option maxHeartbeats 2000000
namespace Go.Proofs.YtmibdabdlgmafaaGreatDoor
open Go.Eng Go.Hx
theorem vE{A:Option Addr}{n c:Nat}{l:List UInt8}(hc:n≤c)(hn:n≤1000000000)(hl:l.length=n):cj Tryz.prog 161 [.slice A n c] [] [cV 1 A n (aR l)] (fun v_ X_ S_=>∃v,v_=v∧X_=[aG 5 1 v 4 (aR (gy (cQ l)))]∧S_=[]):=by
 have e4:n+4-n=4:=by omega
 have ed:(aR (Am l)).drop (n*1)=aR (gy (cQ l)):=by rw[Nat.mul_one,←qi,Am,List.drop_append_of_le_length (by omega),List.drop_of_length_le (by omega)];rfl
 refine aQ (N:=8) Tryz.func161 rfl rfl (by simp) fun b=> ?_
 refine aY (fun m=>ig (m.rd 0 rfl)) ?_
 rintro⟨hl_r,hA_r⟩
 refine ah<|aj<|hy (fun _=>ab rfl)<|ai<|ag<|ah<|aj<|hy (fun _=>aa rfl)<| ?_
 refine hx (aq rfl Tryz.call189 (zB (by omega)) [] rfl [0] rfl ?_)
 rintro _ _ _ ⟨v,rfl,rfl,rfl⟩
 refine aD (fun m=>(m.own 0 rfl).slice) ?_
 rintro⟨A_x,c_x,rfl,hc_x⟩
 refine aD (fun m=>(m.ord 0 rfl).2.1) fun hA_x=> ?_
 refine hy (fun _=>aa rfl)<|hy (fun _=>aU rfl Tryz.underlying27)<|hy (fun _=>yV (ej rfl rfl Tryz.underlying27 ek rfl (by omega)) ((show Value.slice (if c_x=n then A_x else A_x.map (·.add (n*1))) (n+4-n) (c_x-n)= .slice (if c_x=n then A_x else A_x.map (·.add (n*1))) 4 (c_x-n) by congr 1)))<|hy (fun _=>ab rfl)<|ai<|al (ρ' :=[(2,_),(0,_)]) ⟨rfl,rfl,trivial⟩<|ak (X' :=[_]) (S' :=[_]) (fun _ m=>m)<|ag<|aX<| ?_
 refine ak (X' :=aG 5 1 (.slice (if c_x=n then A_x else A_x.map (·.add (n*1))) (n+4-n) (c_x-n)) (n+4-n) ((aR (Am l)).drop (n*1))::_) (fun w m=>(m.perm (ar [0] _ [_] _ rfl)).w7 (View.sO (by omega) hc_x)) ?_
 rw[e4,ed]
 exact bf trivial rfl rfl [0] rfl [] rfl ⟨_,rfl,rfl,rfl⟩
theorem Eh{A:Option Addr}{n c:Nat}{l:List UInt8}(hc:n≤c)(hn:n≤100000000)(hl:l.length=n):cj Tryz.prog 81 [.slice A n c] [] [cV 1 A n (aR l)] (fun v_ X_ S_=>∃v,v_=v∧X_=[aG 5 1 v (bE l).length (aR (bE l))]∧S_=[]):=by
 have hpl:=mC l
 have hcl:=jt l
 refine aQ (N:=30) Tryz.func81 rfl rfl (by simp) fun b=> ?_
 refine aY (fun m=>ig (m.rd 0 rfl)) ?_
 rintro⟨hl_r,hA_r⟩
 refine ah<|aj<|hy (fun _=>ab rfl)<|ai<|ag<|ah<|aj<|hy (fun _=>aa rfl)<| ?_
 refine hx (aq rfl Tryz.call159 (EK (by omega) (by omega) (by omega)) [] rfl [0] rfl ?_)
 rintro _ _ _ ⟨v,rfl,rfl,rfl⟩
 refine aD (fun m=>(m.own 0 rfl).slice) ?_
 rintro⟨A_x,c_x,rfl,hc_x⟩
 refine aD (fun m=>(m.ord 0 rfl).2.1) fun hA_x=> ?_
 refine hy (fun _=>ab rfl)<|ai<|al (ρ' :=[(3,_),(2,_),(0,_)]) ⟨rfl,rfl,rfl,trivial⟩<|ak (X' :=[_]) (S' :=[_]) (fun _ m=>m)<|ag<|ah<|aj<| ?_
 refine hx (bY Tryz.underlying27 fb rfl rfl rfl (by simp[Value.cells,B8]) (by decide) (by decide) (fun g7=> ?_))
 have hA_b7:0<2→(some (⟨g7,0,none⟩:Addr))≠none:=fun _ h=>by cases h
 refine hy (fun _=>ab rfl)<|ai<|al (ρ' :=[(4,_),(3,_),(2,_),(0,_)]) ⟨rfl,rfl,rfl,rfl,trivial⟩<|ak (X' :=[_,_]) (S' :=[_]) (fun _ m=>m)<|ag<|ah<|aj<|hy (fun _=>aa rfl)<|hy (fun _=>aa rfl)<|hy (fun _=>aU rfl Tryz.underlying27)<| ?_
 refine hx (aq rfl Tryz.call160 (CH (by omega)) [] rfl [] rfl ?_)
 rintro _ _ _ ⟨v2,rfl,rfl,rfl⟩
 refine aD (fun m=>(m.own 0 rfl).slice) ?_
 rintro⟨A_x2,c_x2,rfl,hc_x2⟩
 refine aD (fun m=>(m.ord 0 rfl).2.1) fun hA_x2=> ?_
 refine aT (fun w m=>m.bQ 1 rfl (show _=aG 5 1 (.slice (some ⟨g7,0,none⟩) 2 2) 2 (aR [76,0])from rfl)) ?_
 refine hx (bL 0 rfl rfl rfl Tryz.underlying27 Tryz.underlying27 (by exact .inl rfl) fb rfl (fun m=>Src.b7 (m.ord 1 rfl)) aS (by unfold maxLen;omega) (by omega) (fun u=> ?_))
 refine aD (fun m=>(m.own 0 rfl).slice) ?_
 rintro⟨A_b7,c_b7,rfl,hc_b7⟩
 refine aD (fun m=>(m.ord 0 rfl).2.1) fun hA_b7=> ?_
 refine hy (fun _=>ab rfl)<|ai<|al (ρ' :=[(4,_),(3,_),(2,_),(0,_)]) ⟨rfl,rfl,rfl,rfl,trivial⟩<|ak (X' :=[_,_,_]) (S' :=[_]) (fun _ m=>m)<|ag<|ah<|ah<|aj<|hy (fun _=>aa rfl)<|hy (fun _=>aU rfl Tryz.underlying27)<|hy (fun _=>aa rfl)<|hy (fun _=>aU rfl Tryz.underlying27)<|hy (fun _=>bu rfl rfl)<|ai<|al (ρ' :=[(17,_),(4,_),(3,_),(2,_),(0,_)]) ⟨rfl,rfl,rfl,rfl,rfl,trivial⟩<|ag<| ?_
 refine cD rfl (fun hp=> ?_) (fun hp=> ?_)
 ·have hq:bE l=[76,1]++gy l.length++eD l++gy (cQ l):=by
   have:vn l=true:=by unfold vn;exact decide_eq_true (by omega)
   unfold bE iz
   rw[this];rfl
  refine ah<|aj<|hy (fun _=>aa rfl)<|hy (fun _=>aO rfl rfl Tryz.underlying27 ek hA_b7 (show((1:Nat):Int)=1 from rfl) (by omega))<| ?_
  refine cJ (Ak 0 rfl rfl rfl ek rfl (by omega) ?_)
  refine ai<|al (ρ' :=[(17,_),(4,_),(3,_),(2,_),(0,_)]) ⟨rfl,rfl,rfl,rfl,rfl,trivial⟩<|ak (X' :=[_,_,_]) (S' :=[_]) (fun _ m=>m)<|ag<|aj<|hy (fun _=>aa rfl)<|hy (fun _=>aa rfl)<| ?_
  refine aT (fun w m=>m.bQ 0 rfl (show _=aG 5 1 (.slice A_b7 (2+4) c_b7) (2+4) (aR ([76,1]++gy n))from rfl)) ?_
  refine hx (bL 0 rfl rfl rfl Tryz.underlying27 Tryz.underlying27 (by exact .inl rfl) fb rfl (fun m=>Src.b7 (m.ord 2 rfl)) aS (by unfold maxLen;omega) (by omega) (fun u2=> ?_))
  refine aD (fun m=>(m.own 0 rfl).slice) ?_
  rintro⟨A_b72,c_b72,rfl,hc_b7⟩
  refine aD (fun m=>(m.ord 0 rfl).2.1) fun hA_b7=> ?_
  refine hy (fun _=>ab rfl)<|ai<|al (ρ' :=[(4,_),(17,_),(3,_),(2,_),(0,_)]) ⟨rfl,rfl,rfl,rfl,rfl,trivial⟩<|ak (X' :=[_,_,_]) (S' :=[_]) (fun _ m=>m)<|ag<|ah<|aj<|hy (fun _=>aa rfl)<|hy (fun _=>aa rfl)<| ?_
  refine hx (aq rfl Tryz.call161 (vE (by omega) (by omega) (by omega)) [] rfl [0] rfl ?_)
  rintro _ _ _ ⟨v3,rfl,rfl,rfl⟩
  refine aD (fun m=>(m.own 0 rfl).slice) ?_
  rintro⟨A_x3,c_x3,rfl,hc_x3⟩
  refine aD (fun m=>(m.ord 0 rfl).2.1) fun hA_x3=> ?_
  refine hx (bL 1 rfl rfl rfl Tryz.underlying27 Tryz.underlying27 (by exact .inl rfl) fb rfl (fun m=>Src.b7 (m.ord 0 rfl)) aS (by unfold maxLen;omega) (by omega) (fun u3=> ?_))
  refine aD (fun m=>(m.own 0 rfl).slice) ?_
  rintro⟨A_b73,c_b73,rfl,hc_b7⟩
  refine aD (fun m=>(m.ord 0 rfl).2.1) fun hA_b7=> ?_
  refine hy (fun _=>ab rfl)<|ai<|al (ρ' :=[(2,_),(4,_),(17,_),(3,_),(0,_)]) ⟨rfl,rfl,rfl,rfl,rfl,trivial⟩<|ak (X' :=[_,_,_,_]) (S' :=[_]) (fun _ m=>m)<|ag<|aX<| ?_
  have hol:2+4+(eD l).length+4=(bE l).length:=by rw[hq];simp[fl,hl];try omega
  rw[hol]
  have hsl:aR ([76,1]++gy n)++aR (eD l)++aR (gy (cQ l))=aR (bE l):=by rw[hq,hl,bx ([76,1]++gy n++(eD l)),bx ([76,1]++gy n)]
  rw[hsl]
  exact bf trivial rfl rfl [0] rfl [] rfl ⟨_,rfl,rfl,rfl⟩
 ·have hq:bE l=[76,0]++gy l.length++l++gy (cQ l):=by
   have:vn l=false:=by unfold vn;exact decide_eq_false (by omega)
   unfold bE iz
   rw[this];rfl
  refine aj<|hy (fun _=>aa rfl)<|hy (fun _=>aa rfl)<| ?_
  refine aT (fun w m=>m.bQ 0 rfl (show _=aG 5 1 (.slice A_b7 (2+4) c_b7) (2+4) (aR ([76,0]++gy n))from rfl)) ?_
  refine hx (bL 0 rfl rfl rfl Tryz.underlying27 Tryz.underlying27 (by exact .inl rfl) fb rfl (fun m=>Src.b7 (m.rd 0 rfl)) aS (by unfold maxLen;omega) (by omega) (fun u2=> ?_))
  refine aD (fun m=>(m.own 0 rfl).slice) ?_
  rintro⟨A_b72,c_b72,rfl,hc_b7⟩
  refine aD (fun m=>(m.ord 0 rfl).2.1) fun hA_b7=> ?_
  refine hy (fun _=>ab rfl)<|ai<|al (ρ' :=[(4,_),(17,_),(3,_),(2,_),(0,_)]) ⟨rfl,rfl,rfl,rfl,rfl,trivial⟩<|ak (X' :=[_,_,_]) (S' :=[_]) (fun _ m=>m)<|ag<|ah<|aj<|hy (fun _=>aa rfl)<|hy (fun _=>aa rfl)<| ?_
  refine hx (aq rfl Tryz.call161 (vE (by omega) (by omega) (by omega)) [] rfl [0] rfl ?_)
  rintro _ _ _ ⟨v3,rfl,rfl,rfl⟩
  refine aD (fun m=>(m.own 0 rfl).slice) ?_
  rintro⟨A_x3,c_x3,rfl,hc_x3⟩
  refine aD (fun m=>(m.ord 0 rfl).2.1) fun hA_x3=> ?_
  refine hx (bL 1 rfl rfl rfl Tryz.underlying27 Tryz.underlying27 (by exact .inl rfl) fb rfl (fun m=>Src.b7 (m.ord 0 rfl)) aS (by unfold maxLen;omega) (by omega) (fun u3=> ?_))
  refine aD (fun m=>(m.own 0 rfl).slice) ?_
  rintro⟨A_b73,c_b73,rfl,hc_b7⟩
  refine aD (fun m=>(m.ord 0 rfl).2.1) fun hA_b7=> ?_
  refine hy (fun _=>ab rfl)<|ai<|al (ρ' :=[(2,_),(4,_),(17,_),(3,_),(0,_)]) ⟨rfl,rfl,rfl,rfl,rfl,trivial⟩<|ak (X' :=[_,_,_,_]) (S' :=[_]) (fun _ m=>m)<|ag<|aX<| ?_
  have hol:2+4+n+4=(bE l).length:=by rw[hq];simp[fl,hl];try omega
  rw[hol]
  have hsl:aR ([76,0]++gy n)++aR l++aR (gy (cQ l))=aR (bE l):=by rw[hq,hl,bx ([76,0]++gy n++l),bx ([76,0]++gy n)]
  rw[hsl]
  exact bf trivial rfl rfl [0] rfl [] rfl ⟨_,rfl,rfl,rfl⟩
end Go.Proofs.YtmibdabdlgmafaaGreatDoor
end
section
set_option maxRecDepth 20000
set_option maxHeartbeats 4000000
namespace Go.Proofs.YtmibdabdlgmafaaGreatDoor
open Go.Eng Go.Hx
@[reducible]def Hu (v:Value) (nn e:Int):List Value:=[v,.int .i64 nn,.int .i64 e]
theorem j0{A:Option Addr}{n c:Nat}{nn e:Int}:∀u∈Hu (.slice A n c) nn e,u.oneCell' =true:=by
 intro u hu
 simp only[List.mem_cons,List.not_mem_nil,or_false]at hu
 rcases hu with rfl|rfl|rfl <;> rfl
theorem lE(l:List UInt8)(i j:Nat):(l.drop i).getD j 0=l.getD (i+j) 0:=by simp[List.getD,List.getElem?_drop]
theorem zD{A:Option Addr}{n c:Nat}{l:List UInt8}{z:Int}(hc:n≤c)(hn:n≤10000000)(hl:l.length=n)(hz:z≤10000000):cj Tryz.prog 217 [.slice A n c,.int .i64 z] [] [cV 1 A n (aR l)] (fun v_ X_ S_=>∃v nn,v_=(.agg (Hu v nn (jM z l []).2).toArray)∧X_=[aG 5 1 v (jM z l []).1.length (aR (jM z l []).1)]∧S_=[]):=by
 refine aQ (N:=109) Tryz.func217 rfl rfl (by simp) fun b=> ?_
 refine aY (fun m=>ig (m.rd 0 rfl)) ?_
 rintro⟨hl_r,hA_r⟩
 refine ah<|aj<| ?_
 refine hx (aP n9 (fun g4=> ?_))
 refine ai<|ak (X' :=[_]) (S' :=[_]) (fun _ m=>m)<|ag<|ah<|aj<|hy (fun _=>ab rfl)<|ai<|ag<|ah<|aj<|hy (fun _=>ab rfl)<|ai<|ag<|ah<|ah<|aj<|hy (fun _=>ab rfl)<|ai<|ag<|aI<| ?_
 refine bw (fun w m=>m.dG (r' :=aG 5 1 (.slice none 0 0) 0 []) (.refl _ _) (Own.nil _ _ _ _) (fun k hk=>hk.elim)) ?_
 refine uV (fun i o nn A3 c3=>n-i) (fun i o nn A3 c3=>[(5,.slice A3 (o:List UInt8).length c3),(6,.int .i64 (nn:Nat)),(7,.int .i64 (i:Nat))]) (fun i o nn A3 c3=>[aG 5 1 (.slice A3 o.length c3) o.length (aR o)]) (fun i o nn A3 c3=>[]) (fun i o nn A3 c3=>i≤n∧nn≤i∧o.length≤10000000∧jM z (l.drop i) o=jM z l []) 0 [] 0 none 0 [(4,_),(0,_),(1,_)] ⟨rfl,rfl,rfl,trivial⟩ [0] rfl [] rfl (⟨Nat.zero_le _,Nat.zero_le _,Nat.zero_le _,rfl⟩) ⟨rfl,rfl,rfl,trivial⟩ (fun i o nn A3 c3 ⟨hin,hni,hol,hU⟩=> ?_)
 refine ah<|ah<|aj<|hy (fun _=>aa rfl)<|hy (fun _=>aa rfl)<|hy (fun _=>aU rfl Tryz.underlying27)<|hy (fun _=>bu rfl rfl)<|ai<|al (ρ' :=[(14,_),(5,_),(6,_),(7,_),(4,_),(0,_),(1,_)]) ⟨rfl,rfl,rfl,rfl,rfl,rfl,rfl,trivial⟩<|ag<| ?_
 refine cD rfl (fun hlt=> ?_) (fun hlt=> ?_)
 ·have hil:i<l.length:=by omega
  have hq0:l.drop i≠ []:=fun e=>by have:=congrArg List.length e;rw[List.length_drop]at this;simp at this;omega
  have hql:(l.drop i).length=n-i:=by rw[List.length_drop,hl]
  have hg0:(l.drop i).getD 0 0=l.getD i 0:=lE l i 0
  have hc0:=(l.getD i 0).toNat_lt
  refine aC<|ag<|ah<|aI<|ah<|aj<|hy (fun _=>aa rfl)<|hy (fun _=>aa rfl)<|hy (fun _=>aO rfl rfl Tryz.underlying27 ek hA_r rfl (by omega))<|hy (fun m=>aw rfl jL ((m.rd 0 rfl).cell (bM (by omega))))<|hy (fun _=>bW rfl Tryz.underlying5 Tryz.underlying3 (Bc _))<|hy (fun _=>ab rfl)<|ai<|al (ρ' :=[(8,_),(14,_),(5,_),(6,_),(7,_),(4,_),(0,_),(1,_)]) ⟨rfl,rfl,rfl,rfl,rfl,rfl,rfl,rfl,trivial⟩<|ag<|ah<|ah<|aj<|hy (fun _=>aa rfl)<|hy (fun _=>bu rfl rfl)<|ai<|al (ρ' :=[(23,_),(8,_),(14,_),(5,_),(6,_),(7,_),(4,_),(0,_),(1,_)]) ⟨rfl,rfl,rfl,rfl,rfl,rfl,rfl,rfl,rfl,trivial⟩<|ag<| ?_
  generalize hc8:(l.getD i 0).toNat=c8 at hc0 hg0 ⊢
  have hc8' :((l.drop i).getD 0 0).toNat=c8:=by rw[lE,Nat.add_zero,hc8]
  refine cD rfl (fun h128=> ?_) (fun h128=> ?_)
  ·have ht:cK (l.drop i)=(c8+2,c8+1,0,decide (c8+2≤n-i)):=by
    unfold cK;rw[hc8',if_pos (by omega),hql]
   refine ah<|ah<|aj<|hy (fun _=>aa rfl)<|hy (fun _=>aa rfl)<|hy (fun _=>aN rfl rfl (bC (by omega) (by omega)))<|hy (fun _=>aN rfl rfl (bC (by omega) (by omega)))<|hy (fun _=>aa rfl)<|hy (fun _=>aU rfl Tryz.underlying27)<|hy (fun _=>cY rfl rfl)<|ai<|al (ρ' :=[(30,_),(23,_),(8,_),(14,_),(5,_),(6,_),(7,_),(4,_),(0,_),(1,_)]) ⟨rfl,rfl,rfl,rfl,rfl,rfl,rfl,rfl,rfl,rfl,trivial⟩<|ag<| ?_
   refine cD rfl (fun h30=> ?_) (fun h30=> ?_)
   ·rw[lC hq0 (fun h=>by rw[ht]at h;have:=of_decide_eq_true h.1;omega)]at hU
    rw[←hU]
    refine ah<|aj<|hy (fun _=>cy n9 rfl rfl (by kernel_rfl) (.cons (o:=2) (sz:=1) (by kernel_rfl) rfl rfl (Nat.le_of_ble_eq_true rfl) .nil))<| ?_
    refine cJ (aK 1 rfl rfl rfl jB rfl j0 rfl ?_)
    refine ai<|al (ρ' :=[(30,_),(23,_),(8,_),(14,_),(5,_),(6,_),(7,_),(4,_),(0,_),(1,_)]) ⟨rfl,rfl,rfl,rfl,rfl,rfl,rfl,rfl,rfl,rfl,trivial⟩<|ak (X' :=[_,_]) (S' :=[_]) (fun _ m=>m)<|ag<|aX<|ax<|ax<|a8<|ax<|ax<|a8<|ax<| ?_
    refine ak (fun w m=>m.dG (r' :=aG 5 1 (.slice none 0 0) 0 []) (.refl _ _) (Own.nil _ _ _ _) (fun k hk=>hk.elim)) ?_
    exact fx trivial rfl rfl ra jB rfl (fun m=>(m.aZ 1 rfl).az) [0] rfl [] rfl ⟨_,_,rfl,rfl,rfl⟩
   ·have hok:(cK (l.drop i)).2.2.2=true:=by rw[ht];exact decide_eq_true (by omega)
    have hdo:(cK (l.drop i)).2.2.1≤o.length:=by rw[ht];exact Nat.zero_le _
    refine aC<|ag<|ah<|ah<|aj<|hy (fun _=>aa rfl)<|hy (fun _=>aU rfl Tryz.underlying27)<|hy (fun _=>aa rfl)<|hy (fun _=>aN rfl rfl (bC (by omega) (by omega)))<|hy (fun _=>aN rfl rfl (bC (by omega) (by omega)))<|hy (fun _=>aa rfl)<|hy (fun _=>cY rfl rfl)<|ai<|al (ρ' :=[(38,_),(30,_),(23,_),(8,_),(14,_),(5,_),(6,_),(7,_),(4,_),(0,_),(1,_)]) ⟨rfl,rfl,rfl,rfl,rfl,rfl,rfl,rfl,rfl,rfl,rfl,trivial⟩<|ag<| ?_
    refine cD rfl (fun h38=> ?_) (fun h38=> ?_)
    ·rw[o6 hq0 hok hdo (by rw[ht];show z<(o.length:Int)+((c8+1:Nat):Int);omega)]at hU
     rw[←hU]
     refine ah<|aj<|hy (fun _=>cy n9 rfl rfl (by kernel_rfl) (.cons (o:=2) (sz:=1) (by kernel_rfl) rfl rfl (Nat.le_of_ble_eq_true rfl) .nil))<| ?_
     refine cJ (aK 1 rfl rfl rfl jB rfl j0 rfl ?_)
     refine ai<|al (ρ' :=[(38,_),(30,_),(23,_),(8,_),(14,_),(5,_),(6,_),(7,_),(4,_),(0,_),(1,_)]) ⟨rfl,rfl,rfl,rfl,rfl,rfl,rfl,rfl,rfl,rfl,rfl,trivial⟩<|ak (X' :=[_,_]) (S' :=[_]) (fun _ m=>m)<|ag<|aX<|ax<|ax<|a8<|ax<|ax<|a8<|ax<| ?_
     refine ak (fun w m=>m.dG (r' :=aG 5 1 (.slice none 0 0) 0 []) (.refl _ _) (Own.nil _ _ _ _) (fun k hk=>hk.elim)) ?_
     exact fx trivial rfl rfl ra jB rfl (fun m=>(m.aZ 1 rfl).az) [0] rfl [] rfl ⟨_,_,rfl,rfl,rfl⟩
    ·rw[nU hq0 hok hdo (by rw[ht];show¬z<(o.length:Int)+((c8+1:Nat):Int);omega)]at hU
     have hK:i+1+(c8+1)-(i+1)=c8+1:=by omega
     have hma:made (l.drop i) o=o++(l.drop (i+1)).take (i+1+(c8+1)-(i+1)):=by unfold made;rw[ht,hK,if_pos rfl,List.drop_drop];rfl
     rw[hma,ht,List.drop_drop]at hU
     have hpl:((l.drop (i+1)).take (i+1+(c8+1)-(i+1))).length=i+1+(c8+1)-(i+1):=by rw[List.length_take,List.length_drop];omega
     refine bw (fun w m=>m.jN 0 rfl (View.sub (n:=n) (c:=c) (k:=i+1) (m:=i+1+(c8+1)-(i+1)) (by omega) (by omega))) ?_
     refine aY (fun m=>ig (m.rd 0 rfl)) ?_
     rintro⟨hl_q,hA_q⟩
     refine aC<|ag<|ah<|aj<|hy (fun _=>aa rfl)<|hy (fun _=>aa rfl)<|hy (fun _=>aa rfl)<|hy (fun _=>aN rfl rfl (bC (by omega) (by omega)))<|hy (fun _=>aa rfl)<|hy (fun _=>aa rfl)<|hy (fun _=>aN rfl rfl (bC (by omega) (by omega)))<|hy (fun _=>aN rfl rfl (bC (by omega) (by omega)))<|hy (fun _=>eG rfl rfl rfl Tryz.underlying27 ek (show((i+1:Nat):Int)=_ by omega) (show((i+1+(c8+1):Nat):Int)=_ by omega) (by omega) (by omega))<| ?_
     refine hx (bL 0 rfl rfl rfl Tryz.underlying27 Tryz.underlying27 (by exact .inl rfl) fb rfl (fun m=>Src.b7 (m.rd 0 rfl)) aS (by unfold maxLen;omega) (by omega) (fun u=> ?_))
     refine aD (fun m=>(m.own 0 rfl).slice) ?_
     rintro⟨A_x,c_x,rfl,hc_x⟩
     refine aD (fun m=>(m.ord 0 rfl).2.1) fun hA_x=> ?_
     have hlm:o.length+(i+1+(c8+1)-(i+1))=(o++(l.drop (i+1)).take (i+1+(c8+1)-(i+1))).length:=by rw[List.length_append,hpl]
     rw[hlm]at hc_x hA_x ⊢
     refine aT (fun w m=>m.bQ 0 rfl (show _=aG 5 1 (.slice A_x (o++(l.drop (i+1)).take (i+1+(c8+1)-(i+1))).length c_x) (o++(l.drop (i+1)).take (i+1+(c8+1)-(i+1))).length (aR (o++(l.drop (i+1)).take (i+1+(c8+1)-(i+1))))from congrArg (aG _ _ _ _) (by rw[bx]))) ?_
     refine hy (fun _=>ab rfl)<|ai<|al (ρ' :=[(5,_),(38,_),(30,_),(23,_),(8,_),(14,_),(6,_),(7,_),(4,_),(0,_),(1,_)]) ⟨rfl,rfl,rfl,rfl,rfl,rfl,rfl,rfl,rfl,rfl,rfl,trivial⟩<|ak (X' :=[_,_]) (S' :=[_,_]) (fun _ m=>m)<|ag<|ah<|aj<|hy (fun _=>aa rfl)<|hy (fun _=>aa rfl)<|hy (fun _=>aN rfl rfl (bC (by omega) (by omega)))<|hy (fun _=>yV (aN rfl rfl (bC (by omega) (by omega))) ((show Value.int .i64 _= .int .i64 ((i+(c8+2):Nat):Int) by congr 1)))<|hy (fun _=>ab rfl)<|ai<|al (ρ' :=[(7,_),(5,_),(38,_),(30,_),(23,_),(8,_),(14,_),(6,_),(4,_),(0,_),(1,_)]) ⟨rfl,rfl,rfl,rfl,rfl,rfl,rfl,rfl,rfl,rfl,rfl,trivial⟩<|ag<|bK<|ao<|aB<|ag<|aj<|hy (fun _=>aa rfl)<|hy (fun _=>aN rfl rfl (bC (by omega) (by omega)))<|hy (fun _=>ab rfl)<|ai<|al (ρ' :=[(6,_),(7,_),(5,_),(38,_),(30,_),(23,_),(8,_),(14,_),(4,_),(0,_),(1,_)]) ⟨rfl,rfl,rfl,rfl,rfl,rfl,rfl,rfl,rfl,rfl,rfl,trivial⟩<| ?_
     refine pz (i+(c8+2)) (o++(l.drop (i+1)).take (i+1+(c8+1)-(i+1))) (nn+1) A_x c_x ⟨rfl,rfl,rfl,rfl,rfl,rfl,trivial⟩ [0,0] rfl [1] rfl (⟨by omega,by omega,by rw[←hlm];omega,hU⟩) (by omega)
  ·refine aC<|ag<|ah<|ah<|aj<|hy (fun _=>aa rfl)<|hy (fun _=>aN rfl rfl (bC (by omega) (by omega)))<|hy (fun _=>aa rfl)<|hy (fun _=>aU rfl Tryz.underlying27)<|hy (fun _=>cY rfl rfl)<|ai<|al (ρ' :=[(58,_),(23,_),(8,_),(14,_),(5,_),(6,_),(7,_),(4,_),(0,_),(1,_)]) ⟨rfl,rfl,rfl,rfl,rfl,rfl,rfl,rfl,rfl,rfl,trivial⟩<|ag<| ?_
   refine cD rfl (fun h58=> ?_) (fun h58=> ?_)
   ·have ht:cK (l.drop i)=(0,0,0,false):=by unfold cK;rw[hc8',if_neg (by omega),if_pos (by omega)]
    rw[lC hq0 (fun h=>by rw[ht]at h;cases h.1)]at hU
    rw[←hU]
    refine ah<|aj<|hy (fun _=>cy n9 rfl rfl (by kernel_rfl) (.cons (o:=2) (sz:=1) (by kernel_rfl) rfl rfl (Nat.le_of_ble_eq_true rfl) .nil))<| ?_
    refine cJ (aK 1 rfl rfl rfl jB rfl j0 rfl ?_)
    refine ai<|al (ρ' :=[(58,_),(23,_),(8,_),(14,_),(5,_),(6,_),(7,_),(4,_),(0,_),(1,_)]) ⟨rfl,rfl,rfl,rfl,rfl,rfl,rfl,rfl,rfl,rfl,trivial⟩<|ak (X' :=[_,_]) (S' :=[_]) (fun _ m=>m)<|ag<|aX<|ax<|a8<|ax<|ax<|a8<|ax<| ?_
    refine ak (fun w m=>m.dG (r' :=aG 5 1 (.slice none 0 0) 0 []) (.refl _ _) (Own.nil _ _ _ _) (fun k hk=>hk.elim)) ?_
    exact fx trivial rfl rfl ra jB rfl (fun m=>(m.aZ 1 rfl).az) [0] rfl [] rfl ⟨_,_,rfl,rfl,rfl⟩
   ·have ht:cK (l.drop i)=(3,c8-124,1+(l.getD (i+1) 0).toNat+256*(l.getD (i+2) 0).toNat,true):=by
     unfold cK;rw[hc8',if_neg (by omega),if_neg (by omega),lE,lE]
    have b1:=(l.getD (i+1) 0).toNat_lt
    have b2:=(l.getD (i+2) 0).toNat_lt
    have hok:(cK (l.drop i)).2.2.2=true:=by rw[ht]
    refine aC<|ag<|ah<|cG [] [(0,some 0),(1,some 0),(2,some 0),(3,some 0),(4,some 0),(5,some 0),(6,some 0),(7,some 0),(8,some 0),(9,some 0),(10,some 0),(11,some 0),(12,some 0),(13,some 0),(14,some 0),(15,some 0)] (by kernel_rfl) (by kernel_rfl) rfl 99<|an (aa rfl)<|an (aa rfl)<|an (aN rfl rfl (bC (by omega) (by omega)))<|an (aO rfl rfl Tryz.underlying27 ek hA_r (show((i+1:Nat):Int)=_ by omega) (by omega))<|ca (fun m=>aw rfl jL ((m.rd 0 rfl).cell (bM (by omega))))<|an (bW rfl Tryz.underlying5 Tryz.underlying3 (Bc _))<|an (aN rfl rfl (bC (by omega) (by omega)))<|an (aa rfl)<|an (aa rfl)<|an (aN rfl rfl (bC (by omega) (by omega)))<|an (aO rfl rfl Tryz.underlying27 ek hA_r (show((i+2:Nat):Int)=_ by omega) (by omega))<|ca (fun m=>aw rfl jL ((m.rd 0 rfl).cell (bM (by omega))))<|an (bW rfl Tryz.underlying5 Tryz.underlying3 (Bc _))<|an (fK rfl rfl (bC (by omega) (by omega)))<|an (yV (aN rfl rfl (bC (by omega) (by omega))) ((show Value.int .i64 ((1:Int)+((l.getD (i+1) 0).toNat:Int)+256*((l.getD (i+2) 0).toNat:Int))= .int .i64 ((1+(l.getD (i+1) 0).toNat+256*(l.getD (i+2) 0).toNat:Nat):Int) by congr 1)))<|an (ab rfl)<|br<|al (ρ' :=[(9,_),(58,_),(23,_),(8,_),(14,_),(5,_),(6,_),(7,_),(4,_),(0,_),(1,_)]) ⟨rfl,rfl,rfl,rfl,rfl,rfl,rfl,rfl,rfl,rfl,rfl,trivial⟩<|ag<|ah<|ah<|aj<|hy (fun _=>aa rfl)<|hy (fun _=>aa rfl)<|hy (fun _=>aU rfl Tryz.underlying27)<|hy (fun _=>cY rfl rfl)<|ai<|al (ρ' :=[(78,_),(9,_),(58,_),(23,_),(8,_),(14,_),(5,_),(6,_),(7,_),(4,_),(0,_),(1,_)]) ⟨rfl,rfl,rfl,rfl,rfl,rfl,rfl,rfl,rfl,rfl,rfl,rfl,trivial⟩<|ag<| ?_
    generalize hdd:1+(l.getD (i+1) 0).toNat+256*(l.getD (i+2) 0).toNat=dd at ht ⊢
    refine cD rfl (fun h78=> ?_) (fun h78=> ?_)
    ·rw[lC hq0 (fun h=>by rw[ht]at h;have h2:dd≤o.length:=h.2;omega)]at hU
     rw[←hU]
     refine ah<|aj<|hy (fun _=>cy n9 rfl rfl (by kernel_rfl) (.cons (o:=2) (sz:=1) (by kernel_rfl) rfl rfl (Nat.le_of_ble_eq_true rfl) .nil))<| ?_
     refine cJ (aK 1 rfl rfl rfl jB rfl j0 rfl ?_)
     refine ai<|al (ρ' :=[(78,_),(9,_),(58,_),(23,_),(8,_),(14,_),(5,_),(6,_),(7,_),(4,_),(0,_),(1,_)]) ⟨rfl,rfl,rfl,rfl,rfl,rfl,rfl,rfl,rfl,rfl,rfl,rfl,trivial⟩<|ak (X' :=[_,_]) (S' :=[_]) (fun _ m=>m)<|ag<|aX<|ax<|a8<|ax<|ax<|a8<|ax<| ?_
     refine ak (fun w m=>m.dG (r' :=aG 5 1 (.slice none 0 0) 0 []) (.refl _ _) (Own.nil _ _ _ _) (fun k hk=>hk.elim)) ?_
     exact fx trivial rfl rfl ra jB rfl (fun m=>(m.aZ 1 rfl).az) [0] rfl [] rfl ⟨_,_,rfl,rfl,rfl⟩
    ·have hdo:(cK (l.drop i)).2.2.1≤o.length:=by rw[ht];show dd≤_;omega
     refine aC<|ag<|ah<|ah<|aj<|hy (fun _=>aa rfl)<|hy (fun _=>aU rfl Tryz.underlying27)<|hy (fun _=>aa rfl)<|hy (fun _=>aN rfl rfl (bC (by omega) (by omega)))<|hy (fun _=>cw rfl rfl (bC (by omega) (by omega)))<|hy (fun _=>aa rfl)<|hy (fun _=>cY rfl rfl)<|ai<|al (ρ' :=[(86,_),(78,_),(9,_),(58,_),(23,_),(8,_),(14,_),(5,_),(6,_),(7,_),(4,_),(0,_),(1,_)]) ⟨rfl,rfl,rfl,rfl,rfl,rfl,rfl,rfl,rfl,rfl,rfl,rfl,rfl,trivial⟩<|ag<| ?_
     refine cD rfl (fun h86=> ?_) (fun h86=> ?_)
     ·rw[o6 hq0 hok hdo (by rw[ht];show z<(o.length:Int)+((c8-124:Nat):Int);omega)]at hU
      rw[←hU]
      refine ah<|aj<|hy (fun _=>cy n9 rfl rfl (by kernel_rfl) (.cons (o:=2) (sz:=1) (by kernel_rfl) rfl rfl (Nat.le_of_ble_eq_true rfl) .nil))<| ?_
      refine cJ (aK 1 rfl rfl rfl jB rfl j0 rfl ?_)
      refine ai<|al (ρ' :=[(86,_),(78,_),(9,_),(58,_),(23,_),(8,_),(14,_),(5,_),(6,_),(7,_),(4,_),(0,_),(1,_)]) ⟨rfl,rfl,rfl,rfl,rfl,rfl,rfl,rfl,rfl,rfl,rfl,rfl,rfl,trivial⟩<|ak (X' :=[_,_]) (S' :=[_]) (fun _ m=>m)<|ag<|aX<|ax<|a8<|ax<|ax<|a8<|ax<| ?_
      refine ak (fun w m=>m.dG (r' :=aG 5 1 (.slice none 0 0) 0 []) (.refl _ _) (Own.nil _ _ _ _) (fun k hk=>hk.elim)) ?_
      exact fx trivial rfl rfl ra jB rfl (fun m=>(m.aZ 1 rfl).az) [0] rfl [] rfl ⟨_,_,rfl,rfl,rfl⟩
     ·rw[nU hq0 hok hdo (by rw[ht];show¬z<(o.length:Int)+((c8-124:Nat):Int);omega)]at hU
      have hma:made (l.drop i) o=again dd (c8-124) o:=by unfold made;rw[ht];exact if_neg (show¬dd=0 by omega)
      rw[hma,ht,List.drop_drop]at hU
      refine aC<|ag<|ah<|ah<|aj<|hy (fun _=>ab rfl)<|ai<|ag<|aI<| ?_
      refine kZ (fun k2 o2 A4 c4=>c8-124-k2) (fun k2 o2 A4 c4=>[(5,.slice A4 (o2:List UInt8).length c4),(10,.int .i64 (k2:Nat))]) (fun k2 o2 A4 c4=>[aG 5 1 (.slice A4 o2.length c4) o2.length (aR o2)]) (fun k2 o2 A4 c4=>[]) (fun k2 o2 A4 c4=>k2≤c8-124∧o2.length=o.length+k2∧again dd (c8-124-k2) o2=again dd (c8-124) o) 0 o A3 c3 [(86,_),(78,_),(9,_),(58,_),(23,_),(8,_),(14,_),(6,_),(7,_),(4,_),(0,_),(1,_)] ⟨rfl,rfl,rfl,rfl,rfl,rfl,rfl,rfl,rfl,rfl,rfl,rfl,trivial⟩ [0] rfl [] rfl (⟨Nat.zero_le _,rfl,rfl⟩) ⟨rfl,rfl,trivial⟩ (fun k2 o2 A4 c4 ⟨hk2,ho2,hag⟩=> ?_)
      refine ah<|ah<|aj<|hy (fun _=>aa rfl)<|hy (fun _=>aa rfl)<|hy (fun _=>cw rfl rfl (bC (by omega) (by omega)))<|hy (fun _=>bu rfl rfl)<|ai<|al (ρ' :=[(91,_),(5,_),(10,_),(86,_),(78,_),(9,_),(58,_),(23,_),(8,_),(14,_),(6,_),(7,_),(4,_),(0,_),(1,_)]) ⟨rfl,rfl,rfl,rfl,rfl,rfl,rfl,rfl,rfl,rfl,rfl,rfl,rfl,rfl,rfl,trivial⟩<|ag<| ?_
      refine cD rfl (fun hk=> ?_) (fun hk=> ?_)
      ·have hk3:k2<c8-124:=by omega
       have hi2:o2.length-dd<o2.length:=by omega
       have hs:again dd (c8-124-k2) o2=again dd (c8-124-(k2+1)) (o2++[o2.getD (o2.length-dd) 0]):=by
        rw[show c8-124-k2=(c8-124-(k2+1))+1 by omega];rfl
       rw[hs]at hag
       refine aY (fun m=>(m.ord 0 rfl).2.1) fun hA_x=> ?_
       refine aC<|ag<|ah<|aI<|aj<|hy (fun _=>aa rfl)<|hy (fun _=>aa rfl)<|hy (fun _=>aa rfl)<|hy (fun _=>aU rfl Tryz.underlying27)<|hy (fun _=>aa rfl)<|hy (fun _=>cw rfl rfl (bC (by omega) (by omega)))<|hy (fun _=>aO rfl rfl Tryz.underlying27 ek hA_x (show((o2.length-dd:Nat):Int)=_ by omega) (by omega))<|hy (fun m=>aw rfl jL ((m.ord 0 rfl).cell (bM (by omega))))<| ?_
       refine hx (bY Tryz.underlying27 fb rfl rfl rfl (by simp[Value.cells,B8]) (by decide) (by decide) (fun g102=> ?_))
       have hA_b102:0<1→(some (⟨g102,0,none⟩:Addr))≠none:=fun _ h=>by cases h
       refine aT (fun w m=>m.bQ 0 rfl (show _=aG 5 1 (.slice (some ⟨g102,0,none⟩) 1 1) 1 (aR [o2.getD (o2.length-dd) 0])from rfl)) ?_
       refine hx (bL 1 rfl rfl rfl Tryz.underlying27 Tryz.underlying27 (by exact .inl rfl) fb rfl (fun m=>Src.b7 (m.ord 0 rfl)) aS (by unfold maxLen;omega) (by omega) (fun u=> ?_))
       refine aD (fun m=>(m.own 0 rfl).slice) ?_
       rintro⟨A_x,c_x,rfl,hc_x⟩
       refine aD (fun m=>(m.ord 0 rfl).2.1) fun hA_x=> ?_
       have hlm:o2.length+1=(o2++[o2.getD (o2.length-dd) 0]).length:=by rw[List.length_append];rfl
       rw[hlm]at hc_x hA_x ⊢
       refine aT (fun w m=>m.bQ 0 rfl (show _=aG 5 1 (.slice A_x (o2++[o2.getD (o2.length-dd) 0]).length c_x) (o2++[o2.getD (o2.length-dd) 0]).length (aR (o2++[o2.getD (o2.length-dd) 0]))from congrArg (aG _ _ _ _) (by rw[bx]))) ?_
       refine hy (fun _=>ab rfl)<|ai<|al (ρ' :=[(5,_),(91,_),(10,_),(86,_),(78,_),(9,_),(58,_),(23,_),(8,_),(14,_),(6,_),(7,_),(4,_),(0,_),(1,_)]) ⟨rfl,rfl,rfl,rfl,rfl,rfl,rfl,rfl,rfl,rfl,rfl,rfl,rfl,rfl,rfl,trivial⟩<|ak (X' :=[_,_,_]) (S' :=[_]) (fun _ m=>m)<|aM<|ag<|aj<|hy (fun _=>aa rfl)<|hy (fun _=>aN rfl rfl (bC (by omega) (by omega)))<|hy (fun _=>ab rfl)<|ai<|al (ρ' :=[(10,_),(5,_),(91,_),(86,_),(78,_),(9,_),(58,_),(23,_),(8,_),(14,_),(6,_),(7,_),(4,_),(0,_),(1,_)]) ⟨rfl,rfl,rfl,rfl,rfl,rfl,rfl,rfl,rfl,rfl,rfl,rfl,rfl,rfl,rfl,trivial⟩<| ?_
       refine gN (k2+1) (o2++[o2.getD (o2.length-dd) 0]) A_x c_x ⟨rfl,rfl,rfl,rfl,rfl,rfl,rfl,rfl,rfl,rfl,rfl,rfl,rfl,rfl,trivial⟩ [0,1] rfl [0] rfl (⟨by omega,by rw[←hlm];omega,hag⟩) (by omega)
      ·obtain rfl:k2=c8-124:=by omega
       rw[Nat.sub_self]at hag
       have hag:o2=again dd (c8-124) o:=hag
       rw[←hag]at hU
       refine bK<|ao<|ao<|aB<|ag<|aj<|hy (fun _=>aa rfl)<|hy (fun _=>yV (aN rfl rfl (bC (by omega) (by omega))) ((show Value.int .i64 _= .int .i64 ((i+3:Nat):Int) by congr 1)))<|hy (fun _=>ab rfl)<|ai<|al (ρ' :=[(7,_),(91,_),(5,_),(10,_),(86,_),(78,_),(9,_),(58,_),(23,_),(8,_),(14,_),(6,_),(4,_),(0,_),(1,_)]) ⟨rfl,rfl,rfl,rfl,rfl,rfl,rfl,rfl,rfl,rfl,rfl,rfl,rfl,rfl,rfl,trivial⟩<|aM<|ag<|aj<|hy (fun _=>aa rfl)<|hy (fun _=>aN rfl rfl (bC (by omega) (by omega)))<|hy (fun _=>ab rfl)<|ai<|al (ρ' :=[(6,_),(7,_),(91,_),(5,_),(10,_),(86,_),(78,_),(9,_),(58,_),(23,_),(8,_),(14,_),(4,_),(0,_),(1,_)]) ⟨rfl,rfl,rfl,rfl,rfl,rfl,rfl,rfl,rfl,rfl,rfl,rfl,rfl,rfl,rfl,trivial⟩<| ?_
       refine pz (i+3) o2 (nn+1) A4 c4 ⟨rfl,rfl,rfl,rfl,rfl,rfl,trivial⟩ [0,0] rfl [0] rfl (⟨by omega,by omega,by omega,hU⟩) (by omega)
 ·obtain rfl:i=n:=by omega
  rw[List.drop_of_length_le (by omega),oU]at hU
  rw[←hU]
  refine bK<|ao<|ao<|aB<|ag<|ah<|aj<|hy (fun _=>aa rfl)<|hy (fun _=>aa rfl)<|hy (fun _=>cy n9 rfl rfl (by kernel_rfl) (.cons (o:=0) (sz:=1) (by kernel_rfl) rfl rfl (Nat.le_of_ble_eq_true rfl) (.cons (o:=1) (sz:=1) (by kernel_rfl) rfl rfl (Nat.le_of_ble_eq_true rfl) .nil)))<| ?_
  refine cJ (aK 1 rfl rfl rfl jB rfl j0 rfl ?_)
  refine ai<|al (ρ' :=[(14,_),(5,_),(6,_),(7,_),(4,_),(0,_),(1,_)]) ⟨rfl,rfl,rfl,rfl,rfl,rfl,rfl,trivial⟩<|ak (X' :=[_,_]) (S' :=[_]) (fun _ m=>m)<|ag<|aX<| ?_
  exact fx trivial rfl rfl ra jB rfl (fun m=>(m.aZ 0 rfl).az) [1] rfl [] rfl ⟨_,_,rfl,rfl,rfl⟩
end Go.Proofs.YtmibdabdlgmafaaGreatDoor
end
section
set_option maxRecDepth 20000
set_option maxHeartbeats 4000000
namespace Go.Proofs.YtmibdabdlgmafaaGreatDoor
open Go.Eng Go.Hx
def yQ(f:List UInt8):Int:=match gR f with|none=>-1|some k=>(k:Nat)
theorem lD{f:List UInt8}(h:gR f=none):yQ f=-1:=by unfold yQ;rw[h]
theorem rq{f:List UInt8}{k:Nat}(h:gR f=some k):yQ f=(k:Nat):=by unfold yQ;rw[h]
theorem Fj{A:Option Addr}{n c:Nat}{f:List UInt8}(hl:f.length=n)(hn:n≤10000000):cj Tryz.prog 216 [.slice A n c] [] [cV 1 A n (aR f)] (fun v_ X_ S_=>v_=(.int .i64 (yQ f))∧X_=[]∧S_=[]):=by
 have hv:k0 (f.drop 2)=(f.getD 2 0).toNat+256*(f.getD 3 0).toNat+65536*(f.getD 4 0).toNat+16777216*(f.getD 5 0).toNat:=by simp[k0,List.getD]
 have b0:=(f.getD 2 0).toNat_lt
 have b1:=(f.getD 3 0).toNat_lt
 have b2:=(f.getD 4 0).toNat_lt
 have b3:=(f.getD 5 0).toNat_lt
 have h76:(((f.getD 0 0).toNat:Int)≠76)↔f.getD 0 0≠76:=by
  constructor
  ·intro h e;rw[e]at h;exact h rfl
  ·intro h e;exact h (UInt8.toNat_inj.1 (by rw[show(76:UInt8).toNat=76 from rfl];omega))
 refine aQ (N:=40) Tryz.func216 rfl rfl (by simp) fun b=> ?_
 refine aY (fun m=>ig (m.rd 0 rfl)) ?_
 rintro⟨hl_r,hA_r⟩
 by_cases h1:f.length<10
 ·rw[lD (if_pos (.inl h1))]
  refine ah<|aj<|hy (fun _=>ab rfl)<|ai<|ag<|ah<|ah<|aj<|hy (fun _=>aa rfl)<|hy (fun _=>aU rfl Tryz.underlying27)<|hy (fun _=>yT (bu rfl rfl) ((decide_eq_true (by omega))))<|hy (fun _=>aa rfl)<|bD rfl rfl rfl (by decide)<|bD rfl rfl rfl (by decide)<|bD rfl rfl rfl (by decide)<|bD rfl rfl rfl (by decide)<|hy (fun _=>bX rfl rfl)<|hy (fun _=>aa rfl)<|bD rfl rfl rfl (by decide)<|bD rfl rfl rfl (by decide)<|bD rfl rfl rfl (by decide)<|bD rfl rfl rfl (by decide)<|hy (fun _=>bX rfl rfl)<|ai<|al (ρ' :=[(17,_),(2,_),(0,_)]) ⟨rfl,rfl,rfl,trivial⟩<|ag<| ?_
  refine ic rfl (rfl) ?_
  refine ah<|aj<|hy (fun _=>ab rfl)<|ai<|ag<|aX<|ax<| ?_
  exact bf trivial rfl rfl [] rfl [] rfl ⟨rfl,rfl,rfl⟩
 ·by_cases h2:f.getD 0 0≠76
  ·rw[lD (if_pos (.inr (.inl h2)))]
   refine ah<|aj<|hy (fun _=>ab rfl)<|ai<|ag<|ah<|ah<|aj<|hy (fun _=>aa rfl)<|hy (fun _=>aU rfl Tryz.underlying27)<|hy (fun _=>yF (bu rfl rfl) ((decide_eq_false (by omega))))<|hy (fun _=>aa rfl)<|dU (o:=_) rfl rfl rfl (fun _=>aa rfl)<|dU (o:=_) rfl rfl rfl (fun _=>aO rfl rfl Tryz.underlying27 ek hA_r (show((0:Nat):Int)=0 from rfl) (by omega))<|dU (o:=_) rfl rfl rfl (fun m=>aw rfl jL ((m.rd 0 rfl).cell (bM (by omega))))<|dU (o:=_) rfl rfl rfl (fun _=>yT (dP rfl rfl) ((decide_eq_true (h76.2 h2))))<|hy (fun _=>bP rfl rfl)<|hy (fun _=>aa rfl)<|bD rfl rfl rfl (by decide)<|bD rfl rfl rfl (by decide)<|bD rfl rfl rfl (by decide)<|bD rfl rfl rfl (by decide)<|hy (fun _=>bX rfl rfl)<|ai<|al (ρ' :=[(17,_),(2,_),(0,_)]) ⟨rfl,rfl,rfl,trivial⟩<|ag<| ?_
   refine ic rfl (rfl) ?_
   refine ah<|aj<|hy (fun _=>ab rfl)<|ai<|ag<|aX<|ax<| ?_
   exact bf trivial rfl rfl [] rfl [] rfl ⟨rfl,rfl,rfl⟩
  ·by_cases h3:1<(f.getD 1 0).toNat
   ·rw[lD (if_pos (.inr (.inr h3)))]
    refine ah<|aj<|hy (fun _=>ab rfl)<|ai<|ag<|ah<|ah<|aj<|hy (fun _=>aa rfl)<|hy (fun _=>aU rfl Tryz.underlying27)<|hy (fun _=>yF (bu rfl rfl) ((decide_eq_false (by omega))))<|hy (fun _=>aa rfl)<|dU (o:=_) rfl rfl rfl (fun _=>aa rfl)<|dU (o:=_) rfl rfl rfl (fun _=>aO rfl rfl Tryz.underlying27 ek hA_r (show((0:Nat):Int)=0 from rfl) (by omega))<|dU (o:=_) rfl rfl rfl (fun m=>aw rfl jL ((m.rd 0 rfl).cell (bM (by omega))))<|dU (o:=_) rfl rfl rfl (fun _=>yF (dP rfl rfl) ((decide_eq_false (fun q=>h2 (h76.1 q)))))<|hy (fun _=>bP rfl rfl)<|hy (fun _=>aa rfl)<|dU (o:=_) rfl rfl rfl (fun _=>aa rfl)<|dU (o:=_) rfl rfl rfl (fun _=>aO rfl rfl Tryz.underlying27 ek hA_r (show((1:Nat):Int)=1 from rfl) (by omega))<|dU (o:=_) rfl rfl rfl (fun m=>aw rfl jL ((m.rd 0 rfl).cell (bM (by omega))))<|dU (o:=_) rfl rfl rfl (fun _=>yT (cY rfl rfl) ((decide_eq_true (by omega))))<|hy (fun _=>bP rfl rfl)<|ai<|al (ρ' :=[(17,_),(2,_),(0,_)]) ⟨rfl,rfl,rfl,trivial⟩<|ag<| ?_
    refine ic rfl (rfl) ?_
    refine ah<|aj<|hy (fun _=>ab rfl)<|ai<|ag<|aX<|ax<| ?_
    exact bf trivial rfl rfl [] rfl [] rfl ⟨rfl,rfl,rfl⟩
   ·refine ah<|aj<|hy (fun _=>ab rfl)<|ai<|ag<|ah<|ah<|aj<|hy (fun _=>aa rfl)<|hy (fun _=>aU rfl Tryz.underlying27)<|hy (fun _=>yF (bu rfl rfl) ((decide_eq_false (by omega))))<|hy (fun _=>aa rfl)<|dU (o:=_) rfl rfl rfl (fun _=>aa rfl)<|dU (o:=_) rfl rfl rfl (fun _=>aO rfl rfl Tryz.underlying27 ek hA_r (show((0:Nat):Int)=0 from rfl) (by omega))<|dU (o:=_) rfl rfl rfl (fun m=>aw rfl jL ((m.rd 0 rfl).cell (bM (by omega))))<|dU (o:=_) rfl rfl rfl (fun _=>yF (dP rfl rfl) ((decide_eq_false (fun q=>h2 (h76.1 q)))))<|hy (fun _=>bP rfl rfl)<|hy (fun _=>aa rfl)<|dU (o:=_) rfl rfl rfl (fun _=>aa rfl)<|dU (o:=_) rfl rfl rfl (fun _=>aO rfl rfl Tryz.underlying27 ek hA_r (show((1:Nat):Int)=1 from rfl) (by omega))<|dU (o:=_) rfl rfl rfl (fun m=>aw rfl jL ((m.rd 0 rfl).cell (bM (by omega))))<|dU (o:=_) rfl rfl rfl (fun _=>yF (cY rfl rfl) ((decide_eq_false (by omega))))<|hy (fun _=>bP rfl rfl)<|ai<|al (ρ' :=[(17,_),(2,_),(0,_)]) ⟨rfl,rfl,rfl,trivial⟩<|ag<| ?_
    refine dL rfl (rfl) ?_
    have hL:gR f=some (k0 (f.drop 2)):=if_neg (fun q=>q.elim h1 (fun q=>q.elim h2 h3))
    rw[rq hL]
    refine aC<|ag<|ah<|cG [] [(0,some 0),(1,some 0),(2,some 0),(3,some 0),(4,some 0),(5,some 0),(6,some 0),(7,some 0),(8,some 0),(9,some 0),(10,some 0),(11,some 0),(12,some 0),(13,some 0),(14,some 0),(15,some 0),(16,some 0),(17,some 0),(18,some 0),(19,some 0),(20,some 0),(21,some 0),(22,some 0)] (by kernel_rfl) (by kernel_rfl) rfl 99<|an (aa rfl)<|an (aO rfl rfl Tryz.underlying27 ek hA_r (show((2:Nat):Int)=2 from rfl) (by omega))<|ca (fun m=>aw rfl jL ((m.rd 0 rfl).cell (bM (by omega))))<|an (bW rfl Tryz.underlying5 Tryz.underlying3 (Bc _))<|an (aa rfl)<|an (aO rfl rfl Tryz.underlying27 ek hA_r (show((3:Nat):Int)=3 from rfl) (by omega))<|ca (fun m=>aw rfl jL ((m.rd 0 rfl).cell (bM (by omega))))<|an (bW rfl Tryz.underlying5 Tryz.underlying3 (Bc _))<|an (fK rfl rfl (bC (by omega) (by omega)))<|an (aN rfl rfl (bC (by omega) (by omega)))<|an (aa rfl)<|an (aO rfl rfl Tryz.underlying27 ek hA_r (show((4:Nat):Int)=4 from rfl) (by omega))<|ca (fun m=>aw rfl jL ((m.rd 0 rfl).cell (bM (by omega))))<|an (bW rfl Tryz.underlying5 Tryz.underlying3 (Bc _))<|an (fK rfl rfl (bC (by omega) (by omega)))<|an (aN rfl rfl (bC (by omega) (by omega)))<|an (aa rfl)<|an (aO rfl rfl Tryz.underlying27 ek hA_r (show((5:Nat):Int)=5 from rfl) (by omega))<|ca (fun m=>aw rfl jL ((m.rd 0 rfl).cell (bM (by omega))))<|an (bW rfl Tryz.underlying5 Tryz.underlying3 (Bc _))<|an (fK rfl rfl (bC (by omega) (by omega)))<|an (yV (aN rfl rfl (bC (by omega) (by omega))) ((show Value.int .i64 (((f.getD 2 0).toNat:Int)+256*((f.getD 3 0).toNat:Int)+65536*((f.getD 4 0).toNat:Int)+16777216*((f.getD 5 0).toNat:Int))= .int .i64 (k0 (f.drop 2):Nat) by rw[hv];congr 1)))<|an (ab rfl)<|br<|al (ρ' :=[(2,_),(17,_),(0,_)]) ⟨rfl,rfl,rfl,trivial⟩<|ag<|aX<| ?_
    exact bf trivial rfl rfl [] rfl [] rfl ⟨rfl,rfl,rfl⟩
theorem nA{f u:List UInt8}{k:Nat}(h:vh f k=(u,0)):fU f k=if u.length≠k then([],2)else if gy (cQ u)≠f.drop (f.length-4)then([],7)else(u,0):=by
 unfold fU
 rw[h]
 exact if_neg (by simp)
theorem yI{f:List UInt8}{k:Nat}(h:(vh f k).2≠0):fU f k=([],2):=by
 unfold fU
 exact if_pos h
theorem DY{A:Option Addr}{n c:Nat}{f:List UInt8}{most:Int}(hc:n≤c)(hl:f.length=n)(hn:n≤10000000)(hm:most≤1000000):cj Tryz.prog 156 [.slice A n c,.int .i64 most] [] [cV 1 A n (aR f)] (fun v_ X_ S_=>∃A1 c1,v_=(.tuple #[.slice A1 (cZ f most).1.length c1,.int .i64 (cZ f most).2])∧X_=[]∧S_=[cV 1 A1 (cZ f most).1.length (aR (cZ f most).1)]∧((cZ f most).1.length≤c1)):=by
 refine aQ (N:=48) Tryz.func156 rfl rfl (by simp) fun b=> ?_
 refine aY (fun m=>ig (m.rd 0 rfl)) ?_
 rintro⟨hl_r,hA_r⟩
 refine ah<|aj<|hy (fun _=>ab rfl)<|hy (fun _=>ab rfl)<|ai<|ag<|ah<|aj<|hy (fun _=>aa rfl)<| ?_
 refine hx (aq rfl Tryz.call216 (Fj hl hn) [] rfl [0] rfl ?_)
 rintro _ _ _ ⟨rfl,rfl,rfl⟩
 refine hy (fun _=>ab rfl)<|ai<|al (ρ' :=[(6,_),(5,_),(4,_),(0,_),(1,_)]) ⟨rfl,rfl,rfl,rfl,rfl,trivial⟩<|ak (X' :=[]) (S' :=[_]) (fun _ m=>m)<|ag<|ah<|ah<|aj<|hy (fun _=>aa rfl)<|hy (fun _=>bu rfl rfl)<|ai<|al (ρ' :=[(12,_),(6,_),(5,_),(4,_),(0,_),(1,_)]) ⟨rfl,rfl,rfl,rfl,rfl,rfl,trivial⟩<|ag<| ?_
 rcases hL:gR f with _|k
 ·refine ic rfl ((decide_eq_true (by rw[lD hL];decide))) ?_
  rw[(pV hL)]
  refine ah<|aj<|hy (fun _=>ab rfl)<|hy (fun _=>ab rfl)<|ai<|ag<|aX<|ax<| ?_
  refine ak (fun w m=>m.nO (r' :=cV 1 none 0 []) (.refl _ _) (Rd.nil _ _ _) (fun k hk=>absurd rfl hk.1)) ?_
  have hA_z:0<0→(none:Option Addr)≠none:=fun h=>absurd h (by decide)
  exact dy trivial rfl rfl rfl [] rfl [0] rfl ⟨none,0,rfl,rfl,rfl,(Nat.le_refl _)⟩
 ·rw[rq hL]
  refine dL rfl ((decide_eq_false (by omega))) ?_
  refine aC<|ag<|ah<|ah<|aj<|hy (fun _=>aa rfl)<|hy (fun _=>aa rfl)<|hy (fun _=>cY rfl rfl)<|ai<|al (ρ' :=[(15,_),(12,_),(6,_),(5,_),(4,_),(0,_),(1,_)]) ⟨rfl,rfl,rfl,rfl,rfl,rfl,rfl,trivial⟩<|ag<| ?_
  refine cD rfl (fun hfar=> ?_) (fun hfar=> ?_)
  ·rw[(rA hL (by omega))]
   refine ah<|aj<|hy (fun _=>ab rfl)<|hy (fun _=>ab rfl)<|ai<|ag<|aX<|ax<| ?_
   refine ak (fun w m=>m.nO (r' :=cV 1 none 0 []) (.refl _ _) (Rd.nil _ _ _) (fun k hk=>absurd rfl hk.1)) ?_
   have hA_z:0<0→(none:Option Addr)≠none:=fun h=>absurd h (by decide)
   exact dy trivial rfl rfl rfl [] rfl [0] rfl ⟨none,0,rfl,rfl,rfl,(Nat.le_refl _)⟩
  ·obtain⟨h10,hk32⟩:=te hL
   have hopen:=tO hL (by omega)
   refine bw (fun w m=>m.jN 0 rfl (View.sub (n:=n) (c:=c) (k:=6) (m:=n-4-6) (by omega) (by omega))) ?_
   refine aY (fun m=>ig (m.rd 0 rfl)) ?_
   rintro⟨hl_p,hA_p⟩
   have hbl:n-4-6=(dA f).length:=by unfold dA;rw[List.length_take,List.length_drop];omega
   have hb2:(f.drop 6).take (n-4-6)=dA f:=by unfold dA;rw[show n-4-6=f.length-10 by omega]
   rw[hb2]
   refine aC<|ag<|ah<|aj<|hy (fun _=>aa rfl)<|hy (fun _=>aa rfl)<|hy (fun _=>aU rfl Tryz.underlying27)<|hy (fun _=>cw rfl rfl (bC (by omega) (by omega)))<|hy (fun _=>eG rfl rfl rfl Tryz.underlying27 ek (show((6:Nat):Int)=6 from rfl) (show((n-4:Nat):Int)=_ by omega) (by omega) (by omega))<|hy (fun _=>ab rfl)<|ai<|al (ρ' :=[(7,_),(15,_),(12,_),(6,_),(5,_),(4,_),(0,_),(1,_)]) ⟨rfl,rfl,rfl,rfl,rfl,rfl,rfl,rfl,trivial⟩<|ag<|ah<|ah<|aj<|hy (fun _=>aa rfl)<|hy (fun _=>aO rfl rfl Tryz.underlying27 ek hA_r (show((1:Nat):Int)=1 from rfl) (by omega))<|hy (fun m=>aw rfl jL ((m.rd 1 rfl).cell (bM (by omega))))<|hy (fun _=>cM rfl rfl)<|ai<|al (ρ' :=[(24,_),(7,_),(15,_),(12,_),(6,_),(5,_),(4,_),(0,_),(1,_)]) ⟨rfl,rfl,rfl,rfl,rfl,rfl,rfl,rfl,rfl,trivial⟩<|ag<| ?_
   refine cD rfl (fun h1=> ?_) (fun h1=> ?_)
   ·have hf1:f.getD 1 0=1:=UInt8.toNat_inj.1 (by rw[show(1:UInt8).toNat=1 from rfl];omega)
    have hun:vh f k=jM k (dA f) []:=if_pos hf1
    refine ah<|aj<|hy (fun _=>aa rfl)<|hy (fun _=>aa rfl)<| ?_
    refine hx (aq rfl Tryz.call217 (zD (show n-4-6≤c-6 by omega) (by omega) hbl.symm (show(k:Int)≤10000000 by omega) (l:=(dA f))) [] rfl [0] rfl ?_)
    rintro _ _ _ ⟨v,nn,rfl,rfl,rfl⟩
    refine aD (fun m=>(m.own 0 rfl).slice) ?_
    rintro⟨A_x,c_x,rfl,hc_x⟩
    refine aD (fun m=>(m.ord 0 rfl).2.1) fun hA_x=> ?_
    refine hx (aP n9 (fun g8=> ?_))
    refine cJ (aK 0 rfl rfl rfl jB rfl j0 rfl ?_)
    refine ai<|al (ρ' :=[(8,_),(24,_),(7,_),(15,_),(12,_),(6,_),(5,_),(4,_),(0,_),(1,_)]) ⟨rfl,rfl,rfl,rfl,rfl,rfl,rfl,rfl,rfl,rfl,trivial⟩<|ak (X' :=[_,_]) (S' :=[_,_]) (fun _ m=>m)<|ag<|ah<|ah<|aj<|hy (fun _=>aH rfl Cs (by decide))<|hy (fun m=>aw rfl lK (aA (m.aZ 0 rfl) (i:=2) rfl))<|hy (fun _=>dP rfl rfl)<|ai<|al (ρ' :=[(30,_),(8,_),(24,_),(7,_),(15,_),(12,_),(6,_),(5,_),(4,_),(0,_),(1,_)]) ⟨rfl,rfl,rfl,rfl,rfl,rfl,rfl,rfl,rfl,rfl,rfl,trivial⟩<|ag<| ?_
    refine cD rfl (fun he=> ?_) (fun he=> ?_)
    ·have hz:cZ f most=([],2):=by rw[hopen,yI (by rw[hun];exact he)]
     rw[hz]
     refine ah<|aj<|hy (fun _=>ab rfl)<|hy (fun _=>ab rfl)<|ai<|ag<|aX<|ax<|ax<| ?_
     refine ak (fun w m=>m.nO (r' :=cV 1 none 0 []) (.refl _ _) (Rd.nil _ _ _) (fun k hk=>absurd rfl hk.1)) ?_
     have hA_z:0<0→(none:Option Addr)≠none:=fun h=>absurd h (by decide)
     exact dy trivial rfl rfl rfl [] rfl [0] rfl ⟨none,0,rfl,rfl,rfl,(Nat.le_refl _)⟩
    ·have he:=Decidable.not_not.1 he
     have hun2:vh f k=((jM k (dA f) []).1,0):=by rw[hun];exact Prod.ext rfl he
     refine bw (fun w m=>(m.perm (ar [1] _ [_] _ rfl)).freeze) ?_
     refine bw (fun w m=>m.jN 0 rfl .own) ?_
     generalize(jM k (dA f) []).1=u at hc_x hA_x hun2 ⊢
     refine aC<|ag<|aj<|hy (fun _=>aH rfl C1 (by decide))<|hy (fun m=>aw rfl ea (aA (m.aZ 0 rfl) (i:=0) rfl))<|hy (fun _=>ab rfl)<|ai<|al (ρ' :=[(7,_),(30,_),(8,_),(24,_),(15,_),(12,_),(6,_),(5,_),(4,_),(0,_),(1,_)]) ⟨rfl,rfl,rfl,rfl,rfl,rfl,rfl,rfl,rfl,rfl,rfl,trivial⟩<|ag<|ah<|ah<|aj<|hy (fun _=>aa rfl)<|hy (fun _=>aU rfl Tryz.underlying27)<|hy (fun _=>aa rfl)<|hy (fun _=>dP rfl rfl)<|ai<|al (ρ' :=[(36,_),(7,_),(30,_),(8,_),(24,_),(15,_),(12,_),(6,_),(5,_),(4,_),(0,_),(1,_)]) ⟨rfl,rfl,rfl,rfl,rfl,rfl,rfl,rfl,rfl,rfl,rfl,rfl,trivial⟩<|ag<| ?_
     refine cD rfl (fun h36=> ?_) (fun h36=> ?_)
     ·have hz:cZ f most=([],2):=by rw[hopen,nA hun2];exact if_pos (by omega)
      rw[hz]
      refine ah<|aj<|hy (fun _=>ab rfl)<|hy (fun _=>ab rfl)<|ai<|ag<|aX<|ax<| ?_
      refine ak (fun w m=>m.nO (r' :=cV 1 none 0 []) (.refl _ _) (Rd.nil _ _ _) (fun k hk=>absurd rfl hk.1)) ?_
      have hA_z:0<0→(none:Option Addr)≠none:=fun h=>absurd h (by decide)
      exact dy trivial rfl rfl rfl [] rfl [0] rfl ⟨none,0,rfl,rfl,rfl,(Nat.le_refl _)⟩
     ·have hlu:(u).length=k:=by omega
      have hgo:cZ f most=if gy (cQ u)≠f.drop (f.length-4)then([],7)else(u,0):=by rw[hopen,nA hun2];exact if_neg (fun q=>q hlu)
      refine bw (fun w m=>m.jN 3 rfl (View.drop (n:=n) (c:=c) (k:=n-4) (by omega) (by omega))) ?_
      refine aY (fun m=>ig (m.rd 0 rfl)) ?_
      rintro⟨hl_e4,hA_e4⟩
      refine aC<|ag<|ah<|ah<|cG [1,2] [(0,some 0),(3,some 2),(4,some 2),(5,some 2),(6,some 2),(7,some 2),(8,some 2),(1,none),(2,none),(9,some 2)] (by kernel_rfl) (by kernel_rfl) rfl 99<|an (aa rfl)<|an (aa rfl)<|an (aa rfl)<|an (aU rfl Tryz.underlying27)<|an (cw rfl rfl (bC (by omega) (by omega)))<|an (ej rfl rfl Tryz.underlying27 ek (show((n-4:Nat):Int)=_ by omega) (by omega))<|ca (fun m=>jH rfl Tryz.underlying27 Tryz.underlying5 Tryz.underlying9 (m.rd 0 rfl))<| ?_
      refine dV (aq rfl Tryz.call161 (vE hc_x (by omega) rfl (l:=u)) [] rfl [1] rfl ?_)
      rintro _ _ _ ⟨v2,rfl,rfl,rfl⟩
      refine⟨(fun _=>wk [1] [0,1,2,3,4] rfl rfl), ?_⟩
      refine b5 (fun m=>(m.own 0 rfl).slice) ?_
      rintro⟨A_x2,c_x2,rfl,hc_x2⟩
      refine b5 (fun m=>(m.ord 0 rfl).2.1) fun hA_x2=> ?_
      refine Fa (fun _=>wk [1] [0,1,2,3,4] rfl rfl) (fun m=>jH rfl Tryz.underlying27 Tryz.underlying5 Tryz.underlying9 (m.ord 0 rfl))<|an (oG rfl rfl)<|br<|al (ρ' :=[(46,_),(36,_),(7,_),(30,_),(8,_),(24,_),(15,_),(12,_),(6,_),(5,_),(4,_),(0,_),(1,_)]) ⟨rfl,rfl,rfl,rfl,rfl,rfl,rfl,rfl,rfl,rfl,rfl,rfl,rfl,trivial⟩<|ak (X' :=[_,_]) (S' :=[_,_,_,_,_]) (fun _ m=>m)<|ag<| ?_
      refine cD rfl (fun h46=> ?_) (fun h46=> ?_)
      ·have hz:cZ f most=([],7):=by rw[hgo];exact if_pos (fun e=>h46 (by rw[e,hl]))
       rw[hz]
       refine ah<|aj<|hy (fun _=>ab rfl)<|hy (fun _=>ab rfl)<|ai<|ag<|aX<|ax<| ?_
       refine ak (fun w m=>m.nO (r' :=cV 1 none 0 []) (.refl _ _) (Rd.nil _ _ _) (fun k hk=>absurd rfl hk.1)) ?_
       have hA_z:0<0→(none:Option Addr)≠none:=fun h=>absurd h (by decide)
       exact dy trivial rfl rfl rfl [] rfl [0] rfl ⟨none,0,rfl,rfl,rfl,(Nat.le_refl _)⟩
      ·have h46:=cF.1 (Decidable.not_not.1 h46)
       have hz:cZ f most=(u,0):=by rw[hgo];exact if_neg (fun q=>q (by rw[h46,hl]))
       rw[hz]
       refine aC<|ag<|ah<|aj<|hy (fun _=>aa rfl)<|hy (fun _=>ab rfl)<|hy (fun _=>ab rfl)<|ai<|al (ρ' :=[(5,_),(4,_),(46,_),(36,_),(7,_),(30,_),(8,_),(24,_),(15,_),(12,_),(6,_),(0,_),(1,_)]) ⟨rfl,rfl,rfl,rfl,rfl,rfl,rfl,rfl,rfl,rfl,rfl,rfl,rfl,trivial⟩<|ag<|aX<| ?_
       exact dy trivial rfl rfl rfl [] rfl [1] rfl ⟨_,_,rfl,rfl,rfl,hc_x⟩
   ·have hf1:¬f.getD 1 0=1:=fun q=>h1 (by rw[q];rfl)
    have hun:vh f k=(dA f,0):=if_neg hf1
    rw[hbl]
    refine aC<|ag<|ah<|ah<|aj<|hy (fun _=>aa rfl)<|hy (fun _=>aU rfl Tryz.underlying27)<|hy (fun _=>aa rfl)<|hy (fun _=>dP rfl rfl)<|ai<|al (ρ' :=[(36,_),(24,_),(7,_),(15,_),(12,_),(6,_),(5,_),(4,_),(0,_),(1,_)]) ⟨rfl,rfl,rfl,rfl,rfl,rfl,rfl,rfl,rfl,rfl,trivial⟩<|ag<| ?_
    refine cD rfl (fun h36=> ?_) (fun h36=> ?_)
    ·have hz:cZ f most=([],2):=by rw[hopen,nA hun];exact if_pos (by omega)
     rw[hz]
     refine ah<|aj<|hy (fun _=>ab rfl)<|hy (fun _=>ab rfl)<|ai<|ag<|aX<|ax<| ?_
     refine ak (fun w m=>m.nO (r' :=cV 1 none 0 []) (.refl _ _) (Rd.nil _ _ _) (fun k hk=>absurd rfl hk.1)) ?_
     have hA_z:0<0→(none:Option Addr)≠none:=fun h=>absurd h (by decide)
     exact dy trivial rfl rfl rfl [] rfl [0] rfl ⟨none,0,rfl,rfl,rfl,(Nat.le_refl _)⟩
    ·have hlu:((dA f)).length=k:=by omega
     have hgo:cZ f most=if gy (cQ (dA f))≠f.drop (f.length-4)then([],7)else((dA f),0):=by rw[hopen,nA hun];exact if_neg (fun q=>q hlu)
     refine bw (fun w m=>m.jN 1 rfl (View.drop (n:=n) (c:=c) (k:=n-4) (by omega) (by omega))) ?_
     refine aY (fun m=>ig (m.rd 0 rfl)) ?_
     rintro⟨hl_e4,hA_e4⟩
     refine aC<|ag<|ah<|ah<|cG [1,2] [(0,some 0),(3,some 2),(4,some 2),(5,some 2),(6,some 2),(7,some 2),(8,some 2),(1,none),(2,none),(9,some 2)] (by kernel_rfl) (by kernel_rfl) rfl 99<|an (aa rfl)<|an (aa rfl)<|an (aa rfl)<|an (aU rfl Tryz.underlying27)<|an (cw rfl rfl (bC (by omega) (by omega)))<|an (ej rfl rfl Tryz.underlying27 ek (show((n-4:Nat):Int)=_ by omega) (by omega))<|ca (fun m=>jH rfl Tryz.underlying27 Tryz.underlying5 Tryz.underlying9 (m.rd 0 rfl))<| ?_
     refine dV (aq rfl Tryz.call161 (vE (show(dA f).length≤c-6 by omega) (by omega) rfl (l:=(dA f))) [] rfl [1] rfl ?_)
     rintro _ _ _ ⟨v,rfl,rfl,rfl⟩
     refine⟨(fun _=>wk [] [0,1,2] rfl rfl), ?_⟩
     refine b5 (fun m=>(m.own 0 rfl).slice) ?_
     rintro⟨A_x,c_x,rfl,hc_x⟩
     refine b5 (fun m=>(m.ord 0 rfl).2.1) fun hA_x=> ?_
     refine Fa (fun _=>wk [] [0,1,2] rfl rfl) (fun m=>jH rfl Tryz.underlying27 Tryz.underlying5 Tryz.underlying9 (m.ord 0 rfl))<|an (oG rfl rfl)<|br<|al (ρ' :=[(46,_),(36,_),(24,_),(7,_),(15,_),(12,_),(6,_),(5,_),(4,_),(0,_),(1,_)]) ⟨rfl,rfl,rfl,rfl,rfl,rfl,rfl,rfl,rfl,rfl,rfl,trivial⟩<|ak (X' :=[_]) (S' :=[_,_,_]) (fun _ m=>m)<|ag<| ?_
     refine cD rfl (fun h46=> ?_) (fun h46=> ?_)
     ·have hz:cZ f most=([],7):=by rw[hgo];exact if_pos (fun e=>h46 (by rw[e,hl]))
      rw[hz]
      refine ah<|aj<|hy (fun _=>ab rfl)<|hy (fun _=>ab rfl)<|ai<|ag<|aX<|ax<| ?_
      refine ak (fun w m=>m.nO (r' :=cV 1 none 0 []) (.refl _ _) (Rd.nil _ _ _) (fun k hk=>absurd rfl hk.1)) ?_
      have hA_z:0<0→(none:Option Addr)≠none:=fun h=>absurd h (by decide)
      exact dy trivial rfl rfl rfl [] rfl [0] rfl ⟨none,0,rfl,rfl,rfl,(Nat.le_refl _)⟩
     ·have h46:=cF.1 (Decidable.not_not.1 h46)
      have hz:cZ f most=((dA f),0):=by rw[hgo];exact if_neg (fun q=>q (by rw[h46,hl]))
      rw[hz]
      refine aC<|ag<|ah<|aj<|hy (fun _=>aa rfl)<|hy (fun _=>ab rfl)<|hy (fun _=>ab rfl)<|ai<|al (ρ' :=[(5,_),(4,_),(46,_),(36,_),(24,_),(7,_),(15,_),(12,_),(6,_),(0,_),(1,_)]) ⟨rfl,rfl,rfl,rfl,rfl,rfl,rfl,rfl,rfl,rfl,rfl,trivial⟩<|ag<|aX<| ?_
      exact dy trivial rfl rfl rfl [] rfl [1] rfl ⟨_,_,rfl,rfl,rfl,(show(dA f).length≤c-6 by omega)⟩
end Go.Proofs.YtmibdabdlgmafaaGreatDoor
end
section
set_option maxRecDepth 20000
namespace Go.Proofs.YtmibdabdlgmafaaGreatDoor
open Go.Eng Go.Hx
theorem jj{x:UInt32}{n:Nat}(hn:n≤32):cj Tryz.prog 204 [Wd x,.int .i64 (n:Int)] [] [] (fun v_ X_ S_=>v_=(Wd (kU n x))∧X_=[]∧S_=[]):=by
 refine aQ (N:=18) Tryz.func204 rfl rfl (by simp) fun b=> ?_
 refine ah<|aj<|hy (fun _=>ab rfl)<|ai<|ag<|ah<|ah<|aj<|hy (fun _=>ab rfl)<|ai<|ag<|aI<| ?_
 refine uU (fun i y=>n-i) (fun i y=>[(0,Wd y),(5,.int .i64 (i:Nat))]) (fun i y=>[]) (fun i y=>[]) (fun i y=>i≤n∧y=kU i x) 0 x [(4,_),(1,_)] ⟨rfl,rfl,trivial⟩ [] rfl [] rfl (⟨Nat.zero_le _,(yb x).symm⟩) ⟨rfl,rfl,trivial⟩ (fun i y ⟨hin,hyv⟩=> ?_)
 refine ah<|ah<|aj<|hy (fun _=>aa rfl)<|hy (fun _=>aa rfl)<|hy (fun _=>bu rfl rfl)<|ai<|al (ρ' :=[(8,_),(0,_),(5,_),(4,_),(1,_)]) ⟨rfl,rfl,rfl,rfl,rfl,trivial⟩<|ag<| ?_
 refine cD rfl (fun h=> ?_) (fun h=> ?_)
 ·refine aC<|ag<|ah<|aI<|aj<|hy (fun _=>aa rfl)<|hy (fun _=>rX (b:=2) (by decide) rfl rfl)<|hy (fun _=>aa rfl)<|hy (fun _=>AP (b:=2) (by decide) rfl rfl)<|hy (fun _=>se (b:=2147483648) rfl rfl)<|hy (fun _=>yV (dx rfl rfl) ((rfl:_=Wd (s9 y))))<|hy (fun _=>ab rfl)<|ai<|al (ρ' :=[(0,_),(8,_),(5,_),(4,_),(1,_)]) ⟨rfl,rfl,rfl,rfl,rfl,trivial⟩<|aM<|ag<|aj<|hy (fun _=>aa rfl)<|hy (fun _=>aN rfl rfl (bC (by omega) (by omega)))<|hy (fun _=>ab rfl)<|ai<|al (ρ' :=[(5,_),(0,_),(8,_),(4,_),(1,_)]) ⟨rfl,rfl,rfl,rfl,rfl,trivial⟩<| ?_
  refine pf (i+1) (s9 y) ⟨rfl,rfl,rfl,rfl,trivial⟩ [] rfl [] rfl (⟨by omega,by rw[hyv,xo (by omega)]⟩) (by omega)
 ·obtain rfl:i=n:=by omega
  subst hyv
  refine bK<|ao<|ao<|aB<|ag<|ah<|aj<|hy (fun _=>aa rfl)<|hy (fun _=>ab rfl)<|ai<|al (ρ' :=[(4,_),(8,_),(0,_),(5,_),(1,_)]) ⟨rfl,rfl,rfl,rfl,rfl,trivial⟩<|ag<|aX<| ?_
  exact bf trivial rfl rfl [] rfl [] rfl ⟨rfl,rfl,rfl⟩
theorem EU{A:Option Addr}{n c:Nat}{l:List UInt8}{i:Nat}(hi:i+4≤n)(hn:n≤1000000000000):cj Tryz.prog 203 [.slice A n c,.int .i64 (i:Int)] [] [cV 1 A n (aR l)] (fun v_ X_ S_=>v_=(Wd (kY l i))∧X_=[]∧S_=[]):=by
 refine aQ (N:=34) Tryz.func203 rfl rfl (by simp) fun b=> ?_
 refine aY (fun m=>ig (m.rd 0 rfl)) ?_
 rintro⟨hl_r,hA_r⟩
 have hl:l.length=n:=hl_r
 refine ah<|aj<|hy (fun _=>ab rfl)<|ai<|ag<|ah<|cG [] [(0,some 0),(1,some 0),(2,some 0),(3,some 0),(4,some 0),(5,some 0),(6,some 0),(7,some 0),(8,some 0),(9,some 0),(10,some 0),(11,some 0),(12,some 0),(13,some 0),(14,some 0),(15,some 0),(16,some 0),(17,some 0),(18,some 0),(19,some 0),(20,some 0),(21,some 0),(22,some 0),(23,some 0),(24,some 0),(25,some 0),(26,some 0),(27,some 0),(28,some 0),(29,some 0)] (by kernel_rfl) (by kernel_rfl) rfl 99<|an (aa rfl)<|an (aa rfl)<|an (aO rfl rfl Tryz.underlying27 ek hA_r rfl (by omega))<|ca (fun m=>aw rfl jL ((m.rd 0 rfl).cell (bM (by omega))))<|an (zQ rfl Tryz.underlying5 Tryz.underlying166)<|an (se (b:=16777216) rfl rfl)<|an (aa rfl)<|an (aa rfl)<|an (aN rfl rfl (bC (by omega) (by omega)))<|an (aO rfl rfl Tryz.underlying27 ek hA_r (show((i+1:Nat):Int)=_ by omega) (by omega))<|ca (fun m=>aw rfl jL ((m.rd 0 rfl).cell (bM (by omega))))<|an (zQ rfl Tryz.underlying5 Tryz.underlying166)<|an (se (b:=65536) rfl rfl)<|an (dx rfl rfl)<|an (aa rfl)<|an (aa rfl)<|an (aN rfl rfl (bC (by omega) (by omega)))<|an (aO rfl rfl Tryz.underlying27 ek hA_r (show((i+2:Nat):Int)=_ by omega) (by omega))<|ca (fun m=>aw rfl jL ((m.rd 0 rfl).cell (bM (by omega))))<|an (zQ rfl Tryz.underlying5 Tryz.underlying166)<|an (se (b:=256) rfl rfl)<|an (dx rfl rfl)<|an (aa rfl)<|an (aa rfl)<|an (aN rfl rfl (bC (by omega) (by omega)))<|an (aO rfl rfl Tryz.underlying27 ek hA_r (show((i+3:Nat):Int)=_ by omega) (by omega))<|ca (fun m=>aw rfl jL ((m.rd 0 rfl).cell (bM (by omega))))<|an (zQ rfl Tryz.underlying5 Tryz.underlying166)<|an (yV (dx rfl rfl) ((show Wd ((l.getD i 0).toUInt32*16777216+(l.getD (i+1) 0).toUInt32*65536+(l.getD (i+2) 0).toUInt32*256+(l.getD (i+3) 0).toUInt32)=Wd (kY l i) by rw[xm])))<|an (ab rfl)<|br<|al (ρ' :=[(4,_),(0,_),(1,_)]) ⟨rfl,rfl,rfl,trivial⟩<|ag<|aX<| ?_
 exact bf trivial rfl rfl [] rfl [] rfl ⟨rfl,rfl,rfl⟩
theorem Cr:cj Tryz.prog 202 [] [] [] (fun v_ X_ S_=>∃v,v_=v∧X_=[aG 166 1 v 64 (eh fL)]∧S_=[]):=by
 refine aQ (N:=2) Tryz.func202 rfl rfl (by simp) fun b=> ?_
 refine ah<|aj<|hy (fun _=>ab rfl)<|ai<|ag<|ah<|aj<| ?_
 refine hx (bY Tryz.underlying215 oq rfl rfl rfl (by decide) (by decide) (by decide) (fun g1=> ?_))
 have hA_b1:0<64→(some (⟨g1,0,none⟩:Addr))≠none:=fun _ h=>by cases h
 refine hy (fun _=>ab rfl)<|ai<|al (ρ' :=[(0,_)]) ⟨rfl,trivial⟩<|ak (X' :=[_]) (S' :=[]) (fun _ m=>m)<|ag<|aX<| ?_
 refine ak (fun w m=>m.bQ 0 rfl (show _=aG 166 1 (.slice (some ⟨g1,0,none⟩) 64 64) 64 (eh fL)from rfl)) ?_
 exact bf trivial rfl rfl [0] rfl [] rfl ⟨_,rfl,rfl,rfl⟩
theorem BD{H:Option Addr}{hc:Nat}{A:Option Addr}{c:Nat}{l:List UInt8}{h:List UInt32}(hcc:64≤c)(hh:h.length=8):cj Tryz.prog 142 [.slice H 8 hc,.slice A 64 c] [] [cV 1 H 8 (eh h),cV 1 A 64 (aR l)] (fun v_ X_ S_=>∃u,v_=u∧X_=[aG 166 1 u 8 (eh (ew h l))]∧S_=[]):=by
 refine aQ (N:=230) Tryz.func142 rfl rfl (by simp) fun b=> ?_
 refine aY (fun m=>gY (m.rd 0 rfl)) ?_
 rintro⟨hl_q,hA_q⟩
 refine aY (fun m=>ig (m.rd 1 rfl)) ?_
 rintro⟨hl_r,hA_r⟩
 have hl:l.length=64:=hl_r
 refine ah<|aj<|hy (fun _=>ab rfl)<|ai<|ag<|ah<|aj<| ?_
 refine hx (aq rfl Tryz.call202 (Cr) [] rfl [] rfl ?_)
 rintro _ _ _ ⟨v,rfl,rfl,rfl⟩
 refine aD (fun m=>(m.own 0 rfl).slice) ?_
 rintro⟨A_x,c_x,rfl,hc_x⟩
 refine aD (fun m=>(m.ord 0 rfl).2.1) fun hA_x=> ?_
 refine hy (fun _=>ab rfl)<|ai<|al (ρ' :=[(5,_),(4,_),(0,_),(1,_)]) ⟨rfl,rfl,rfl,rfl,trivial⟩<|ak (X' :=[_]) (S' :=[_,_]) (fun _ m=>m)<|ag<|ah<|aj<|hy (fun _=>ab rfl)<|ai<|ag<|ah<|ah<|aj<|hy (fun _=>ab rfl)<|ai<|ag<|aI<| ?_
 refine bw (fun w m=>m.dG (r' :=aG 166 1 (.slice none 0 0) 0 []) (.refl _ _) (Own.nil _ _ _ _) (fun k hk=>hk.elim)) ?_
 refine bw (fun w m=>m.bQ 0 rfl (show _=aG 166 1 (.slice none 0 0) 0 (eh (wl l 0))from rfl)) ?_
 refine fJ (fun i A1 c1=>16-i) (fun i A1 c1=>[(6,.slice A1 i c1),(7,.int .i64 (i:Nat))]) (fun i A1 c1=>[aG 166 1 (.slice A1 i c1) i (eh (wl l i))]) (fun i A1 c1=>[]) (fun i A1 c1=>i≤16) 0 none 0 [(5,_),(4,_),(0,_),(1,_)] ⟨rfl,rfl,rfl,rfl,trivial⟩ [0] rfl [] rfl (Nat.zero_le _) ⟨rfl,rfl,trivial⟩ (fun i A1 c1 hI=> ?_)
 refine ah<|ah<|aj<|hy (fun _=>aa rfl)<|hy (fun _=>bu rfl rfl)<|ai<|al (ρ' :=[(21,_),(6,_),(7,_),(5,_),(4,_),(0,_),(1,_)]) ⟨rfl,rfl,rfl,rfl,rfl,rfl,rfl,trivial⟩<|ag<| ?_
 refine cD rfl (fun hlt=> ?_) (fun hlt=> ?_)
 ·have hws:wl l (i+1)=wl l i++[kY l (4*i)]:=by rw[wl,if_pos (by omega)]
  refine aC<|ag<|ah<|aI<|aj<|hy (fun _=>aa rfl)<|hy (fun _=>aa rfl)<|hy (fun _=>aa rfl)<|hy (fun _=>fK rfl rfl (bC (by omega) (by omega)))<| ?_
  rw[show(4:Int)*(i:Int)=((4*i:Nat):Int) by omega]
  refine hx (aq rfl Tryz.call203 (EU (by omega) (by omega) (i:=4*i)) [] rfl [1] rfl ?_)
  rintro _ _ _ ⟨rfl,rfl,rfl⟩
  refine hx (bY Tryz.underlying215 oq rfl rfl rfl (by simp[Value.cells,B8]) (by decide) (by decide) (fun g29=> ?_))
  have hA_b29:0<1→(some (⟨g29,0,none⟩:Addr))≠none:=fun _ h=>by cases h
  refine aT (fun w m=>m.bQ 0 rfl (show _=aG 166 1 (.slice (some ⟨g29,0,none⟩) 1 1) 1 (eh [kY l (4*i)])from rfl)) ?_
  refine hx (bL 1 rfl rfl rfl Tryz.underlying215 Tryz.underlying215 (by exact .inl rfl) oq rfl (fun m=>Src.b7 (m.ord 0 rfl)) ia (by unfold maxLen;omega) (by omega) (fun u=> ?_))
  refine aD (fun m=>(m.own 0 rfl).slice) ?_
  rintro⟨A_o,c_o,rfl,hc_o⟩
  refine aD (fun m=>(m.ord 0 rfl).2.1) fun hA_o=> ?_
  refine aT (fun w m=>m.bQ 0 rfl (show _=aG 166 1 (.slice A_o (i+1) c_o) (i+1) (eh (wl l (i+1)))from by rw[hws,qh])) ?_
  refine hy (fun _=>ab rfl)<|ai<|al (ρ' :=[(6,_),(21,_),(7,_),(5,_),(4,_),(0,_),(1,_)]) ⟨rfl,rfl,rfl,rfl,rfl,rfl,rfl,trivial⟩<|ak (X' :=[_,_,_]) (S' :=[_,_]) (fun _ m=>m)<|aM<|ag<|aj<|hy (fun _=>aa rfl)<|hy (fun _=>aN rfl rfl (bC (by omega) (by omega)))<|hy (fun _=>ab rfl)<|ai<|al (ρ' :=[(7,_),(6,_),(21,_),(5,_),(4,_),(0,_),(1,_)]) ⟨rfl,rfl,rfl,rfl,rfl,rfl,rfl,trivial⟩<| ?_
  refine fu (i+1) A_o c_o ⟨rfl,rfl,rfl,rfl,rfl,rfl,trivial⟩ [0,1] rfl [0,1] rfl (by omega) (by omega)
 ·obtain rfl:i=16:=by omega
  refine bK<|ao<|ao<|aB<|ag<|ah<|ah<|aj<|hy (fun _=>ab rfl)<|ai<|ag<|aI<| ?_
  refine fJ (fun i A1 c1=>64-i) (fun i A1 c1=>[(6,.slice A1 i c1),(8,.int .i64 (i:Nat))]) (fun i A1 c1=>[aG 166 1 (.slice A1 i c1) i (eh (wl l i))]) (fun i A1 c1=>[]) (fun i A1 c1=>16≤i∧i≤64) 16 A1 c1 [(21,_),(7,_),(5,_),(4,_),(0,_),(1,_)] ⟨rfl,rfl,rfl,rfl,rfl,rfl,trivial⟩ [0] rfl [] rfl (⟨Nat.le_refl _,by decide⟩) ⟨rfl,rfl,trivial⟩ (fun i A1 c1 ⟨hi16,hi64⟩=> ?_)
  have hwl:=fw l i
  refine aY (fun m=>(m.ord 0 rfl).2.1) fun hA_o=> ?_
  refine ah<|ah<|aj<|hy (fun _=>aa rfl)<|hy (fun _=>bu rfl rfl)<|ai<|al (ρ' :=[(32,_),(6,_),(8,_),(21,_),(7,_),(5,_),(4,_),(0,_),(1,_)]) ⟨rfl,rfl,rfl,rfl,rfl,rfl,rfl,rfl,rfl,trivial⟩<|ag<| ?_
  refine cD rfl (fun hlt=> ?_) (fun hlt=> ?_)
  ·have hws:wl l (i+1)=wl l i++[mQ (wl l i) i]:=by rw[wl,if_neg (by omega)]
   refine aC<|ag<|ah<|aI<|ah<|cG [5,11] [(0,some 0),(1,some 2),(2,some 0),(3,some 0),(4,some 0),(6,some 1),(7,some 1),(8,some 1),(9,some 1),(10,some 1),(13,some 2),(14,some 2),(15,some 2),(16,some 2),(17,some 2),(18,some 2),(5,none),(11,none),(12,some 2),(19,some 2),(20,some 2)] (by kernel_rfl) (by kernel_rfl) rfl 99<|an (aa rfl)<|an (aa rfl)<|an (cw rfl rfl (bC (by omega) (by omega)))<|an (aO rfl rfl Tryz.underlying215 bJ hA_o (show((i-15:Nat):Int)=_ by omega) (by omega))<|ca (fun m=>aw rfl bR ((m.ord 0 rfl).cell (j:=i-15) (bg (by omega))))<|an (aa rfl)<|an (aa rfl)<|an (cw rfl rfl (bC (by omega) (by omega)))<|an (aO rfl rfl Tryz.underlying215 bJ hA_o (show((i-15:Nat):Int)=_ by omega) (by omega))<|ca (fun m=>aw rfl bR ((m.ord 0 rfl).cell (j:=i-15) (bg (by omega))))<|an (aa rfl)<|an (aa rfl)<|an (cw rfl rfl (bC (by omega) (by omega)))<|an (aO rfl rfl Tryz.underlying215 bJ hA_o (show((i-15:Nat):Int)=_ by omega) (by omega))<|ca (fun m=>aw rfl bR ((m.ord 0 rfl).cell (j:=i-15) (bg (by omega))))<|an (rX (b:=8) (by decide) rfl rfl)<| ?_
   refine dV (aq rfl Tryz.call204 (jj (by omega) (n:=7)) [] rfl [] rfl ?_)
   rintro _ _ _ ⟨rfl,rfl,rfl⟩
   refine⟨(fun _=>wk [0,0] [0,1] rfl rfl), ?_⟩
   refine dV (aq rfl Tryz.call204 (jj (by omega) (n:=18)) [] rfl [] rfl ?_)
   rintro _ _ _ ⟨rfl,rfl,rfl⟩
   refine⟨(fun _=>wk [0,0] [0,1] rfl rfl), ?_⟩
   refine an (eg rfl rfl)<|an (eg rfl rfl)<|an (ab rfl)<|br<|al (ρ' :=[(9,_),(32,_),(6,_),(8,_),(21,_),(7,_),(5,_),(4,_),(0,_),(1,_)]) ⟨rfl,rfl,rfl,rfl,rfl,rfl,rfl,rfl,rfl,rfl,trivial⟩<|ak (X' :=[_,_]) (S' :=[_,_]) (fun _ m=>m)<|ag<|ah<|cG [5,11] [(0,some 0),(1,some 2),(2,some 0),(3,some 0),(4,some 0),(6,some 1),(7,some 1),(8,some 1),(9,some 1),(10,some 1),(13,some 2),(14,some 2),(15,some 2),(16,some 2),(17,some 2),(18,some 2),(5,none),(11,none),(12,some 2),(19,some 2),(20,some 2)] (by kernel_rfl) (by kernel_rfl) rfl 99<|an (aa rfl)<|an (aa rfl)<|an (cw rfl rfl (bC (by omega) (by omega)))<|an (aO rfl rfl Tryz.underlying215 bJ hA_o (show((i-2:Nat):Int)=_ by omega) (by omega))<|ca (fun m=>aw rfl bR ((m.ord 0 rfl).cell (j:=i-2) (bg (by omega))))<|an (aa rfl)<|an (aa rfl)<|an (cw rfl rfl (bC (by omega) (by omega)))<|an (aO rfl rfl Tryz.underlying215 bJ hA_o (show((i-2:Nat):Int)=_ by omega) (by omega))<|ca (fun m=>aw rfl bR ((m.ord 0 rfl).cell (j:=i-2) (bg (by omega))))<|an (aa rfl)<|an (aa rfl)<|an (cw rfl rfl (bC (by omega) (by omega)))<|an (aO rfl rfl Tryz.underlying215 bJ hA_o (show((i-2:Nat):Int)=_ by omega) (by omega))<|ca (fun m=>aw rfl bR ((m.ord 0 rfl).cell (j:=i-2) (bg (by omega))))<|an (rX (b:=1024) (by decide) rfl rfl)<| ?_
   refine dV (aq rfl Tryz.call204 (jj (by omega) (n:=17)) [] rfl [] rfl ?_)
   rintro _ _ _ ⟨rfl,rfl,rfl⟩
   refine⟨(fun _=>wk [0,0] [0,1] rfl rfl), ?_⟩
   refine dV (aq rfl Tryz.call204 (jj (by omega) (n:=19)) [] rfl [] rfl ?_)
   rintro _ _ _ ⟨rfl,rfl,rfl⟩
   refine⟨(fun _=>wk [0,0] [0,1] rfl rfl), ?_⟩
   refine an (eg rfl rfl)<|an (eg rfl rfl)<|an (ab rfl)<|br<|al (ρ' :=[(10,_),(9,_),(32,_),(6,_),(8,_),(21,_),(7,_),(5,_),(4,_),(0,_),(1,_)]) ⟨rfl,rfl,rfl,rfl,rfl,rfl,rfl,rfl,rfl,rfl,rfl,trivial⟩<|ak (X' :=[_,_]) (S' :=[_,_]) (fun _ m=>m)<|ag<|cG [5,16,17] [(0,some 2),(1,some 3),(2,some 3),(3,some 3),(4,some 3),(6,some 3),(8,some 3),(9,some 3),(10,some 3),(11,some 3),(12,some 1),(14,some 1),(5,none),(7,some 1),(13,some 1),(15,some 1),(16,none),(17,none),(18,some 3)] (by kernel_rfl) (by kernel_rfl) rfl 2<|an (aa rfl)<|an (aa rfl)<|an (aa rfl)<|an (cw rfl rfl (bC (by omega) (by omega)))<|an (aO rfl rfl Tryz.underlying215 bJ hA_o (show((i-16:Nat):Int)=_ by omega) (by omega))<|an (aa rfl)<|an (aa rfl)<|an (aa rfl)<|an (cw rfl rfl (bC (by omega) (by omega)))<|an (aO rfl rfl Tryz.underlying215 bJ hA_o (show((i-7:Nat):Int)=_ by omega) (by omega))<|ca (fun m=>aw rfl bR ((m.ord 0 rfl).cell (j:=i-7) (bg (by omega))))<|an (aa rfl)<|Fa (fun _=>wk [0,0] [0,1] rfl rfl) (fun m=>aw rfl bR ((m.ord 0 rfl).cell (j:=i-16) (bg (by omega))))<|an (dx rfl rfl)<|an (dx rfl rfl)<|an (yV (dx rfl rfl) ((rfl:_=Wd (mQ (wl l i) i))))<| ?_
   refine dV (bY Tryz.underlying215 oq rfl rfl rfl (by exact tm (l:=[_])) (by decide) (by decide) (fun g91=>⟨(fun _=>wk [1,1] [0,1] rfl rfl), ?_⟩))
   have hA_b91:0<1→(some (⟨g91,0,none⟩:Addr))≠none:=fun _ h=>by cases h
   refine eE (fun w m=>m.bQ 0 rfl (show _=aG 166 1 (.slice (some ⟨g91,0,none⟩) 1 1) 1 (eh [mQ (wl l i) i])from rfl)) ?_
   refine dV (bL 1 rfl rfl rfl Tryz.underlying215 Tryz.underlying215 (by exact .inl rfl) oq rfl (fun m=>Src.b7 (m.ord 0 rfl)) ia (by unfold maxLen;omega) (by omega) (fun u=>⟨(fun h=>absurd h (by decide)), ?_⟩))
   refine b5 (fun m=>(m.own 0 rfl).slice) ?_
   rintro⟨A_o,c_o,rfl,hc_o⟩
   refine b5 (fun m=>(m.ord 0 rfl).2.1) fun hA_o=> ?_
   refine eE (fun w m=>m.bQ 0 rfl (show _=aG 166 1 (.slice A_o (i+1) c_o) (i+1) (eh (wl l (i+1)))from by rw[hws,qh])) ?_
   refine an (ab rfl)<|br<|al (ρ' :=[(6,_),(10,_),(9,_),(32,_),(8,_),(21,_),(7,_),(5,_),(4,_),(0,_),(1,_)]) ⟨rfl,rfl,rfl,rfl,rfl,rfl,rfl,rfl,rfl,rfl,rfl,trivial⟩<|ak (X' :=[_,_,_]) (S' :=[_,_]) (fun _ m=>m)<|aM<|ag<|aj<|hy (fun _=>aa rfl)<|hy (fun _=>aN rfl rfl (bC (by omega) (by omega)))<|hy (fun _=>ab rfl)<|ai<|al (ρ' :=[(8,_),(6,_),(10,_),(9,_),(32,_),(21,_),(7,_),(5,_),(4,_),(0,_),(1,_)]) ⟨rfl,rfl,rfl,rfl,rfl,rfl,rfl,rfl,rfl,rfl,rfl,trivial⟩<| ?_
   refine fu (i+1) A_o c_o ⟨rfl,rfl,rfl,rfl,rfl,rfl,rfl,rfl,trivial⟩ [0,1] rfl [0,1] rfl (⟨by omega,by omega⟩) (by omega)
  ·obtain rfl:i=64:=by omega
   obtain⟨W,hW⟩:∃W,wl l 64=W:=⟨_,rfl⟩
   have hw64:W.length=64:=by rw[←hW];exact fw l 64
   rw[hW]
   refine bK<|ao<|ao<|aB<|ag<|ah<|aj<|hy (fun _=>ab rfl)<|ai<|ag<|ah<|aj<|hy (fun _=>aa rfl)<|hy (fun _=>aa rfl)<| ?_
   refine aT (fun w m=>m.dG (r' :=aG 166 1 (.slice none 0 0) 0 []) (.refl _ _) (Own.nil _ _ _ _) (fun k hk=>hk.elim)) ?_
   refine hx (bL 0 rfl rfl rfl Tryz.underlying215 Tryz.underlying215 (by exact .inl rfl) oq rfl (fun m=>Src.b7 (m.rd 0 rfl)) ia (by unfold maxLen;omega) (by omega) (fun u=> ?_))
   refine aD (fun m=>(m.own 0 rfl).slice) ?_
   rintro⟨A_v,c_v,rfl,hc_v⟩
   refine aD (fun m=>(m.ord 0 rfl).2.1) fun hA_v=> ?_
   refine aT (fun w m=>m.bQ 0 rfl (show _=aG 166 1 (.slice A_v 8 c_v) 8 (eh (k4 W h 0))from rfl)) ?_
   refine hy (fun _=>ab rfl)<|ai<|al (ρ' :=[(11,_),(32,_),(6,_),(8,_),(21,_),(7,_),(5,_),(4,_),(0,_),(1,_)]) ⟨rfl,rfl,rfl,rfl,rfl,rfl,rfl,rfl,rfl,rfl,trivial⟩<|ak (X' :=[_,_,_]) (S' :=[_,_]) (fun _ m=>m)<|ag<|ah<|ah<|aj<|hy (fun _=>ab rfl)<|ai<|ag<|aI<| ?_
   refine fJ (fun i A2 c2=>64-i) (fun i A2 c2=>[(11,.slice A2 8 c2),(12,.int .i64 (i:Nat))]) (fun i A2 c2=>[aG 166 1 (.slice A2 8 c2) 8 (eh (k4 W h i))]) (fun i A2 c2=>[]) (fun i A2 c2=>i≤64) 0 A_v c_v [(32,_),(6,_),(8,_),(21,_),(7,_),(5,_),(4,_),(0,_),(1,_)] ⟨rfl,rfl,rfl,rfl,rfl,rfl,rfl,rfl,rfl,trivial⟩ [0] rfl [] rfl (Nat.zero_le _) ⟨rfl,rfl,trivial⟩ (fun i A2 c2 hi64=> ?_)
   have hv:=kD (w:=W) hh i
   have hro:fL.length=64:=rfl
   refine aY (fun m=>(m.ord 0 rfl).2.1) fun hA_v=> ?_
   refine aY (fun m=>(m.ord 2 rfl).2.1) fun hA_x=> ?_
   refine aY (fun m=>(m.ord 1 rfl).2.1) fun hA_o=> ?_
   refine ah<|ah<|aj<|hy (fun _=>aa rfl)<|hy (fun _=>bu rfl rfl)<|ai<|al (ρ' :=[(97,_),(11,_),(12,_),(32,_),(6,_),(8,_),(21,_),(7,_),(5,_),(4,_),(0,_),(1,_)]) ⟨rfl,rfl,rfl,rfl,rfl,rfl,rfl,rfl,rfl,rfl,rfl,rfl,trivial⟩<|ag<| ?_
   refine cD rfl (fun hlt=> ?_) (fun hlt=> ?_)
   ·generalize hvd:k4 W h i=v at hv ⊢
    refine aC<|ag<|ah<|aI<|ah<|cG [3,7,12] [(0,some 3),(1,some 0),(2,some 0),(4,some 1),(5,some 1),(6,some 1),(9,some 2),(10,some 2),(11,some 2),(3,none),(7,none),(8,some 3),(12,none),(13,some 3),(14,some 3)] (by kernel_rfl) (by kernel_rfl) rfl 99<|an (aa rfl)<|an (aO rfl rfl Tryz.underlying215 bJ hA_v (show((4:Nat):Int)=4 from rfl) (by omega))<|ca (fun m=>aw rfl bR ((m.ord 0 rfl).cell (j:=4) (bg (by omega))))<|an (aa rfl)<|an (aO rfl rfl Tryz.underlying215 bJ hA_v (show((4:Nat):Int)=4 from rfl) (by omega))<|ca (fun m=>aw rfl bR ((m.ord 0 rfl).cell (j:=4) (bg (by omega))))<|an (aa rfl)<|an (aO rfl rfl Tryz.underlying215 bJ hA_v (show((4:Nat):Int)=4 from rfl) (by omega))<|ca (fun m=>aw rfl bR ((m.ord 0 rfl).cell (j:=4) (bg (by omega))))<| ?_
    refine dV (aq rfl Tryz.call204 (jj (by omega) (n:=6)) [] rfl [] rfl ?_)
    rintro _ _ _ ⟨rfl,rfl,rfl⟩
    refine⟨(fun _=>wk [0,0,0] [0,1] rfl rfl), ?_⟩
    refine dV (aq rfl Tryz.call204 (jj (by omega) (n:=11)) [] rfl [] rfl ?_)
    rintro _ _ _ ⟨rfl,rfl,rfl⟩
    refine⟨(fun _=>wk [0,0,0] [0,1] rfl rfl), ?_⟩
    refine an (eg rfl rfl)<| ?_
    refine dV (aq rfl Tryz.call204 (jj (by omega) (n:=25)) [] rfl [] rfl ?_)
    rintro _ _ _ ⟨rfl,rfl,rfl⟩
    refine⟨(fun _=>wk [0,0,0] [0,1] rfl rfl), ?_⟩
    refine an (yV (eg rfl rfl) ((rfl:_=Wd (turns 6 11 25 (v_ v 4)))))<|an (ab rfl)<|br<|al (ρ' :=[(13,_),(97,_),(11,_),(12,_),(32,_),(6,_),(8,_),(21,_),(7,_),(5,_),(4,_),(0,_),(1,_)]) ⟨rfl,rfl,rfl,rfl,rfl,rfl,rfl,rfl,rfl,rfl,rfl,rfl,rfl,trivial⟩<|ak (X' :=[_,_,_]) (S' :=[_,_]) (fun _ m=>m)<|ag<|ah<|cG [] [(0,some 0),(1,some 0),(2,some 0),(3,some 0),(4,some 0),(5,some 0),(6,some 0),(7,some 0),(8,some 0),(9,some 0),(10,some 0),(11,some 0),(12,some 0),(13,some 0),(14,some 0),(15,some 0),(16,some 0)] (by kernel_rfl) (by kernel_rfl) rfl 99<|an (aa rfl)<|an (aO rfl rfl Tryz.underlying215 bJ hA_v (show((4:Nat):Int)=4 from rfl) (by omega))<|ca (fun m=>aw rfl bR ((m.ord 0 rfl).cell (j:=4) (bg (by omega))))<|an (aa rfl)<|an (aO rfl rfl Tryz.underlying215 bJ hA_v (show((5:Nat):Int)=5 from rfl) (by omega))<|ca (fun m=>aw rfl bR ((m.ord 0 rfl).cell (j:=5) (bg (by omega))))<|an (jm rfl rfl)<|an (aa rfl)<|an (aO rfl rfl Tryz.underlying215 bJ hA_v (show((4:Nat):Int)=4 from rfl) (by omega))<|ca (fun m=>aw rfl bR ((m.ord 0 rfl).cell (j:=4) (bg (by omega))))<|an (Bh rfl rfl)<|an (aa rfl)<|an (aO rfl rfl Tryz.underlying215 bJ hA_v (show((6:Nat):Int)=6 from rfl) (by omega))<|ca (fun m=>aw rfl bR ((m.ord 0 rfl).cell (j:=6) (bg (by omega))))<|an (jm rfl rfl)<|an (eg rfl rfl)<|an (ab rfl)<|br<|al (ρ' :=[(14,_),(13,_),(97,_),(11,_),(12,_),(32,_),(6,_),(8,_),(21,_),(7,_),(5,_),(4,_),(0,_),(1,_)]) ⟨rfl,rfl,rfl,rfl,rfl,rfl,rfl,rfl,rfl,rfl,rfl,rfl,rfl,rfl,trivial⟩<|ag<|ah<|cG [] [(0,some 0),(1,some 0),(2,some 0),(3,some 0),(4,some 0),(5,some 0),(6,some 0),(7,some 0),(8,some 0),(9,some 0),(10,some 0),(11,some 0),(12,some 0),(13,some 0),(14,some 0),(15,some 0),(16,some 0),(17,some 0)] (by kernel_rfl) (by kernel_rfl) rfl 99<|an (aa rfl)<|an (aO rfl rfl Tryz.underlying215 bJ hA_v (show((7:Nat):Int)=7 from rfl) (by omega))<|ca (fun m=>aw rfl bR ((m.ord 0 rfl).cell (j:=7) (bg (by omega))))<|an (aa rfl)<|an (dx rfl rfl)<|an (aa rfl)<|an (dx rfl rfl)<|an (aa rfl)<|an (aa rfl)<|an (aO rfl rfl Tryz.underlying215 bJ hA_x rfl (by omega))<|ca (fun m=>aw rfl bR ((m.ord 2 rfl).cell (j:=i) (bg (by omega))))<| ?_
    generalize hk:fL.getD i 0=k
    refine an (dx rfl rfl)<|an (aa rfl)<|an (aa rfl)<|an (aO rfl rfl Tryz.underlying215 bJ hA_o rfl (by omega))<|ca (fun m=>aw rfl bR ((m.ord 1 rfl).cell (j:=i) (bg (by omega))))<|an (yV (dx rfl rfl) ((rfl:_=Wd (rt v k (W.getD i 0)))))<|an (ab rfl)<|br<|al (ρ' :=[(15,_),(14,_),(13,_),(97,_),(11,_),(12,_),(32,_),(6,_),(8,_),(21,_),(7,_),(5,_),(4,_),(0,_),(1,_)]) ⟨rfl,rfl,rfl,rfl,rfl,rfl,rfl,rfl,rfl,rfl,rfl,rfl,rfl,rfl,rfl,trivial⟩<|ag<|ah<|cG [3,7,12] [(0,some 3),(1,some 0),(2,some 0),(4,some 1),(5,some 1),(6,some 1),(9,some 2),(10,some 2),(11,some 2),(3,none),(7,none),(8,some 3),(12,none),(13,some 3),(14,some 3)] (by kernel_rfl) (by kernel_rfl) rfl 99<|an (aa rfl)<|an (aO rfl rfl Tryz.underlying215 bJ hA_v (show((0:Nat):Int)=0 from rfl) (by omega))<|ca (fun m=>aw rfl bR ((m.ord 0 rfl).cell (j:=0) (bg (by omega))))<|an (aa rfl)<|an (aO rfl rfl Tryz.underlying215 bJ hA_v (show((0:Nat):Int)=0 from rfl) (by omega))<|ca (fun m=>aw rfl bR ((m.ord 0 rfl).cell (j:=0) (bg (by omega))))<|an (aa rfl)<|an (aO rfl rfl Tryz.underlying215 bJ hA_v (show((0:Nat):Int)=0 from rfl) (by omega))<|ca (fun m=>aw rfl bR ((m.ord 0 rfl).cell (j:=0) (bg (by omega))))<| ?_
    refine dV (aq rfl Tryz.call204 (jj (by omega) (n:=2)) [] rfl [] rfl ?_)
    rintro _ _ _ ⟨rfl,rfl,rfl⟩
    refine⟨(fun _=>wk [0,0,0] [0,1] rfl rfl), ?_⟩
    refine dV (aq rfl Tryz.call204 (jj (by omega) (n:=13)) [] rfl [] rfl ?_)
    rintro _ _ _ ⟨rfl,rfl,rfl⟩
    refine⟨(fun _=>wk [0,0,0] [0,1] rfl rfl), ?_⟩
    refine an (eg rfl rfl)<| ?_
    refine dV (aq rfl Tryz.call204 (jj (by omega) (n:=22)) [] rfl [] rfl ?_)
    rintro _ _ _ ⟨rfl,rfl,rfl⟩
    refine⟨(fun _=>wk [0,0,0] [0,1] rfl rfl), ?_⟩
    refine an (yV (eg rfl rfl) ((rfl:_=Wd (turns 2 13 22 (v_ v 0)))))<|an (ab rfl)<|br<|al (ρ' :=[(16,_),(15,_),(14,_),(13,_),(97,_),(11,_),(12,_),(32,_),(6,_),(8,_),(21,_),(7,_),(5,_),(4,_),(0,_),(1,_)]) ⟨rfl,rfl,rfl,rfl,rfl,rfl,rfl,rfl,rfl,rfl,rfl,rfl,rfl,rfl,rfl,rfl,trivial⟩<|ak (X' :=[_,_,_]) (S' :=[_,_]) (fun _ m=>m)<|ag<|ah<|cG [] [(0,some 0),(1,some 0),(2,some 0),(3,some 0),(4,some 0),(5,some 0),(6,some 0),(7,some 0),(8,some 0),(9,some 0),(10,some 0),(11,some 0),(12,some 0),(13,some 0),(14,some 0),(15,some 0),(16,some 0),(17,some 0),(18,some 0),(19,some 0),(20,some 0),(21,some 0),(22,some 0),(23,some 0)] (by kernel_rfl) (by kernel_rfl) rfl 99<|an (aa rfl)<|an (aO rfl rfl Tryz.underlying215 bJ hA_v (show((0:Nat):Int)=0 from rfl) (by omega))<|ca (fun m=>aw rfl bR ((m.ord 0 rfl).cell (j:=0) (bg (by omega))))<|an (aa rfl)<|an (aO rfl rfl Tryz.underlying215 bJ hA_v (show((1:Nat):Int)=1 from rfl) (by omega))<|ca (fun m=>aw rfl bR ((m.ord 0 rfl).cell (j:=1) (bg (by omega))))<|an (jm rfl rfl)<|an (aa rfl)<|an (aO rfl rfl Tryz.underlying215 bJ hA_v (show((0:Nat):Int)=0 from rfl) (by omega))<|ca (fun m=>aw rfl bR ((m.ord 0 rfl).cell (j:=0) (bg (by omega))))<|an (aa rfl)<|an (aO rfl rfl Tryz.underlying215 bJ hA_v (show((2:Nat):Int)=2 from rfl) (by omega))<|ca (fun m=>aw rfl bR ((m.ord 0 rfl).cell (j:=2) (bg (by omega))))<|an (jm rfl rfl)<|an (eg rfl rfl)<|an (aa rfl)<|an (aO rfl rfl Tryz.underlying215 bJ hA_v (show((1:Nat):Int)=1 from rfl) (by omega))<|ca (fun m=>aw rfl bR ((m.ord 0 rfl).cell (j:=1) (bg (by omega))))<|an (aa rfl)<|an (aO rfl rfl Tryz.underlying215 bJ hA_v (show((2:Nat):Int)=2 from rfl) (by omega))<|ca (fun m=>aw rfl bR ((m.ord 0 rfl).cell (j:=2) (bg (by omega))))<|an (jm rfl rfl)<|an (eg rfl rfl)<|an (ab rfl)<|br<|al (ρ' :=[(17,_),(16,_),(15,_),(14,_),(13,_),(97,_),(11,_),(12,_),(32,_),(6,_),(8,_),(21,_),(7,_),(5,_),(4,_),(0,_),(1,_)]) ⟨rfl,rfl,rfl,rfl,rfl,rfl,rfl,rfl,rfl,rfl,rfl,rfl,rfl,rfl,rfl,rfl,rfl,trivial⟩<|ag<|cG [28] [(0,some 0),(1,some 0),(2,some 0),(3,some 0),(4,some 0),(5,some 0),(6,some 0),(7,some 0),(8,some 0),(9,some 0),(10,some 0),(11,some 0),(12,some 0),(13,some 0),(14,some 0),(15,some 0),(16,some 0),(17,some 0),(18,some 0),(19,some 0),(20,some 0),(21,some 0),(22,some 0),(23,some 0),(24,some 0),(25,some 0),(26,some 0),(27,some 0),(28,none),(29,some 1)] (by kernel_rfl) (by kernel_rfl) rfl 99<|an (aa rfl)<|an (aa rfl)<|an (dx rfl rfl)<|an (aa rfl)<|an (yV (dx rfl rfl) ((show Wd (rt v k (W.getD i 0)+turns 2 13 22 (v_ v 0)+((v_ v 0 &&& v_ v 1) ^^^ (v_ v 0 &&& v_ v 2) ^^^ (v_ v 1 &&& v_ v 2)))=Wd (rt v k (W.getD i 0)+ru v) by rw[UInt32.add_assoc];rfl)))<|an (aa rfl)<|an (aO rfl rfl Tryz.underlying215 bJ hA_v (show((0:Nat):Int)=0 from rfl) (by omega))<|ca (fun m=>aw rfl bR ((m.ord 0 rfl).cell (j:=0) (bg (by omega))))<|an (aa rfl)<|an (aO rfl rfl Tryz.underlying215 bJ hA_v (show((1:Nat):Int)=1 from rfl) (by omega))<|ca (fun m=>aw rfl bR ((m.ord 0 rfl).cell (j:=1) (bg (by omega))))<|an (aa rfl)<|an (aO rfl rfl Tryz.underlying215 bJ hA_v (show((2:Nat):Int)=2 from rfl) (by omega))<|ca (fun m=>aw rfl bR ((m.ord 0 rfl).cell (j:=2) (bg (by omega))))<|an (aa rfl)<|an (aO rfl rfl Tryz.underlying215 bJ hA_v (show((3:Nat):Int)=3 from rfl) (by omega))<|ca (fun m=>aw rfl bR ((m.ord 0 rfl).cell (j:=3) (bg (by omega))))<|an (aa rfl)<|an (dx rfl rfl)<|an (aa rfl)<|an (aO rfl rfl Tryz.underlying215 bJ hA_v (show((4:Nat):Int)=4 from rfl) (by omega))<|ca (fun m=>aw rfl bR ((m.ord 0 rfl).cell (j:=4) (bg (by omega))))<|an (aa rfl)<|an (aO rfl rfl Tryz.underlying215 bJ hA_v (show((5:Nat):Int)=5 from rfl) (by omega))<|ca (fun m=>aw rfl bR ((m.ord 0 rfl).cell (j:=5) (bg (by omega))))<|an (aa rfl)<|an (aO rfl rfl Tryz.underlying215 bJ hA_v (show((6:Nat):Int)=6 from rfl) (by omega))<|ca (fun m=>aw rfl bR ((m.ord 0 rfl).cell (j:=6) (bg (by omega))))<| ?_
    refine dV (bY Tryz.underlying215 oq rfl rfl rfl (by exact tm (l:=[_,_,_,_,_,_,_,_])) (by decide) (by decide) (fun g212=>⟨(fun _=>wk [1,1,1] [0,1] rfl rfl), ?_⟩))
    have hA_b212:0<8→(some (⟨g212,0,none⟩:Addr))≠none:=fun _ h=>by cases h
    refine an (ab rfl)<|br<|al (ρ' :=[(11,_),(17,_),(16,_),(15,_),(14,_),(13,_),(97,_),(12,_),(32,_),(6,_),(8,_),(21,_),(7,_),(5,_),(4,_),(0,_),(1,_)]) ⟨rfl,rfl,rfl,rfl,rfl,rfl,rfl,rfl,rfl,rfl,rfl,rfl,rfl,rfl,rfl,rfl,rfl,trivial⟩<|ak (X' :=[_,_,_,_]) (S' :=[_,_]) (fun _ m=>m)<|aM<|ag<|aj<|hy (fun _=>aa rfl)<|hy (fun _=>aN rfl rfl (bC (by omega) (by omega)))<|hy (fun _=>ab rfl)<|ai<|al (ρ' :=[(12,_),(11,_),(17,_),(16,_),(15,_),(14,_),(13,_),(97,_),(32,_),(6,_),(8,_),(21,_),(7,_),(5,_),(4,_),(0,_),(1,_)]) ⟨rfl,rfl,rfl,rfl,rfl,rfl,rfl,rfl,rfl,rfl,rfl,rfl,rfl,rfl,rfl,rfl,rfl,trivial⟩<| ?_
    refine ak (fun w m=>m.bQ 0 rfl (show _=aG 166 1 (.slice (some ⟨g212,0,none⟩) 8 8) 8 (eh (k4 W h (i+1)))from by rw[k4,hvd,hk];rfl)) ?_
    refine fu (i+1) (some ⟨g212,0,none⟩) 8 ⟨rfl,rfl,rfl,rfl,rfl,rfl,rfl,rfl,rfl,rfl,rfl,trivial⟩ [0,1,1] rfl [0,1] rfl (by omega) (by omega)
   ·obtain rfl:i=64:=by omega
    generalize hvv:k4 W h 64=v at hv ⊢
    refine bw (fun w m=>m.bQ 0 rfl (show _=aG 166 1 (.slice A2 8 c2) 8 (eh (fQ v h 0))from by rw[qX])) ?_
    refine bK<|ao<|ao<|aB<|ag<|ah<|ah<|aj<|hy (fun _=>ab rfl)<|ai<|ag<|aI<| ?_
    refine dD (fun j=>8-j) (fun j=>[(18,.int .i64 (j:Nat))]) (fun j=>[aG 166 1 (.slice A2 8 c2) 8 (eh (fQ v h j))]) (fun j=>[]) (fun j=>j≤8) 0 [(97,_),(11,_),(12,_),(32,_),(6,_),(8,_),(21,_),(7,_),(5,_),(4,_),(0,_),(1,_)] ⟨rfl,rfl,rfl,rfl,rfl,rfl,rfl,rfl,rfl,rfl,rfl,rfl,trivial⟩ [0] rfl [] rfl (Nat.zero_le _) ⟨rfl,trivial⟩ (fun j hj8=> ?_)
    have hsl:(fQ v h j).length=v.length:=by simp[fQ]
    refine ah<|ah<|aj<|hy (fun _=>aa rfl)<|hy (fun _=>bu rfl rfl)<|ai<|al (ρ' :=[(214,_),(18,_),(97,_),(11,_),(12,_),(32,_),(6,_),(8,_),(21,_),(7,_),(5,_),(4,_),(0,_),(1,_)]) ⟨rfl,rfl,rfl,rfl,rfl,rfl,rfl,rfl,rfl,rfl,rfl,rfl,rfl,rfl,trivial⟩<|ag<| ?_
    refine cD rfl (fun hj=> ?_) (fun hj=> ?_)
    ·refine aC<|ag<|ah<|aI<|cG [12] [(0,some 0),(1,some 0),(2,some 0),(3,some 0),(4,some 0),(5,some 0),(6,some 0),(7,some 0),(8,some 0),(9,some 0),(10,some 0),(11,some 0),(12,none)] (by kernel_rfl) (by kernel_rfl) rfl 0<|an (aa rfl)<|an (aa rfl)<|an (aa rfl)<|an (aa rfl)<|an (aO rfl rfl Tryz.underlying215 bJ hA_v rfl (by omega))<|ca (fun m=>aw rfl bR ((m.ord 0 rfl).cell (j:=j) (bg (by omega))))<|an (aa rfl)<|an (aa rfl)<|an (aO rfl rfl Tryz.underlying215 bJ hA_q rfl (by omega))<|ca (fun m=>aw rfl bR ((m.rd 0 rfl).cell (j:=j) (bg (by omega))))<|an (yV (dx rfl rfl) ((rfl:_=Wd (v_ (fQ v h j) j+v_ h j))))<|an (aO rfl rfl Tryz.underlying215 bJ hA_v rfl (by omega))<| ?_
     refine kr (Ak 0 rfl rfl rfl bJ rfl (by omega) ⟨(fun h=>absurd h (by decide)), ?_⟩)
     refine br<|al (ρ' :=[(214,_),(18,_),(97,_),(11,_),(12,_),(32,_),(6,_),(8,_),(21,_),(7,_),(5,_),(4,_),(0,_),(1,_)]) ⟨rfl,rfl,rfl,rfl,rfl,rfl,rfl,rfl,rfl,rfl,rfl,rfl,rfl,rfl,trivial⟩<|ak (X' :=[_,_,_]) (S' :=[_,_]) (fun _ m=>m)<|aM<|ag<|aj<|hy (fun _=>aa rfl)<|hy (fun _=>aN rfl rfl (bC (by omega) (by omega)))<|hy (fun _=>ab rfl)<|ai<|al (ρ' :=[(18,_),(214,_),(97,_),(11,_),(12,_),(32,_),(6,_),(8,_),(21,_),(7,_),(5,_),(4,_),(0,_),(1,_)]) ⟨rfl,rfl,rfl,rfl,rfl,rfl,rfl,rfl,rfl,rfl,rfl,rfl,rfl,rfl,trivial⟩<| ?_
     refine ak (fun w m=>m.bQ 0 rfl (show _=aG 166 1 (.slice A2 8 c2) 8 (eh (fQ v h (j+1)))from by rw[wj,qI (by omega)])) ?_
     refine cR (j+1) ⟨rfl,rfl,rfl,rfl,rfl,rfl,rfl,rfl,rfl,rfl,rfl,rfl,rfl,trivial⟩ [0,0,0] rfl [0,1] rfl (by omega) (by omega)
    ·obtain rfl:j=8:=by omega
     have hB:fQ v h 8=ew h l:=by rw[ew,hW,hvv]
     rw[hB]
     refine bK<|ao<|ao<|aB<|ag<|ah<|aj<|hy (fun _=>aa rfl)<|hy (fun _=>ab rfl)<|ai<|al (ρ' :=[(4,_),(214,_),(18,_),(97,_),(11,_),(12,_),(32,_),(6,_),(8,_),(21,_),(7,_),(5,_),(0,_),(1,_)]) ⟨rfl,rfl,rfl,rfl,rfl,rfl,rfl,rfl,rfl,rfl,rfl,rfl,rfl,rfl,trivial⟩<|ag<|aX<| ?_
     exact bf trivial rfl rfl [0] rfl [] rfl ⟨_,rfl,rfl,rfl⟩
end Go.Proofs.YtmibdabdlgmafaaGreatDoor
end
section
set_option maxRecDepth 20000
namespace Go.Proofs.YtmibdabdlgmafaaGreatDoor
open Go.Eng Go.Hx
def mj(n:Nat):Nat→Nat
 |0=>n
 |i+1=>mj n i/256
theorem qc(n:Nat):∀i,mj n i=n/256 ^ i
 |0=>by simp[mj]
 |i+1=>by rw[mj,qc n i,Nat.div_div_eq_div_mul,Nat.pow_succ]
def qq(n i:Nat):List UInt8:=List.replicate (8-i) 0++(sT n).drop (8-i)
theorem lj(n:Nat):(sT n).length=8:=by simp[sT]
theorem AO(n i:Nat)(h:i≤8):(qq n i).length=8:=by
 rw[qq,List.length_append,List.length_replicate,List.length_drop,lj];omega
theorem xQ{n i:Nat}(hi:i<8):(qq n i).set (7-i) (UInt8.ofNat (mj n i % 256))=qq n (i+1):=by
 have e:UInt8.ofNat (mj n i % 256)=UInt8.ofNat (n/256 ^ i):=by
  rw[qc];apply UInt8.toNat_inj.1;simp
 rw[e]
 obtain⟨k,hk⟩:∃k,8-i=k+1:=⟨7-i,by omega⟩
 have h7:7-i=k:=by omega
 have hd:(sT n).drop k=UInt8.ofNat (n/256 ^ i)::(sT n).drop (k+1):=by
  rw[List.drop_eq_getElem_cons (by rw[lj];omega)]
  congr 1
  simp only[sT,List.getElem_map,List.getElem_range]
  congr 3;omega
 rw[qq,qq,hk,h7,show 8-(i+1)=k by omega,hd,List.replicate_succ',List.append_assoc,List.set_append_right _ _ (by simp)]
 simp
theorem Cv{A:Option Addr}{n c:Nat}{l:List UInt8}(hn:n≤140737488351232):cj Tryz.prog 141 [.slice A n c] [] [cV 1 A n (aR l)] (fun v_ X_ S_=>∃v,v_=v∧X_=[aG 5 1 v (jd l).length (aR (jd l))]∧S_=[]):=by
 have hz64:ix n<64:=Nat.mod_lt _ (by decide)
 have hzp:(n+(1+ix n)) % 64=56:=by unfold ix;omega
 have hzm:∀j,j<ix n→(n+(1+j)) % 64≠56:=fun j hj=>by unfold ix at hj;omega
 refine aQ (N:=39) Tryz.func141 rfl rfl (by simp) fun b=> ?_
 refine aY (fun m=>ig (m.rd 0 rfl)) ?_
 rintro⟨hl_r,hA_r⟩
 have hl:l.length=n:=hl_r
 refine ah<|aj<|hy (fun _=>ab rfl)<|ai<|ag<|ah<|aj<|hy (fun _=>ab rfl)<|ai<|ag<|ah<|aj<|hy (fun _=>aa rfl)<|hy (fun _=>aa rfl)<| ?_
 refine aT (fun w m=>m.dG (r' :=aG 5 1 (.slice none 0 0) 0 []) (.refl _ _) (Own.nil _ _ _ _) (fun k hk=>hk.elim)) ?_
 refine hx (bL 0 rfl rfl rfl Tryz.underlying27 Tryz.underlying27 (by exact .inl rfl) fb rfl (fun m=>Src.b7 (m.rd 0 rfl)) aS (by unfold maxLen;omega) (by omega) (fun u=> ?_))
 refine aD (fun m=>(m.own 0 rfl).slice) ?_
 rintro⟨A_o,c_o,rfl,hc_o⟩
 refine aD (fun m=>(m.ord 0 rfl).2.1) fun hA_o=> ?_
 rw[Nat.zero_add]
 refine hy (fun _=>ab rfl)<|ai<|al (ρ' :=[(3,_),(2,_),(0,_)]) ⟨rfl,rfl,rfl,trivial⟩<|ak (X' :=[_]) (S' :=[_]) (fun _ m=>m)<|ag<|ah<|aj<|hy (fun _=>aa rfl)<| ?_
 refine hx (bY Tryz.underlying27 fb rfl rfl rfl (by simp[Value.cells,B8]) (by decide) (by decide) (fun g11=> ?_))
 have hA_b11:0<1→(some (⟨g11,0,none⟩:Addr))≠none:=fun _ h=>by cases h
 refine aT (fun w m=>m.bQ 0 rfl (show _=aG 5 1 (.slice (some ⟨g11,0,none⟩) 1 1) 1 (aR [128])from rfl)) ?_
 refine hx (bL 1 rfl rfl rfl Tryz.underlying27 Tryz.underlying27 (by exact .inl rfl) fb rfl (fun m=>Src.b7 (m.ord 0 rfl)) aS (by unfold maxLen;omega) (by omega) (fun u2=> ?_))
 refine aD (fun m=>(m.own 0 rfl).slice) ?_
 rintro⟨A_o2,c_o2,rfl,hc_o⟩
 refine aD (fun m=>(m.ord 0 rfl).2.1) fun hA_o=> ?_
 refine aT (fun w m=>m.bQ 0 rfl (show _=aG 5 1 (.slice A_o2 (n+1+0) c_o2) (n+1+0) (aR (l++128::List.replicate 0 0))from by simp[aR])) ?_
 refine hy (fun _=>ab rfl)<|ai<|al (ρ' :=[(3,_),(2,_),(0,_)]) ⟨rfl,rfl,rfl,trivial⟩<|ak (X' :=[_,_]) (S' :=[_]) (fun _ m=>m)<|ag<|ah<|aI<| ?_
 refine fJ (fun j A1 cc=>ix n-j) (fun j A1 cc=>[(3,.slice A1 (n+1+j) cc)]) (fun j A1 cc=>[aG 5 1 (.slice A1 (n+1+j) cc) (n+1+j) (aR (l++128::List.replicate j 0))]) (fun j A1 cc=>[]) (fun j A1 cc=>j≤ix n) 0 A_o2 c_o2 [(2,_),(0,_)] ⟨rfl,rfl,trivial⟩ [0] rfl [] rfl (Nat.zero_le _) ⟨rfl,trivial⟩ (fun j A1 cc hjz=> ?_)
 refine ah<|ah<|aj<|hy (fun _=>aa rfl)<|hy (fun _=>aU rfl Tryz.underlying27)<|hy (fun _=>gU rfl rfl (by omega) (by omega))<|hy (fun _=>dP rfl rfl)<|ai<|al (ρ' :=[(16,_),(3,_),(2,_),(0,_)]) ⟨rfl,rfl,rfl,rfl,trivial⟩<|ag<| ?_
 refine cD rfl (fun hne=> ?_) (fun hne=> ?_)
 ·have hj:j<ix n:=by
   rcases Nat.lt_or_eq_of_le hjz with h|h
   ·exact h
   ·rw[←h]at hzp;omega
  refine aC<|ag<|aI<|aj<|hy (fun _=>aa rfl)<| ?_
  refine hx (bY Tryz.underlying27 fb rfl rfl rfl (by simp[Value.cells,B8]) (by decide) (by decide) (fun g18=> ?_))
  have hA_b18:0<1→(some (⟨g18,0,none⟩:Addr))≠none:=fun _ h=>by cases h
  refine aT (fun w m=>m.bQ 0 rfl (show _=aG 5 1 (.slice (some ⟨g18,0,none⟩) 1 1) 1 (aR [0])from rfl)) ?_
  refine hx (bL 1 rfl rfl rfl Tryz.underlying27 Tryz.underlying27 (by exact .inl rfl) fb rfl (fun m=>Src.b7 (m.ord 0 rfl)) aS (by unfold maxLen;omega) (by omega) (fun u3=> ?_))
  refine aD (fun m=>(m.own 0 rfl).slice) ?_
  rintro⟨A_o3,c_o3,rfl,hc_o⟩
  refine aD (fun m=>(m.ord 0 rfl).2.1) fun hA_o=> ?_
  refine hy (fun _=>ab rfl)<|ai<|al (ρ' :=[(3,_),(16,_),(2,_),(0,_)]) ⟨rfl,rfl,rfl,rfl,trivial⟩<|ak (X' :=[_,_,_]) (S' :=[_]) (fun _ m=>m)<|aM<| ?_
  refine ak (fun w m=>m.bQ 0 rfl (show _=aG 5 1 (.slice A_o3 (n+1+(j+1)) c_o3) (n+1+(j+1)) (aR (l++128::List.replicate (j+1) 0))from by rw[List.replicate_succ'];simp[aR,Nat.add_assoc])) ?_
  refine fu (j+1) A_o3 c_o3 ⟨rfl,rfl,rfl,trivial⟩ [0,1] rfl [0] rfl (by omega) (by omega)
 ·have hj:j=ix n:=by
   refine Decidable.byContradiction fun hn=> ?_
   have:=hzm j (by omega)
   omega
  subst hj
  refine bK<|ao<|ao<|aB<|ag<|ah<|aj<|hy (fun _=>aa rfl)<|hy (fun _=>aU rfl Tryz.underlying27)<|hy (fun _=>yV (fK rfl rfl (bC (by omega) (by omega))) ((show Value.int .i64 (8*(n:Int))= .int .i64 ((mj (8*n) 0:Nat):Int) by rw[mj];congr 1)))<|hy (fun _=>ab rfl)<|ai<|al (ρ' :=[(4,_),(16,_),(3,_),(2,_),(0,_)]) ⟨rfl,rfl,rfl,rfl,rfl,trivial⟩<|ag<|ah<|aj<| ?_
  refine hx (BM (n:=8) Tryz.underlying27 fb rfl rfl rfl (by decide) (by decide) (fun g23=> ?_))
  have hA_b23:∀{n:Nat},0<n→(some (⟨g23,0,none⟩:Addr))≠none:=fun _ h=>by cases h
  refine hy (fun _=>ab rfl)<|ai<|al (ρ' :=[(5,_),(4,_),(16,_),(3,_),(2,_),(0,_)]) ⟨rfl,rfl,rfl,rfl,rfl,rfl,trivial⟩<|ak (X' :=[_,_,_]) (S' :=[_]) (fun _ m=>m)<|ag<|ah<|ah<|aj<| ?_
  refine aT (fun w m=>m.bQ 0 rfl (show _=aL g23 5 (aR (qq (8*n) 0))from by rw[qq,List.drop_of_length_le (by rw[lj];decide),List.append_nil];rfl)) ?_
  refine hy (fun _=>ab rfl)<|ai<|ag<|aI<| ?_
  refine dD (fun i=>8-i) (fun i=>[(4,.int .i64 ((mj (8*n) i:Nat):Int)),(6,.int .i64 (7-(i:Int)))]) (fun i=>[aL g23 5 (aR (qq (8*n) i))]) (fun i=>[]) (fun i=>i≤8) 0 [(5,_),(16,_),(3,_),(2,_),(0,_)] ⟨rfl,rfl,rfl,rfl,rfl,trivial⟩ [0] rfl [] rfl (Nat.zero_le _) ⟨rfl,rfl,trivial⟩ (fun i hi8=> ?_)
  have hq:mj (8*n) i≤8*n:=by rw[qc];exact Nat.div_le_self ..
  have hbl:=AO (8*n) i hi8
  refine ah<|ah<|aj<|hy (fun _=>aa rfl)<|hy (fun _=>kl rfl rfl)<|ai<|al (ρ' :=[(25,_),(4,_),(6,_),(5,_),(16,_),(3,_),(2,_),(0,_)]) ⟨rfl,rfl,rfl,rfl,rfl,rfl,rfl,rfl,trivial⟩<|ag<| ?_
  refine cD rfl (fun hi=> ?_) (fun hi=> ?_)
  ·refine aC<|ag<|ah<|aI<|ah<|aj<|hy (fun _=>aa rfl)<|hy (fun _=>aa rfl)<|hy (fun _=>aa rfl)<|hy (fun _=>gU rfl rfl (by omega) (by omega))<|hy (fun _=>bW rfl Tryz.underlying3 Tryz.underlying5 (show IntKind.u8.wrap (((mj (8*n) i:Nat):Int) % 256)=((UInt8.ofNat (mj (8*n) i % 256)).toNat:Int)from gS (mj (8*n) i % 256)))<|hy (fun _=>aO rfl rfl Tryz.underlying27 ek hA_b23 (show((7-i:Nat):Int)=_ by omega) (by omega))<| ?_
   refine cJ (cm 0 rfl rfl rfl ek rfl (by rw[ay,hbl];omega) ?_)
   refine ai<|al (ρ' :=[(25,_),(4,_),(6,_),(5,_),(16,_),(3,_),(2,_),(0,_)]) ⟨rfl,rfl,rfl,rfl,rfl,rfl,rfl,rfl,trivial⟩<|ak (X' :=[_,_,_]) (S' :=[_]) (fun _ m=>m)<|ag<|aj<|hy (fun _=>aa rfl)<|hy (fun _=>yV (jF rfl rfl (by omega) (by omega) (bC (by omega) (by omega))) ((show Value.int .i64 (((mj (8*n) i:Nat):Int)/256)= .int .i64 ((mj (8*n) (i+1):Nat):Int)from rfl)))<|hy (fun _=>ab rfl)<|ai<|al (ρ' :=[(4,_),(25,_),(6,_),(5,_),(16,_),(3,_),(2,_),(0,_)]) ⟨rfl,rfl,rfl,rfl,rfl,rfl,rfl,rfl,trivial⟩<|aM<|ag<|aj<|hy (fun _=>aa rfl)<|hy (fun _=>yV (cw rfl rfl (bC (by omega) (by omega))) ((show Value.int .i64 (7-(i:Int)-1)= .int .i64 (7-((i+1:Nat):Int))from congrArg (Value.int .i64) (by omega))))<|hy (fun _=>ab rfl)<|ai<|al (ρ' :=[(6,_),(4,_),(25,_),(5,_),(16,_),(3,_),(2,_),(0,_)]) ⟨rfl,rfl,rfl,rfl,rfl,rfl,rfl,rfl,trivial⟩<| ?_
   refine ak (fun w m=>m.bQ 0 rfl (show _=aL g23 5 (aR (qq (8*n) (i+1)))from by rw[Nat.zero_add,←xQ (by omega),B4];rfl)) ?_
   refine cR (i+1) ⟨rfl,rfl,rfl,rfl,rfl,rfl,rfl,trivial⟩ [0,0,0] rfl [0] rfl (by omega) (by omega)
  ·obtain rfl:i=8:=by omega
   have hpl:(jd l).length=n+1+ix n+8:=by
    simp only[jd,List.length_append,List.length_cons,List.length_replicate,lj,hl];omega
   refine bw (fun w m=>m.bQ 0 rfl (show _=aL g23 5 (aR (sT (8*n)))from by simp[qq])) ?_
   refine bK<|ao<|ao<|aB<|ag<|ah<|aj<|hy (fun _=>aa rfl)<|hy (fun _=>aa rfl)<| ?_
   refine hx (bL 1 rfl rfl rfl Tryz.underlying27 Tryz.underlying27 (by exact .inl rfl) fb rfl (fun m=>Src.b7 (Rd.gP (m.aZ 0 rfl) (by rw[ay,lj]))) aS (by unfold maxLen;omega) (by omega) (fun u3=> ?_))
   refine aD (fun m=>(m.own 0 rfl).slice) ?_
   rintro⟨A_o3,c_o3,rfl,hc_o⟩
   refine aD (fun m=>(m.ord 0 rfl).2.1) fun hA_o=> ?_
   refine aT (fun w m=>m.bQ 0 rfl (show _=aG 5 1 (.slice A_o3 (jd l).length c_o3) (jd l).length (aR (jd l))from by rw[hpl,jd,hl];simp[aR])) ?_
   refine hy (fun _=>ab rfl)<|ai<|al (ρ' :=[(2,_),(25,_),(4,_),(6,_),(5,_),(16,_),(3,_),(0,_)]) ⟨rfl,rfl,rfl,rfl,rfl,rfl,rfl,rfl,trivial⟩<|ak (X' :=[_,_,_]) (S' :=[_]) (fun _ m=>m)<|ag<|aX<| ?_
   exact bf trivial rfl rfl [0] rfl [] rfl ⟨_,(by rw[hpl]),rfl,rfl⟩
theorem yK{p r:List UInt8}{k:Nat}{a x:UInt8}(hp:p.length=k):(aR (p++x::r)).set k (B8 a)=aR (p++[a]++r):=by
 subst hp
 simp[aR,List.set_append]
def qw(x:UInt32):Nat→UInt32
 |0=>x
 |j+1=>qw x j/256
theorem uz(x:UInt32):∀j,(qw x j).toNat=x.toNat/256 ^ j
 |0=>by simp[qw]
 |j+1=>by
  rw[qw,UInt32.toNat_div,uz x j,Nat.pow_succ,←Nat.div_div_eq_div_mul];rfl
theorem EB(x:UInt32){r:Nat}(hr:r<4):(Be x)[r]? =some (UInt8.ofNat (qw x (3-r) % 256).toNat):=by
 have h256:(256:UInt32).toNat=256:=rfl
 have e:∀k,UInt8.ofNat ((qw x k % 256).toNat)=UInt8.ofNat (x.toNat/256 ^ k):=fun k=>by
  rw[UInt32.toNat_mod,uz,h256]
  apply UInt8.toNat_inj.1;simp
 rw[e]
 match r,hr with
 |0,_=>simp[Be,UInt32.toNat_div]
 |1,_=>simp[Be,UInt32.toNat_div]
 |2,_=>simp[Be,UInt32.toNat_div]
 |3,_=>simp[Be]
theorem qQ:∀(h:List UInt32) (q r:Nat),q<h.length→r<4→(eO h)[4*q+r]? =(Be (h.getD q 0))[r]?
 |a::t,0,r,hq,hr=>by
  rw[eO,List.flatMap_cons,List.getElem?_append_left (by show 4*0+r<4;omega)]
  simp
 |a::t,q+1,r,hq,hr=>by
  rw[eO,List.flatMap_cons,List.getElem?_append_right (by show 4≤_;omega),show 4*(q+1)+r-(Be a).length=4*q+r by show 4*(q+1)+r-4=_;omega]
  have:=qQ t q r (by simpa using hq) hr
  simpa[eO]using this
theorem pe{A:Option Addr}{n c:Nat}{l:List UInt8}(hn:n≤140737488351232):cj Tryz.prog 56 [.slice A n c] [] [cV 1 A n (aR l)] (fun v_ X_ S_=>v_=(.agg (aR (bc l)).toArray)∧X_=[]∧S_=[]):=by
 refine aQ (N:=49) Tryz.func56 rfl rfl (by simp) fun b=> ?_
 refine aY (fun m=>ig (m.rd 0 rfl)) ?_
 rintro⟨hl_r,hA_r⟩
 refine ah<|aj<| ?_
 refine hx (aP dT (fun g2=> ?_))
 refine ai<|ak (X' :=[_]) (S' :=[_]) (fun _ m=>m)<|ag<|ah<|aj<| ?_
 refine hx (bY Tryz.underlying215 oq rfl rfl rfl (by decide) (by decide) (by decide) (fun g10=> ?_))
 have hA_b10:0<8→(some (⟨g10,0,none⟩:Addr))≠none:=fun _ h=>by cases h
 refine aT (fun w m=>m.bQ 0 rfl (show _=aG 166 1 (.slice (some ⟨g10,0,none⟩) 8 8) 8 (eh (fB mw ((jd l).take (64*0))))from by rw[Nat.mul_zero,List.take_zero];rfl)) ?_
 refine hy (fun _=>ab rfl)<|ai<|al (ρ' :=[(3,_),(2,_),(0,_)]) ⟨rfl,rfl,rfl,trivial⟩<|ak (X' :=[_,_]) (S' :=[_]) (fun _ m=>m)<|ag<|ah<|aj<|hy (fun _=>aa rfl)<| ?_
 refine hx (aq rfl Tryz.call141 (Cv (by omega)) [] rfl [0] rfl ?_)
 rintro _ _ _ ⟨v,rfl,rfl,rfl⟩
 refine aD (fun m=>(m.own 0 rfl).slice) ?_
 rintro⟨A_x,c_x,rfl,hc_x⟩
 refine aD (fun m=>(m.ord 0 rfl).2.1) fun hA_x=> ?_
 refine hy (fun _=>ab rfl)<|ai<|al (ρ' :=[(4,_),(3,_),(2,_),(0,_)]) ⟨rfl,rfl,rfl,rfl,trivial⟩<|ak (X' :=[_,_,_]) (S' :=[_]) (fun _ m=>m)<|ag<|ah<|ah<|aj<|hy (fun _=>ab rfl)<|ai<|ag<|aI<| ?_
 have hpl:=oH l
 have hpb:(jd l).length≤140737488352000:=by
  have:l.length=n:=hl_r
  have hz:ix l.length<64:=Nat.mod_lt _ (by decide)
  simp only[jd,List.length_append,List.length_cons,List.length_replicate,lj];omega
 obtain⟨K,hK⟩:∃K,(jd l).length=64*K:=⟨(jd l).length/64,by omega⟩
 generalize hP:jd l=P at hpl hpb hK hc_x hA_x ⊢
 refine bw (fun w m=>(m.perm (ar [0] _ [_] _ rfl)).freeze) ?_
 refine bw (fun w m=>m.jN 0 rfl .own) ?_
 refine aY (fun m=>ig (m.rd 0 rfl)) ?_
 rintro⟨hl_xr,hA_xr⟩
 refine fJ (fun k H hc=>K-k) (fun k H hc=>[(3,.slice H 8 hc),(5,.int .i64 ((64*k:Nat):Int))]) (fun k H hc=>[aG 166 1 (.slice H 8 hc) 8 (eh (fB mw (P.take (64*k))))]) (fun k H hc=>[]) (fun k H hc=>k≤K) 0 (some ⟨g10,0,none⟩) 8 [(4,_),(2,_),(0,_)] ⟨rfl,rfl,rfl,trivial⟩ [0] rfl [] rfl (Nat.zero_le _) ⟨rfl,rfl,trivial⟩ (fun k H hc hkK=> ?_)
 have hh:=mU (h:=mw) (P.take (64*k)) rfl
 refine ah<|ah<|aj<|hy (fun _=>aa rfl)<|hy (fun _=>aa rfl)<|hy (fun _=>aU rfl Tryz.underlying27)<|hy (fun _=>bu rfl rfl)<|ai<|al (ρ' :=[(16,_),(3,_),(5,_),(4,_),(2,_),(0,_)]) ⟨rfl,rfl,rfl,rfl,rfl,rfl,trivial⟩<|ag<| ?_
 refine cD rfl (fun hlt=> ?_) (fun hlt=> ?_)
 ·have hk:k<K:=by omega
  refine bw (fun w m=>m.jN 0 rfl (View.sub (k:=64*k) (m:=64) hc_x (by omega))) ?_
  refine aY (fun m=>ig (m.rd 0 rfl)) ?_
  rintro⟨hl_r64,hA_r64⟩
  refine aC<|ag<|ah<|aI<|aj<|hy (fun _=>aa rfl)<|hy (fun _=>aa rfl)<|hy (fun _=>aa rfl)<|hy (fun _=>aa rfl)<|hy (fun _=>aN rfl rfl (bC (by omega) (by omega)))<|hy (fun _=>yV (eG rfl rfl rfl Tryz.underlying27 ek (show((64*k:Nat):Int)=_ by omega) (show((64*k+64:Nat):Int)=_ by omega) (by omega) (by omega)) ((show Value.slice (if c_x=64*k then A_x else A_x.map (·.add (64*k*1))) (64*k+64-64*k) (c_x-64*k)= .slice (if c_x=64*k then A_x else A_x.map (·.add (64*k*1))) 64 (c_x-64*k) by rw[Nat.add_sub_cancel_left])))<| ?_
  refine hx (cN rfl Tryz.call142 (BD (by omega) hh (h:=(fB mw (P.take (64*k))))) [] rfl (.x 0 rfl .own (.s 0 rfl .nil)) ?_)
  rintro _ _ _ ⟨u,rfl,rfl,rfl⟩
  refine⟨rfl, ?_⟩
  refine aD (fun m=>(m.own 0 rfl).slice) ?_
  rintro⟨A_y,c_y,rfl,hc_y⟩
  refine aD (fun m=>(m.ord 0 rfl).2.1) fun hA_y=> ?_
  refine hy (fun _=>ab rfl)<|ai<|al (ρ' :=[(3,_),(16,_),(5,_),(4,_),(2,_),(0,_)]) ⟨rfl,rfl,rfl,rfl,rfl,rfl,trivial⟩<|ak (X' :=[_,_,_]) (S' :=[_,_,_,_]) (fun _ m=>m)<|aM<|ag<|aj<|hy (fun _=>aa rfl)<|hy (fun _=>yV (aN rfl rfl (bC (by omega) (by omega))) ((show Value.int .i64 (((64*k:Nat):Int)+64)= .int .i64 ((64*(k+1):Nat):Int)from congrArg (Value.int .i64) (by omega))))<|hy (fun _=>ab rfl)<|ai<|al (ρ' :=[(5,_),(3,_),(16,_),(4,_),(2,_),(0,_)]) ⟨rfl,rfl,rfl,rfl,rfl,rfl,trivial⟩<| ?_
  have hfs:ew (fB mw (P.take (64*k))) ((P.drop (64*k)).take 64)=fB mw (P.take (64*(k+1))):=by
   rw[←qn (by rw[List.length_take];omega) (by rw[List.length_take,List.length_drop];omega),←List.take_add]
   rfl
  rw[hfs]
  refine fu (k+1) A_y c_y ⟨rfl,rfl,rfl,rfl,rfl,trivial⟩ [0,1] rfl [1,2,3] rfl (by omega) (by omega)
 ·obtain rfl:k=K:=by omega
  have hfl:fB mw (P.take (64*k))=fB mw P:=by rw[List.take_of_length_le (by omega)]
  rw[hfl]at hh ⊢
  have hsha:bc l=eO (fB mw P):=by rw[bc,hP]
  have hdl:=mJ hh
  generalize fB mw P=F at hh hsha hdl ⊢
  refine aY (fun m=>(m.ord 0 rfl).2.1) fun hA_b10=> ?_
  refine bK<|ao<|ao<|aB<|ag<|ah<|aj<| ?_
  refine hx (aP dT (fun g6=> ?_))
  refine ai<|ak (X' :=[_,_,_]) (S' :=[_,_,_]) (fun _ m=>m)<|ag<|ah<|ah<|aj<|hy (fun _=>ab rfl)<|ai<|ag<|aI<| ?_
  refine bw (fun w m=>m.bQ 0 rfl (show _=aL g6 53 (aR ((eO F).take 0++List.replicate (32-0) 0))from rfl)) ?_
  refine dD (fun i=>32-i) (fun i=>[(7,.int .i64 (i:Nat))]) (fun i=>[aL g6 53 (aR ((eO F).take i++List.replicate (32-i) 0))]) (fun i=>[]) (fun i=>i≤32) 0 [(6,_),(16,_),(3,_),(5,_),(4,_),(2,_),(0,_)] ⟨rfl,rfl,rfl,rfl,rfl,rfl,rfl,trivial⟩ [0] rfl [] rfl (Nat.zero_le _) ⟨rfl,trivial⟩ (fun i hi32=> ?_)
  refine ah<|ah<|aj<|hy (fun _=>aa rfl)<|hy (fun _=>bu rfl rfl)<|ai<|al (ρ' :=[(27,_),(7,_),(6,_),(16,_),(3,_),(5,_),(4,_),(2,_),(0,_)]) ⟨rfl,rfl,rfl,rfl,rfl,rfl,rfl,rfl,rfl,trivial⟩<|ag<| ?_
  refine cD rfl (fun hi=> ?_) (fun hi=> ?_)
  ·refine aC<|ag<|ah<|aI<|ah<|aj<|hy (fun _=>aa rfl)<|hy (fun _=>aa rfl)<|hy (fun _=>jF rfl rfl (by omega) (by omega) (bC (by omega) (by omega)))<|hy (fun _=>aO rfl rfl Tryz.underlying215 bJ hA_b10 (show((i/4:Nat):Int)=_ by omega) (by omega))<|hy (fun m=>yV (aw rfl bR ((m.ord 1 rfl).cell (j:=i/4) (bg (by omega)))) ((rfl:_=Wd (qw (F.getD (i/4) 0) 0))))<|hy (fun _=>ab rfl)<|ai<|al (ρ' :=[(8,_),(27,_),(7,_),(6,_),(16,_),(3,_),(5,_),(4,_),(2,_),(0,_)]) ⟨rfl,rfl,rfl,rfl,rfl,rfl,rfl,rfl,rfl,rfl,trivial⟩<|ag<|ah<|ah<|aj<|hy (fun _=>aa rfl)<|hy (fun _=>yV (gU rfl rfl (by omega) (by omega)) ((show Value.int .i64 ((i:Int) % 4)= .int .i64 (((i % 4+0:Nat)):Int)from congrArg (Value.int .i64) (by omega))))<|hy (fun _=>ab rfl)<|ai<|al (ρ' :=[(9,_),(8,_),(27,_),(7,_),(6,_),(16,_),(3,_),(5,_),(4,_),(2,_),(0,_)]) ⟨rfl,rfl,rfl,rfl,rfl,rfl,rfl,rfl,rfl,rfl,rfl,trivial⟩<|ag<|aI<| ?_
   refine dD (fun j=>3-j) (fun j=>[(8,Wd (qw (F.getD (i/4) 0) j)),(9,.int .i64 ((i % 4+j:Nat):Int))]) (fun j=>[]) (fun j=>[]) (fun j=>i % 4+j≤3) 0 [(27,_),(7,_),(6,_),(16,_),(3,_),(5,_),(4,_),(2,_),(0,_)] ⟨rfl,rfl,rfl,rfl,rfl,rfl,rfl,rfl,rfl,trivial⟩ [] rfl [] rfl ((by omega)) ⟨rfl,rfl,trivial⟩ (fun j hj3=> ?_)
   refine ah<|ah<|aj<|hy (fun _=>aa rfl)<|hy (fun _=>bu rfl rfl)<|ai<|al (ρ' :=[(38,_),(8,_),(9,_),(27,_),(7,_),(6,_),(16,_),(3,_),(5,_),(4,_),(2,_),(0,_)]) ⟨rfl,rfl,rfl,rfl,rfl,rfl,rfl,rfl,rfl,rfl,rfl,rfl,trivial⟩<|ag<| ?_
   refine cD rfl (fun hj=> ?_) (fun hj=> ?_)
   ·refine aC<|ag<|ah<|aI<|aj<|hy (fun _=>aa rfl)<|hy (fun _=>yV (rX (b:=256) (by decide) rfl rfl) ((rfl:_=Wd (qw (F.getD (i/4) 0) (j+1)))))<|hy (fun _=>ab rfl)<|ai<|al (ρ' :=[(8,_),(38,_),(9,_),(27,_),(7,_),(6,_),(16,_),(3,_),(5,_),(4,_),(2,_),(0,_)]) ⟨rfl,rfl,rfl,rfl,rfl,rfl,rfl,rfl,rfl,rfl,rfl,rfl,trivial⟩<|aM<|ag<|aj<|hy (fun _=>aa rfl)<|hy (fun _=>yV (aN rfl rfl (bC (by omega) (by omega))) ((show Value.int .i64 (((i % 4+j:Nat):Int)+1)= .int .i64 ((i % 4+(j+1):Nat):Int)from congrArg (Value.int .i64) (by omega))))<|hy (fun _=>ab rfl)<|ai<|al (ρ' :=[(9,_),(8,_),(38,_),(27,_),(7,_),(6,_),(16,_),(3,_),(5,_),(4,_),(2,_),(0,_)]) ⟨rfl,rfl,rfl,rfl,rfl,rfl,rfl,rfl,rfl,rfl,rfl,rfl,trivial⟩<| ?_
    refine cR (j+1) ⟨rfl,rfl,rfl,rfl,rfl,rfl,rfl,rfl,rfl,rfl,rfl,trivial⟩ [0,0,0] rfl [0,1,2] rfl (by omega) (by omega)
   ·have hj:j=3-i % 4:=by omega
    subst hj
    have hbyte:(eO F)[i]? =some (UInt8.ofNat (qw (F.getD (i/4) 0) (3-i % 4) % 256).toNat):=by
     rw[←EB _ (by omega),←qQ F (i/4) (i % 4) (by omega) (by omega)]
     congr 1;omega
    have hri:List.replicate (32-i) (0:UInt8)=0::List.replicate (32-(i+1)) 0:=by rw[show 32-i=(32-(i+1))+1 by omega];rfl
    have hti:(eO F).take (i+1)=(eO F).take i++[UInt8.ofNat (qw (F.getD (i/4) 0) (3-i % 4) % 256).toNat]:=by
     rw[List.take_add_one,hbyte];rfl
    refine bK<|ao<|ao<|aB<|ag<|aj<|hy (fun _=>aa rfl)<|hy (fun _=>aa rfl)<|hy (fun _=>AP (b:=256) (by decide) rfl rfl)<|hy (fun _=>zY rfl Tryz.underlying166 Tryz.underlying5)<|hy (fun _=>b9 rfl rfl Tryz.underlying53 ek rfl (by omega))<| ?_
    refine cJ (cm 0 rfl rfl rfl ek rfl (by rw[ay,List.length_append,List.length_take,List.length_replicate];omega) ?_)
    refine ai<|al (ρ' :=[(38,_),(8,_),(9,_),(27,_),(7,_),(6,_),(16,_),(3,_),(5,_),(4,_),(2,_),(0,_)]) ⟨rfl,rfl,rfl,rfl,rfl,rfl,rfl,rfl,rfl,rfl,rfl,rfl,trivial⟩<|ak (X' :=[_,_,_]) (S' :=[_,_,_]) (fun _ m=>m)<|aM<|ag<|aj<|hy (fun _=>aa rfl)<|hy (fun _=>aN rfl rfl (bC (by omega) (by omega)))<|hy (fun _=>ab rfl)<|ai<|al (ρ' :=[(7,_),(38,_),(8,_),(9,_),(27,_),(6,_),(16,_),(3,_),(5,_),(4,_),(2,_),(0,_)]) ⟨rfl,rfl,rfl,rfl,rfl,rfl,rfl,rfl,rfl,rfl,rfl,rfl,trivial⟩<| ?_
    refine ak (fun w m=>m.bQ 0 rfl (show _=aL g6 53 (aR ((eO F).take (i+1)++List.replicate (32-(i+1)) 0))from by rw[hri,Nat.zero_add,hti];exact congrArg (aL _ _) (yK (by rw[List.length_take];omega)))) ?_
    refine cR (i+1) ⟨rfl,rfl,rfl,rfl,rfl,rfl,rfl,rfl,trivial⟩ [0,0,0] rfl [0,1,2] rfl (by omega) (by omega)
  ·obtain rfl:i=32:=by omega
   refine bw (fun w m=>m.bQ 0 rfl (show _=aL g6 53 (aR (bc l))from by rw[List.take_of_length_le (by omega),←hsha];simp)) ?_
   refine bK<|ao<|ao<|aB<|ag<|ah<|aj<|hy (fun m=>yV (a6 rfl cx bo (by rw[ay,bk]) ((m.aZ 0 rfl).az)) ((rfl:_=Value.agg (aR (bc l)).toArray)))<| ?_
   refine cJ (aK 2 rfl rfl rfl bo (by rw[ay,bk]) aS rfl ?_)
   refine ai<|al (ρ' :=[(27,_),(7,_),(6,_),(16,_),(3,_),(5,_),(4,_),(2,_),(0,_)]) ⟨rfl,rfl,rfl,rfl,rfl,rfl,rfl,rfl,rfl,trivial⟩<|ak (X' :=[_,_,_]) (S' :=[_,_,_]) (fun _ m=>m)<|ag<|aX<| ?_
   exact fx trivial rfl rfl cx bo (by rw[ay,bk]) (fun m=>(m.aZ 0 rfl).az) [] rfl [] rfl ⟨rfl,rfl,rfl⟩
end Go.Proofs.YtmibdabdlgmafaaGreatDoor
end
section
set_option maxRecDepth 20000
set_option maxHeartbeats 4000000
namespace Go.Proofs.YtmibdabdlgmafaaGreatDoor
open Go.Eng Go.Hx
theorem vK{nm:List UInt8}(hm:nm.length=32):cj Tryz.prog 98 [.agg (aR nm).toArray] [] [] (fun v_ X_ S_=>v_=(.string (strOf (bN nm)))∧X_=[]∧S_=[]):=by
 have hhl:(b4 nm).length=64:=by rw[dI,hm]
 refine aQ (N:=6) Tryz.func98 rfl rfl (by simp) fun b=> ?_
 refine ah<|aj<| ?_
 refine hx (cI rfl (fun g1=> ?_))
 refine aT (fun w m=>m.bQ 0 rfl (show _=aL g1 53 (aR nm)from congrArg (aL _ _) (bA _))) ?_
 refine hy (fun _=>ab rfl)<|ai<|ak (X' :=[_]) (S' :=[]) (fun _ m=>m)<|ag<|ah<|aj<|hy (fun m=>a6 rfl cx bo (by rw[ay];exact hm) ((m.aZ 0 rfl).az))<| ?_
 refine hx (aq rfl Tryz.call111 (w0 hm) [] rfl [] rfl ?_)
 rintro _ _ _ ⟨rfl,rfl,rfl⟩
 refine hy (fun _=>yV (ji rfl rfl (iW (a:=[116,47]) (b:=b4 nm) (by simp[hhl]))) ((show Value.string (strOf [116,47]++strOf (b4 nm))= .string (strOf (bN nm))from congrArg Value.string (dp _ _))))<|hy (fun _=>ab rfl)<|ai<|al (ρ' :=[(2,_),(1,_),(0,_)]) ⟨rfl,rfl,rfl,trivial⟩<|ak (X' :=[_]) (S' :=[]) (fun _ m=>m)<|ag<|aX<| ?_
 exact bf trivial rfl rfl [] rfl [] rfl ⟨rfl,rfl,rfl⟩
theorem Dc{x:RX}{kk:Nat}{nm:List UInt8}(ok:Bf x.d kk)(hkk:kk≤100000)(hm:nm.length=32)(hrd:(x.d.cz (aE nm)).length≤10000000):cj Tryz.prog 74 [.agg x.cs.toArray,.agg (aR nm).toArray] [] [dO x,eX] (fun v_ X_ S_=>v_=(.tuple #[.string (strOf (x.d.py nm)),.int .i64 (x.d.eZ nm)])∧X_=[]∧S_=[]):=by
 have h32:(aR nm).length=32:=by rw[ay,hm]
 refine aQ (N:=34) Tryz.func74 rfl rfl (by simp) fun b=> ?_
 refine ah<|aj<| ?_
 refine hx (cI rfl (fun g2=> ?_))
 refine aT (fun w m=>m.bQ 0 rfl (show _=aL g2 39 x.cs from congrArg (aL _ _) (bA _))) ?_
 refine hx (cI rfl (fun g3=> ?_))
 refine aT (fun w m=>m.bQ 0 rfl (show _=aL g3 53 (aR nm)from congrArg (aL _ _) (bA _))) ?_
 refine hy (fun _=>ab rfl)<|hy (fun _=>ab rfl)<|ai<|ak (X' :=[_,_]) (S' :=[_,_]) (fun _ m=>m)<|ag<|ah<|cG [2,3] [(0,some 1),(1,some 0),(2,none),(3,none),(4,some 2),(5,some 2),(6,some 2),(7,some 2),(8,some 2)] (by kernel_rfl) (by kernel_rfl) rfl 99<|ca (fun m=>yV (a6 rfl cL bB rfl ((m.aZ 1 rfl).az)) ((rfl:_=Value.agg x.cs.toArray)))<|ca (fun m=>a6 rfl cx bo h32 ((m.aZ 0 rfl).az))<| ?_
 refine dV (aq rfl Tryz.call29 (r5 hm) [] rfl [] rfl ?_)
 rintro _ _ _ ⟨rfl,rfl,rfl⟩
 refine⟨(fun _=>wk [0,0] [0,1] rfl rfl), ?_⟩
 refine dV (aq rfl Tryz.call91 (Ao ok hkk (p:=(aE nm))) [] rfl [0] rfl ?_)
 rintro _ _ _ ⟨rfl,rfl,rfl⟩
 refine⟨(fun _=>wk [0,0] [0,1] rfl rfl), ?_⟩
 refine an (aa rfl)<|an (au rfl rfl)<|an (au rfl rfl)<|an (ab rfl)<|an (ab rfl)<|br<|al (ρ' :=[(7,_),(6,_),(5,_),(4,_),(3,_),(2,_),(0,_),(1,_)]) ⟨rfl,rfl,rfl,rfl,rfl,rfl,rfl,rfl,trivial⟩<|ak (X' :=[_,_]) (S' :=[_,_]) (fun _ m=>m)<|ag<|ah<|ah<|aj<|hy (fun _=>aa rfl)<|hy (fun _=>dP rfl rfl)<|ai<|al (ρ' :=[(18,_),(7,_),(6,_),(5,_),(4,_),(3,_),(2,_),(0,_),(1,_)]) ⟨rfl,rfl,rfl,rfl,rfl,rfl,rfl,rfl,rfl,trivial⟩<|ag<| ?_
 refine cD rfl (fun h=> ?_) (fun h=> ?_)
 ·rw[jr h,lp (by rw[jr h];exact h)]
  refine ah<|aj<|hy (fun _=>aa rfl)<|hy (fun _=>ab rfl)<|hy (fun _=>ab rfl)<|ai<|al (ρ' :=[(5,_),(4,_),(18,_),(7,_),(6,_),(3,_),(2,_),(0,_),(1,_)]) ⟨rfl,rfl,rfl,rfl,rfl,rfl,rfl,rfl,rfl,trivial⟩<|ag<|aX<|ax<| ?_
  exact dy trivial rfl rfl rfl [] rfl [] rfl ⟨rfl,rfl,rfl⟩
 ·have h1:=Decidable.not_not.1 h
  have hbs:(bytesOf (strOf (x.d.cz (aE nm)))).length=(x.d.cz (aE nm)).length:=rfl
  have hol:=rk (f:=x.d.cz (aE nm)) (most:=4096) (by decide)
  refine aC<|ag<|ah<|aj<|hy (fun _=>aa rfl)<| ?_
  refine hx (DP rfl Tryz.underlying9 Tryz.underlying27 Tryz.underlying5 (show(x.d.cz (aE nm)).length≤maxLen by unfold maxLen;omega) (fun v22=> ?_))
  refine aD (fun m=>(m.own 0 rfl).slice) ?_
  rintro⟨A_b22,c_b22,rfl,hc_b22⟩
  refine aD (fun m=>(m.ord 0 rfl).2.1) fun hA_b22=> ?_
  refine aT (fun w m=>m.bQ 0 rfl (show _=aG 5 1 (.slice A_b22 (x.d.cz (aE nm)).length c_b22) (x.d.cz (aE nm)).length (aR (x.d.cz (aE nm)))from rfl)) ?_
  refine aT (fun w m=>(m.perm (ar [0] _ [_] _ rfl)).freeze) ?_
  refine aT (fun w m=>m.jN 0 rfl .own) ?_
  refine hx (aq rfl Tryz.call156 (DY hc_b22 rfl hrd (show(4096:Int)≤1000000 by decide) (f:=(x.d.cz (aE nm)))) [] rfl [0] rfl ?_)
  rintro _ _ _ ⟨A1,c1,rfl,rfl,rfl,hp⟩
  refine aD (fun m=>ig (m.rd 0 rfl)) ?_
  rintro⟨hl_q,hA_q⟩
  refine hy (fun _=>aa rfl)<|hy (fun _=>au rfl rfl)<|hy (fun _=>au rfl rfl)<|hy (fun _=>ab rfl)<|hy (fun _=>ab rfl)<|ai<|al (ρ' :=[(9,_),(8,_),(18,_),(7,_),(6,_),(5,_),(4,_),(3,_),(2,_),(0,_),(1,_)]) ⟨rfl,rfl,rfl,rfl,rfl,rfl,rfl,rfl,rfl,rfl,rfl,trivial⟩<|ak (X' :=[_,_]) (S' :=[_,_,_,_,_]) (fun _ m=>m)<|ag<|ah<|ah<|aj<|hy (fun _=>aa rfl)<|hy (fun _=>dP rfl rfl)<|ai<|al (ρ' :=[(27,_),(9,_),(8,_),(18,_),(7,_),(6,_),(5,_),(4,_),(3,_),(2,_),(0,_),(1,_)]) ⟨rfl,rfl,rfl,rfl,rfl,rfl,rfl,rfl,rfl,rfl,rfl,rfl,trivial⟩<|ag<| ?_
  refine cD rfl (fun h2=> ?_) (fun h2=> ?_)
  ·have hE:=ni (d:=x.d) (nm:=nm) h1 (.inl h2)
   rw[hE,lp (by rw[hE];decide)]
   refine ah<|aj<|hy (fun _=>ab rfl)<|hy (fun _=>ab rfl)<|ai<|ag<|aX<|ax<| ?_
   exact dy trivial rfl rfl rfl [] rfl [] rfl ⟨rfl,rfl,rfl⟩
  ·have h2:=Decidable.not_not.1 h2
   refine aC<|ag<|ah<|ah<|cG [1] [(0,some 0),(2,some 1),(1,none),(3,some 1)] (by kernel_rfl) (by kernel_rfl) rfl 99<|an (aa rfl)<|ca (fun m=>a6 rfl cx bo h32 ((m.aZ 0 rfl).az))<| ?_
   refine dV (aq rfl Tryz.call56 (pe (by omega)) [] rfl [0] rfl ?_)
   rintro _ _ _ ⟨rfl,rfl,rfl⟩
   refine⟨(fun _=>wk [0,0] [0,1,2,3,4] rfl rfl), ?_⟩
   refine an (o3 rfl rfl (bk _) hm)<|br<|al (ρ' :=[(31,_),(27,_),(9,_),(8,_),(18,_),(7,_),(6,_),(5,_),(4,_),(3,_),(2,_),(0,_),(1,_)]) ⟨rfl,rfl,rfl,rfl,rfl,rfl,rfl,rfl,rfl,rfl,rfl,rfl,rfl,trivial⟩<|ak (X' :=[_,_]) (S' :=[_,_,_,_,_]) (fun _ m=>m)<|ag<| ?_
   refine cD rfl (fun h3=> ?_) (fun h3=> ?_)
   ·have hE:=ni (d:=x.d) (nm:=nm) h1 (.inr h3)
    rw[hE,lp (by rw[hE];decide)]
    refine ah<|aj<|hy (fun _=>ab rfl)<|hy (fun _=>ab rfl)<|ai<|ag<|aX<|ax<| ?_
    exact dy trivial rfl rfl rfl [] rfl [] rfl ⟨rfl,rfl,rfl⟩
   ·have hE:=sP (d:=x.d) (nm:=nm) h1 (fun q=>q.elim (fun q=>q h2) h3)
    rw[hE,sA hE]
    refine aC<|ag<|ah<|aj<|hy (fun _=>aa rfl)<|hy (fun m=>jH rfl Tryz.underlying27 Tryz.underlying5 Tryz.underlying9 (m.rd 0 rfl))<|hy (fun _=>ab rfl)<|hy (fun _=>ab rfl)<|ai<|al (ρ' :=[(5,_),(4,_),(31,_),(27,_),(9,_),(8,_),(18,_),(7,_),(6,_),(3,_),(2,_),(0,_),(1,_)]) ⟨rfl,rfl,rfl,rfl,rfl,rfl,rfl,rfl,rfl,rfl,rfl,rfl,rfl,trivial⟩<|ag<|aX<| ?_
    exact dy trivial rfl rfl rfl [] rfl [] rfl ⟨rfl,rfl,rfl⟩
theorem Em{d:RD}{bb:List UInt8}(h:d.bH (bN (bc bb)) (bE bb)≠0):d.iF bb=(d.write (bN (bc bb)) (bE bb),d.bH (bN (bc bb)) (bE bb)):=by
 unfold RD.iF
 rw[bZ]
 exact if_pos h
theorem Ec{d:RD}{bb:List UInt8}(h:d.bH (bN (bc bb)) (bE bb)=0)(h2:(d.write (bN (bc bb)) (bE bb)).c7≠0):d.iF bb=((d.write (bN (bc bb)) (bE bb)).sync,(d.write (bN (bc bb)) (bE bb)).c7):=by
 unfold RD.iF
 rw[bZ,if_neg (by show¬d.bH _ _≠0;rw[h];decide),bZ]
 exact if_pos h2
theorem DM{d:RD}{bb:List UInt8}(h:d.bH (bN (bc bb)) (bE bb)=0)(h2:(d.write (bN (bc bb)) (bE bb)).c7=0)(h3:(d.write (bN (bc bb)) (bE bb)).sync.bU (bN (bc bb)) (aE (bc bb))≠0):d.iF bb=((d.write (bN (bc bb)) (bE bb)).sync.rename (bN (bc bb)) (aE (bc bb)),(d.write (bN (bc bb)) (bE bb)).sync.bU (bN (bc bb)) (aE (bc bb))):=by
 unfold RD.iF
 rw[bZ,if_neg (by show¬d.bH _ _≠0;rw[h];decide),bZ,if_neg (by show¬(d.write _ _).c7≠0;rw[h2];decide),bZ]
 exact if_pos h3
theorem EP{d:RD}{bb:List UInt8}(h:d.bH (bN (bc bb)) (bE bb)=0)(h2:(d.write (bN (bc bb)) (bE bb)).c7=0)(h3:(d.write (bN (bc bb)) (bE bb)).sync.bU (bN (bc bb)) (aE (bc bb))=0):d.iF bb=(((d.write (bN (bc bb)) (bE bb)).sync.rename (bN (bc bb)) (aE (bc bb))).sync,((d.write (bN (bc bb)) (bE bb)).sync.rename (bN (bc bb)) (aE (bc bb))).c7):=by
 unfold RD.iF
 rw[bZ,if_neg (by show¬d.bH _ _≠0;rw[h];decide),bZ,if_neg (by show¬(d.write _ _).c7≠0;rw[h2];decide),bZ,if_neg (by show¬((d.write _ _).sync).bU _ _≠0;rw[h3];decide),bZ]
 by_cases h4:(cq (rV (bN (bc bb)) (aE (bc bb)) (cq (sd (bN (bc bb)) (bE bb) d).1).1).1).2=0
 ·rw[if_neg (fun q=>q h4)]
  exact Prod.ext rfl h4.symm
 ·rw[if_pos h4];rfl
theorem mS{d:RD}{bb:List UInt8}(hn:¬4096<bb.length)(h6:d.eZ (bc bb)≠6)(h0:d.eZ (bc bb)≠0){d' :RD}{e:Int}(h:d.iF bb=(d',e)):d.put bb=(d',if e=0 then bc bb else dZ,e):=by
 unfold RD.put;rw[if_neg hn,if_neg h6,if_neg h0,h]
theorem kL{x:RX}{kk:Nat}{A:Option Addr}{n c:Nat}{bb:List UInt8}(hD:x.d.ok kk)(hkk:kk≤90000)(hc:n≤c)(hl:bb.length=n)(hn:n≤100000):cj Tryz.prog 26 [.agg x.cs.toArray,.slice A n c] [] [dO x,cV 1 A n (aR bb),eX] (fun v_ X_ S_=>∃y,v_=(.tuple #[.agg y.cs.toArray,.agg (aR (x.d.put bb).2.1).toArray,.int .i64 (x.d.put bb).2.2])∧X_=[]∧S_=[dO y]∧(y.d=(x.d.put bb).1)):=by
 have hm:=bk bb
 have h32:(aR (bc bb)).length=32:=by rw[ay,hm]
 have z32:(aR dZ).length=32:=by rw[ay,fe]
 obtain⟨s0,s1⟩:=kK bb
 have hrd:(x.d.cz (aE (bc bb))).length≤10000000:=by
  obtain⟨st,hst⟩:=hD
  have:=hst.vB (aE (bc bb))
  omega
 have ok1:=hD.write (p:=bN (bc bb)) (l:=bE bb) (by omega)
 have okr:=hD.uA
 have okr1:=ok1.uA
 have okr2:=ok1.sync.uA
 have okr3:=ok1.sync.rename (a:=bN (bc bb)) (c:=aE (bc bb))|>.uA
 refine aQ (N:=74) Tryz.func26 rfl rfl (by simp) fun b=> ?_
 refine aY (fun m=>ig (m.rd 1 rfl)) ?_
 rintro⟨hl_rb,hA_rb⟩
 refine ah<|aj<| ?_
 refine hx (cI rfl (fun g2=> ?_))
 refine aT (fun w m=>m.bQ 0 rfl (show _=aL g2 39 x.cs from congrArg (aL _ _) (bA _))) ?_
 refine hx (aP jh (fun g4=> ?_))
 refine hx (aP dT (fun g5=> ?_))
 refine hy (fun _=>ab rfl)<|ai<|ak (X' :=[_,_,_]) (S' :=[_,_,_]) (fun _ m=>m)<|ag<|ah<|ah<|aj<|hy (fun _=>aa rfl)<|hy (fun _=>aU rfl Tryz.underlying27)<|hy (fun _=>cY rfl rfl)<|ai<|al (ρ' :=[(12,_),(6,_),(5,_),(4,_),(2,_),(0,_),(1,_)]) ⟨rfl,rfl,rfl,rfl,rfl,rfl,rfl,trivial⟩<|ag<| ?_
 refine cD rfl (fun hbig=> ?_) (fun hbig=> ?_)
 ·have e0:x.d.put bb=(x.d,dZ,3):=wh (by omega)
  rw[e0]
  refine ah<|aj<|hy (fun m=>yV (a6 rfl cL bB rfl ((m.aZ 2 rfl).az)) ((rfl:_=Value.agg x.cs.toArray)))<|hy (fun _=>yV (eJ dT rfl (by kernel_rfl)) ((rfl:_=Value.agg (aR dZ).toArray)))<| ?_
  refine cJ (aK 1 rfl rfl rfl bB rfl bS rfl ?_)
  refine cJ (aK 1 rfl rfl rfl bo z32 aS rfl ?_)
  refine hy (fun _=>ab rfl)<|ai<|al (ρ' :=[(6,_),(12,_),(5,_),(4,_),(2,_),(0,_),(1,_)]) ⟨rfl,rfl,rfl,rfl,rfl,rfl,rfl,trivial⟩<|ak (X' :=[_,_,_]) (S' :=[_,_,_]) (fun _ m=>m)<|ag<|aX<|ax<| ?_
  exact fi trivial rfl rfl rfl rfl cL bB rfl (fun m=>(m.aZ 1 rfl).az) cx bo z32 (fun m=>(m.aZ 0 rfl).az) [] rfl [0] rfl ⟨x,rfl,rfl,rfl,rfl⟩
 ·have hbg:¬4096<bb.length:=by omega
  refine aC<|ag<|ah<|aj<|hy (fun _=>aa rfl)<| ?_
  refine hx (aq rfl Tryz.call56 (pe (by omega)) [] rfl [1] rfl ?_)
  rintro _ _ _ ⟨rfl,rfl,rfl⟩
  refine hx (aP dT (fun g7=> ?_))
  refine cJ (aK 0 rfl rfl rfl bo h32 aS rfl ?_)
  refine ai<|al (ρ' :=[(7,_),(12,_),(6,_),(5,_),(4,_),(2,_),(0,_),(1,_)]) ⟨rfl,rfl,rfl,rfl,rfl,rfl,rfl,rfl,trivial⟩<|ak (X' :=[_,_,_,_]) (S' :=[_,_,_]) (fun _ m=>m)<|ag<|ah<|aj<|hy (fun m=>yV (a6 rfl cL bB rfl ((m.aZ 3 rfl).az)) ((rfl:_=Value.agg x.cs.toArray)))<|hy (fun m=>a6 rfl cx bo h32 ((m.aZ 0 rfl).az))<| ?_
  refine hx (aq rfl Tryz.call74 (Dc okr (by omega) hm hrd) [] rfl [0,2] rfl ?_)
  rintro _ _ _ ⟨rfl,rfl,rfl⟩
  refine hy (fun _=>aa rfl)<|hy (fun _=>au rfl rfl)<|hy (fun _=>au rfl rfl)<|hy (fun _=>ab rfl)<|hy (fun _=>ab rfl)<|ai<|al (ρ' :=[(9,_),(7,_),(12,_),(6,_),(5,_),(4,_),(2,_),(0,_),(1,_)]) ⟨rfl,rfl,rfl,rfl,rfl,rfl,rfl,rfl,rfl,trivial⟩<|ak (X' :=[_,_,_,_]) (S' :=[_,_,_]) (fun _ m=>m)<|ag<|ah<|ah<|aj<|hy (fun _=>aa rfl)<|hy (fun _=>cM rfl rfl)<|ai<|al (ρ' :=[(24,_),(9,_),(7,_),(12,_),(6,_),(5,_),(4,_),(2,_),(0,_),(1,_)]) ⟨rfl,rfl,rfl,rfl,rfl,rfl,rfl,rfl,rfl,rfl,trivial⟩<|ag<| ?_
  refine cD rfl (fun h0=> ?_) (fun h0=> ?_)
  ·have e0:x.d.put bb=(x.d,bc bb,0):=by unfold RD.put;rw[if_neg hbg,if_neg (by rw[h0];decide),if_pos h0]
   rw[e0]
   refine ah<|w6 [0,1,2,3] (.alt 0 (.alt 1 (.alt 2 (.alt 3 (.take 4 4<|.done) (.stop)) (.stop)) (.alt 2 (.alt 1 (.alt 3 (.take 4 4<|.done) (.stop)) (.stop)) (.stop))) (.alt 1 (.alt 0 (.alt 2 (.alt 3 (.take 4 4<|.done) (.stop)) (.stop)) (.stop)) (.stop))) (by kernel_rfl) (by kernel_rfl) rfl 1<| ?_
   refine eA ?_ ?_
   ·refine fP<|nv (fun m=>yV (a6 rfl cL bB rfl ((m.aZ 3 rfl).az)) ((rfl:_=Value.agg x.cs.toArray)))<|And.intro (fun _=>wk [0,0,0,0] [0,1,2] rfl rfl)<| ?_
    refine eA ?_ ?_
    ·refine fP<|nv (fun m=>a6 rfl cx bo h32 ((m.aZ 0 rfl).az))<|And.intro (fun h=>absurd h (by decide))<| ?_
     refine en (aK 2 rfl rfl rfl bB rfl bS rfl ⟨(fun h=>absurd h (by decide)), ?_⟩)
     refine en (aK 2 rfl rfl rfl bo h32 aS rfl ⟨(fun h=>absurd h (by decide)), ?_⟩)
     refine b6 (ab rfl)<|eV<|al (ρ' :=[(6,_),(24,_),(9,_),(7,_),(12,_),(5,_),(4,_),(2,_),(0,_),(1,_)]) ⟨rfl,rfl,rfl,rfl,rfl,rfl,rfl,rfl,rfl,rfl,trivial⟩<|ak (X' :=[_,_,_,_]) (S' :=[_,_,_]) (fun _ m=>m)<|ag<|aX<|ax<| ?_
     exact fi trivial rfl rfl rfl rfl cL bB rfl (fun m=>(m.aZ 1 rfl).az) cx bo h32 (fun m=>(m.aZ 0 rfl).az) [] rfl [0] rfl ⟨x,rfl,rfl,rfl,rfl⟩
    ·refine en (aK 2 rfl rfl rfl bB rfl bS rfl ⟨(fun h=>absurd h (by decide)), ?_⟩)
     refine fP<|nv (fun m=>a6 rfl cx bo h32 ((m.aZ 1 rfl).az))<|And.intro (fun h=>absurd h (by decide))<| ?_
     refine en (aK 2 rfl rfl rfl bo h32 aS rfl ⟨(fun h=>absurd h (by decide)), ?_⟩)
     refine b6 (ab rfl)<|eV<|al (ρ' :=[(6,_),(24,_),(9,_),(7,_),(12,_),(5,_),(4,_),(2,_),(0,_),(1,_)]) ⟨rfl,rfl,rfl,rfl,rfl,rfl,rfl,rfl,rfl,rfl,trivial⟩<|ak (X' :=[_,_,_,_]) (S' :=[_,_,_]) (fun _ m=>m)<|ag<|aX<|ax<| ?_
     exact fi trivial rfl rfl rfl rfl cL bB rfl (fun m=>(m.aZ 1 rfl).az) cx bo h32 (fun m=>(m.aZ 0 rfl).az) [] rfl [0] rfl ⟨x,rfl,rfl,rfl,rfl⟩
   ·refine fP<|nv (fun m=>a6 rfl cx bo h32 ((m.aZ 0 rfl).az))<|And.intro (fun _=>wk [0,0,0,0] [0,1,2] rfl rfl)<|fP<|nv (fun m=>yV (a6 rfl cL bB rfl ((m.aZ 3 rfl).az)) ((rfl:_=Value.agg x.cs.toArray)))<|And.intro (fun h=>absurd h (by decide))<| ?_
    refine en (aK 2 rfl rfl rfl bB rfl bS rfl ⟨(fun h=>absurd h (by decide)), ?_⟩)
    refine en (aK 2 rfl rfl rfl bo h32 aS rfl ⟨(fun h=>absurd h (by decide)), ?_⟩)
    refine b6 (ab rfl)<|eV<|al (ρ' :=[(6,_),(24,_),(9,_),(7,_),(12,_),(5,_),(4,_),(2,_),(0,_),(1,_)]) ⟨rfl,rfl,rfl,rfl,rfl,rfl,rfl,rfl,rfl,rfl,trivial⟩<|ak (X' :=[_,_,_,_]) (S' :=[_,_,_]) (fun _ m=>m)<|ag<|aX<|ax<| ?_
    exact fi trivial rfl rfl rfl rfl cL bB rfl (fun m=>(m.aZ 1 rfl).az) cx bo h32 (fun m=>(m.aZ 0 rfl).az) [] rfl [0] rfl ⟨x,rfl,rfl,rfl,rfl⟩
  ·refine aC<|ag<|ah<|ah<|aj<|hy (fun _=>aa rfl)<|hy (fun _=>cM rfl rfl)<|ai<|al (ρ' :=[(28,_),(24,_),(9,_),(7,_),(12,_),(6,_),(5,_),(4,_),(2,_),(0,_),(1,_)]) ⟨rfl,rfl,rfl,rfl,rfl,rfl,rfl,rfl,rfl,rfl,rfl,trivial⟩<|ag<| ?_
   refine cD rfl (fun h6=> ?_) (fun h6=> ?_)
   ·have e0:x.d.put bb=(x.d,dZ,6):=by unfold RD.put;rw[if_neg hbg,if_pos h6]
    rw[e0,h6]
    refine ah<|aj<|hy (fun m=>yV (a6 rfl cL bB rfl ((m.aZ 3 rfl).az)) ((rfl:_=Value.agg x.cs.toArray)))<|hy (fun _=>yV (eJ dT rfl (by kernel_rfl)) ((rfl:_=Value.agg (aR dZ).toArray)))<|hy (fun _=>aa rfl)<| ?_
    refine cJ (aK 2 rfl rfl rfl bB rfl bS rfl ?_)
    refine cJ (aK 2 rfl rfl rfl bo z32 aS rfl ?_)
    refine hy (fun _=>ab rfl)<|ai<|al (ρ' :=[(6,_),(28,_),(24,_),(9,_),(7,_),(12,_),(5,_),(4,_),(2,_),(0,_),(1,_)]) ⟨rfl,rfl,rfl,rfl,rfl,rfl,rfl,rfl,rfl,rfl,rfl,trivial⟩<|ak (X' :=[_,_,_,_]) (S' :=[_,_,_]) (fun _ m=>m)<|ag<|aX<|ax<| ?_
    exact fi trivial rfl rfl rfl rfl cL bB rfl (fun m=>(m.aZ 1 rfl).az) cx bo z32 (fun m=>(m.aZ 0 rfl).az) [] rfl [0] rfl ⟨x,rfl,rfl,rfl,rfl⟩
   ·refine aC<|ag<|ah<|cG [2,4,5,6,10] [(0,some 3),(1,some 0),(3,some 1),(2,none),(4,none),(5,none),(6,none),(7,some 4),(8,some 4),(9,some 5),(10,none),(11,some 5)] (by kernel_rfl) (by kernel_rfl) rfl 4<|ca (fun m=>yV (a6 rfl cL bB rfl ((m.aZ 3 rfl).az)) ((rfl:_=Value.agg x.cs.toArray)))<|ca (fun m=>a6 rfl cx bo h32 ((m.aZ 0 rfl).az))<|an (aa rfl)<| ?_
    refine dV (aq rfl Tryz.call98 (vK hm) [] rfl [] rfl ?_)
    rintro _ _ _ ⟨rfl,rfl,rfl⟩
    refine⟨(fun _=>wk [0,0,0,0] [0,1,2] rfl rfl), ?_⟩
    refine dV (aq rfl Tryz.call81 (Eh hc (by omega) hl) [] rfl [1] rfl ?_)
    rintro _ _ _ ⟨v,rfl,rfl,rfl⟩
    refine⟨(fun _=>wk [1,1,1,1] [0,1,2] rfl rfl), ?_⟩
    refine b5 (fun m=>(m.own 0 rfl).slice) ?_
    rintro⟨A_x,c_x,rfl,hc_x⟩
    refine b5 (fun m=>(m.ord 0 rfl).2.1) fun hA_x=> ?_
    refine Fa (fun _=>wk [1,1,1,1] [0,1,2] rfl rfl) (fun m=>jH rfl Tryz.underlying27 Tryz.underlying5 Tryz.underlying9 (m.ord 0 rfl))<| ?_
    refine dV (aq rfl Tryz.call31 (nz okr (by omega) (by rw[jl hm];decide) (by omega) (p:=(bN (bc bb))) (bb:=(bE bb))) [] rfl [0] rfl ?_)
    rintro _ _ _ ⟨y,rfl,rfl,rfl,hd1⟩
    refine⟨(fun _=>wk [1,1,1,1] [1,2,3] rfl rfl), ?_⟩
    refine an (aa rfl)<|an (au rfl rfl)<|an (au rfl rfl)<| ?_
    refine kr (aK 4 rfl rfl rfl bB rfl bS rfl ⟨(fun h=>absurd h (by decide)), ?_⟩)
    refine an (ab rfl)<|br<|al (ρ' :=[(9,_),(28,_),(24,_),(7,_),(12,_),(6,_),(5,_),(4,_),(2,_),(0,_),(1,_)]) ⟨rfl,rfl,rfl,rfl,rfl,rfl,rfl,rfl,rfl,rfl,rfl,trivial⟩<|ak (X' :=[_,_,_,_,_]) (S' :=[_,_,_,_]) (fun _ m=>m)<|ag<|ah<|ah<|aj<|hy (fun _=>aa rfl)<|hy (fun _=>cM rfl rfl)<|ai<|al (ρ' :=[(43,_),(9,_),(28,_),(24,_),(7,_),(12,_),(6,_),(5,_),(4,_),(2,_),(0,_),(1,_)]) ⟨rfl,rfl,rfl,rfl,rfl,rfl,rfl,rfl,rfl,rfl,rfl,rfl,trivial⟩<|ag<| ?_
    refine cD rfl (fun h1=> ?_) (fun h1=> ?_)
    ·refine aj<|hy (fun m=>yV (a6 rfl cL bB rfl ((m.aZ 0 rfl).az)) ((rfl:_=Value.agg y.cs.toArray)))<| ?_
     refine hx (aq rfl Tryz.call99 (vj (by rw[hd1];exact okr1)) [] rfl [0] rfl ?_)
     rintro _ _ _ ⟨y2,rfl,rfl,rfl,hd2⟩
     refine hy (fun _=>aa rfl)<|hy (fun _=>au rfl rfl)<|hy (fun _=>au rfl rfl)<| ?_
     refine cJ (aK 0 rfl rfl rfl bB rfl bS rfl ?_)
     refine hy (fun _=>ab rfl)<|ai<|al (ρ' :=[(9,_),(43,_),(28,_),(24,_),(7,_),(12,_),(6,_),(5,_),(4,_),(2,_),(0,_),(1,_)]) ⟨rfl,rfl,rfl,rfl,rfl,rfl,rfl,rfl,rfl,rfl,rfl,rfl,trivial⟩<|ak (X' :=[_,_,_,_,_]) (S' :=[_,_,_,_,_]) (fun _ m=>m)<|ag<|ah<|ah<|aj<|hy (fun _=>aa rfl)<|hy (fun _=>cM rfl rfl)<|ai<|al (ρ' :=[(50,_),(9,_),(43,_),(28,_),(24,_),(7,_),(12,_),(6,_),(5,_),(4,_),(2,_),(0,_),(1,_)]) ⟨rfl,rfl,rfl,rfl,rfl,rfl,rfl,rfl,rfl,rfl,rfl,rfl,rfl,trivial⟩<|ag<| ?_
     refine cD rfl (fun h2=> ?_) (fun h2=> ?_)
     ·refine cG [2,4,5,9] [(0,some 2),(1,some 0),(3,some 1),(2,none),(4,none),(5,none),(6,some 3),(7,some 3),(8,some 4),(9,none),(10,some 4)] (by kernel_rfl) (by kernel_rfl) rfl 3<|ca (fun m=>yV (a6 rfl cL bB rfl ((m.aZ 0 rfl).az)) ((rfl:_=Value.agg y2.cs.toArray)))<|ca (fun m=>a6 rfl cx bo h32 ((m.aZ 2 rfl).az))<|ca (fun m=>a6 rfl cx bo h32 ((m.aZ 2 rfl).az))<| ?_
      refine dV (aq rfl Tryz.call98 (vK hm) [] rfl [] rfl ?_)
      rintro _ _ _ ⟨rfl,rfl,rfl⟩
      refine⟨(fun _=>wk [0,0,0,0,0] [0,1,2,3,4] rfl rfl), ?_⟩
      refine dV (aq rfl Tryz.call29 (r5 hm) [] rfl [] rfl ?_)
      rintro _ _ _ ⟨rfl,rfl,rfl⟩
      refine⟨(fun _=>wk [0,0,0,0,0] [0,1,2,3,4] rfl rfl), ?_⟩
      refine dV (aq rfl Tryz.call100 (zd (by rw[hd2,hd1];exact okr2) (show kk+1≤100000 by omega) (by rw[dX hm];decide) (a:=(bN (bc bb))) (c:=(aE (bc bb)))) [] rfl [0] rfl ?_)
      rintro _ _ _ ⟨y3,rfl,rfl,rfl,hd3⟩
      refine⟨(fun _=>wk [0,0,0,0,0] [1,2,3,4,5] rfl rfl), ?_⟩
      refine an (aa rfl)<|an (au rfl rfl)<|an (au rfl rfl)<| ?_
      refine kr (aK 0 rfl rfl rfl bB rfl bS rfl ⟨(fun h=>absurd h (by decide)), ?_⟩)
      refine an (ab rfl)<|br<|al (ρ' :=[(9,_),(50,_),(43,_),(28,_),(24,_),(7,_),(12,_),(6,_),(5,_),(4,_),(2,_),(0,_),(1,_)]) ⟨rfl,rfl,rfl,rfl,rfl,rfl,rfl,rfl,rfl,rfl,rfl,rfl,rfl,trivial⟩<|ak (X' :=[_,_,_,_,_]) (S' :=[_,_,_,_,_,_]) (fun _ m=>m)<|ag<|ah<|ah<|aj<|hy (fun _=>aa rfl)<|hy (fun _=>cM rfl rfl)<|ai<|al (ρ' :=[(61,_),(9,_),(50,_),(43,_),(28,_),(24,_),(7,_),(12,_),(6,_),(5,_),(4,_),(2,_),(0,_),(1,_)]) ⟨rfl,rfl,rfl,rfl,rfl,rfl,rfl,rfl,rfl,rfl,rfl,rfl,rfl,rfl,trivial⟩<|ag<| ?_
      refine cD rfl (fun h3=> ?_) (fun h3=> ?_)
      ·have hP:=EP (d:=x.d) (bb:=bb) h1 (by rw[←hd1];exact h2) (by rw[←hd1,←hd2];exact h3)
       rw[←hd1,←hd2,←hd3]at hP
       have e0:=mS hbg h6 h0 hP
       refine aj<|hy (fun m=>yV (a6 rfl cL bB rfl ((m.aZ 0 rfl).az)) ((rfl:_=Value.agg y3.cs.toArray)))<| ?_
       refine hx (aq rfl Tryz.call99 (vj (by rw[hd3,hd2,hd1];exact okr3)) [] rfl [0] rfl ?_)
       rintro _ _ _ ⟨y4,rfl,rfl,rfl,hd4⟩
       refine hy (fun _=>aa rfl)<|hy (fun _=>au rfl rfl)<|hy (fun _=>au rfl rfl)<| ?_
       refine cJ (aK 0 rfl rfl rfl bB rfl bS rfl ?_)
       refine hy (fun _=>ab rfl)<|ai<|al (ρ' :=[(9,_),(61,_),(50,_),(43,_),(28,_),(24,_),(7,_),(12,_),(6,_),(5,_),(4,_),(2,_),(0,_),(1,_)]) ⟨rfl,rfl,rfl,rfl,rfl,rfl,rfl,rfl,rfl,rfl,rfl,rfl,rfl,rfl,trivial⟩<|ak (X' :=[_,_,_,_,_]) (S' :=[_,_,_,_,_,_,_]) (fun _ m=>m)<|ag<|ah<|ah<|aj<|hy (fun _=>aa rfl)<|hy (fun _=>dP rfl rfl)<|ai<|al (ρ' :=[(68,_),(9,_),(61,_),(50,_),(43,_),(28,_),(24,_),(7,_),(12,_),(6,_),(5,_),(4,_),(2,_),(0,_),(1,_)]) ⟨rfl,rfl,rfl,rfl,rfl,rfl,rfl,rfl,rfl,rfl,rfl,rfl,rfl,rfl,rfl,trivial⟩<|ag<| ?_
       rw[←hd4]at e0
       refine cD rfl (fun h4=> ?_) (fun h4=> ?_)
       ·rw[if_neg h4]at e0
        rw[e0]
        refine ah<|aj<|hy (fun m=>yV (a6 rfl cL bB rfl ((m.aZ 0 rfl).az)) ((rfl:_=Value.agg y4.cs.toArray)))<|hy (fun _=>yV (eJ dT rfl (by kernel_rfl)) ((rfl:_=Value.agg (aR dZ).toArray)))<|hy (fun _=>aa rfl)<| ?_
        refine cJ (aK 4 rfl rfl rfl bB rfl bS rfl ?_)
        refine cJ (aK 4 rfl rfl rfl bo z32 aS rfl ?_)
        refine hy (fun _=>ab rfl)<|ai<|al (ρ' :=[(6,_),(68,_),(9,_),(61,_),(50,_),(43,_),(28,_),(24,_),(7,_),(12,_),(5,_),(4,_),(2,_),(0,_),(1,_)]) ⟨rfl,rfl,rfl,rfl,rfl,rfl,rfl,rfl,rfl,rfl,rfl,rfl,rfl,rfl,rfl,trivial⟩<|ak (X' :=[_,_,_,_,_]) (S' :=[_,_,_,_,_,_,_]) (fun _ m=>m)<|ag<|aX<|ax<| ?_
        exact fi trivial rfl rfl rfl rfl cL bB rfl (fun m=>(m.aZ 1 rfl).az) cx bo z32 (fun m=>(m.aZ 0 rfl).az) [] rfl [0] rfl ⟨y4,rfl,rfl,rfl,rfl⟩
       ·have h4:=Decidable.not_not.1 h4
        rw[if_pos h4,h4]at e0
        rw[e0]
        refine aC<|ag<|ah<|w6 [0,1,2,3] (.alt 0 (.alt 1 (.alt 2 (.alt 3 (.take 4 4<|.done) (.stop)) (.stop)) (.alt 2 (.alt 1 (.alt 3 (.take 4 4<|.done) (.stop)) (.stop)) (.stop))) (.alt 1 (.alt 0 (.alt 2 (.alt 3 (.take 4 4<|.done) (.stop)) (.stop)) (.stop)) (.stop))) (by kernel_rfl) (by kernel_rfl) rfl 1<| ?_
        refine eA ?_ ?_
        ·refine fP<|nv (fun m=>yV (a6 rfl cL bB rfl ((m.aZ 0 rfl).az)) ((rfl:_=Value.agg y4.cs.toArray)))<|And.intro (fun _=>wk [0,0,0,0,0] [0,1,2,3,4,5,6] rfl rfl)<| ?_
         refine eA ?_ ?_
         ·refine fP<|nv (fun m=>a6 rfl cx bo h32 ((m.aZ 2 rfl).az))<|And.intro (fun h=>absurd h (by decide))<| ?_
          refine en (aK 4 rfl rfl rfl bB rfl bS rfl ⟨(fun h=>absurd h (by decide)), ?_⟩)
          refine en (aK 4 rfl rfl rfl bo h32 aS rfl ⟨(fun h=>absurd h (by decide)), ?_⟩)
          refine b6 (ab rfl)<|eV<|al (ρ' :=[(6,_),(68,_),(9,_),(61,_),(50,_),(43,_),(28,_),(24,_),(7,_),(12,_),(5,_),(4,_),(2,_),(0,_),(1,_)]) ⟨rfl,rfl,rfl,rfl,rfl,rfl,rfl,rfl,rfl,rfl,rfl,rfl,rfl,rfl,rfl,trivial⟩<|ak (X' :=[_,_,_,_,_]) (S' :=[_,_,_,_,_,_,_]) (fun _ m=>m)<|ag<|aX<| ?_
          exact fi trivial rfl rfl rfl rfl cL bB rfl (fun m=>(m.aZ 1 rfl).az) cx bo h32 (fun m=>(m.aZ 0 rfl).az) [] rfl [0] rfl ⟨y4,rfl,rfl,rfl,rfl⟩
         ·refine en (aK 4 rfl rfl rfl bB rfl bS rfl ⟨(fun h=>absurd h (by decide)), ?_⟩)
          refine fP<|nv (fun m=>a6 rfl cx bo h32 ((m.aZ 3 rfl).az))<|And.intro (fun h=>absurd h (by decide))<| ?_
          refine en (aK 4 rfl rfl rfl bo h32 aS rfl ⟨(fun h=>absurd h (by decide)), ?_⟩)
          refine b6 (ab rfl)<|eV<|al (ρ' :=[(6,_),(68,_),(9,_),(61,_),(50,_),(43,_),(28,_),(24,_),(7,_),(12,_),(5,_),(4,_),(2,_),(0,_),(1,_)]) ⟨rfl,rfl,rfl,rfl,rfl,rfl,rfl,rfl,rfl,rfl,rfl,rfl,rfl,rfl,rfl,trivial⟩<|ak (X' :=[_,_,_,_,_]) (S' :=[_,_,_,_,_,_,_]) (fun _ m=>m)<|ag<|aX<| ?_
          exact fi trivial rfl rfl rfl rfl cL bB rfl (fun m=>(m.aZ 1 rfl).az) cx bo h32 (fun m=>(m.aZ 0 rfl).az) [] rfl [0] rfl ⟨y4,rfl,rfl,rfl,rfl⟩
        ·refine fP<|nv (fun m=>a6 rfl cx bo h32 ((m.aZ 2 rfl).az))<|And.intro (fun _=>wk [0,0,0,0,0] [0,1,2,3,4,5,6] rfl rfl)<|fP<|nv (fun m=>yV (a6 rfl cL bB rfl ((m.aZ 0 rfl).az)) ((rfl:_=Value.agg y4.cs.toArray)))<|And.intro (fun h=>absurd h (by decide))<| ?_
         refine en (aK 4 rfl rfl rfl bB rfl bS rfl ⟨(fun h=>absurd h (by decide)), ?_⟩)
         refine en (aK 4 rfl rfl rfl bo h32 aS rfl ⟨(fun h=>absurd h (by decide)), ?_⟩)
         refine b6 (ab rfl)<|eV<|al (ρ' :=[(6,_),(68,_),(9,_),(61,_),(50,_),(43,_),(28,_),(24,_),(7,_),(12,_),(5,_),(4,_),(2,_),(0,_),(1,_)]) ⟨rfl,rfl,rfl,rfl,rfl,rfl,rfl,rfl,rfl,rfl,rfl,rfl,rfl,rfl,rfl,trivial⟩<|ak (X' :=[_,_,_,_,_]) (S' :=[_,_,_,_,_,_,_]) (fun _ m=>m)<|ag<|aX<| ?_
         exact fi trivial rfl rfl rfl rfl cL bB rfl (fun m=>(m.aZ 1 rfl).az) cx bo h32 (fun m=>(m.aZ 0 rfl).az) [] rfl [0] rfl ⟨y4,rfl,rfl,rfl,rfl⟩
      ·have hP:=DM (d:=x.d) (bb:=bb) h1 (by rw[←hd1];exact h2) (by rw[←hd1,←hd2];exact h3)
       rw[←hd1,←hd2,←hd3]at hP
       have e0:=mS hbg h6 h0 hP
       rw[if_neg h3]at e0
       rw[e0]
       refine aC<|ag<|ah<|ah<|aj<|hy (fun _=>aa rfl)<|hy (fun _=>dP rfl rfl)<|ai<|al (ρ' :=[(68,_),(61,_),(9,_),(50,_),(43,_),(28,_),(24,_),(7,_),(12,_),(6,_),(5,_),(4,_),(2,_),(0,_),(1,_)]) ⟨rfl,rfl,rfl,rfl,rfl,rfl,rfl,rfl,rfl,rfl,rfl,rfl,rfl,rfl,rfl,trivial⟩<|ag<| ?_
       refine ic rfl ((decide_eq_true h3)) ?_
       refine ah<|aj<|hy (fun m=>yV (a6 rfl cL bB rfl ((m.aZ 0 rfl).az)) ((rfl:_=Value.agg y3.cs.toArray)))<|hy (fun _=>yV (eJ dT rfl (by kernel_rfl)) ((rfl:_=Value.agg (aR dZ).toArray)))<|hy (fun _=>aa rfl)<| ?_
       refine cJ (aK 4 rfl rfl rfl bB rfl bS rfl ?_)
       refine cJ (aK 4 rfl rfl rfl bo z32 aS rfl ?_)
       refine hy (fun _=>ab rfl)<|ai<|al (ρ' :=[(6,_),(68,_),(61,_),(9,_),(50,_),(43,_),(28,_),(24,_),(7,_),(12,_),(5,_),(4,_),(2,_),(0,_),(1,_)]) ⟨rfl,rfl,rfl,rfl,rfl,rfl,rfl,rfl,rfl,rfl,rfl,rfl,rfl,rfl,rfl,trivial⟩<|ak (X' :=[_,_,_,_,_]) (S' :=[_,_,_,_,_,_]) (fun _ m=>m)<|ag<|aX<|ax<| ?_
       exact fi trivial rfl rfl rfl rfl cL bB rfl (fun m=>(m.aZ 1 rfl).az) cx bo z32 (fun m=>(m.aZ 0 rfl).az) [] rfl [0] rfl ⟨y3,rfl,rfl,rfl,rfl⟩
     ·have hP:=Ec (d:=x.d) (bb:=bb) h1 (by rw[←hd1];exact h2)
      rw[←hd1,←hd2]at hP
      have e0:=mS hbg h6 h0 hP
      rw[if_neg h2]at e0
      rw[e0]
      refine aC<|ag<|ah<|ah<|aj<|hy (fun _=>aa rfl)<|hy (fun _=>cM rfl rfl)<|ai<|al (ρ' :=[(61,_),(50,_),(9,_),(43,_),(28,_),(24,_),(7,_),(12,_),(6,_),(5,_),(4,_),(2,_),(0,_),(1,_)]) ⟨rfl,rfl,rfl,rfl,rfl,rfl,rfl,rfl,rfl,rfl,rfl,rfl,rfl,rfl,trivial⟩<|ag<| ?_
      refine dL rfl ((decide_eq_false h2)) ?_
      refine aC<|ag<|ah<|ah<|aj<|hy (fun _=>aa rfl)<|hy (fun _=>dP rfl rfl)<|ai<|al (ρ' :=[(68,_),(61,_),(50,_),(9,_),(43,_),(28,_),(24,_),(7,_),(12,_),(6,_),(5,_),(4,_),(2,_),(0,_),(1,_)]) ⟨rfl,rfl,rfl,rfl,rfl,rfl,rfl,rfl,rfl,rfl,rfl,rfl,rfl,rfl,rfl,trivial⟩<|ag<| ?_
      refine ic rfl ((decide_eq_true h2)) ?_
      refine ah<|aj<|hy (fun m=>yV (a6 rfl cL bB rfl ((m.aZ 0 rfl).az)) ((rfl:_=Value.agg y2.cs.toArray)))<|hy (fun _=>yV (eJ dT rfl (by kernel_rfl)) ((rfl:_=Value.agg (aR dZ).toArray)))<|hy (fun _=>aa rfl)<| ?_
      refine cJ (aK 4 rfl rfl rfl bB rfl bS rfl ?_)
      refine cJ (aK 4 rfl rfl rfl bo z32 aS rfl ?_)
      refine hy (fun _=>ab rfl)<|ai<|al (ρ' :=[(6,_),(68,_),(61,_),(50,_),(9,_),(43,_),(28,_),(24,_),(7,_),(12,_),(5,_),(4,_),(2,_),(0,_),(1,_)]) ⟨rfl,rfl,rfl,rfl,rfl,rfl,rfl,rfl,rfl,rfl,rfl,rfl,rfl,rfl,rfl,trivial⟩<|ak (X' :=[_,_,_,_,_]) (S' :=[_,_,_,_,_]) (fun _ m=>m)<|ag<|aX<|ax<| ?_
      exact fi trivial rfl rfl rfl rfl cL bB rfl (fun m=>(m.aZ 1 rfl).az) cx bo z32 (fun m=>(m.aZ 0 rfl).az) [] rfl [0] rfl ⟨y2,rfl,rfl,rfl,rfl⟩
    ·have hP:=Em (d:=x.d) (bb:=bb) h1
     have e0:=mS hbg h6 h0 hP
     rw[if_neg h1]at e0
     rw[e0,←hd1]
     refine aC<|ag<|ah<|ah<|aj<|hy (fun _=>aa rfl)<|hy (fun _=>cM rfl rfl)<|ai<|al (ρ' :=[(50,_),(43,_),(9,_),(28,_),(24,_),(7,_),(12,_),(6,_),(5,_),(4,_),(2,_),(0,_),(1,_)]) ⟨rfl,rfl,rfl,rfl,rfl,rfl,rfl,rfl,rfl,rfl,rfl,rfl,rfl,trivial⟩<|ag<| ?_
     refine dL rfl ((decide_eq_false h1)) ?_
     refine aC<|ag<|ah<|ah<|aj<|hy (fun _=>aa rfl)<|hy (fun _=>cM rfl rfl)<|ai<|al (ρ' :=[(61,_),(50,_),(43,_),(9,_),(28,_),(24,_),(7,_),(12,_),(6,_),(5,_),(4,_),(2,_),(0,_),(1,_)]) ⟨rfl,rfl,rfl,rfl,rfl,rfl,rfl,rfl,rfl,rfl,rfl,rfl,rfl,rfl,trivial⟩<|ag<| ?_
     refine dL rfl ((decide_eq_false h1)) ?_
     refine aC<|ag<|ah<|ah<|aj<|hy (fun _=>aa rfl)<|hy (fun _=>dP rfl rfl)<|ai<|al (ρ' :=[(68,_),(61,_),(50,_),(43,_),(9,_),(28,_),(24,_),(7,_),(12,_),(6,_),(5,_),(4,_),(2,_),(0,_),(1,_)]) ⟨rfl,rfl,rfl,rfl,rfl,rfl,rfl,rfl,rfl,rfl,rfl,rfl,rfl,rfl,rfl,trivial⟩<|ag<| ?_
     refine ic rfl ((decide_eq_true h1)) ?_
     refine ah<|aj<|hy (fun m=>yV (a6 rfl cL bB rfl ((m.aZ 0 rfl).az)) ((rfl:_=Value.agg y.cs.toArray)))<|hy (fun _=>yV (eJ dT rfl (by kernel_rfl)) ((rfl:_=Value.agg (aR dZ).toArray)))<|hy (fun _=>aa rfl)<| ?_
     refine cJ (aK 4 rfl rfl rfl bB rfl bS rfl ?_)
     refine cJ (aK 4 rfl rfl rfl bo z32 aS rfl ?_)
     refine hy (fun _=>ab rfl)<|ai<|al (ρ' :=[(6,_),(68,_),(61,_),(50,_),(43,_),(9,_),(28,_),(24,_),(7,_),(12,_),(5,_),(4,_),(2,_),(0,_),(1,_)]) ⟨rfl,rfl,rfl,rfl,rfl,rfl,rfl,rfl,rfl,rfl,rfl,rfl,rfl,rfl,rfl,trivial⟩<|ak (X' :=[_,_,_,_,_]) (S' :=[_,_,_,_]) (fun _ m=>m)<|ag<|aX<|ax<| ?_
     exact fi trivial rfl rfl rfl rfl cL bB rfl (fun m=>(m.aZ 1 rfl).az) cx bo z32 (fun m=>(m.aZ 0 rfl).az) [] rfl [0] rfl ⟨y,rfl,rfl,rfl,rfl⟩
end Go.Proofs.YtmibdabdlgmafaaGreatDoor
end
section
set_option maxRecDepth 20000
set_option maxHeartbeats 4000000
namespace Go.Proofs.YtmibdabdlgmafaaGreatDoor
open Go.Eng Go.Hx
def sg(acc:List (List UInt8))(p:List UInt8):List (List UInt8):=match mG p with|some nm=>eK acc nm|none=>acc
def vN(d:RD)(i:Nat):List (List UInt8):=((d.seen.take i).map (·.1)).foldl sg []
end Go.Proofs.YtmibdabdlgmafaaGreatDoor
end
section
set_option maxRecDepth 20000
set_option maxHeartbeats 4000000
namespace Go.Proofs.YtmibdabdlgmafaaGreatDoor
open Go.Eng Go.Hx
abbrev It:=oX×Int
structure IX where
 mn:Int
 av:Int
 mx:Int
 wP:oX
 its:List It
 A:Option Addr
 c:Nat
def xZ(t:It):List Value:=aR t.1.b++[.int .i64 t.2]
def zI(l:List It):List Value:=l.flatMap xZ
theorem ll(t:It):(xZ t).length=33:=by simp[xZ,ay,t.1.h]
theorem wB(t:It):∀u∈xZ t,u.oneCell' =true:=by
 intro u hu
 rcases List.mem_append.1 hu with h|h
 ·exact gC u h
 ·rw[List.mem_singleton.1 h];rfl
theorem vy(a b:List It):zI (a++b)=zI a++zI b:=by simp[zI]
theorem Cc{l:List It}:∀u∈zI l,u.oneCell' =true:=by
 intro u hu
 obtain⟨t,_,h⟩:=List.mem_flatMap.1 hu
 exact wB t u h
def IX.cs(x:IX):List Value:=[.int .i64 x.mn,.int .i64 x.av,.int .i64 x.mx]++aR x.wP.b++[.slice x.A x.its.length x.c]
theorem IX.dY(x:IX):x.cs.length=36:=by simp[IX.cs,ay,x.wP.h]
theorem IX.bS(x:IX):∀u∈x.cs,u.oneCell' =true:=by
 intro u hu
 rcases List.mem_append.1 hu with h|h
 ·rcases List.mem_append.1 h with h|h
  ·simp only[List.mem_cons,List.not_mem_nil,or_false]at h
   rcases h with rfl|rfl|rfl <;> rfl
  ·exact gC u h
 ·rw[List.mem_singleton.1 h];rfl
theorem IX.vv(x:IX):x.cs[35]? =some (.slice x.A x.its.length x.c):=by
 have:([Value.int .i64 x.mn,.int .i64 x.av,.int .i64 x.mx]++aR x.wP.b).length=35:=by simp[ay,x.wP.h]
 unfold IX.cs
 rw[List.getElem?_append_right (by omega),this]
 rfl
def Bq(L:List IX):List Value:=L.flatMap IX.cs
def IX.s7(x:IX):bh:=cV 33 x.A x.its.length (zI x.its)
def IX.names(x:IX):List (List UInt8):=x.its.map (·.1.b)
def cP(L:List IX):List (List UInt8):=L.flatMap IX.names
theorem xJ(x:IX):nr x.names:=fun d hd=>by
 obtain⟨t,_,rfl⟩:=List.mem_map.1 hd
 exact t.1.h
theorem ky(L:List IX):nr (cP L):=fun d hd=>by
 obtain⟨x,_,h⟩:=List.mem_flatMap.1 hd
 exact xJ x d h
theorem qH{L:List IX}{i:Nat}{x:IX}(h:L[i]? =some x):cP (L.take (i+1))=cP (L.take i)++x.names:=by
 obtain⟨hi,rfl⟩:=List.getElem?_eq_some_iff.1 h
 rw[List.take_succ_eq_append_getElem hi,cP,List.flatMap_append,List.flatMap_cons,List.flatMap_nil,List.append_nil]
 rfl
theorem ql{x:IX}{j:Nat}{t:It}(h:x.its[j]? =some t):x.names.take (j+1)=x.names.take j++[t.1.b]:=by
 obtain⟨hj,rfl⟩:=List.getElem?_eq_some_iff.1 h
 have hj2:j<x.names.length:=by rw[IX.names,List.length_map];exact hj
 rw[List.take_succ_eq_append_getElem hj2]
 simp[IX.names]
theorem k8(x:IX):x.names.length=x.its.length:=List.length_map ..
theorem BT{L:List IX}{i:Nat}{x:IX}(h:L[i]? =some x):(cP (L.take i)).length+x.its.length≤(cP L).length:=by
 have h1:=qH h
 have h2:cP L=cP (L.take (i+1))++cP (L.drop (i+1)):=by
  unfold cP
  rw[←List.flatMap_append,List.take_append_drop]
 rw[h2,h1,List.length_append,List.length_append,k8]
 omega
theorem wU{w:World}{g:Nat}{ty:TypeId}{a b:List Value}(h:fE w g ty (a++b)):∀(j:Nat) (u:Value),a[j]? =some u→w.cell? (((⟨g,0,none⟩:Addr).add 0).add j)=some u:=fun j u hu=>by
 have:=h.az j u (by rw[List.getElem?_append_left (List.getElem?_eq_some_iff.1 hu).1];exact hu)
 rw[add_add,Nat.zero_add]
 exact this
theorem AZ{w:World}{A:Option Addr}{n i:Nat}{l:List It}{t:It}(h:Rd w 33 A n (zI l))(hx:l[i]? =some t):∀(j:Nat) (u:Value),(aR t.1.b)[j]? =some u→w.cell? ((((A.getD d0).add (i*33)).add 0).add j)=some u:=fun j u hu=>by
 have:=mf (f:=xZ) ll h hx j u (by rw[xZ,List.getElem?_append_left (List.getElem?_eq_some_iff.1 hu).1];exact hu)
 rw[add_add,Nat.zero_add]
 exact this
theorem yg{K:Option Addr}{n c:Nat}{L:List IX}(hL:L.length=n)(hn:n≤100000)(hs:(cP L).length≤100000):cj Tryz.prog 146 [.slice K n c] [] [cV 36 K n (Bq L),nD (L.map IX.s7)] (fun v_ X_ S_=>∃A1 k c1,v_=(.slice A1 k c1)∧X_=[aG 53 32 (.slice A1 k c1) k (dc ((cP L).foldl eK []))]∧S_=[]∧(k=((cP L).foldl eK []).length∧k≤c1)):=by
 refine aQ (N:=32) Tryz.func146 rfl rfl (by simp) fun b=> ?_
 refine aY (fun m=>gY (m.rd 0 rfl)) ?_
 rintro⟨hl_r,hA_r⟩
 refine ah<|aj<|hy (fun _=>ab rfl)<|ai<|ag<|ah<|aj<|hy (fun _=>ab rfl)<|ai<|ag<|ah<|ah<|aj<|hy (fun _=>aa rfl)<|hy (fun _=>aU rfl Tryz.underlying125)<|hy (fun _=>aa rfl)<|ai<|ag<|aI<| ?_
 refine bw (fun w m=>m.dG (r' :=aG 53 32 (.slice none 0 0) 0 []) (.refl _ _) (Own.nil _ _ _ _) (fun k hk=>hk.elim)) ?_
 refine kZ (fun i k A1 c1=>n-i) (fun i k A1 c1=>[(3,.slice A1 k c1),(10,.int .i64 (i:Nat))]) (fun i k A1 c1=>[aG 53 32 (.slice A1 k c1) k (dc (cP (L.take i)))]) (fun i k A1 c1=>[]) (fun i k A1 c1=>i≤n∧k=(cP (L.take i)).length) 0 0 none 0 [(9,_),(8,_),(2,_),(0,_)] ⟨rfl,rfl,rfl,rfl,trivial⟩ [0] rfl [] rfl (⟨Nat.zero_le _,rfl⟩) ⟨rfl,rfl,trivial⟩ (fun i k A1 c1 ⟨hin,hk⟩=> ?_)
 refine ah<|aj<|hy (fun _=>bu rfl rfl)<|ai<|ag<|ah<| ?_
 refine cD rfl (fun hlt=> ?_) (fun hlt=> ?_)
 ·have hi:i<L.length:=by omega
  obtain⟨x,hxi⟩:∃x,L[i]? =some x:=⟨_,List.getElem?_eq_getElem hi⟩
  have hle:=BT hxi
  have hsu:=qH hxi
  refine bw (fun w m=>m.jN 1 rfl (View.pn i (by rw[List.getElem?_map,hxi];rfl))) ?_
  refine aY (fun m=>gY (m.rd 0 rfl)) ?_
  rintro⟨hl_it,hA_it⟩
  refine aY (fun m=>(m.rd 0 rfl).2.1) fun hA_it=> ?_
  refine aC<|ag<|ah<|aI<|ah<|aj<|hy (fun _=>cH rfl rfl Tryz.underlying125 Ah hA_r rfl (by omega))<|hy (fun m=>yV (a6 rfl FQ Ah x.dY (mf (f:=IX.cs) IX.dY (m.rd 1 rfl) hxi)) ((rfl:_=Value.agg x.cs.toArray)))<| ?_
  refine hx (aP yf (fun g5=> ?_))
  refine cJ (aK 0 rfl rfl rfl Ah x.dY x.bS rfl ?_)
  refine ai<|al (ρ' :=[(5,_),(11,_),(3,_),(10,_),(9,_),(8,_),(2,_),(0,_)]) ⟨rfl,rfl,rfl,rfl,rfl,rfl,rfl,rfl,trivial⟩<|ak (X' :=[_,_]) (S' :=[_,_,_]) (fun _ m=>m)<|ag<|ah<|aj<|hy (fun _=>aH rfl DG (by decide))<|hy (fun m=>aw rfl uO (aA (m.aZ 0 rfl) (i:=35) x.vv))<|hy (fun _=>aU rfl Tryz.underlying80)<|hy (fun _=>aa rfl)<|ai<|al (ρ' :=[(17,_),(16,_),(15,_),(5,_),(11,_),(3,_),(10,_),(9,_),(8,_),(2,_),(0,_)]) ⟨rfl,rfl,rfl,rfl,rfl,rfl,rfl,rfl,rfl,rfl,rfl,trivial⟩<|ag<|aI<| ?_
  have e0:dc (cP (L.take i))=dc (cP (L.take i)++x.names.take 0):=by rw[List.take_zero,List.append_nil]
  rw[e0]
  refine kZ (fun j k2 A2 c2=>x.its.length-j) (fun j k2 A2 c2=>[(3,.slice A2 k2 c2),(17,.int .i64 (j:Nat))]) (fun j k2 A2 c2=>[aG 53 32 (.slice A2 k2 c2) k2 (dc (cP (L.take i)++x.names.take j))]) (fun j k2 A2 c2=>[]) (fun j k2 A2 c2=>j≤x.its.length∧k2=k+j) 0 k A1 c1 [(16,_),(15,_),(5,_),(11,_),(10,_),(9,_),(8,_),(2,_),(0,_)] ⟨rfl,rfl,rfl,rfl,rfl,rfl,rfl,rfl,rfl,trivial⟩ [1] rfl [] rfl (⟨Nat.zero_le _,rfl⟩) ⟨rfl,rfl,trivial⟩ (fun j k2 A2 c2 ⟨hj,hk2⟩=> ?_)
  refine ah<|aj<|hy (fun _=>bu rfl rfl)<|ai<|ag<|ah<| ?_
  refine cD rfl (fun hlt2=> ?_) (fun hlt2=> ?_)
  ·have hj2:j<x.its.length:=by omega
   obtain⟨t,ht⟩:∃t,x.its[j]? =some t:=⟨_,List.getElem?_eq_getElem hj2⟩
   have hns:=ql ht
   have h32:(aR t.1.b).length=32:=by rw[ay,t.1.h]
   refine aC<|ag<|ah<|aI<|ah<|aj<|hy (fun _=>cH rfl rfl Tryz.underlying80 ub hA_it rfl (by omega))<|hy (fun m=>yV (a6 rfl F1 ub (ll t) (mf (f:=xZ) ll (m.rd 0 rfl) ht)) ((rfl:_=Value.agg (xZ t).toArray)))<| ?_
   refine hx (aP wI (fun g7=> ?_))
   refine cJ (aK 0 rfl rfl rfl ub (ll t) (wB t) rfl ?_)
   refine ai<|al (ρ' :=[(7,_),(18,_),(3,_),(17,_),(16,_),(15,_),(5,_),(11,_),(10,_),(9,_),(8,_),(2,_),(0,_)]) ⟨rfl,rfl,rfl,rfl,rfl,rfl,rfl,rfl,rfl,rfl,rfl,rfl,rfl,trivial⟩<|ak (X' :=[_,_,_]) (S' :=[_,_,_]) (fun _ m=>m)<|ag<|aj<|hy (fun _=>aa rfl)<|hy (fun _=>aH rfl rW (by decide))<|hy (fun m=>a6 rfl cx bo h32 (wU (m.aZ 0 rfl)))<| ?_
   refine hx (bY Tryz.underlying33 dT rfl rfl rfl (by simpa[Value.cells,B8]using h32) (by decide) (by decide) (fun g24=> ?_))
   have hA_b24:0<1→(some (⟨g24,0,none⟩:Addr))≠none:=fun _ h=>by cases h
   refine aT (fun w m=>m.bQ 0 rfl (show _=aG 53 32 (.slice (some ⟨g24,0,none⟩) 1 1) 1 (dc [t.1.b])from rfl)) ?_
   refine hx (bL 2 rfl rfl rfl Tryz.underlying33 Tryz.underlying33 (by exact .inl rfl) dT rfl (fun m=>Src.b7 (m.ord 0 rfl)) j3 (by unfold maxLen;omega) (by omega) (fun u=> ?_))
   refine aD (fun m=>(m.own 0 rfl).slice) ?_
   rintro⟨A_o,c_o,rfl,hc_o⟩
   refine aD (fun m=>(m.ord 0 rfl).2.1) fun hA_o=> ?_
   refine aT (fun w m=>m.bQ 0 rfl (show _=aG 53 32 (.slice A_o (k2+1) c_o) (k2+1) (dc (cP (L.take i)++x.names.take (j+1)))from congrArg (aG _ _ _ _) (by rw[hns,←List.append_assoc,fy _ [t.1.b]]))) ?_
   refine hy (fun _=>ab rfl)<|ai<|al (ρ' :=[(3,_),(7,_),(18,_),(17,_),(16,_),(15,_),(5,_),(11,_),(10,_),(9,_),(8,_),(2,_),(0,_)]) ⟨rfl,rfl,rfl,rfl,rfl,rfl,rfl,rfl,rfl,rfl,rfl,rfl,rfl,trivial⟩<|ak (X' :=[_,_,_,_]) (S' :=[_,_,_]) (fun _ m=>m)<|aM<|ag<|aj<|hy (fun _=>aN rfl rfl (bC (by omega) (by omega)))<|hy (fun _=>aa rfl)<|ai<|al (ρ' :=[(17,_),(3,_),(7,_),(18,_),(16,_),(15,_),(5,_),(11,_),(10,_),(9,_),(8,_),(2,_),(0,_)]) ⟨rfl,rfl,rfl,rfl,rfl,rfl,rfl,rfl,rfl,rfl,rfl,rfl,rfl,trivial⟩<| ?_
   refine gN (j+1) (k2+1) A_o c_o ⟨rfl,rfl,rfl,rfl,rfl,rfl,rfl,rfl,rfl,rfl,rfl,trivial⟩ [0,2] rfl [0,1,2] rfl (⟨by omega,by omega⟩) (by omega)
  ·obtain rfl:j=x.its.length:=by omega
   have e1:cP (L.take i)++x.names.take x.its.length=cP (L.take (i+1)):=by rw[hsu,List.take_of_length_le (l:=x.names) (by rw[k8];exact Nat.le_refl _)]
   rw[e1]
   refine bK<|ao<|ao<|aB<|aM<|ag<|aj<|hy (fun _=>aN rfl rfl (bC (by omega) (by omega)))<|hy (fun _=>aa rfl)<|ai<|al (ρ' :=[(10,_),(18,_),(3,_),(17,_),(16,_),(15,_),(5,_),(11,_),(9,_),(8,_),(2,_),(0,_)]) ⟨rfl,rfl,rfl,rfl,rfl,rfl,rfl,rfl,rfl,rfl,rfl,rfl,trivial⟩<| ?_
   refine gN (i+1) k2 A2 c2 ⟨rfl,rfl,rfl,rfl,rfl,rfl,trivial⟩ [0] rfl [1,2] rfl (⟨by omega,by rw[hsu,List.length_append,k8];omega⟩) (by omega)
 ·obtain rfl:i=n:=by omega
  have e2:L.take i=L:=List.take_of_length_le (by omega)
  rw[e2]at hk
  rw[e2]
  have hsl:=tN (cP L)
  have hsD:nr (jT (cP L)):=fun d hd=>ky L d ((jD _).mem_iff.1 hd)
  refine aY (fun m=>(Own.rd (m.own 0 rfl)).2.1) fun hcc=> ?_
  refine bK<|ao<|ao<|aB<|ag<|ah<|aj<|hy (fun _=>aa rfl)<| ?_
  refine hx (aq rfl Tryz.call147 (rC (ky L) (by omega)) [0] rfl [] rfl ?_)
  rintro _ _ _ ⟨rfl,rfl,rfl⟩
  refine ai<|al (ρ' :=[(11,_),(3,_),(10,_),(9,_),(8,_),(2,_),(0,_)]) ⟨rfl,rfl,rfl,rfl,rfl,rfl,rfl,trivial⟩<|ak (X' :=[_]) (S' :=[_,_]) (fun _ m=>m)<|ag<|ah<|aj<|hy (fun _=>aa rfl)<| ?_
  refine hx (aq rfl Tryz.call205 (zh hsD (by omega) hcc (by omega)) [0] rfl [] rfl ?_)
  rintro _ _ _ ⟨k2,rfl,rfl,rfl,hk3⟩
  refine hy (fun _=>ab rfl)<|ai<|al (ρ' :=[(2,_),(11,_),(3,_),(10,_),(9,_),(8,_),(0,_)]) ⟨rfl,rfl,rfl,rfl,rfl,rfl,rfl,trivial⟩<|ak (X' :=[_]) (S' :=[_,_]) (fun _ m=>m)<|ag<|aX<| ?_
  have hk4:=vU (jT (cP L))
  rw[sX]at hk3 hk4
  rw[sX]
  exact bf trivial rfl rfl [0] rfl [] rfl ⟨_,_,_,rfl,rfl,rfl,⟨hk3,by omega⟩⟩
end Go.Proofs.YtmibdabdlgmafaaGreatDoor
end
section
namespace Go.Proofs.YtmibdabdlgmafaaGreatDoor
open Go.Eng Go.Hx
theorem th:∀{a b:List UInt8},a<b→cb a b<0
 | [],[],h=>absurd h (List.lt_irrefl _)
 | [],y::s,_=>by show(-1:Int)<0;decide
 |x::r,[],h=>absurd h (List.not_lt_nil _)
 |x::r,y::s,h=>by
  rw[List.cons_lt_cons_iff]at h
  rw[iP]
  rcases h with h|⟨rfl,h⟩
  ·rw[if_pos h];decide
  ·rw[if_neg (UInt8.lt_irrefl _),if_neg (UInt8.lt_irrefl _)]
   exact th h
theorem Ae{a b:List UInt8}(ha:a.length=32)(hb:b.length=32)(h:aE a<aE b):cb a b<0:=by
 have eN:∀{n:List UInt8},n.length=32→∃x y r,b4 n=x::y::r∧aE n=99::47::x::y::47::b4 n:=fun{n} hn=>by
  have h64:(b4 n).length=64:=by rw[dI,hn]
  match hq:b4 n with
  | []=>rw[hq]at h64;cases h64
  | [_]=>rw[hq]at h64;cases h64
  |x::y::r=>exact⟨x,y,r,rfl,by unfold aE;rw[hq];rfl⟩
 obtain⟨x,y,r,h1,h2⟩:=eN ha
 obtain⟨x',y',r',h3,h4⟩:=eN hb
 rw[h2,h4]at h
 rw[←wu]
 apply th
 simp only[List.cons_lt_cons_iff,UInt8.lt_irrefl,false_or,true_and]at h
 rw[h1,h3]at h ⊢
 simp only[List.cons_lt_cons_iff]at h ⊢
 rcases h with h|⟨rfl,h⟩
 ·exact .inl h
 ·rcases h with h|⟨rfl,h⟩
  ·exact .inr ⟨rfl,.inl h⟩
  ·exact h
theorem nE:∀(l acc:List (List UInt8)),l.Pairwise (· <·)→(∀a∈acc,∀p∈l,∀nm,mG p=some nm→cb a nm<0)→l.foldl sg acc=acc++l.filterMap mG
 | [],acc,_,_=>by simp
 |p::r,acc,hs,hA=>by
  rw[List.pairwise_cons]at hs
  rw[List.foldl_cons,List.filterMap_cons]
  cases hq:mG p with
  |none=>
   have:sg acc p=acc:=by unfold sg;rw[hq]
   rw[this]
   exact nE r acc hs.2 (fun a ha q hq2 nm h=>hA a ha q (List.mem_cons_of_mem _ hq2) nm h)
  |some nm=>
   have hp:nm.length=32∧p=aE nm:=by
    rw[←kJ]at hq
    exact eL hq
   have hd:sg acc p=acc++[nm]:=by
    unfold sg
    rw[hq]
    have:=wF acc nm acc.length (Nat.le_refl _) (fun i hi=>by
     rw[List.getD,List.getElem?_eq_getElem hi]
     exact hA _ (List.getElem_mem hi) p (List.mem_cons_self ..) nm hq) (fun h=>absurd h (Nat.lt_irrefl _))
    rw[if_neg (fun h=>absurd h.1 (Nat.lt_irrefl _)),List.take_length,List.drop_length,List.append_nil]at this
    exact this
   rw[hd,nE r (acc++[nm]) hs.2 (fun a ha q hq2 nm2 h=>by
    rcases List.mem_append.1 ha with ha|ha
    ·exact hA a ha q (List.mem_cons_of_mem _ hq2) nm2 h
    ·rw[List.mem_singleton.1 ha]
     have hp2:nm2.length=32∧q=aE nm2:=by
      rw[←kJ]at h
      exact eL h
     refine Ae hp.1 hp2.1 ?_
     rw[←hp.2,←hp2.2]
     exact hs.1 q hq2)]
   simp
theorem vo{d:RD}(h:ko d.seen):vN d d.seen.length=bp d:=by
 unfold vN bp
 rw[List.take_length,nE _ _ h (fun a ha=>(List.not_mem_nil ha).elim)]
 rfl
end Go.Proofs.YtmibdabdlgmafaaGreatDoor
end
