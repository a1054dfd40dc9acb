/- Part. -/
import Derived.Test.YtmibdabdlgmafaaGreatDoorPLS4
set_option linter.all false
section
namespace Go.Proofs.YtmibdabdlgmafaaGreatDoor
open Go.Eng Go.Hx
theorem um:∀i:Nat,i<16→kj.getD i 0≠0:=by decide
theorem qH(l:List UInt8):¬(0:UInt8)∈cq l:=by
 intro h
 unfold cq at h
 obtain⟨x,hx,hc⟩:=List.mem_flatMap.1 h
 have hb:=x.toNat_lt
 simp only[qp,List.mem_cons,List.not_mem_nil,or_false]at hc
 rcases hc with hc|hc
 ·exact um _ (by omega) hc.symm
 ·exact um _ (by omega) hc.symm
theorem CR{nm:List UInt8}(h:nm.length=32):gv (bx nm):=by
 refine⟨by simp[bx],by rw[fp h];decide,fun hz=> ?_⟩
 unfold bx at hz
 simp only[List.mem_append,List.mem_cons,List.not_mem_nil,or_false]at hz
 rcases hz with((hz|hz)|hz)|hz
 ·rcases hz with hz|hz <;> exact absurd hz (by decide)
 ·exact qH nm (List.mem_of_mem_take hz)
 ·exact absurd hz (by decide)
 ·exact qH nm hz
theorem Aq{nm:List UInt8}(h:nm.length=32):gv (b6 nm):=by
 refine⟨by simp[b6],by rw[jA h];decide,fun hz=> ?_⟩
 unfold b6 at hz
 simp only[List.mem_append,List.mem_cons,List.not_mem_nil,or_false]at hz
 rcases hz with hz|hz
 ·rcases hz with hz|hz <;> exact absurd hz (by decide)
 ·exact qH nm hz
theorem pC(a b:List UInt8):bx a≠b6 b:=by
 intro h
 unfold bx b6 at h
 simp only[List.cons_append,List.nil_append,List.cons.injEq]at h
 exact absurd h.1 (by decide)
theorem wK{d:RD}(h:d.pw=-1):d.sync.dm=d.sync.seen∧d.sync.waits=[]:=by
 have e:d.sync={d with dm:=d.seen,waits:=[],pw:=eZ d.pw}:=by rw[RD.sync,if_neg (by rw[h];decide)]
 rw[e]
 exact⟨rfl,rfl⟩
structure SD(d:RD)(F:List UInt8→Option (List UInt8))(T:Nat)(room:Int):Prop where
 at_:At d F T room
 same:d.dm=d.seen
 waits:d.waits=[]
theorem SD.new(room:Int):SD (RD.new room) (fun _=>none) 0 room:=⟨⟨rfl,rfl,fun p=>rfl,Nat.le_refl _⟩,rfl,rfl⟩
theorem yd{d:RD}{F:List UInt8→Option (List UInt8)}{T:Nat}{room:Int}(h:At d F T room){nm:List UInt8}(hF:F (bx nm)=none):d.ic nm=4:=by
 have e:d.dO (bx nm)=4:=by rw[h.dO,if_pos hF]
 rw[jI (by rw[e];decide),e]
def G2(F:List UInt8→Option (List UInt8))(b:List UInt8):List UInt8→Option (List UInt8):=C5 (C5 (C5 F (b6 (bL b)) (some (cr b))) (b6 (bL b)) none) (bx (bL b)) (some (cr b))
theorem SD.iX{d:RD}{F:List UInt8→Option (List UInt8)}{T:Nat}{room:Int}(h:SD d F T room){b:List UInt8}(hr:(T:Int)+(cr b).length≤room):
  ∃d',d.iX b=(d',0)∧SD d' (G2 F b) (T+(cr b).length) room:=by
 have hn:=Aq (nm:=bL b) (bK b)
 have hp:=CR (nm:=bL b) (bK b)
 have h1:=h.at_.write (p:=b6 (bL b)) (l:=cr b) hn (by omega)
 have h2:=h1.sync
 have hx:C5 F (b6 (bL b)) (some (cr b)) (b6 (bL b))=some (cr b):=if_pos rfl
 have h3:=h2.rename hp hx
 obtain⟨c1,c2⟩:=wK h3.pw
 refine⟨_, ?_,⟨h3.sync,c1,c2⟩⟩
 unfold RD.iX
 rw[fB,if_neg (by show¬d.bX _ _≠0;rw[h.at_.bX hn (by omega)];decide)]
 rw[fB,if_neg (by show¬(d.write _ _).dM≠0;rw[h1.dM];decide)]
 rw[fB,if_neg (by show¬(d.write _ _).sync.cg _ _≠0;rw[h2.cg hp hx];decide)]
 rw[fB,if_neg (by show¬((d.write _ _).sync.rename _ _).dM≠0;rw[h3.dM];decide)]
 rfl
theorem SD.put{d:RD}{F:List UInt8→Option (List UInt8)}{T:Nat}{room:Int}(h:SD d F T room){b:List UInt8}(hb:b.length≤4096)(hF:F (bx (bL b))=none)(hr:(T:Int)+(cr b).length≤room):
  ∃d',d.put b=(d',bL b,0)∧SD d' (G2 F b) (T+(cr b).length) room:=by
 have e4:=yd h.at_ hF
 obtain⟨d',e,hd⟩:=h.iX hr
 refine⟨d', ?_,hd⟩
 unfold RD.put
 rw[if_neg (by omega),if_neg (by rw[e4];decide),if_neg (by rw[e4];decide),e]
 rfl
end Go.Proofs.YtmibdabdlgmafaaGreatDoor
end
section
set_option maxRecDepth 20000
set_option maxHeartbeats 4000000
namespace Go.Proofs.YtmibdabdlgmafaaGreatDoor
open Go.Eng Go.Hx
def fu(c:UInt8):List UInt8→Nat
 | []=>0
 |x::r=>if 0<fu c r then fu c r+1 else if x=c then 1 else 0
theorem jJ{c:UInt8}:∀{s:List UInt8} {k:Nat},k≤s.length→(0<k→s.getD (k-1) 0=c)→(∀j,k≤j→j<s.length→s.getD j 0≠c)→fu c s=k
 | [],k,hk,_,_=>by
  have:k=0:=by simpa using hk
  subst this;rfl
 |x::r,0,hk,h1,h2=>by
  have ih:=jJ (c:=c) (s:=r) (k:=0) (Nat.zero_le _) (fun h=>absurd h (by decide)) (fun j _ hj=>by
   have:=h2 (j+1) (Nat.zero_le _) (by rw[List.length_cons];omega)
   simpa using this)
  have hx:x≠c:=by
   have:=h2 0 (Nat.le_refl _) (by simp)
   simpa using this
  unfold fu
  rw[ih,if_neg (by decide),if_neg hx]
 |x::r,1,hk,h1,h2=>by
  have ih:=jJ (c:=c) (s:=r) (k:=0) (Nat.zero_le _) (fun h=>absurd h (by decide)) (fun j _ hj=>by
   have:=h2 (j+1) (by omega) (by rw[List.length_cons];omega)
   simpa using this)
  have hx:x=c:=by simpa using h1 (by decide)
  unfold fu
  rw[ih,if_neg (by decide),if_pos hx]
 |x::r,k+2,hk,h1,h2=>by
  have ih:=jJ (c:=c) (s:=r) (k:=k+1) (by rw[List.length_cons]at hk;omega) (fun _=>by
   have:=h1 (by omega)
   simpa using this) (fun j hj hl=>by
   have:=h2 (j+1) (by omega) (by rw[List.length_cons];omega)
   simpa using this)
  unfold fu
  rw[ih,if_pos (by omega)]
theorem yO{s:List UInt8}{c:UInt8}(hs:s.length≤1000000000):b7 Tryz.prog 167 [.string (strOf s),B8 c] [] [] (fun v_ X_ S_=>v_=(.int .i64 ((fu c s:Nat)-1))∧X_=[]∧S_=[]):=by
 have hsz:=cY s
 refine aM (N:=19) Tryz.func167 rfl rfl (by simp) fun b=> ?_
 refine ae<|ai<|aG rfl<|ag<|ab<|ae<|ae<|ai<|aw rfl<|hy (fun _=>cU rfl Tryz.underlying9)<|hy (fun _=>cn rfl rfl (bA (by omega) (by omega)))<|aG rfl<|ag<|aB [5,4,0,1] rfl<|ab<|aN<| ?_
 refine de (fun k=>k) (fun k=>[(5,.int .i64 ((k:Nat)-1))]) (fun k=>[]) (fun k=>[]) (fun k=>k≤s.length∧∀j,k≤j→j<s.length→s.getD j 0≠c) s.length [(0,_),(1,_)] ⟨rfl,rfl,trivial⟩ [] rfl [] rfl (⟨Nat.le_refl _,fun j h1 h2=>absurd h2 (by omega)⟩) ⟨rfl,trivial⟩ (fun k ⟨hk,hno⟩=> ?_)
 refine ae<|ae<|ai<|aw rfl<|hy (fun _=>dL rfl rfl)<|ag<|aB [10,5,0,1] rfl<|ab<| ?_
 refine cB rfl (fun h=> ?_) (fun h=> ?_)
 ·have hil:k-1<s.length:=by omega
  refine aC<|ab<|ae<|aN<|ae<|ai<|aw rfl<|aw rfl<|hy (fun _=>er rfl rfl Tryz.underlying9 (show((k-1:Nat):Int)=_ by omega) (iQ hil))<|aw rfl<|hy (fun _=>cx rfl rfl)<|ag<|aB [17,10,5,0,1] rfl<|ab<| ?_
  refine cB rfl (fun h0=> ?_) (fun h0=> ?_)
  ·have h00:s.getD (k-1) 0=c:=UInt8.toNat_inj.1 (by omega)
   rw[jJ hk (fun _=>h00) hno]
   refine ae<|ai<|aw rfl<|aG rfl<|ag<|aB [4,17,10,5,0,1] rfl<|ab<|aV<|a7<|ay<|ay<|a7<|ay<| ?_
   exact bc trivial rfl rfl [] rfl [] rfl ⟨rfl,rfl,rfl⟩
  ·have h00:s.getD (k-1) 0≠c:=fun e=>h0 (by rw[e])
   have hno2:∀j,k-1≤j→j<s.length→s.getD j 0≠c:=fun j h1 h2=>by
    rcases Nat.lt_or_ge j k with hlt|hge
    ·rw[show j=k-1 by omega];exact h00
    ·exact hno j hge h2
   refine aC<|aS<|ab<|ai<|aw rfl<|hy (fun _=>yV (cn rfl rfl (bA (by omega) (by omega))) ((show Value.int .i64 _= .int .i64 (((k-1:Nat):Int)-1) by congr 1;omega)))<|aG rfl<|ag<|aB [5,17,10,0,1] rfl<| ?_
   refine cM (k-1) ⟨rfl,rfl,rfl,trivial⟩ [] rfl [] rfl (⟨by omega,hno2⟩) (by omega)
 ·obtain rfl:k=0:=by omega
  rw[jJ (Nat.zero_le _) (fun h=>absurd h (by decide)) hno]
  refine bG<|an<|an<|aE<|ab<|ae<|ai<|aG rfl<|ag<|ab<|aV<| ?_
  exact bc trivial rfl rfl [] rfl [] rfl ⟨rfl,rfl,rfl⟩
theorem w0{s:List UInt8}(hs:s.length≤1000000000):b7 Tryz.prog 93 [.string (strOf s),.string (strOf [47])] [] [] (fun v_ X_ S_=>v_=(.int .i64 ((fu 47 s:Nat)-1))∧X_=[]∧S_=[]):=by
 refine aM (N:=36) Tryz.func93 rfl rfl (by simp) fun b=> ?_
 refine ae<|ai<|aG rfl<|ag<|ab<|ae<|ai<|aw rfl<|hy (fun _=>cU rfl Tryz.underlying9)<|aG rfl<|ag<|aB [5,4,0,1] rfl<|ab<|ae<|aN<|ae<|ai<|aw rfl<|hy (fun _=>cx rfl rfl)<|aG rfl<|ag<|aB [8,5,4,0,1] rfl<|ab<| ?_
 refine cN rfl ((decide_eq_false (by decide))) ?_
 refine ae<|ai<|aw rfl<|hy (fun _=>cx rfl rfl)<|aG rfl<|ag<|aB [13,8,5,4,0,1] rfl<|ab<| ?_
 refine fq rfl ((decide_eq_true (by decide))) ?_
 refine ae<|ai<|aw rfl<|aw rfl<|hy (fun _=>er rfl rfl Tryz.underlying9 rfl (show(strOf [47]).data[0]? =some 47 from rfl))<| ?_
 refine hx (aq rfl Tryz.call167 (yO hs (c:=47)) [] rfl [] rfl ?_)
 rintro _ _ _ ⟨rfl,rfl,rfl⟩
 refine aG rfl<|ag<|aB [4,13,8,5,0,1] rfl<|aj (X' :=[]) (S' :=[]) (fun _ m=>m)<|ab<|aV<|a7<|ay<| ?_
 exact bc trivial rfl rfl [] rfl [] rfl ⟨rfl,rfl,rfl⟩
theorem zH(l:List UInt8):¬(47:UInt8)∈cq l:=by
 have hd:∀i:Nat,i<16→kj.getD i 0≠47:=by decide
 intro h
 unfold cq at h
 obtain⟨x,hx,hc⟩:=List.mem_flatMap.1 h
 have hb:=x.toNat_lt
 simp only[qp,List.mem_cons,List.not_mem_nil,or_false]at hc
 rcases hc with hc|hc
 ·exact hd _ (by omega) hc.symm
 ·exact hd _ (by omega) hc.symm
theorem vW{nm:List UInt8}(h:nm.length=32):fu 47 (bx nm)=5:=by
 have h64:(cq nm).length=64:=by rw[dQ,h]
 obtain⟨a,b,r,hr⟩:∃a b r,cq nm=a::b::r:=by
  match hq:cq nm with
  | []=>rw[hq]at h64;cases h64
  | [_]=>rw[hq]at h64;cases h64
  |a::b::r=>exact⟨a,b,r,rfl⟩
 have hp:bx nm=[99,47,a,b,47]++cq nm:=by unfold bx;rw[hr];rfl
 refine jJ (by rw[fp h];decide) (fun _=>by rw[hp];rfl) (fun j h1 h2 e=> ?_)
 rw[hp]at e h2
 rw[List.getD_eq_getElem?_getD,List.getElem?_append_right (by exact h1)]at e
 have hj:j-5<(cq nm).length:=by simp at h2;omega
 have e2:(cq nm)[j-5]?.getD 0=47:=e
 rw[List.getElem?_eq_getElem hj]at e2
 exact zH nm (by rw[←show(cq nm)[j-5]=47 from e2];exact List.getElem_mem hj)
def kT(p q:List UInt8):Option (List UInt8):=if(cj q).2=0∧bx (cj q).1=p then some (cj q).1 else none
theorem fa{p q nm:List UInt8}(h:kT p q=some nm):nm.length=32∧p=bx nm:=by
 unfold kT at h
 split at h
 ·rename_i hq
  cases h
  exact⟨ig _,hq.2.symm⟩
 ·cases h
theorem uL{nm:List UInt8}(h:nm.length=32):kT (bx nm) (cq nm)=some nm:=by
 unfold kT
 rw[rF nm h,if_pos ⟨rfl,rfl⟩]
def iy(p:List UInt8):Option (List UInt8):=kT p (p.drop (fu 47 p))
def kB(p:List UInt8):Option (List UInt8):=if p.length=69 then kT p (p.drop 5)else none
theorem kX(p:List UInt8):iy p=kB p:=by
 have h1:∀{nm:List UInt8},nm.length=32→iy (bx nm)=some nm∧kB (bx nm)=some nm:=fun{nm} h=>by
  unfold iy kB
  rw[vW h,kS h,fp h,if_pos rfl]
  exact⟨uL h,uL h⟩
 cases h:iy p with
 |some nm=>
  obtain⟨h2,rfl⟩:=fa h
  exact(h1 h2).2.symm
 |none=>
  cases h3:kB p with
  |none=>rfl
  |some nm=>
   have h4:kT p (p.drop 5)=some nm:=by
    unfold kB at h3
    split at h3
    ·exact h3
    ·cases h3
   obtain⟨h2,rfl⟩:=fa h4
   rw[(h1 h2).1]at h
   cases h
def gj(d:RD):List (List UInt8):=(d.seen.map (·.1)).filterMap kB
end Go.Proofs.YtmibdabdlgmafaaGreatDoor
end
section
set_option maxRecDepth 20000
set_option maxHeartbeats 4000000
namespace Go.Proofs.YtmibdabdlgmafaaGreatDoor
open Go.Eng Go.Hx
def CV:List UInt8:=[99,47]
theorem vK(c:UInt8):∀s:List UInt8,fu c s≤s.length
 | []=>Nat.le_refl _
 |x::r=>by
  have:=vK c r
  unfold fu
  split
  ·rw[List.length_cons];omega
  ·split <;> (rw[List.length_cons];omega)
theorem B9{p nm:List UInt8}(h:iy p=some nm):pre CV p=true:=by
 obtain⟨h1,rfl⟩:=fa h
 unfold pre
 exact decide_eq_true rfl
theorem tM(d:RD):(ia d CV).filterMap iy=gj d:=by
 unfold ia gj
 rw[show kB=iy from funext fun p=>(kX p).symm]
 generalize d.seen.map (·.1)=l
 induction l with
 |nil=>rfl
 |cons p r ih=>
  rw[List.filter_cons]
  cases h:iy p with
  |some nm=>rw[if_pos (B9 h),List.filterMap_cons,List.filterMap_cons,h,ih]
  |none=>
   rw[List.filterMap_cons,h]
   split
   ·rw[List.filterMap_cons,h];exact ih
   ·exact ih
theorem yN{ns:List (List UInt8)}{i:Nat}(h:i<ns.length):(ns.take (i+1)).filterMap iy=(ns.take i).filterMap iy++(iy (ns.getD i [])).toList:=by
 have h1:ns.take (i+1)=ns.take i++[ns.getD i []]:=by
  rw[List.take_add_one,List.getElem?_eq_getElem h]
  simp[List.getD,List.getElem?_eq_getElem h]
 rw[h1,List.filterMap_append]
 generalize ns.getD i []=x
 cases hq:iy x <;> simp[hq]
theorem G9{g:Nat}{st:da}{d:RD}{kk:Nat}(hD:DS st d kk)(hkk:kk≤99000)(hnl:∀x∈d.seen,x.1.length≤1000000):b7 Tryz.prog 20 [.pointer (some ⟨g,0,none⟩)] [bF g st] [] (fun v_ X_ S_=>∃v k,v_=v∧X_=[bF g st,aK 53 32 v k (dc (gj d))]∧S_=[]∧(k=(gj d).length)):=by
 have hcn:=tM d
 have hnl2:∀p∈ia d CV,p.length≤1000000:=fun p hp=>by
  obtain⟨x,hx,rfl⟩:=List.mem_map.1 (List.mem_filter.1 hp).1
  exact hnl x hx
 refine aM (N:=38) Tryz.func20 rfl rfl (by simp) fun b=> ?_
 refine ae<|ai<|aG rfl<|ag<|ab<|ae<|ai<|aG rfl<|ag<|ab<|ae<|ae<|ai<|aw rfl<| ?_
 refine hx (aq rfl Tryz.call86 (He hD hkk (p:=CV)) [0] rfl [] rfl ?_)
 rintro _ _ _ ⟨v,rfl,rfl,rfl,hn⟩
 refine az (fun m=>(m.own 1 rfl).slice) ?_
 rintro⟨A_x,c_x,rfl,hc_x⟩
 refine az (fun m=>(m.ord 1 rfl).2.1) fun hA_x=> ?_
 generalize ia d CV=ns at hn hcn hnl2 hc_x hA_x ⊢
 refine hy (fun _=>aY rfl Tryz.underlying152)<|aw rfl<|ag<|aB [11,10,9,3,2,0] rfl<|aj (X' :=[_,_]) (S' :=[]) (fun _ m=>m)<|ab<|aN<| ?_
 refine bk (fun w m=>m.cQ (r' :=aK 53 32 (.slice none 0 0) 0 []) (.refl _ _) (Own.nil _ _ _ _) (fun k hk=>hk.elim)) ?_
 refine j3 (fun i k A1 c1=>ns.length-i) (fun i k A1 c1=>[(3,.slice A1 k c1),(11,.int .i64 (i:Nat))]) (fun i k A1 c1=>[aK 53 32 (.slice A1 k c1) k (dc ((ns.take i).filterMap iy))]) (fun i k A1 c1=>[]) (fun i k A1 c1=>i≤ns.length∧k=((ns.take i).filterMap iy).length∧k≤i) 0 0 none 0 [(10,_),(9,_),(2,_),(0,_)] ⟨rfl,rfl,rfl,rfl,trivial⟩ [0] rfl [] rfl (⟨Nat.zero_le _,rfl,Nat.le_refl _⟩) ⟨rfl,rfl,trivial⟩ (fun i k A1 c1 ⟨hin,hk,hki⟩=> ?_)
 refine ae<|ai<|hy (fun _=>bw rfl rfl)<|ag<|ab<|ae<| ?_
 refine cB rfl (fun hlt=> ?_) (fun hlt=> ?_)
 ·have hi2:i<ns.length:=by omega
  have hsn:=yN hi2
  have hpl:=hnl2 (ns.getD i []) (by rw[List.getD,List.getElem?_eq_getElem hi2];exact List.getElem_mem hi2)
  refine aC<|ab<|ae<|aN<|ae<|ai<|hy (fun _=>aZ rfl rfl Tryz.underlying152 Ky hA_x rfl (by omega))<|hy (fun m=>ao rfl mG ((m.ord 2 rfl).cell (Am hi2)))<|aG rfl<|ag<|aB [5,12,3,11,10,9,2,0] rfl<|ab<|ae<|ai<|aw rfl<|aw rfl<| ?_
  generalize ns.getD i []=p at hsn hpl ⊢
  have hlp:=vK 47 p
  have hdl:=ig (p.drop (fu 47 p))
  have h32:(aW (cj (p.drop (fu 47 p))).1).length=32:=by rw[ax,hdl]
  have hql:(p.drop (fu 47 p)).length≤1000000:=by rw[List.length_drop];omega
  have ho1:iy p=if(cj (p.drop (fu 47 p))).2=0∧bx (cj (p.drop (fu 47 p))).1=p then some (cj (p.drop (fu 47 p))).1 else none:=rfl
  refine hx (aq rfl Tryz.call93 (w0 (by omega) (s:=p)) [] rfl [] rfl ?_)
  rintro _ _ _ ⟨rfl,rfl,rfl⟩
  refine hy (fun _=>aP rfl rfl (bA (by omega) (by omega)))<|hy (fun _=>rT rfl rfl Tryz.underlying9 (show((fu 47 p:Nat):Int)=_ by omega) hlp)<| ?_
  refine hx (aq rfl Tryz.call92 (A9 hql (s:=(p.drop (fu 47 p)))) [] rfl [] rfl ?_)
  rintro _ _ _ ⟨rfl,rfl,rfl⟩
  refine aw rfl<|hy (fun _=>aD rfl rfl)<|hy (fun _=>aD rfl rfl)<| ?_
  refine hx (bf dw (fun g6=> ?_))
  refine cI (ba 0 rfl rfl rfl bp h32 bn rfl ?_)
  generalize hdo:cj (p.drop (fu 47 p))=dq at hdl h32 ho1 ⊢
  by_cases hE:dq.2=0
  ·refine aG rfl<|ag<|aB [7,6,5,12,3,11,10,9,2,0] rfl<|aj (X' :=[_,_,_,_]) (S' :=[]) (fun _ m=>m)<|ab<|ae<|ai<|aw rfl<|hy (fun _=>yT (cx rfl rfl) ((decide_eq_true hE)))<|aw rfl<|cy (o:=_) rfl rfl rfl (fun m=>aQ rfl b5 bp h32 ((m.aU 0 rfl).au))<| ?_
   refine HV (o:=_) rfl rfl rfl (aq rfl Tryz.call94 (xd hdl) [] rfl [] rfl ?_)
   rintro _ _ _ ⟨rfl,rfl,rfl⟩
   refine cy (o:=_) rfl rfl rfl (fun _=>ah rfl)<|cy (o:=_) rfl rfl rfl (fun _=>sB rfl rfl)<|hy (fun _=>bC rfl rfl)<|ag<|aB [31,7,6,5,12,3,11,10,9,2,0] rfl<|aj (X' :=[_,_,_,_]) (S' :=[]) (fun _ m=>m)<|ab<| ?_
   refine zw rfl (fun hp=> ?_) (fun hp=> ?_)
   ·have hp:=cJ.1 (of_decide_eq_true hp)
    rw[ho1,if_pos ⟨hE,hp⟩]at hsn
    have hsn:(ns.take (i+1)).filterMap iy=(ns.take i).filterMap iy++[dq.1]:=hsn
    refine ai<|aw rfl<|hy (fun m=>aQ rfl b5 bp h32 ((m.aU 0 rfl).au))<| ?_
    refine hx (bQ Tryz.underlying33 dw rfl rfl rfl (by simpa[Value.cells,B8]using h32) (by decide) (by decide) (fun g34=> ?_))
    have hA_b34:0<1→(some (⟨g34,0,none⟩:Addr))≠none:=fun _ h=>by cases h
    refine aJ (fun w m=>m.bz 0 rfl (show _=aK 53 32 (.slice (some ⟨g34,0,none⟩) 1 1) 1 (dc [dq.1])from rfl)) ?_
    refine hx (bs 2 rfl rfl rfl Tryz.underlying33 Tryz.underlying33 (by exact .inl rfl) dw rfl (fun m=>Src.bJ (m.ord 0 rfl)) cZ (by unfold maxLen;omega) (by omega) (fun u=> ?_))
    refine az (fun m=>(m.own 0 rfl).slice) ?_
    rintro⟨A_o,c_o,rfl,hc_o⟩
    refine az (fun m=>(m.ord 0 rfl).2.1) fun hA_o=> ?_
    refine aJ (fun w m=>m.bz 0 rfl (show _=aK 53 32 (.slice A_o (k+1) c_o) (k+1) (dc ((ns.take (i+1)).filterMap iy))from congrArg (aK _ _ _ _) (by rw[hsn,ew]))) ?_
    refine aG rfl<|ag<|aB [3,31,7,6,5,12,11,10,9,2,0] rfl<|aj (X' :=[_,_,_,_,_]) (S' :=[]) (fun _ m=>m)<|aS<|ab<|ai<|hy (fun _=>aP rfl rfl (bA (by omega) (by omega)))<|aw rfl<|ag<|aB [11,3,31,7,6,5,12,10,9,2,0] rfl<| ?_
    refine ej (i+1) (k+1) A_o c_o ⟨rfl,rfl,rfl,rfl,rfl,rfl,trivial⟩ [0,2,2] rfl [] rfl (⟨by omega,by rw[hsn,hk,List.length_append];rfl,by omega⟩) (by omega)
   ·have hp:=of_decide_eq_false hp
    rw[ho1,if_neg (fun h=>hp (by rw[h.2]))]at hsn
    have hsn:(ns.take (i+1)).filterMap iy=(ns.take i).filterMap iy:=hsn.trans (List.append_nil _)
    refine bk (fun w m=>m.bz 1 rfl (show _=aK 53 32 (.slice A1 k c1) k (dc ((ns.take (i+1)).filterMap iy))from by rw[hsn])) ?_
    refine aC<|aS<|ab<|ai<|hy (fun _=>aP rfl rfl (bA (by omega) (by omega)))<|aw rfl<|ag<|aB [11,31,7,6,5,12,3,10,9,2,0] rfl<| ?_
    refine ej (i+1) k A1 c1 ⟨rfl,rfl,rfl,rfl,rfl,rfl,trivial⟩ [0,1,1] rfl [] rfl (⟨by omega,by rw[hsn,hk],by omega⟩) (by omega)
  ·refine aG rfl<|ag<|aB [7,6,5,12,3,11,10,9,2,0] rfl<|ab<|ae<|ai<|aw rfl<|hy (fun _=>yF (cx rfl rfl) ((decide_eq_false hE)))<|aw rfl<|bg rfl rfl rfl (by decide)<|bg rfl rfl rfl (by decide)<|bg rfl rfl rfl (by decide)<|bg rfl rfl rfl (by decide)<|hy (fun _=>bo rfl rfl)<|ag<|aB [31,7,6,5,12,3,11,10,9,2,0] rfl<|ab<| ?_
   refine cN rfl (rfl) ?_
   rw[ho1,if_neg (fun h=>hE h.1)]at hsn
   have hsn:(ns.take (i+1)).filterMap iy=(ns.take i).filterMap iy:=hsn.trans (List.append_nil _)
   refine bk (fun w m=>m.bz 1 rfl (show _=aK 53 32 (.slice A1 k c1) k (dc ((ns.take (i+1)).filterMap iy))from by rw[hsn])) ?_
   refine aC<|aS<|ab<|ai<|hy (fun _=>aP rfl rfl (bA (by omega) (by omega)))<|aw rfl<|ag<|aB [11,31,7,6,5,12,3,10,9,2,0] rfl<| ?_
   refine ej (i+1) k A1 c1 ⟨rfl,rfl,rfl,rfl,rfl,rfl,trivial⟩ [0,1,1] rfl [] rfl (⟨by omega,by rw[hsn,hk],by omega⟩) (by omega)
 ·obtain rfl:i=ns.length:=by omega
  rw[List.take_length,hcn]at hk ⊢
  refine bG<|an<|an<|aE<|ab<|ae<|ai<|aw rfl<|aG rfl<|ag<|aB [2,12,3,11,10,9,0] rfl<|ab<|aV<| ?_
  exact bc trivial rfl rfl [1,0] rfl [] rfl ⟨_,_,rfl,rfl,rfl,hk⟩
end Go.Proofs.YtmibdabdlgmafaaGreatDoor
end
section
namespace Go.Eng
open Go.RowKit
section
variable{P:Program}{fn:Func}{R:Value→List bl→List bl→Prop}{N:Nat}{ρ:Env}{b:ct}{X X' Xz S S' :List bl}{e:Exit}
theorem fx{t t2 t' sz sz2:Nat}{ty ty2:TypeId}{p p2:Addr}{cs cs2:List Value}{v' :Value}(he:Leaves e)(hr:fn.results= #[.cell t ty,.cell t2 ty2,.tmp t'])(hv:get ρ t=some (.pointer (some p)))(hv2:get ρ t2=some (.pointer (some p2)))(hv' :get ρ t' =some v')(ha:c7 P ty=some true)(hs:fo P ty=some sz)(hl:cs.length=sz)
  (hc:∀{w},Mem b X S w→∀j u,cs[j]? =some u→w.cell? (p.add j)=some u) (ha2:c7 P ty2=some true) (hs2:fo P ty2=some sz2) (hl2:cs2.length=sz2)
  (hc2:∀{w},Mem b X S w→∀j u,cs2[j]? =some u→w.cell? (p2.add j)=some u) (is:List Nat) (hX:bT is X=some (X',Xz)) (js:List Nat) (hS:dy js S=some S') (hR:R (.tuple #[.agg cs.toArray,.agg cs2.toArray,v']) X' S'):HQ (bodyPost P fn (RB b R)) N [] e ρ b X S:=
 fun w m=>gW he (fun a hA=>by have h1:=hA.getD hv;have h2:=hA.getD hv2;have h3:=hA.getD hv';simp at h1 h2 h3;simp[results,hr,h1,h2,h3,asAddr,jN ha hs hl (hc m),jN ha2 hs2 hl2 (hc2 m)]) ⟨_,_,_,rfl,hR,m.out is hX js hS⟩
end
end Go.Eng
end
section
set_option maxRecDepth 20000
set_option maxHeartbeats 2000000
namespace Go.Proofs.YtmibdabdlgmafaaGreatDoor
open Go.Eng Go.Hx
def mv(s:Nat×Nat):List Value:=[.int .i64 (s.1:Nat),.int .i64 (s.2:Nat)]
theorem oo{s:Nat×Nat}:∀u∈mv s,u.oneCell' =true:=by
 intro u hu
 simp only[mv,List.mem_cons,List.not_mem_nil,or_false]at hu
 rcases hu with rfl|rfl <;> rfl
theorem Ef{A:Option Addr}{n c i:Nat}{l:List UInt8}(hn:n≤1000000000)(hl:l.length=n)(hi:i<n):b7 Tryz.prog 218 [.slice A n c,.int .i64 (i:Nat)] [] [cL 1 A n (aW l)] (fun v_ X_ S_=>v_=(.agg (mv (bh l i)).toArray)∧X_=[]∧S_=[]):=by
 refine aM (N:=67) Tryz.func218 rfl rfl (by simp) fun b=> ?_
 refine a6 (fun m=>eG (m.rd 0 rfl)) ?_
 rintro⟨hl_r,hA_r⟩
 refine ae<|ai<| ?_
 refine hx (bf sA (fun g4=> ?_))
 refine ag<|aj (X' :=[_]) (S' :=[_]) (fun _ m=>m)<|ab<|ae<|ai<| ?_
 refine hx (bf sA (fun g5=> ?_))
 refine ag<|aj (X' :=[_,_]) (S' :=[_]) (fun _ m=>m)<|ab<|ae<|ae<|ai<|aw rfl<|hy (fun _=>bw rfl rfl)<|aw rfl<| ?_
 refine fj 10 rfl (fun h0=> ?_) (fun h0=> ?_)
 ·exact absurd h0 (by omega)
 ·refine cy (o:=_) rfl rfl rfl (fun _=>ah rfl)<|cy (o:=_) rfl rfl rfl (fun _=>ah rfl)<|cy (o:=_) rfl rfl rfl (fun _=>aY rfl Tryz.underlying27)<|cy (o:=_) rfl rfl rfl (fun _=>dL rfl rfl)<|hy (fun _=>bo rfl rfl)<|ag<|aB [15,5,4,0,1] rfl<|ab<| ?_
  refine cN rfl ((decide_eq_false (by omega))) ?_
  refine bk (fun w m=>m.bz 0 rfl (show _=aH g5 298 (mv (cz l i 0))from rfl)) ?_
  refine bk (fun w m=>m.bz 1 rfl (show _=aH g4 298 (mv (0,0))from rfl)) ?_
  refine aC<|ab<|ae<|ae<|ai<|aG rfl<|ag<|ab<|aN<| ?_
  refine de (fun q=>2000-q) (fun q=>[(6,.int .i64 ((q+1:Nat):Int))]) (fun q=>[aH g5 298 (mv (cz l i q))]) (fun q=>[]) (fun q=>q≤min i 1024) 0 [(15,_),(5,_),(4,_),(0,_),(1,_)] ⟨rfl,rfl,rfl,rfl,rfl,trivial⟩ [1] rfl [] rfl (Nat.zero_le _) ⟨rfl,trivial⟩ (fun q hI=> ?_)
  refine ae<|ae<|ai<|aw rfl<|aw rfl<|hy (fun _=>mh rfl rfl)<|aw rfl<| ?_
  refine fj 20 rfl (fun h1=> ?_) (fun h1=> ?_)
  ·refine cy (o:=_) rfl rfl rfl (fun _=>ah rfl)<|cy (o:=_) rfl rfl rfl (fun _=>mh rfl rfl)<|hy (fun _=>bC rfl rfl)<|ag<|aB [23,6,15,5,4,0,1] rfl<|ab<| ?_
   refine cB rfl (fun h2=> ?_) (fun h2=> ?_)
   ·refine aC<|ab<|ae<|aN<|ae<|ai<|aG rfl<|ag<|ab<|ae<|aN<| ?_
    refine de (fun j=>131-j) (fun j=>[(7,.int .i64 (j:Nat))]) (fun j=>[]) (fun j=>[]) (fun j=>j≤131∧i+j≤n∧lT l i (i-(q+1)) (131-j) j=mO l i (i-(q+1))) 0 [(23,_),(6,_),(15,_),(5,_),(4,_),(0,_),(1,_)] ⟨rfl,rfl,rfl,rfl,rfl,rfl,rfl,trivial⟩ [] rfl [] rfl (⟨by decide,by omega,rfl⟩) ⟨rfl,trivial⟩ (fun j ⟨hj,hij,hL⟩=> ?_)
    refine ae<|ae<|cD [] [(0,some 0),(1,some 0),(2,some 0),(3,some 0),(4,some 0),(5,some 0),(6,some 0),(7,some 0),(8,some 0),(9,some 0),(10,some 0),(11,some 0),(12,some 0),(13,some 0),(14,some 0),(15,some 0),(16,some 0),(17,some 0),(18,some 0),(19,some 0),(20,some 0),(21,some 0),(22,some 0),(23,some 0),(24,some 0),(25,some 0),(26,some 0)] (by kernel_rfl) (by kernel_rfl) rfl 99<|ak (ah rfl)<|ak (ah rfl)<|ak (aP rfl rfl (bA (by omega) (by omega)))<|ak (ah rfl)<|ak (aY rfl Tryz.underlying27)<|ak (bw rfl rfl)<|ak (ah rfl)<| ?_
    refine iu 32 rfl (fun g1=> ?_) (fun g1=> ?_)
    ·refine bB (o:=_) rfl rfl rfl (ah rfl)<|bB (o:=_) rfl rfl rfl (bw rfl rfl)<|ak (bC rfl rfl)<|ak (ah rfl)<| ?_
     refine iu 36 rfl (fun g2=> ?_) (fun g2=> ?_)
     ·refine bB (o:=_) rfl rfl rfl (ah rfl)<|bB (o:=_) rfl rfl rfl (ah rfl)<|bB (o:=_) rfl rfl rfl (ah rfl)<|bB (o:=_) rfl rfl rfl (aP rfl rfl (bA (by omega) (by omega)))<|bB (o:=_) rfl rfl rfl (aZ rfl rfl Tryz.underlying27 dU hA_r (show((i+j:Nat):Int)=_ by omega) (by omega))<|iW (o:=_) rfl rfl rfl (fun m=>ao rfl iO ((m.rd 0 rfl).cell (bM (by omega))))<|bB (o:=_) rfl rfl rfl (ah rfl)<|bB (o:=_) rfl rfl rfl (ah rfl)<|bB (o:=_) rfl rfl rfl (ah rfl)<|bB (o:=_) rfl rfl rfl (aP rfl rfl (bA (by omega) (by omega)))<|bB (o:=_) rfl rfl rfl (ah rfl)<|bB (o:=_) rfl rfl rfl (yV (cn rfl rfl (bA (by omega) (by omega))) ((show Value.int .i64 ((i:Int)+(j:Int)-((q+1:Nat):Int))= .int .i64 ((i-(q+1)+j:Nat):Int) by congr 1;omega)))<|bB (o:=_) rfl rfl rfl (aZ rfl rfl Tryz.underlying27 dU hA_r rfl (by omega))<|iW (o:=_) rfl rfl rfl (fun m=>ao rfl iO ((m.rd 0 rfl).cell (bM (by omega))))<|bB (o:=_) rfl rfl rfl (cx rfl rfl)<|ak (bC rfl rfl)<|bq<|aB [52,7,23,6,15,5,4,0,1] rfl<|ab<| ?_
      refine cB rfl (fun g3=> ?_) (fun g3=> ?_)
      ·have e3:l.getD (i+j) 0=l.getD (i-(q+1)+j) 0:=UInt8.toNat_inj.1 (by omega)
       rw[iC (by omega) ⟨by omega,e3⟩]at hL
       refine aC<|ab<|aN<|ai<|aw rfl<|hy (fun _=>aP rfl rfl (bA (by omega) (by omega)))<|aG rfl<|ag<|aB [7,52,23,6,15,5,4,0,1] rfl<|aS<| ?_
       refine cM (j+1) ⟨rfl,rfl,rfl,rfl,rfl,rfl,rfl,rfl,trivial⟩ [0,0] rfl [0] rfl (⟨by omega,by omega,by rw[←hL];rfl⟩) (by omega)
      ·refine bG<|an<|an<|aE<|ab<|ae<|ai<|aw rfl<|hy (fun _=>cW rfl rfl)<|aw rfl<| ?_
       have hL2:j=mO l i (i-(q+1)):=(by rw[←hL,lO (fun e=>g3 (by rw[e.2]))])
       subst hL2
       refine fj 57 rfl (fun h3=> ?_) (fun h3=> ?_)
       ·refine cy (o:=_) rfl rfl rfl (fun _=>ah rfl)<|cy (o:=_) rfl rfl rfl (fun _=>aF rfl lM (by decide))<|cy (o:=_) rfl rfl rfl (fun m=>ao rfl dD (aA (m.aU 0 rfl) rfl))<|cy (o:=_) rfl rfl rfl (fun _=>cW rfl rfl)<|hy (fun _=>bC rfl rfl)<|ag<|aB [62,52,7,23,6,15,5,4,0,1] rfl<|ab<| ?_
        refine cB rfl (fun h4=> ?_) (fun h4=> ?_)
        ·refine ai<|aw rfl<|aw rfl<|hy (fun _=>bU sA rfl rfl (by kernel_rfl) (.cons (o:=0) (sz:=1) (by kernel_rfl) rfl rfl (Nat.le_of_ble_eq_true rfl) (.cons (o:=1) (sz:=1) (by kernel_rfl) rfl rfl (Nat.le_of_ble_eq_true rfl) .nil)))<| ?_
         refine cI (ba 0 rfl rfl rfl l5 rfl (oo (s:=(mO l i (i-(q+1)),q+1))) rfl ?_)
         have hst:mv (mO l i (i-(q+1)),q+1)=mv (cz l i (q+1)):=by
          rw[dS]
          unfold gX
          rw[if_pos ⟨by omega,by omega⟩]
         refine aJ (fun w m=>m.bz 0 rfl (show _=aH g5 298 (mv (cz l i (q+1)))from congrArg (aH g5 _) hst)) ?_
         refine ag<|aB [62,52,7,23,6,15,5,4,0,1] rfl<|aj (X' :=[_,_]) (S' :=[_]) (fun _ m=>m)<|aS<|ab<|ai<|aw rfl<|hy (fun _=>aP rfl rfl (bA (by omega) (by omega)))<|aG rfl<|ag<|aB [6,62,52,7,23,15,5,4,0,1] rfl<| ?_
         refine cM (q+1) ⟨rfl,rfl,rfl,rfl,rfl,rfl,trivial⟩ [0,0] rfl [0] rfl ((by omega)) (by omega)
        ·have hst:mv (cz l i q)=mv (cz l i (q+1)):=by
          rw[dS]
          unfold gX
          rw[if_neg (fun h=>by omega)]
         refine aC<|aS<|ab<|ai<|aw rfl<|hy (fun _=>aP rfl rfl (bA (by omega) (by omega)))<|aG rfl<|ag<|aB [6,62,52,7,23,15,5,4,0,1] rfl<| ?_
         refine aj (fun w m=>m.bz 0 rfl (show _=aH g5 298 (mv (cz l i (q+1)))from congrArg (aH g5 _) hst)) ?_
         refine cM (q+1) ⟨rfl,rfl,rfl,rfl,rfl,rfl,trivial⟩ [0,0] rfl [0] rfl ((by omega)) (by omega)
       ·have hst:mv (cz l i q)=mv (cz l i (q+1)):=by
         rw[dS]
         unfold gX
         rw[if_neg (fun h=>by omega)]
        refine bg rfl rfl rfl (by decide)<|bg rfl rfl rfl (by decide)<|bg rfl rfl rfl (by decide)<|bg rfl rfl rfl (by decide)<|hy (fun _=>bo rfl rfl)<|ag<|aB [62,52,7,23,6,15,5,4,0,1] rfl<|ab<| ?_
        refine cN rfl (rfl) ?_
        refine aC<|aS<|ab<|ai<|aw rfl<|hy (fun _=>aP rfl rfl (bA (by omega) (by omega)))<|aG rfl<|ag<|aB [6,62,52,7,23,15,5,4,0,1] rfl<| ?_
        refine aj (fun w m=>m.bz 0 rfl (show _=aH g5 298 (mv (cz l i (q+1)))from congrArg (aH g5 _) hst)) ?_
        refine cM (q+1) ⟨rfl,rfl,rfl,rfl,rfl,rfl,trivial⟩ [0,0] rfl [0] rfl ((by omega)) (by omega)
     ·refine aX rfl rfl rfl (by decide)<|aX rfl rfl rfl (by decide)<|aX rfl rfl rfl (by decide)<|aX rfl rfl rfl (by decide)<|aX rfl rfl rfl (by decide)<|aX rfl rfl rfl (by decide)<|aX rfl rfl rfl (by decide)<|aX rfl rfl rfl (by decide)<|aX rfl rfl rfl (by decide)<|aX rfl rfl rfl (by decide)<|aX rfl rfl rfl (by decide)<|aX rfl rfl rfl (by decide)<|aX rfl rfl rfl (by decide)<|aX rfl rfl rfl (by decide)<|aX rfl rfl rfl (by decide)<|ak (bo rfl rfl)<|bq<|aB [52,7,23,6,15,5,4,0,1] rfl<|ab<| ?_
      refine cN rfl (rfl) ?_
      refine bG<|an<|an<|aE<|ab<|ae<|ai<|aw rfl<|hy (fun _=>cW rfl rfl)<|aw rfl<| ?_
      have hL2:j=mO l i (i-(q+1)):=(by rw[←hL,show 131-j=0 by omega];rfl)
      subst hL2
      refine fj 57 rfl (fun h3=> ?_) (fun h3=> ?_)
      ·refine cy (o:=_) rfl rfl rfl (fun _=>ah rfl)<|cy (o:=_) rfl rfl rfl (fun _=>aF rfl lM (by decide))<|cy (o:=_) rfl rfl rfl (fun m=>ao rfl dD (aA (m.aU 0 rfl) rfl))<|cy (o:=_) rfl rfl rfl (fun _=>cW rfl rfl)<|hy (fun _=>bC rfl rfl)<|ag<|aB [62,52,7,23,6,15,5,4,0,1] rfl<|ab<| ?_
       refine cB rfl (fun h4=> ?_) (fun h4=> ?_)
       ·refine ai<|aw rfl<|aw rfl<|hy (fun _=>bU sA rfl rfl (by kernel_rfl) (.cons (o:=0) (sz:=1) (by kernel_rfl) rfl rfl (Nat.le_of_ble_eq_true rfl) (.cons (o:=1) (sz:=1) (by kernel_rfl) rfl rfl (Nat.le_of_ble_eq_true rfl) .nil)))<| ?_
        refine cI (ba 0 rfl rfl rfl l5 rfl (oo (s:=(mO l i (i-(q+1)),q+1))) rfl ?_)
        have hst:mv (mO l i (i-(q+1)),q+1)=mv (cz l i (q+1)):=by
         rw[dS]
         unfold gX
         rw[if_pos ⟨by omega,by omega⟩]
        refine aJ (fun w m=>m.bz 0 rfl (show _=aH g5 298 (mv (cz l i (q+1)))from congrArg (aH g5 _) hst)) ?_
        refine ag<|aB [62,52,7,23,6,15,5,4,0,1] rfl<|aj (X' :=[_,_]) (S' :=[_]) (fun _ m=>m)<|aS<|ab<|ai<|aw rfl<|hy (fun _=>aP rfl rfl (bA (by omega) (by omega)))<|aG rfl<|ag<|aB [6,62,52,7,23,15,5,4,0,1] rfl<| ?_
        refine cM (q+1) ⟨rfl,rfl,rfl,rfl,rfl,rfl,trivial⟩ [0,0] rfl [0] rfl ((by omega)) (by omega)
       ·have hst:mv (cz l i q)=mv (cz l i (q+1)):=by
         rw[dS]
         unfold gX
         rw[if_neg (fun h=>by omega)]
        refine aC<|aS<|ab<|ai<|aw rfl<|hy (fun _=>aP rfl rfl (bA (by omega) (by omega)))<|aG rfl<|ag<|aB [6,62,52,7,23,15,5,4,0,1] rfl<| ?_
        refine aj (fun w m=>m.bz 0 rfl (show _=aH g5 298 (mv (cz l i (q+1)))from congrArg (aH g5 _) hst)) ?_
        refine cM (q+1) ⟨rfl,rfl,rfl,rfl,rfl,rfl,trivial⟩ [0,0] rfl [0] rfl ((by omega)) (by omega)
      ·have hst:mv (cz l i q)=mv (cz l i (q+1)):=by
        rw[dS]
        unfold gX
        rw[if_neg (fun h=>by omega)]
       refine bg rfl rfl rfl (by decide)<|bg rfl rfl rfl (by decide)<|bg rfl rfl rfl (by decide)<|bg rfl rfl rfl (by decide)<|hy (fun _=>bo rfl rfl)<|ag<|aB [62,52,7,23,6,15,5,4,0,1] rfl<|ab<| ?_
       refine cN rfl (rfl) ?_
       refine aC<|aS<|ab<|ai<|aw rfl<|hy (fun _=>aP rfl rfl (bA (by omega) (by omega)))<|aG rfl<|ag<|aB [6,62,52,7,23,15,5,4,0,1] rfl<| ?_
       refine aj (fun w m=>m.bz 0 rfl (show _=aH g5 298 (mv (cz l i (q+1)))from congrArg (aH g5 _) hst)) ?_
       refine cM (q+1) ⟨rfl,rfl,rfl,rfl,rfl,rfl,trivial⟩ [0,0] rfl [0] rfl ((by omega)) (by omega)
    ·refine aX rfl rfl rfl (by decide)<|aX rfl rfl rfl (by decide)<|ak (bo rfl rfl)<|ak (ah rfl)<| ?_
     refine aX rfl rfl rfl (by decide)<|aX rfl rfl rfl (by decide)<|aX rfl rfl rfl (by decide)<|aX rfl rfl rfl (by decide)<|aX rfl rfl rfl (by decide)<|aX rfl rfl rfl (by decide)<|aX rfl rfl rfl (by decide)<|aX rfl rfl rfl (by decide)<|aX rfl rfl rfl (by decide)<|aX rfl rfl rfl (by decide)<|aX rfl rfl rfl (by decide)<|aX rfl rfl rfl (by decide)<|aX rfl rfl rfl (by decide)<|aX rfl rfl rfl (by decide)<|aX rfl rfl rfl (by decide)<|ak (bo rfl rfl)<|bq<|aB [52,7,23,6,15,5,4,0,1] rfl<|ab<| ?_
     refine cN rfl (rfl) ?_
     refine bG<|an<|an<|aE<|ab<|ae<|ai<|aw rfl<|hy (fun _=>cW rfl rfl)<|aw rfl<| ?_
     have hL2:j=mO l i (i-(q+1)):=(by rw[←hL,lO (fun e=>g1 (by omega))])
     subst hL2
     refine fj 57 rfl (fun h3=> ?_) (fun h3=> ?_)
     ·refine cy (o:=_) rfl rfl rfl (fun _=>ah rfl)<|cy (o:=_) rfl rfl rfl (fun _=>aF rfl lM (by decide))<|cy (o:=_) rfl rfl rfl (fun m=>ao rfl dD (aA (m.aU 0 rfl) rfl))<|cy (o:=_) rfl rfl rfl (fun _=>cW rfl rfl)<|hy (fun _=>bC rfl rfl)<|ag<|aB [62,52,7,23,6,15,5,4,0,1] rfl<|ab<| ?_
      refine cB rfl (fun h4=> ?_) (fun h4=> ?_)
      ·refine ai<|aw rfl<|aw rfl<|hy (fun _=>bU sA rfl rfl (by kernel_rfl) (.cons (o:=0) (sz:=1) (by kernel_rfl) rfl rfl (Nat.le_of_ble_eq_true rfl) (.cons (o:=1) (sz:=1) (by kernel_rfl) rfl rfl (Nat.le_of_ble_eq_true rfl) .nil)))<| ?_
       refine cI (ba 0 rfl rfl rfl l5 rfl (oo (s:=(mO l i (i-(q+1)),q+1))) rfl ?_)
       have hst:mv (mO l i (i-(q+1)),q+1)=mv (cz l i (q+1)):=by
        rw[dS]
        unfold gX
        rw[if_pos ⟨by omega,by omega⟩]
       refine aJ (fun w m=>m.bz 0 rfl (show _=aH g5 298 (mv (cz l i (q+1)))from congrArg (aH g5 _) hst)) ?_
       refine ag<|aB [62,52,7,23,6,15,5,4,0,1] rfl<|aj (X' :=[_,_]) (S' :=[_]) (fun _ m=>m)<|aS<|ab<|ai<|aw rfl<|hy (fun _=>aP rfl rfl (bA (by omega) (by omega)))<|aG rfl<|ag<|aB [6,62,52,7,23,15,5,4,0,1] rfl<| ?_
       refine cM (q+1) ⟨rfl,rfl,rfl,rfl,rfl,rfl,trivial⟩ [0,0] rfl [0] rfl ((by omega)) (by omega)
      ·have hst:mv (cz l i q)=mv (cz l i (q+1)):=by
        rw[dS]
        unfold gX
        rw[if_neg (fun h=>by omega)]
       refine aC<|aS<|ab<|ai<|aw rfl<|hy (fun _=>aP rfl rfl (bA (by omega) (by omega)))<|aG rfl<|ag<|aB [6,62,52,7,23,15,5,4,0,1] rfl<| ?_
       refine aj (fun w m=>m.bz 0 rfl (show _=aH g5 298 (mv (cz l i (q+1)))from congrArg (aH g5 _) hst)) ?_
       refine cM (q+1) ⟨rfl,rfl,rfl,rfl,rfl,rfl,trivial⟩ [0,0] rfl [0] rfl ((by omega)) (by omega)
     ·have hst:mv (cz l i q)=mv (cz l i (q+1)):=by
       rw[dS]
       unfold gX
       rw[if_neg (fun h=>by omega)]
      refine bg rfl rfl rfl (by decide)<|bg rfl rfl rfl (by decide)<|bg rfl rfl rfl (by decide)<|bg rfl rfl rfl (by decide)<|hy (fun _=>bo rfl rfl)<|ag<|aB [62,52,7,23,6,15,5,4,0,1] rfl<|ab<| ?_
      refine cN rfl (rfl) ?_
      refine aC<|aS<|ab<|ai<|aw rfl<|hy (fun _=>aP rfl rfl (bA (by omega) (by omega)))<|aG rfl<|ag<|aB [6,62,52,7,23,15,5,4,0,1] rfl<| ?_
      refine aj (fun w m=>m.bz 0 rfl (show _=aH g5 298 (mv (cz l i (q+1)))from congrArg (aH g5 _) hst)) ?_
      refine cM (q+1) ⟨rfl,rfl,rfl,rfl,rfl,rfl,trivial⟩ [0,0] rfl [0] rfl ((by omega)) (by omega)
   ·have hq:q=min i 1024:=by omega
    subst hq
    refine bG<|an<|an<|aE<|ab<|ae<|ai<|hy (fun m=>aQ rfl yA l5 rfl ((m.aU 0 rfl).au))<| ?_
    refine cI (ba 1 rfl rfl rfl l5 rfl oo rfl ?_)
    refine ag<|aB [23,6,15,5,4,0,1] rfl<|aj (X' :=[_,_]) (S' :=[_]) (fun _ m=>m)<|ab<|aV<| ?_
    exact eO trivial rfl rfl yA l5 rfl (fun m=>(m.aU 0 rfl).au) [] rfl [] rfl ⟨rfl,rfl,rfl⟩
  ·refine bg rfl rfl rfl (by decide)<|bg rfl rfl rfl (by decide)<|hy (fun _=>bo rfl rfl)<|ag<|aB [23,6,15,5,4,0,1] rfl<|ab<| ?_
   refine cN rfl (rfl) ?_
   have hq:q=min i 1024:=by omega
   subst hq
   refine bG<|an<|an<|aE<|ab<|ae<|ai<|hy (fun m=>aQ rfl yA l5 rfl ((m.aU 0 rfl).au))<| ?_
   refine cI (ba 1 rfl rfl rfl l5 rfl oo rfl ?_)
   refine ag<|aB [23,6,15,5,4,0,1] rfl<|aj (X' :=[_,_]) (S' :=[_]) (fun _ m=>m)<|ab<|aV<| ?_
   exact eO trivial rfl rfl yA l5 rfl (fun m=>(m.aU 0 rfl).au) [] rfl [] rfl ⟨rfl,rfl,rfl⟩
theorem Ff{A:Option Addr}{n c:Nat}{l:List UInt8}(hc:n≤c)(hn:n≤500000000)(hl:l.length=n):b7 Tryz.prog 219 [.slice A n c] [] [cL 1 A n (aW l)] (fun v_ X_ S_=>∃v,v_=v∧X_=[aK 5 1 v (fm l).length (aW (fm l))]∧S_=[]):=by
 refine aM (N:=31) Tryz.func219 rfl rfl (by simp) fun b=> ?_
 refine a6 (fun m=>eG (m.rd 0 rfl)) ?_
 rintro⟨hl_r,hA_r⟩
 refine ae<|ai<|aG rfl<|ag<|ab<|ae<|ai<|aG rfl<|ag<|ab<|ae<|ae<|ai<|aG rfl<|ag<|ab<|aN<| ?_
 refine bk (fun w m=>m.cQ (r' :=aK 5 1 (.slice none 0 0) 0 []) (.refl _ _) (Own.nil _ _ _ _) (fun k hk=>hk.elim)) ?_
 refine j3 (fun i o A3 c3=>n-i) (fun i o A3 c3=>[(3,.slice A3 o.length c3),(4,.int .i64 (i:Nat))]) (fun i o A3 c3=>[aK 5 1 (.slice A3 o.length c3) o.length (aW o)]) (fun i o A3 c3=>[]) (fun i o A3 c3=>i≤n+128∧o.length≤2*i∧o++fm (l.drop i)=fm l) 0 [] none 0 [(2,_),(0,_)] ⟨rfl,rfl,trivial⟩ [0] rfl [] rfl (⟨by omega,by decide,rfl⟩) ⟨rfl,rfl,trivial⟩ (fun i o A3 c3 ⟨hin,hon,hE⟩=> ?_)
 refine ae<|ae<|ai<|aw rfl<|aw rfl<|hy (fun _=>aY rfl Tryz.underlying27)<|hy (fun _=>bw rfl rfl)<|ag<|aB [9,3,4,2,0] rfl<|ab<| ?_
 refine cB rfl (fun hi=> ?_) (fun hi=> ?_)
 ·obtain⟨k,hk⟩:∃k,k=min (n-i) 128:=⟨_,rfl⟩
  have hki:1≤k∧k≤128∧i+k≤n:=by omega
  have hdl:(l.drop i).length=n-i:=by rw[List.length_drop,hl]
  have hne:l.drop i≠ []:=fun e=>by rw[e]at hdl;simp at hdl;omega
  have htk:(l.drop i).take 128=(l.drop i).take k:=by
   rcases Nat.lt_or_ge (n-i) 128 with h|h
   ·rw[List.take_of_length_le (by omega),List.take_of_length_le (by omega)]
   ·rw[show k=128 by omega]
  rw[om hne,hdl,←hk,htk,List.drop_drop]at hE
  refine bk (fun w m=>m.fA 0 rfl (View.sub (n:=n) (c:=c) (k:=i) (m:=k) (by omega) (by omega))) ?_
  refine a6 (fun m=>eG (m.rd 0 rfl)) ?_
  rintro⟨hl_p,hA_p⟩
  refine aC<|ab<|ae<|aN<|ae<|ai<|aw rfl<|aw rfl<|aw rfl<|hy (fun _=>aP rfl rfl (bA (by omega) (by omega)))<|aw rfl<|hy (fun _=>aY rfl Tryz.underlying27)<|hy (fun _=>yV (uI rfl rfl) ((show Value.int .i64 _= .int .i64 ((i+k:Nat):Int) by congr 1;omega)))<|hy (fun _=>yV (ey rfl rfl rfl Tryz.underlying27 dU rfl rfl (by omega) (by omega)) ((show Value.slice (if c=i then A else A.map (·.add (i*1))) (i+k-i) (c-i)= .slice (if c=i then A else A.map (·.add (i*1))) k (c-i) by congr 1;omega)))<|aG rfl<|ag<|aB [5,9,3,4,2,0] rfl<|ab<|ae<|ai<|aw rfl<|aw rfl<|hy (fun _=>aY rfl Tryz.underlying27)<|hy (fun _=>yV (cn rfl rfl (bA (by omega) (by omega))) ((show Value.int .i64 ((k:Int)-1)= .int .i64 ((k-1:Nat):Int) by congr 1;omega)))<|hy (fun _=>yV (bY rfl Tryz.underlying3 Tryz.underlying5 (jm _)) ((show Value.int .u8 _=B8 (UInt8.ofNat (k-1))from rfl)))<| ?_
  refine hx (bQ Tryz.underlying27 fi rfl rfl rfl (by simp[Value.cells,B8]) (by decide) (by decide) (fun g25=> ?_))
  have hA_b25:0<1→(some (⟨g25,0,none⟩:Addr))≠none:=fun _ h=>by cases h
  refine aJ (fun w m=>m.bz 0 rfl (show _=aK 5 1 (.slice (some ⟨g25,0,none⟩) 1 1) 1 (aW [UInt8.ofNat (k-1)])from rfl)) ?_
  refine hx (bs 1 rfl rfl rfl Tryz.underlying27 Tryz.underlying27 (by exact .inl rfl) fi rfl (fun m=>Src.bJ (m.ord 0 rfl)) bn (by unfold maxLen;omega) (by omega) (fun u=> ?_))
  refine az (fun m=>(m.own 0 rfl).slice) ?_
  rintro⟨A_x,c_x,rfl,hc_x⟩
  refine az (fun m=>(m.ord 0 rfl).2.1) fun hA_x=> ?_
  refine aG rfl<|ag<|aB [3,5,9,4,2,0] rfl<|aj (X' :=[_,_]) (S' :=[_,_]) (fun _ m=>m)<|ab<|ai<|aw rfl<|aw rfl<| ?_
  refine hx (bs 0 rfl rfl rfl Tryz.underlying27 Tryz.underlying27 (by exact .inl rfl) fi rfl (fun m=>Src.bJ (m.rd 0 rfl)) bn (by unfold maxLen;omega) (by omega) (fun u2=> ?_))
  refine az (fun m=>(m.own 0 rfl).slice) ?_
  rintro⟨A_x2,c_x2,rfl,hc_x⟩
  refine az (fun m=>(m.ord 0 rfl).2.1) fun hA_x=> ?_
  refine aG rfl<|ag<|aB [3,5,9,4,2,0] rfl<|aj (X' :=[_,_]) (S' :=[_,_]) (fun _ m=>m)<|aS<|ab<|ai<|aw rfl<|hy (fun _=>aP rfl rfl (bA (by omega) (by omega)))<|aG rfl<|ag<|aB [4,3,5,9,2,0] rfl<| ?_
  have hol:o.length+1+k=(o++(UInt8.ofNat (k-1)::(l.drop i).take k)).length:=by simp;omega
  rw[hol]
  refine aj (fun w m=>m.bz 0 rfl (show _=aK 5 1 (.slice A_x2 (o++(UInt8.ofNat (k-1)::(l.drop i).take k)).length c_x2) (o++(UInt8.ofNat (k-1)::(l.drop i).take k)).length (aW (o++(UInt8.ofNat (k-1)::(l.drop i).take k)))from congrArg (aK _ _ _ _) (show aW o++aW [UInt8.ofNat (k-1)]++aW ((l.drop i).take k)=_ by rw[←bR,←bR,List.append_assoc];rfl))) ?_
  refine ej (i+128) (o++(UInt8.ofNat (k-1)::(l.drop i).take k)) _ _ ⟨rfl,rfl,rfl,rfl,trivial⟩ [0] rfl [1] rfl (⟨by omega,by rw[←hol];omega,by rw[←hE];simp⟩) (by omega)
 ·rw[List.drop_of_length_le (by omega),qj,List.append_nil]at hE
  subst hE
  refine bG<|an<|an<|aE<|ab<|ae<|ai<|aw rfl<|aG rfl<|ag<|aB [2,9,3,4,0] rfl<|ab<|aV<| ?_
  exact bc trivial rfl rfl [0] rfl [] rfl ⟨_,rfl,rfl,rfl⟩
theorem Hy{A:Option Addr}{n c:Nat}{l:List UInt8}(hc:n≤c)(hn:n≤500000000)(hl:l.length=n):b7 Tryz.prog 159 [.slice A n c] [] [cL 1 A n (aW l)] (fun v_ X_ S_=>∃v,v_=v∧X_=[aK 5 1 v (e8 l).length (aW (e8 l))]∧S_=[]):=by
 refine aM (N:=54) Tryz.func159 rfl rfl (by simp) fun b=> ?_
 refine a6 (fun m=>eG (m.rd 0 rfl)) ?_
 rintro⟨hl_r,hA_r⟩
 refine ae<|ai<|aG rfl<|ag<|ab<|ae<|ai<|aG rfl<|ag<|ab<|ae<|ai<|aG rfl<|ag<|ab<|ae<|ai<|aG rfl<|ag<|ab<|ae<|aN<| ?_
 refine bk (fun w m=>m.cQ (r' :=aK 5 1 (.slice none 0 0) 0 []) (.refl _ _) (Own.nil _ _ _ _) (fun k hk=>hk.elim)) ?_
 refine tT (fun i f o A3 c3=>n-i) (fun i f o A3 c3=>[(3,.slice A3 o.length c3),(4,.int .i64 (f:Nat)),(5,.int .i64 (i:Nat))]) (fun i f o A3 c3=>[aK 5 1 (.slice A3 o.length c3) o.length (aW o)]) (fun i f o A3 c3=>[]) (fun i f o A3 c3=>i≤n∧f≤i∧o.length+2*(i-f)≤2*i∧iq l i ((l.drop f).take (i-f)) o=e8 l) 0 0 [] none 0 [(2,_),(0,_)] ⟨rfl,rfl,trivial⟩ [0] rfl [] rfl (⟨by omega,by decide,by decide,rfl⟩) ⟨rfl,rfl,rfl,trivial⟩ (fun i f o A3 c3 ⟨hin,hfi,hon,hE⟩=> ?_)
 have hown:((l.drop f).take (i-f)).length=i-f:=by rw[List.length_take,List.length_drop];omega
 refine ae<|ae<|ai<|aw rfl<|aw rfl<|hy (fun _=>aY rfl Tryz.underlying27)<|hy (fun _=>bw rfl rfl)<|ag<|aB [10,3,4,5,2,0] rfl<|ab<| ?_
 refine cB rfl (fun hi=> ?_) (fun hi=> ?_)
 ·refine aC<|ab<|aN<|ae<|ai<|aw rfl<|aw rfl<| ?_
  refine hx (aq rfl Tryz.call218 (Ef (by omega) hl (by omega)) [] rfl [0] rfl ?_)
  rintro _ _ _ ⟨rfl,rfl,rfl⟩
  refine hx (bf sA (fun g6=> ?_))
  refine cI (ba 0 rfl rfl rfl l5 rfl oo rfl ?_)
  refine ag<|aB [6,10,3,4,5,2,0] rfl<|aj (X' :=[_,_]) (S' :=[_]) (fun _ m=>m)<|ab<|ae<|ae<|ai<|hy (fun _=>aF rfl lM (by decide))<|hy (fun m=>ao rfl dD (aA (m.aU 0 rfl) rfl))<|hy (fun _=>cx rfl rfl)<|ag<|aB [16,6,10,3,4,5,2,0] rfl<|ab<| ?_
  refine cB rfl (fun h0=> ?_) (fun h0=> ?_)
  ·rw[oO (by omega) (by omega)]at hE
   have hsn:(l.drop f).take (i-f)++[l.getD i 0]=(l.drop f).take (i+1-f):=by
    rw[show i+1-f=(i-f)+1 by omega,dG (by rw[List.length_drop];omega)]
    congr 2
    simp only[List.getD,List.getElem?_drop]
    rw[show f+(i-f)=i by omega]
   rw[hsn]at hE
   refine ae<|ai<|aw rfl<|hy (fun _=>aP rfl rfl (bA (by omega) (by omega)))<|aG rfl<|ag<|aB [5,16,6,10,3,4,2,0] rfl<|ab<|bG<|an<|aE<| ?_
   refine oJ (i+1) f o A3 c3 ⟨rfl,rfl,rfl,rfl,rfl,trivial⟩ [1] rfl [0] rfl (⟨by omega,by omega,by omega,hE⟩) (by omega)
  ·have hm:=oH (b:=l) (i:=i) (by omega)
   rw[kN (by omega) (by omega)]at hE
   obtain⟨m1,m2,m3,m4,m5,m6⟩:=hm.resolve_left (fun e=>h0 (by rw[e];rfl))
   have hll:=fM ((l.drop f).take (i-f))
   refine bk (fun w m=>m.fA 0 rfl (View.sub (n:=n) (c:=c) (k:=f) (m:=i-f) (by omega) (by omega))) ?_
   refine a6 (fun m=>eG (m.rd 0 rfl)) ?_
   rintro⟨hl_p,hA_p⟩
   refine aC<|ab<|ae<|ai<|aw rfl<|aw rfl<|aw rfl<|aw rfl<|hy (fun _=>ey rfl rfl rfl Tryz.underlying27 dU rfl rfl (by omega) (by omega))<| ?_
   refine hx (aq rfl Tryz.call219 (Ff (by omega) (by omega) hown) [] rfl [0] rfl ?_)
   rintro _ _ _ ⟨v,rfl,rfl,rfl⟩
   refine az (fun m=>(m.own 0 rfl).slice) ?_
   rintro⟨A_x2,c_x2,rfl,hc_x2⟩
   refine az (fun m=>(m.ord 0 rfl).2.1) fun hA_x2=> ?_
   refine hx (bs 2 rfl rfl rfl Tryz.underlying27 Tryz.underlying27 (by exact .inl rfl) fi rfl (fun m=>Src.bJ (m.ord 0 rfl)) bn (by unfold maxLen;omega) (by omega) (fun u=> ?_))
   refine az (fun m=>(m.own 0 rfl).slice) ?_
   rintro⟨A_x,c_x,rfl,hc_x⟩
   refine az (fun m=>(m.ord 0 rfl).2.1) fun hA_x=> ?_
   generalize hLL:fm ((l.drop f).take (i-f))=L at hE hll ⊢
   refine aG rfl<|ag<|aB [3,16,6,10,4,5,2,0] rfl<|aj (X' :=[_,_,_]) (S' :=[_,_]) (fun _ m=>m)<|ab<|ae<|ai<|aw rfl<|hy (fun _=>aF rfl lM (by decide))<|hy (fun m=>ao rfl dD (aA (m.aU 2 rfl) rfl))<|hy (fun _=>yV (aP rfl rfl (bA (by omega) (by omega))) ((show Value.int .i64 (124+((bh l i).1:Int))= .int .i64 ((124+(bh l i).1:Nat):Int) by congr 1)))<|hy (fun _=>yV (bY rfl Tryz.underlying3 Tryz.underlying5 (jm _)) ((show Value.int .u8 _=B8 (UInt8.ofNat (124+(bh l i).1))from rfl)))<|hy (fun _=>aF rfl x8 (by decide))<|hy (fun m=>ao rfl dD (aA (m.aU 2 rfl) rfl))<|hy (fun _=>yV (cn rfl rfl (bA (by omega) (by omega))) ((show Value.int .i64 (((bh l i).2:Int)-1)= .int .i64 (((bh l i).2-1:Nat):Int) by congr 1;omega)))<|hy (fun _=>yV (hZ rfl rfl (by omega) (by omega)) ((show Value.int .i64 ((((bh l i).2-1:Nat):Int) % 256)= .int .i64 ((((bh l i).2-1) % 256:Nat):Int) by congr 1)))<|hy (fun _=>yV (bY rfl Tryz.underlying3 Tryz.underlying5 (jm _)) ((show Value.int .u8 _=B8 (UInt8.ofNat (((bh l i).2-1) % 256))from rfl)))<|hy (fun _=>aF rfl x8 (by decide))<|hy (fun m=>ao rfl dD (aA (m.aU 2 rfl) rfl))<|hy (fun _=>yV (cn rfl rfl (bA (by omega) (by omega))) ((show Value.int .i64 (((bh l i).2:Int)-1)= .int .i64 (((bh l i).2-1:Nat):Int) by congr 1;omega)))<|hy (fun _=>yV (kA rfl rfl (by omega) (by omega) (bA (by omega) (by omega))) ((show Value.int .i64 ((((bh l i).2-1:Nat):Int)/256)= .int .i64 ((((bh l i).2-1)/256:Nat):Int) by congr 1)))<|hy (fun _=>yV (bY rfl Tryz.underlying3 Tryz.underlying5 (jm _)) ((show Value.int .u8 _=B8 (UInt8.ofNat (((bh l i).2-1)/256))from rfl)))<| ?_
   refine hx (bQ Tryz.underlying27 fi rfl rfl rfl (by simp[Value.cells,B8]) (by decide) (by decide) (fun g41=> ?_))
   have hA_b41:0<3→(some (⟨g41,0,none⟩:Addr))≠none:=fun _ h=>by cases h
   have htm:[UInt8.ofNat (124+(bh l i).1),UInt8.ofNat (((bh l i).2-1) % 256),UInt8.ofNat (((bh l i).2-1)/256)]=iD (bh l i):=by
    unfold iD
    congr 2
    exact UInt8.toNat_inj.1 (by rw[UInt8.toNat_ofNat',UInt8.toNat_ofNat'];omega)
   refine aJ (fun w m=>m.bz 0 rfl (show _=aK 5 1 (.slice (some ⟨g41,0,none⟩) 3 3) 3 (aW (iD (bh l i)))from congrArg (aK _ _ _ _) (show aW [UInt8.ofNat (124+(bh l i).1),UInt8.ofNat (((bh l i).2-1) % 256),UInt8.ofNat (((bh l i).2-1)/256)]=_ by rw[htm]))) ?_
   refine hx (bs 1 rfl rfl rfl Tryz.underlying27 Tryz.underlying27 (by exact .inl rfl) fi rfl (fun m=>Src.bJ (m.ord 0 rfl)) bn (by unfold maxLen;omega) (by omega) (fun u2=> ?_))
   refine az (fun m=>(m.own 0 rfl).slice) ?_
   rintro⟨A_x3,c_x3,rfl,hc_x⟩
   refine az (fun m=>(m.ord 0 rfl).2.1) fun hA_x=> ?_
   refine aG rfl<|ag<|aB [3,16,6,10,4,5,2,0] rfl<|aj (X' :=[_,_,_,_]) (S' :=[_,_]) (fun _ m=>m)<|ab<|ae<|ai<|aw rfl<|hy (fun _=>aF rfl lM (by decide))<|hy (fun m=>ao rfl dD (aA (m.aU 3 rfl) rfl))<|hy (fun _=>yV (aP rfl rfl (bA (by omega) (by omega))) ((show Value.int .i64 ((i:Int)+((bh l i).1:Int))= .int .i64 ((i+(bh l i).1:Nat):Int) by congr 1)))<|aG rfl<|ag<|aB [5,3,16,6,10,4,2,0] rfl<|ab<|ai<|aw rfl<|aG rfl<|ag<|aB [4,5,3,16,6,10,2,0] rfl<|aS<| ?_
   have hol:o.length+L.length+3=(o++L++iD (bh l i)).length:=by simp[iD];omega
   rw[hol]
   refine aj (fun w m=>m.bz 0 rfl (show _=aK 5 1 (.slice A_x3 (o++L++iD (bh l i)).length c_x3) (o++L++iD (bh l i)).length (aW (o++L++iD (bh l i)))from congrArg (aK _ _ _ _) (show aW o++aW L++aW (iD (bh l i))=aW (o++L++iD (bh l i)) by rw[bR,bR]))) ?_
   have hE2:iq l (i+(bh l i).1) ((l.drop (i+(bh l i).1)).take (i+(bh l i).1-(i+(bh l i).1))) (o++L++iD (bh l i))=e8 l:=by rw[Nat.sub_self,List.take_zero];exact hE
   refine oJ (i+(bh l i).1) (i+(bh l i).1) (o++L++iD (bh l i)) _ _ ⟨rfl,rfl,rfl,rfl,rfl,trivial⟩ [0] rfl [1] rfl (⟨by omega,Nat.le_refl _,by rw[←hol];omega,hE2⟩) (by omega)
 ·obtain rfl:i=n:=by omega
  rw[oq (by omega),List.take_of_length_le (by rw[List.length_drop];omega)]at hE
  have hdl:(l.drop f).length=i-f:=by rw[List.length_drop];omega
  have hll:=fM (l.drop f)
  refine bk (fun w m=>m.fA 0 rfl (View.drop (n:=i) (c:=c) (k:=f) (by omega) (by omega))) ?_
  refine a6 (fun m=>eG (m.rd 0 rfl)) ?_
  rintro⟨hl_p,hA_p⟩
  refine bG<|an<|an<|aE<|ab<|ae<|ai<|aw rfl<|aw rfl<|aw rfl<|hy (fun _=>dP rfl rfl Tryz.underlying27 dU rfl (by omega))<| ?_
  refine hx (aq rfl Tryz.call219 (Ff (by omega) (by omega) hdl) [] rfl [0] rfl ?_)
  rintro _ _ _ ⟨v,rfl,rfl,rfl⟩
  refine az (fun m=>(m.own 0 rfl).slice) ?_
  rintro⟨A_x2,c_x2,rfl,hc_x2⟩
  refine az (fun m=>(m.ord 0 rfl).2.1) fun hA_x2=> ?_
  refine hx (bs 1 rfl rfl rfl Tryz.underlying27 Tryz.underlying27 (by exact .inl rfl) fi rfl (fun m=>Src.bJ (m.ord 0 rfl)) bn (by unfold maxLen;omega) (by omega) (fun u=> ?_))
  refine az (fun m=>(m.own 0 rfl).slice) ?_
  rintro⟨A_x,c_x,rfl,hc_x⟩
  refine az (fun m=>(m.ord 0 rfl).2.1) fun hA_x=> ?_
  have hol:o.length+(fm (l.drop f)).length=(e8 l).length:=by rw[←hE];simp
  rw[hol]
  refine aJ (fun w m=>m.bz 0 rfl (show _=aK 5 1 (.slice A_x (e8 l).length c_x) (e8 l).length (aW (e8 l))from congrArg (aK _ _ _ _) (show aW o++aW (fm (l.drop f))=aW (e8 l) by rw[←hE,bR]))) ?_
  refine aG rfl<|ag<|aB [2,10,3,4,5,0] rfl<|aj (X' :=[_,_]) (S' :=[_,_]) (fun _ m=>m)<|ab<|aV<| ?_
  exact bc trivial rfl rfl [0] rfl [] rfl ⟨_,rfl,rfl,rfl⟩
end Go.Proofs.YtmibdabdlgmafaaGreatDoor
end
section
set_option maxRecDepth 20000
set_option maxHeartbeats 2000000
namespace Go.Proofs.YtmibdabdlgmafaaGreatDoor
open Go.Eng Go.Hx
theorem yK{A:Option Addr}{n c:Nat}{l:List UInt8}(hc:n≤c)(hn:n≤1000000000)(hl:l.length=n):b7 Tryz.prog 161 [.slice A n c] [] [cL 1 A n (aW l)] (fun v_ X_ S_=>∃v,v_=v∧X_=[aK 5 1 v 4 (aW (jY (dE l)))]∧S_=[]):=by
 have e4:n+4-n=4:=by omega
 have ed:(aW (BN l)).drop (n*1)=aW (jY (dE l)):=by rw[Nat.mul_one,←qL,BN,List.drop_append_of_le_length (by omega),List.drop_of_length_le (by omega)];rfl
 refine aM (N:=8) Tryz.func161 rfl rfl (by simp) fun b=> ?_
 refine a6 (fun m=>eG (m.rd 0 rfl)) ?_
 rintro⟨hl_r,hA_r⟩
 refine ae<|ai<|aG rfl<|ag<|ab<|ae<|ai<|aw rfl<| ?_
 refine hx (aq rfl Tryz.call189 (B0 (by omega)) [] rfl [0] rfl ?_)
 rintro _ _ _ ⟨v,rfl,rfl,rfl⟩
 refine az (fun m=>(m.own 0 rfl).slice) ?_
 rintro⟨A_x,c_x,rfl,hc_x⟩
 refine az (fun m=>(m.ord 0 rfl).2.1) fun hA_x=> ?_
 refine aw rfl<|hy (fun _=>aY rfl Tryz.underlying27)<|hy (fun _=>yV (dP rfl rfl Tryz.underlying27 dU rfl (by omega)) ((show Value.slice (if c_x=n then A_x else A_x.map (·.add (n*1))) (n+4-n) (c_x-n)= .slice (if c_x=n then A_x else A_x.map (·.add (n*1))) 4 (c_x-n) by congr 1)))<|aG rfl<|ag<|aB [2,0] rfl<|aj (X' :=[_]) (S' :=[_]) (fun _ m=>m)<|ab<|aV<| ?_
 refine aj (X' :=aK 5 1 (.slice (if c_x=n then A_x else A_x.map (·.add (n*1))) (n+4-n) (c_x-n)) (n+4-n) ((aW (BN l)).drop (n*1))::_) (fun w m=>(m.perm (ar [0] _ [_] _ rfl)).AZ (View.tj (by omega) hc_x)) ?_
 rw[e4,ed]
 exact bc trivial rfl rfl [0] rfl [] rfl ⟨_,rfl,rfl,rfl⟩
theorem Gx{A:Option Addr}{n c:Nat}{l:List UInt8}(hc:n≤c)(hn:n≤100000000)(hl:l.length=n):b7 Tryz.prog 81 [.slice A n c] [] [cL 1 A n (aW l)] (fun v_ X_ S_=>∃v,v_=v∧X_=[aK 5 1 v (cr l).length (aW (cr l))]∧S_=[]):=by
 have hpl:=nU l
 have hcl:=jW l
 refine aM (N:=30) Tryz.func81 rfl rfl (by simp) fun b=> ?_
 refine a6 (fun m=>eG (m.rd 0 rfl)) ?_
 rintro⟨hl_r,hA_r⟩
 refine ae<|ai<|aG rfl<|ag<|ab<|ae<|ai<|aw rfl<| ?_
 refine hx (aq rfl Tryz.call159 (Hy (by omega) (by omega) (by omega)) [] rfl [0] rfl ?_)
 rintro _ _ _ ⟨v,rfl,rfl,rfl⟩
 refine az (fun m=>(m.own 0 rfl).slice) ?_
 rintro⟨A_x,c_x,rfl,hc_x⟩
 refine az (fun m=>(m.ord 0 rfl).2.1) fun hA_x=> ?_
 refine aG rfl<|ag<|aB [3,2,0] rfl<|aj (X' :=[_]) (S' :=[_]) (fun _ m=>m)<|ab<|ae<|ai<| ?_
 refine hx (bQ Tryz.underlying27 fi rfl rfl rfl (by simp[Value.cells,B8]) (by decide) (by decide) (fun g7=> ?_))
 have hA_b7:0<2→(some (⟨g7,0,none⟩:Addr))≠none:=fun _ h=>by cases h
 refine aG rfl<|ag<|aB [4,3,2,0] rfl<|aj (X' :=[_,_]) (S' :=[_]) (fun _ m=>m)<|ab<|ae<|ai<|aw rfl<|aw rfl<|hy (fun _=>aY rfl Tryz.underlying27)<| ?_
 refine hx (aq rfl Tryz.call160 (ET (by omega)) [] rfl [] rfl ?_)
 rintro _ _ _ ⟨v2,rfl,rfl,rfl⟩
 refine az (fun m=>(m.own 0 rfl).slice) ?_
 rintro⟨A_x2,c_x2,rfl,hc_x2⟩
 refine az (fun m=>(m.ord 0 rfl).2.1) fun hA_x2=> ?_
 refine aJ (fun w m=>m.bz 1 rfl (show _=aK 5 1 (.slice (some ⟨g7,0,none⟩) 2 2) 2 (aW [76,0])from rfl)) ?_
 refine hx (bs 0 rfl rfl rfl Tryz.underlying27 Tryz.underlying27 (by exact .inl rfl) fi rfl (fun m=>Src.bJ (m.ord 1 rfl)) bn (by unfold maxLen;omega) (by omega) (fun u=> ?_))
 refine az (fun m=>(m.own 0 rfl).slice) ?_
 rintro⟨A_b7,c_b7,rfl,hc_b7⟩
 refine az (fun m=>(m.ord 0 rfl).2.1) fun hA_b7=> ?_
 refine aG rfl<|ag<|aB [4,3,2,0] rfl<|aj (X' :=[_,_,_]) (S' :=[_]) (fun _ m=>m)<|ab<|ae<|ae<|ai<|aw rfl<|hy (fun _=>aY rfl Tryz.underlying27)<|aw rfl<|hy (fun _=>aY rfl Tryz.underlying27)<|hy (fun _=>bw rfl rfl)<|ag<|aB [17,4,3,2,0] rfl<|ab<| ?_
 refine cB rfl (fun hp=> ?_) (fun hp=> ?_)
 ·have hq:cr l=[76,1]++jY l.length++e8 l++jY (dE l):=by
   have:Cc l=true:=by unfold Cc;exact decide_eq_true (by omega)
   unfold cr oU
   rw[this];rfl
  refine ae<|ai<|aw rfl<|hy (fun _=>aZ rfl rfl Tryz.underlying27 dU hA_b7 (show((1:Nat):Int)=1 from rfl) (by omega))<| ?_
  refine cI (AA 0 rfl rfl rfl dU rfl (by omega) ?_)
  refine ag<|aB [17,4,3,2,0] rfl<|aj (X' :=[_,_,_]) (S' :=[_]) (fun _ m=>m)<|ab<|ai<|aw rfl<|aw rfl<| ?_
  refine aJ (fun w m=>m.bz 0 rfl (show _=aK 5 1 (.slice A_b7 (2+4) c_b7) (2+4) (aW ([76,1]++jY n))from rfl)) ?_
  refine hx (bs 0 rfl rfl rfl Tryz.underlying27 Tryz.underlying27 (by exact .inl rfl) fi rfl (fun m=>Src.bJ (m.ord 2 rfl)) bn (by unfold maxLen;omega) (by omega) (fun u2=> ?_))
  refine az (fun m=>(m.own 0 rfl).slice) ?_
  rintro⟨A_b72,c_b72,rfl,hc_b7⟩
  refine az (fun m=>(m.ord 0 rfl).2.1) fun hA_b7=> ?_
  refine aG rfl<|ag<|aB [4,17,3,2,0] rfl<|aj (X' :=[_,_,_]) (S' :=[_]) (fun _ m=>m)<|ab<|ae<|ai<|aw rfl<|aw rfl<| ?_
  refine hx (aq rfl Tryz.call161 (yK (by omega) (by omega) (by omega)) [] rfl [0] rfl ?_)
  rintro _ _ _ ⟨v3,rfl,rfl,rfl⟩
  refine az (fun m=>(m.own 0 rfl).slice) ?_
  rintro⟨A_x3,c_x3,rfl,hc_x3⟩
  refine az (fun m=>(m.ord 0 rfl).2.1) fun hA_x3=> ?_
  refine hx (bs 1 rfl rfl rfl Tryz.underlying27 Tryz.underlying27 (by exact .inl rfl) fi rfl (fun m=>Src.bJ (m.ord 0 rfl)) bn (by unfold maxLen;omega) (by omega) (fun u3=> ?_))
  refine az (fun m=>(m.own 0 rfl).slice) ?_
  rintro⟨A_b73,c_b73,rfl,hc_b7⟩
  refine az (fun m=>(m.ord 0 rfl).2.1) fun hA_b7=> ?_
  refine aG rfl<|ag<|aB [2,4,17,3,0] rfl<|aj (X' :=[_,_,_,_]) (S' :=[_]) (fun _ m=>m)<|ab<|aV<| ?_
  have hol:2+4+(e8 l).length+4=(cr l).length:=by rw[hq];simp[iI,hl];try omega
  rw[hol]
  have hsl:aW ([76,1]++jY n)++aW (e8 l)++aW (jY (dE l))=aW (cr l):=by rw[hq,hl,bR ([76,1]++jY n++(e8 l)),bR ([76,1]++jY n)]
  rw[hsl]
  exact bc trivial rfl rfl [0] rfl [] rfl ⟨_,rfl,rfl,rfl⟩
 ·have hq:cr l=[76,0]++jY l.length++l++jY (dE l):=by
   have:Cc l=false:=by unfold Cc;exact decide_eq_false (by omega)
   unfold cr oU
   rw[this];rfl
  refine ai<|aw rfl<|aw rfl<| ?_
  refine aJ (fun w m=>m.bz 0 rfl (show _=aK 5 1 (.slice A_b7 (2+4) c_b7) (2+4) (aW ([76,0]++jY n))from rfl)) ?_
  refine hx (bs 0 rfl rfl rfl Tryz.underlying27 Tryz.underlying27 (by exact .inl rfl) fi rfl (fun m=>Src.bJ (m.rd 0 rfl)) bn (by unfold maxLen;omega) (by omega) (fun u2=> ?_))
  refine az (fun m=>(m.own 0 rfl).slice) ?_
  rintro⟨A_b72,c_b72,rfl,hc_b7⟩
  refine az (fun m=>(m.ord 0 rfl).2.1) fun hA_b7=> ?_
  refine aG rfl<|ag<|aB [4,17,3,2,0] rfl<|aj (X' :=[_,_,_]) (S' :=[_]) (fun _ m=>m)<|ab<|ae<|ai<|aw rfl<|aw rfl<| ?_
  refine hx (aq rfl Tryz.call161 (yK (by omega) (by omega) (by omega)) [] rfl [0] rfl ?_)
  rintro _ _ _ ⟨v3,rfl,rfl,rfl⟩
  refine az (fun m=>(m.own 0 rfl).slice) ?_
  rintro⟨A_x3,c_x3,rfl,hc_x3⟩
  refine az (fun m=>(m.ord 0 rfl).2.1) fun hA_x3=> ?_
  refine hx (bs 1 rfl rfl rfl Tryz.underlying27 Tryz.underlying27 (by exact .inl rfl) fi rfl (fun m=>Src.bJ (m.ord 0 rfl)) bn (by unfold maxLen;omega) (by omega) (fun u3=> ?_))
  refine az (fun m=>(m.own 0 rfl).slice) ?_
  rintro⟨A_b73,c_b73,rfl,hc_b7⟩
  refine az (fun m=>(m.ord 0 rfl).2.1) fun hA_b7=> ?_
  refine aG rfl<|ag<|aB [2,4,17,3,0] rfl<|aj (X' :=[_,_,_,_]) (S' :=[_]) (fun _ m=>m)<|ab<|aV<| ?_
  have hol:2+4+n+4=(cr l).length:=by rw[hq];simp[iI,hl];try omega
  rw[hol]
  have hsl:aW ([76,0]++jY n)++aW l++aW (jY (dE l))=aW (cr l):=by rw[hq,hl,bR ([76,0]++jY n++l),bR ([76,0]++jY n)]
  rw[hsl]
  exact bc trivial rfl rfl [0] rfl [] rfl ⟨_,rfl,rfl,rfl⟩
end Go.Proofs.YtmibdabdlgmafaaGreatDoor
end
section
set_option maxRecDepth 20000
set_option maxHeartbeats 4000000
namespace Go.Proofs.YtmibdabdlgmafaaGreatDoor
open Go.Eng Go.Hx
@[reducible]def KA (v:Value) (nn e:Int):List Value:=[v,.int .i64 nn,.int .i64 e]
theorem kv{A:Option Addr}{n c:Nat}{nn e:Int}:∀u∈KA (.slice A n c) nn e,u.oneCell' =true:=by
 intro u hu
 simp only[List.mem_cons,List.not_mem_nil,or_false]at hu
 rcases hu with rfl|rfl|rfl <;> rfl
theorem lG(l:List UInt8)(i j:Nat):(l.drop i).getD j 0=l.getD (i+j) 0:=by simp[List.getD,List.getElem?_drop]
theorem BU{A:Option Addr}{n c:Nat}{l:List UInt8}{z:Int}(hc:n≤c)(hn:n≤10000000)(hl:l.length=n)(hz:z≤10000000):b7 Tryz.prog 217 [.slice A n c,.int .i64 z] [] [cL 1 A n (aW l)] (fun v_ X_ S_=>∃v nn,v_=(.agg (KA v nn (lD z l []).2).toArray)∧X_=[aK 5 1 v (lD z l []).1.length (aW (lD z l []).1)]∧S_=[]):=by
 refine aM (N:=109) Tryz.func217 rfl rfl (by simp) fun b=> ?_
 refine a6 (fun m=>eG (m.rd 0 rfl)) ?_
 rintro⟨hl_r,hA_r⟩
 refine ae<|ai<| ?_
 refine hx (bf pc (fun g4=> ?_))
 refine ag<|aj (X' :=[_]) (S' :=[_]) (fun _ m=>m)<|ab<|ae<|ai<|aG rfl<|ag<|ab<|ae<|ai<|aG rfl<|ag<|ab<|ae<|ae<|ai<|aG rfl<|ag<|ab<|aN<| ?_
 refine bk (fun w m=>m.cQ (r' :=aK 5 1 (.slice none 0 0) 0 []) (.refl _ _) (Own.nil _ _ _ _) (fun k hk=>hk.elim)) ?_
 refine tT (fun i o nn A3 c3=>n-i) (fun i o nn A3 c3=>[(5,.slice A3 (o:List UInt8).length c3),(6,.int .i64 (nn:Nat)),(7,.int .i64 (i:Nat))]) (fun i o nn A3 c3=>[aK 5 1 (.slice A3 o.length c3) o.length (aW o)]) (fun i o nn A3 c3=>[]) (fun i o nn A3 c3=>i≤n∧nn≤i∧o.length≤10000000∧lD z (l.drop i) o=lD z l []) 0 [] 0 none 0 [(4,_),(0,_),(1,_)] ⟨rfl,rfl,rfl,trivial⟩ [0] rfl [] rfl (⟨Nat.zero_le _,Nat.zero_le _,Nat.zero_le _,rfl⟩) ⟨rfl,rfl,rfl,trivial⟩ (fun i o nn A3 c3 ⟨hin,hni,hol,hU⟩=> ?_)
 refine ae<|ae<|ai<|aw rfl<|aw rfl<|hy (fun _=>aY rfl Tryz.underlying27)<|hy (fun _=>bw rfl rfl)<|ag<|aB [14,5,6,7,4,0,1] rfl<|ab<| ?_
 refine cB rfl (fun hlt=> ?_) (fun hlt=> ?_)
 ·have hil:i<l.length:=by omega
  have hq0:l.drop i≠ []:=fun e=>by have:=congrArg List.length e;rw[List.length_drop]at this;simp at this;omega
  have hql:(l.drop i).length=n-i:=by rw[List.length_drop,hl]
  have hg0:(l.drop i).getD 0 0=l.getD i 0:=lG l i 0
  have hc0:=(l.getD i 0).toNat_lt
  refine aC<|ab<|ae<|aN<|ae<|ai<|aw rfl<|aw rfl<|hy (fun _=>aZ rfl rfl Tryz.underlying27 dU hA_r rfl (by omega))<|hy (fun m=>ao rfl iO ((m.rd 0 rfl).cell (bM (by omega))))<|hy (fun _=>bY rfl Tryz.underlying5 Tryz.underlying3 (C3 _))<|aG rfl<|ag<|aB [8,14,5,6,7,4,0,1] rfl<|ab<|ae<|ae<|ai<|aw rfl<|hy (fun _=>bw rfl rfl)<|ag<|aB [23,8,14,5,6,7,4,0,1] rfl<|ab<| ?_
  generalize hc8:(l.getD i 0).toNat=c8 at hc0 hg0 ⊢
  have hc8' :((l.drop i).getD 0 0).toNat=c8:=by rw[lG,Nat.add_zero,hc8]
  refine cB rfl (fun h128=> ?_) (fun h128=> ?_)
  ·have ht:cX (l.drop i)=(c8+2,c8+1,0,decide (c8+2≤n-i)):=by
    unfold cX;rw[hc8',if_pos (by omega),hql]
   refine ae<|ae<|ai<|aw rfl<|aw rfl<|hy (fun _=>aP rfl rfl (bA (by omega) (by omega)))<|hy (fun _=>aP rfl rfl (bA (by omega) (by omega)))<|aw rfl<|hy (fun _=>aY rfl Tryz.underlying27)<|hy (fun _=>cW rfl rfl)<|ag<|aB [30,23,8,14,5,6,7,4,0,1] rfl<|ab<| ?_
   refine cB rfl (fun h30=> ?_) (fun h30=> ?_)
   ·rw[lN hq0 (fun h=>by rw[ht]at h;have:=of_decide_eq_true h.1;omega)]at hU
    rw[←hU]
    refine ae<|ai<|hy (fun _=>bU pc rfl rfl (by kernel_rfl) (.cons (o:=2) (sz:=1) (by kernel_rfl) rfl rfl (Nat.le_of_ble_eq_true rfl) .nil))<| ?_
    refine cI (ba 1 rfl rfl rfl jH rfl kv rfl ?_)
    refine ag<|aB [30,23,8,14,5,6,7,4,0,1] rfl<|aj (X' :=[_,_]) (S' :=[_]) (fun _ m=>m)<|ab<|aV<|ay<|ay<|a7<|ay<|ay<|a7<|ay<| ?_
    refine aj (fun w m=>m.cQ (r' :=aK 5 1 (.slice none 0 0) 0 []) (.refl _ _) (Own.nil _ _ _ _) (fun k hk=>hk.elim)) ?_
    exact eO trivial rfl rfl sF jH rfl (fun m=>(m.aU 1 rfl).au) [0] rfl [] rfl ⟨_,_,rfl,rfl,rfl⟩
   ·have hok:(cX (l.drop i)).2.2.2=true:=by rw[ht];exact decide_eq_true (by omega)
    have hdo:(cX (l.drop i)).2.2.1≤o.length:=by rw[ht];exact Nat.zero_le _
    refine aC<|ab<|ae<|ae<|ai<|aw rfl<|hy (fun _=>aY rfl Tryz.underlying27)<|aw rfl<|hy (fun _=>aP rfl rfl (bA (by omega) (by omega)))<|hy (fun _=>aP rfl rfl (bA (by omega) (by omega)))<|aw rfl<|hy (fun _=>cW rfl rfl)<|ag<|aB [38,30,23,8,14,5,6,7,4,0,1] rfl<|ab<| ?_
    refine cB rfl (fun h38=> ?_) (fun h38=> ?_)
    ·rw[pY hq0 hok hdo (by rw[ht];show z<(o.length:Int)+((c8+1:Nat):Int);omega)]at hU
     rw[←hU]
     refine ae<|ai<|hy (fun _=>bU pc rfl rfl (by kernel_rfl) (.cons (o:=2) (sz:=1) (by kernel_rfl) rfl rfl (Nat.le_of_ble_eq_true rfl) .nil))<| ?_
     refine cI (ba 1 rfl rfl rfl jH rfl kv rfl ?_)
     refine ag<|aB [38,30,23,8,14,5,6,7,4,0,1] rfl<|aj (X' :=[_,_]) (S' :=[_]) (fun _ m=>m)<|ab<|aV<|ay<|ay<|a7<|ay<|ay<|a7<|ay<| ?_
     refine aj (fun w m=>m.cQ (r' :=aK 5 1 (.slice none 0 0) 0 []) (.refl _ _) (Own.nil _ _ _ _) (fun k hk=>hk.elim)) ?_
     exact eO trivial rfl rfl sF jH rfl (fun m=>(m.aU 1 rfl).au) [0] rfl [] rfl ⟨_,_,rfl,rfl,rfl⟩
    ·rw[tc hq0 hok hdo (by rw[ht];show¬z<(o.length:Int)+((c8+1:Nat):Int);omega)]at hU
     have hK:i+1+(c8+1)-(i+1)=c8+1:=by omega
     have hma:made (l.drop i) o=o++(l.drop (i+1)).take (i+1+(c8+1)-(i+1)):=by unfold made;rw[ht,hK,if_pos rfl,List.drop_drop];rfl
     rw[hma,ht,List.drop_drop]at hU
     have hpl:((l.drop (i+1)).take (i+1+(c8+1)-(i+1))).length=i+1+(c8+1)-(i+1):=by rw[List.length_take,List.length_drop];omega
     refine bk (fun w m=>m.fA 0 rfl (View.sub (n:=n) (c:=c) (k:=i+1) (m:=i+1+(c8+1)-(i+1)) (by omega) (by omega))) ?_
     refine a6 (fun m=>eG (m.rd 0 rfl)) ?_
     rintro⟨hl_q,hA_q⟩
     refine aC<|ab<|ae<|ai<|aw rfl<|aw rfl<|aw rfl<|hy (fun _=>aP rfl rfl (bA (by omega) (by omega)))<|aw rfl<|aw rfl<|hy (fun _=>aP rfl rfl (bA (by omega) (by omega)))<|hy (fun _=>aP rfl rfl (bA (by omega) (by omega)))<|hy (fun _=>ey rfl rfl rfl Tryz.underlying27 dU (show((i+1:Nat):Int)=_ by omega) (show((i+1+(c8+1):Nat):Int)=_ by omega) (by omega) (by omega))<| ?_
     refine hx (bs 0 rfl rfl rfl Tryz.underlying27 Tryz.underlying27 (by exact .inl rfl) fi rfl (fun m=>Src.bJ (m.rd 0 rfl)) bn (by unfold maxLen;omega) (by omega) (fun u=> ?_))
     refine az (fun m=>(m.own 0 rfl).slice) ?_
     rintro⟨A_x,c_x,rfl,hc_x⟩
     refine az (fun m=>(m.ord 0 rfl).2.1) fun hA_x=> ?_
     have hlm:o.length+(i+1+(c8+1)-(i+1))=(o++(l.drop (i+1)).take (i+1+(c8+1)-(i+1))).length:=by rw[List.length_append,hpl]
     rw[hlm]at hc_x hA_x ⊢
     refine aJ (fun w m=>m.bz 0 rfl (show _=aK 5 1 (.slice A_x (o++(l.drop (i+1)).take (i+1+(c8+1)-(i+1))).length c_x) (o++(l.drop (i+1)).take (i+1+(c8+1)-(i+1))).length (aW (o++(l.drop (i+1)).take (i+1+(c8+1)-(i+1))))from congrArg (aK _ _ _ _) (by rw[bR]))) ?_
     refine aG rfl<|ag<|aB [5,38,30,23,8,14,6,7,4,0,1] rfl<|aj (X' :=[_,_]) (S' :=[_,_]) (fun _ m=>m)<|ab<|ae<|ai<|aw rfl<|aw rfl<|hy (fun _=>aP rfl rfl (bA (by omega) (by omega)))<|hy (fun _=>yV (aP rfl rfl (bA (by omega) (by omega))) ((show Value.int .i64 _= .int .i64 ((i+(c8+2):Nat):Int) by congr 1)))<|aG rfl<|ag<|aB [7,5,38,30,23,8,14,6,4,0,1] rfl<|ab<|bG<|an<|aE<|ab<|ai<|aw rfl<|hy (fun _=>aP rfl rfl (bA (by omega) (by omega)))<|aG rfl<|ag<|aB [6,7,5,38,30,23,8,14,4,0,1] rfl<| ?_
     refine oJ (i+(c8+2)) (o++(l.drop (i+1)).take (i+1+(c8+1)-(i+1))) (nn+1) A_x c_x ⟨rfl,rfl,rfl,rfl,rfl,rfl,trivial⟩ [0,0] rfl [1] rfl (⟨by omega,by omega,by rw[←hlm];omega,hU⟩) (by omega)
  ·refine aC<|ab<|ae<|ae<|ai<|aw rfl<|hy (fun _=>aP rfl rfl (bA (by omega) (by omega)))<|aw rfl<|hy (fun _=>aY rfl Tryz.underlying27)<|hy (fun _=>cW rfl rfl)<|ag<|aB [58,23,8,14,5,6,7,4,0,1] rfl<|ab<| ?_
   refine cB rfl (fun h58=> ?_) (fun h58=> ?_)
   ·have ht:cX (l.drop i)=(0,0,0,false):=by unfold cX;rw[hc8',if_neg (by omega),if_pos (by omega)]
    rw[lN hq0 (fun h=>by rw[ht]at h;cases h.1)]at hU
    rw[←hU]
    refine ae<|ai<|hy (fun _=>bU pc rfl rfl (by kernel_rfl) (.cons (o:=2) (sz:=1) (by kernel_rfl) rfl rfl (Nat.le_of_ble_eq_true rfl) .nil))<| ?_
    refine cI (ba 1 rfl rfl rfl jH rfl kv rfl ?_)
    refine ag<|aB [58,23,8,14,5,6,7,4,0,1] rfl<|aj (X' :=[_,_]) (S' :=[_]) (fun _ m=>m)<|ab<|aV<|ay<|a7<|ay<|ay<|a7<|ay<| ?_
    refine aj (fun w m=>m.cQ (r' :=aK 5 1 (.slice none 0 0) 0 []) (.refl _ _) (Own.nil _ _ _ _) (fun k hk=>hk.elim)) ?_
    exact eO trivial rfl rfl sF jH rfl (fun m=>(m.aU 1 rfl).au) [0] rfl [] rfl ⟨_,_,rfl,rfl,rfl⟩
   ·have ht:cX (l.drop i)=(3,c8-124,1+(l.getD (i+1) 0).toNat+256*(l.getD (i+2) 0).toNat,true):=by
     unfold cX;rw[hc8',if_neg (by omega),if_neg (by omega),lG,lG]
    have b1:=(l.getD (i+1) 0).toNat_lt
    have b2:=(l.getD (i+2) 0).toNat_lt
    have hok:(cX (l.drop i)).2.2.2=true:=by rw[ht]
    refine aC<|ab<|ae<|cD [] [(0,some 0),(1,some 0),(2,some 0),(3,some 0),(4,some 0),(5,some 0),(6,some 0),(7,some 0),(8,some 0),(9,some 0),(10,some 0),(11,some 0),(12,some 0),(13,some 0),(14,some 0),(15,some 0)] (by kernel_rfl) (by kernel_rfl) rfl 99<|ak (ah rfl)<|ak (ah rfl)<|ak (aP rfl rfl (bA (by omega) (by omega)))<|ak (aZ rfl rfl Tryz.underlying27 dU hA_r (show((i+1:Nat):Int)=_ by omega) (by omega))<|bZ (fun m=>ao rfl iO ((m.rd 0 rfl).cell (bM (by omega))))<|ak (bY rfl Tryz.underlying5 Tryz.underlying3 (C3 _))<|ak (aP rfl rfl (bA (by omega) (by omega)))<|ak (ah rfl)<|ak (ah rfl)<|ak (aP rfl rfl (bA (by omega) (by omega)))<|ak (aZ rfl rfl Tryz.underlying27 dU hA_r (show((i+2:Nat):Int)=_ by omega) (by omega))<|bZ (fun m=>ao rfl iO ((m.rd 0 rfl).cell (bM (by omega))))<|ak (bY rfl Tryz.underlying5 Tryz.underlying3 (C3 _))<|ak (fK rfl rfl (bA (by omega) (by omega)))<|ak (yV (aP rfl rfl (bA (by omega) (by omega))) ((show Value.int .i64 ((1:Int)+((l.getD (i+1) 0).toNat:Int)+256*((l.getD (i+2) 0).toNat:Int))= .int .i64 ((1+(l.getD (i+1) 0).toNat+256*(l.getD (i+2) 0).toNat:Nat):Int) by congr 1)))<|ak (al rfl)<|bq<|aB [9,58,23,8,14,5,6,7,4,0,1] rfl<|ab<|ae<|ae<|ai<|aw rfl<|aw rfl<|hy (fun _=>aY rfl Tryz.underlying27)<|hy (fun _=>cW rfl rfl)<|ag<|aB [78,9,58,23,8,14,5,6,7,4,0,1] rfl<|ab<| ?_
    generalize hdd:1+(l.getD (i+1) 0).toNat+256*(l.getD (i+2) 0).toNat=dd at ht ⊢
    refine cB rfl (fun h78=> ?_) (fun h78=> ?_)
    ·rw[lN hq0 (fun h=>by rw[ht]at h;have h2:dd≤o.length:=h.2;omega)]at hU
     rw[←hU]
     refine ae<|ai<|hy (fun _=>bU pc rfl rfl (by kernel_rfl) (.cons (o:=2) (sz:=1) (by kernel_rfl) rfl rfl (Nat.le_of_ble_eq_true rfl) .nil))<| ?_
     refine cI (ba 1 rfl rfl rfl jH rfl kv rfl ?_)
     refine ag<|aB [78,9,58,23,8,14,5,6,7,4,0,1] rfl<|aj (X' :=[_,_]) (S' :=[_]) (fun _ m=>m)<|ab<|aV<|ay<|a7<|ay<|ay<|a7<|ay<| ?_
     refine aj (fun w m=>m.cQ (r' :=aK 5 1 (.slice none 0 0) 0 []) (.refl _ _) (Own.nil _ _ _ _) (fun k hk=>hk.elim)) ?_
     exact eO trivial rfl rfl sF jH rfl (fun m=>(m.aU 1 rfl).au) [0] rfl [] rfl ⟨_,_,rfl,rfl,rfl⟩
    ·have hdo:(cX (l.drop i)).2.2.1≤o.length:=by rw[ht];show dd≤_;omega
     refine aC<|ab<|ae<|ae<|ai<|aw rfl<|hy (fun _=>aY rfl Tryz.underlying27)<|aw rfl<|hy (fun _=>aP rfl rfl (bA (by omega) (by omega)))<|hy (fun _=>cn rfl rfl (bA (by omega) (by omega)))<|aw rfl<|hy (fun _=>cW rfl rfl)<|ag<|aB [86,78,9,58,23,8,14,5,6,7,4,0,1] rfl<|ab<| ?_
     refine cB rfl (fun h86=> ?_) (fun h86=> ?_)
     ·rw[pY hq0 hok hdo (by rw[ht];show z<(o.length:Int)+((c8-124:Nat):Int);omega)]at hU
      rw[←hU]
      refine ae<|ai<|hy (fun _=>bU pc rfl rfl (by kernel_rfl) (.cons (o:=2) (sz:=1) (by kernel_rfl) rfl rfl (Nat.le_of_ble_eq_true rfl) .nil))<| ?_
      refine cI (ba 1 rfl rfl rfl jH rfl kv rfl ?_)
      refine ag<|aB [86,78,9,58,23,8,14,5,6,7,4,0,1] rfl<|aj (X' :=[_,_]) (S' :=[_]) (fun _ m=>m)<|ab<|aV<|ay<|a7<|ay<|ay<|a7<|ay<| ?_
      refine aj (fun w m=>m.cQ (r' :=aK 5 1 (.slice none 0 0) 0 []) (.refl _ _) (Own.nil _ _ _ _) (fun k hk=>hk.elim)) ?_
      exact eO trivial rfl rfl sF jH rfl (fun m=>(m.aU 1 rfl).au) [0] rfl [] rfl ⟨_,_,rfl,rfl,rfl⟩
     ·rw[tc hq0 hok hdo (by rw[ht];show¬z<(o.length:Int)+((c8-124:Nat):Int);omega)]at hU
      have hma:made (l.drop i) o=again dd (c8-124) o:=by unfold made;rw[ht];exact if_neg (show¬dd=0 by omega)
      rw[hma,ht,List.drop_drop]at hU
      refine aC<|ab<|ae<|ae<|ai<|aG rfl<|ag<|ab<|aN<| ?_
      refine j3 (fun k2 o2 A4 c4=>c8-124-k2) (fun k2 o2 A4 c4=>[(5,.slice A4 (o2:List UInt8).length c4),(10,.int .i64 (k2:Nat))]) (fun k2 o2 A4 c4=>[aK 5 1 (.slice A4 o2.length c4) o2.length (aW o2)]) (fun k2 o2 A4 c4=>[]) (fun k2 o2 A4 c4=>k2≤c8-124∧o2.length=o.length+k2∧again dd (c8-124-k2) o2=again dd (c8-124) o) 0 o A3 c3 [(86,_),(78,_),(9,_),(58,_),(23,_),(8,_),(14,_),(6,_),(7,_),(4,_),(0,_),(1,_)] ⟨rfl,rfl,rfl,rfl,rfl,rfl,rfl,rfl,rfl,rfl,rfl,rfl,trivial⟩ [0] rfl [] rfl (⟨Nat.zero_le _,rfl,rfl⟩) ⟨rfl,rfl,trivial⟩ (fun k2 o2 A4 c4 ⟨hk2,ho2,hag⟩=> ?_)
      refine ae<|ae<|ai<|aw rfl<|aw rfl<|hy (fun _=>cn rfl rfl (bA (by omega) (by omega)))<|hy (fun _=>bw rfl rfl)<|ag<|aB [91,5,10,86,78,9,58,23,8,14,6,7,4,0,1] rfl<|ab<| ?_
      refine cB rfl (fun hk=> ?_) (fun hk=> ?_)
      ·have hk3:k2<c8-124:=by omega
       have hi2:o2.length-dd<o2.length:=by omega
       have hs:again dd (c8-124-k2) o2=again dd (c8-124-(k2+1)) (o2++[o2.getD (o2.length-dd) 0]):=by
        rw[show c8-124-k2=(c8-124-(k2+1))+1 by omega];rfl
       rw[hs]at hag
       refine a6 (fun m=>(m.ord 0 rfl).2.1) fun hA_x=> ?_
       refine aC<|ab<|ae<|aN<|ai<|aw rfl<|aw rfl<|aw rfl<|hy (fun _=>aY rfl Tryz.underlying27)<|aw rfl<|hy (fun _=>cn rfl rfl (bA (by omega) (by omega)))<|hy (fun _=>aZ rfl rfl Tryz.underlying27 dU hA_x (show((o2.length-dd:Nat):Int)=_ by omega) (by omega))<|hy (fun m=>ao rfl iO ((m.ord 0 rfl).cell (bM (by omega))))<| ?_
       refine hx (bQ Tryz.underlying27 fi rfl rfl rfl (by simp[Value.cells,B8]) (by decide) (by decide) (fun g102=> ?_))
       have hA_b102:0<1→(some (⟨g102,0,none⟩:Addr))≠none:=fun _ h=>by cases h
       refine aJ (fun w m=>m.bz 0 rfl (show _=aK 5 1 (.slice (some ⟨g102,0,none⟩) 1 1) 1 (aW [o2.getD (o2.length-dd) 0])from rfl)) ?_
       refine hx (bs 1 rfl rfl rfl Tryz.underlying27 Tryz.underlying27 (by exact .inl rfl) fi rfl (fun m=>Src.bJ (m.ord 0 rfl)) bn (by unfold maxLen;omega) (by omega) (fun u=> ?_))
       refine az (fun m=>(m.own 0 rfl).slice) ?_
       rintro⟨A_x,c_x,rfl,hc_x⟩
       refine az (fun m=>(m.ord 0 rfl).2.1) fun hA_x=> ?_
       have hlm:o2.length+1=(o2++[o2.getD (o2.length-dd) 0]).length:=by rw[List.length_append];rfl
       rw[hlm]at hc_x hA_x ⊢
       refine aJ (fun w m=>m.bz 0 rfl (show _=aK 5 1 (.slice A_x (o2++[o2.getD (o2.length-dd) 0]).length c_x) (o2++[o2.getD (o2.length-dd) 0]).length (aW (o2++[o2.getD (o2.length-dd) 0]))from congrArg (aK _ _ _ _) (by rw[bR]))) ?_
       refine aG rfl<|ag<|aB [5,91,10,86,78,9,58,23,8,14,6,7,4,0,1] rfl<|aj (X' :=[_,_,_]) (S' :=[_]) (fun _ m=>m)<|aS<|ab<|ai<|aw rfl<|hy (fun _=>aP rfl rfl (bA (by omega) (by omega)))<|aG rfl<|ag<|aB [10,5,91,86,78,9,58,23,8,14,6,7,4,0,1] rfl<| ?_
       refine ej (k2+1) (o2++[o2.getD (o2.length-dd) 0]) A_x c_x ⟨rfl,rfl,rfl,rfl,rfl,rfl,rfl,rfl,rfl,rfl,rfl,rfl,rfl,rfl,trivial⟩ [0,1] rfl [0] rfl (⟨by omega,by rw[←hlm];omega,hag⟩) (by omega)
      ·obtain rfl:k2=c8-124:=by omega
       rw[Nat.sub_self]at hag
       have hag:o2=again dd (c8-124) o:=hag
       rw[←hag]at hU
       refine bG<|an<|an<|aE<|ab<|ai<|aw rfl<|hy (fun _=>yV (aP rfl rfl (bA (by omega) (by omega))) ((show Value.int .i64 _= .int .i64 ((i+3:Nat):Int) by congr 1)))<|aG rfl<|ag<|aB [7,91,5,10,86,78,9,58,23,8,14,6,4,0,1] rfl<|aS<|ab<|ai<|aw rfl<|hy (fun _=>aP rfl rfl (bA (by omega) (by omega)))<|aG rfl<|ag<|aB [6,7,91,5,10,86,78,9,58,23,8,14,4,0,1] rfl<| ?_
       refine oJ (i+3) o2 (nn+1) A4 c4 ⟨rfl,rfl,rfl,rfl,rfl,rfl,trivial⟩ [0,0] rfl [0] rfl (⟨by omega,by omega,by omega,hU⟩) (by omega)
 ·obtain rfl:i=n:=by omega
  rw[List.drop_of_length_le (by omega),ub]at hU
  rw[←hU]
  refine bG<|an<|an<|aE<|ab<|ae<|ai<|aw rfl<|aw rfl<|hy (fun _=>bU pc rfl rfl (by kernel_rfl) (.cons (o:=0) (sz:=1) (by kernel_rfl) rfl rfl (Nat.le_of_ble_eq_true rfl) (.cons (o:=1) (sz:=1) (by kernel_rfl) rfl rfl (Nat.le_of_ble_eq_true rfl) .nil)))<| ?_
  refine cI (ba 1 rfl rfl rfl jH rfl kv rfl ?_)
  refine ag<|aB [14,5,6,7,4,0,1] rfl<|aj (X' :=[_,_]) (S' :=[_]) (fun _ m=>m)<|ab<|aV<| ?_
  exact eO trivial rfl rfl sF jH rfl (fun m=>(m.aU 0 rfl).au) [1] rfl [] rfl ⟨_,_,rfl,rfl,rfl⟩
end Go.Proofs.YtmibdabdlgmafaaGreatDoor
end
section
set_option maxRecDepth 20000
set_option maxHeartbeats 4000000
namespace Go.Proofs.YtmibdabdlgmafaaGreatDoor
open Go.Eng Go.Hx
def BF(f:List UInt8):Int:=match iF f with|none=>-1|some k=>(k:Nat)
theorem lK{f:List UInt8}(h:iF f=none):BF f=-1:=by unfold BF;rw[h]
theorem sE{f:List UInt8}{k:Nat}(h:iF f=some k):BF f=(k:Nat):=by unfold BF;rw[h]
theorem IL{A:Option Addr}{n c:Nat}{f:List UInt8}(hl:f.length=n)(hn:n≤10000000):b7 Tryz.prog 216 [.slice A n c] [] [cL 1 A n (aW f)] (fun v_ X_ S_=>v_=(.int .i64 (BF f))∧X_=[]∧S_=[]):=by
 have hv:pE (f.drop 2)=(f.getD 2 0).toNat+256*(f.getD 3 0).toNat+65536*(f.getD 4 0).toNat+16777216*(f.getD 5 0).toNat:=by simp[pE,List.getD]
 have b0:=(f.getD 2 0).toNat_lt
 have b1:=(f.getD 3 0).toNat_lt
 have b2:=(f.getD 4 0).toNat_lt
 have b3:=(f.getD 5 0).toNat_lt
 have h76:(((f.getD 0 0).toNat:Int)≠76)↔f.getD 0 0≠76:=by
  constructor
  ·intro h e;rw[e]at h;exact h rfl
  ·intro h e;exact h (UInt8.toNat_inj.1 (by rw[show(76:UInt8).toNat=76 from rfl];omega))
 refine aM (N:=40) Tryz.func216 rfl rfl (by simp) fun b=> ?_
 refine a6 (fun m=>eG (m.rd 0 rfl)) ?_
 rintro⟨hl_r,hA_r⟩
 by_cases h1:f.length<10
 ·rw[lK (if_pos (.inl h1))]
  refine ae<|ai<|aG rfl<|ag<|ab<|ae<|ae<|ai<|aw rfl<|hy (fun _=>aY rfl Tryz.underlying27)<|hy (fun _=>yT (bw rfl rfl) ((decide_eq_true (by omega))))<|aw rfl<|bg rfl rfl rfl (by decide)<|bg rfl rfl rfl (by decide)<|bg rfl rfl rfl (by decide)<|bg rfl rfl rfl (by decide)<|hy (fun _=>bC rfl rfl)<|aw rfl<|bg rfl rfl rfl (by decide)<|bg rfl rfl rfl (by decide)<|bg rfl rfl rfl (by decide)<|bg rfl rfl rfl (by decide)<|hy (fun _=>bC rfl rfl)<|ag<|aB [17,2,0] rfl<|ab<| ?_
  refine fq rfl (rfl) ?_
  refine ae<|ai<|aG rfl<|ag<|ab<|aV<|ay<| ?_
  exact bc trivial rfl rfl [] rfl [] rfl ⟨rfl,rfl,rfl⟩
 ·by_cases h2:f.getD 0 0≠76
  ·rw[lK (if_pos (.inr (.inl h2)))]
   refine ae<|ai<|aG rfl<|ag<|ab<|ae<|ae<|ai<|aw rfl<|hy (fun _=>aY rfl Tryz.underlying27)<|hy (fun _=>yF (bw rfl rfl) ((decide_eq_false (by omega))))<|aw rfl<|cy (o:=_) rfl rfl rfl (fun _=>ah rfl)<|cy (o:=_) rfl rfl rfl (fun _=>aZ rfl rfl Tryz.underlying27 dU hA_r (show((0:Nat):Int)=0 from rfl) (by omega))<|cy (o:=_) rfl rfl rfl (fun m=>ao rfl iO ((m.rd 0 rfl).cell (bM (by omega))))<|cy (o:=_) rfl rfl rfl (fun _=>yT (cT rfl rfl) ((decide_eq_true (h76.2 h2))))<|hy (fun _=>bo rfl rfl)<|aw rfl<|bg rfl rfl rfl (by decide)<|bg rfl rfl rfl (by decide)<|bg rfl rfl rfl (by decide)<|bg rfl rfl rfl (by decide)<|hy (fun _=>bC rfl rfl)<|ag<|aB [17,2,0] rfl<|ab<| ?_
   refine fq rfl (rfl) ?_
   refine ae<|ai<|aG rfl<|ag<|ab<|aV<|ay<| ?_
   exact bc trivial rfl rfl [] rfl [] rfl ⟨rfl,rfl,rfl⟩
  ·by_cases h3:1<(f.getD 1 0).toNat
   ·rw[lK (if_pos (.inr (.inr h3)))]
    refine ae<|ai<|aG rfl<|ag<|ab<|ae<|ae<|ai<|aw rfl<|hy (fun _=>aY rfl Tryz.underlying27)<|hy (fun _=>yF (bw rfl rfl) ((decide_eq_false (by omega))))<|aw rfl<|cy (o:=_) rfl rfl rfl (fun _=>ah rfl)<|cy (o:=_) rfl rfl rfl (fun _=>aZ rfl rfl Tryz.underlying27 dU hA_r (show((0:Nat):Int)=0 from rfl) (by omega))<|cy (o:=_) rfl rfl rfl (fun m=>ao rfl iO ((m.rd 0 rfl).cell (bM (by omega))))<|cy (o:=_) rfl rfl rfl (fun _=>yF (cT rfl rfl) ((decide_eq_false (fun q=>h2 (h76.1 q)))))<|hy (fun _=>bo rfl rfl)<|aw rfl<|cy (o:=_) rfl rfl rfl (fun _=>ah rfl)<|cy (o:=_) rfl rfl rfl (fun _=>aZ rfl rfl Tryz.underlying27 dU hA_r (show((1:Nat):Int)=1 from rfl) (by omega))<|cy (o:=_) rfl rfl rfl (fun m=>ao rfl iO ((m.rd 0 rfl).cell (bM (by omega))))<|cy (o:=_) rfl rfl rfl (fun _=>yT (cW rfl rfl) ((decide_eq_true (by omega))))<|hy (fun _=>bo rfl rfl)<|ag<|aB [17,2,0] rfl<|ab<| ?_
    refine fq rfl (rfl) ?_
    refine ae<|ai<|aG rfl<|ag<|ab<|aV<|ay<| ?_
    exact bc trivial rfl rfl [] rfl [] rfl ⟨rfl,rfl,rfl⟩
   ·refine ae<|ai<|aG rfl<|ag<|ab<|ae<|ae<|ai<|aw rfl<|hy (fun _=>aY rfl Tryz.underlying27)<|hy (fun _=>yF (bw rfl rfl) ((decide_eq_false (by omega))))<|aw rfl<|cy (o:=_) rfl rfl rfl (fun _=>ah rfl)<|cy (o:=_) rfl rfl rfl (fun _=>aZ rfl rfl Tryz.underlying27 dU hA_r (show((0:Nat):Int)=0 from rfl) (by omega))<|cy (o:=_) rfl rfl rfl (fun m=>ao rfl iO ((m.rd 0 rfl).cell (bM (by omega))))<|cy (o:=_) rfl rfl rfl (fun _=>yF (cT rfl rfl) ((decide_eq_false (fun q=>h2 (h76.1 q)))))<|hy (fun _=>bo rfl rfl)<|aw rfl<|cy (o:=_) rfl rfl rfl (fun _=>ah rfl)<|cy (o:=_) rfl rfl rfl (fun _=>aZ rfl rfl Tryz.underlying27 dU hA_r (show((1:Nat):Int)=1 from rfl) (by omega))<|cy (o:=_) rfl rfl rfl (fun m=>ao rfl iO ((m.rd 0 rfl).cell (bM (by omega))))<|cy (o:=_) rfl rfl rfl (fun _=>yF (cW rfl rfl) ((decide_eq_false (by omega))))<|hy (fun _=>bo rfl rfl)<|ag<|aB [17,2,0] rfl<|ab<| ?_
    refine cN rfl (rfl) ?_
    have hL:iF f=some (pE (f.drop 2)):=if_neg (fun q=>q.elim h1 (fun q=>q.elim h2 h3))
    rw[sE hL]
    refine aC<|ab<|ae<|cD [] [(0,some 0),(1,some 0),(2,some 0),(3,some 0),(4,some 0),(5,some 0),(6,some 0),(7,some 0),(8,some 0),(9,some 0),(10,some 0),(11,some 0),(12,some 0),(13,some 0),(14,some 0),(15,some 0),(16,some 0),(17,some 0),(18,some 0),(19,some 0),(20,some 0),(21,some 0),(22,some 0)] (by kernel_rfl) (by kernel_rfl) rfl 99<|ak (ah rfl)<|ak (aZ rfl rfl Tryz.underlying27 dU hA_r (show((2:Nat):Int)=2 from rfl) (by omega))<|bZ (fun m=>ao rfl iO ((m.rd 0 rfl).cell (bM (by omega))))<|ak (bY rfl Tryz.underlying5 Tryz.underlying3 (C3 _))<|ak (ah rfl)<|ak (aZ rfl rfl Tryz.underlying27 dU hA_r (show((3:Nat):Int)=3 from rfl) (by omega))<|bZ (fun m=>ao rfl iO ((m.rd 0 rfl).cell (bM (by omega))))<|ak (bY rfl Tryz.underlying5 Tryz.underlying3 (C3 _))<|ak (fK rfl rfl (bA (by omega) (by omega)))<|ak (aP rfl rfl (bA (by omega) (by omega)))<|ak (ah rfl)<|ak (aZ rfl rfl Tryz.underlying27 dU hA_r (show((4:Nat):Int)=4 from rfl) (by omega))<|bZ (fun m=>ao rfl iO ((m.rd 0 rfl).cell (bM (by omega))))<|ak (bY rfl Tryz.underlying5 Tryz.underlying3 (C3 _))<|ak (fK rfl rfl (bA (by omega) (by omega)))<|ak (aP rfl rfl (bA (by omega) (by omega)))<|ak (ah rfl)<|ak (aZ rfl rfl Tryz.underlying27 dU hA_r (show((5:Nat):Int)=5 from rfl) (by omega))<|bZ (fun m=>ao rfl iO ((m.rd 0 rfl).cell (bM (by omega))))<|ak (bY rfl Tryz.underlying5 Tryz.underlying3 (C3 _))<|ak (fK rfl rfl (bA (by omega) (by omega)))<|ak (yV (aP rfl rfl (bA (by omega) (by omega))) ((show Value.int .i64 (((f.getD 2 0).toNat:Int)+256*((f.getD 3 0).toNat:Int)+65536*((f.getD 4 0).toNat:Int)+16777216*((f.getD 5 0).toNat:Int))= .int .i64 (pE (f.drop 2):Nat) by rw[hv];congr 1)))<|ak (al rfl)<|bq<|aB [2,17,0] rfl<|ab<|aV<| ?_
    exact bc trivial rfl rfl [] rfl [] rfl ⟨rfl,rfl,rfl⟩
theorem nk{f u:List UInt8}{k:Nat}(h:zB f k=(u,0)):gV f k=if u.length≠k then([],2)else if jY (dE u)≠f.drop (f.length-4)then([],7)else(u,0):=by
 unfold gV
 rw[h]
 exact if_neg (by simp)
theorem Br{f:List UInt8}{k:Nat}(h:(zB f k).2≠0):gV f k=([],2):=by
 unfold gV
 exact if_pos h
theorem Hz{A:Option Addr}{n c:Nat}{f:List UInt8}{most:Int}(hc:n≤c)(hl:f.length=n)(hn:n≤10000000)(hm:most≤1000000):b7 Tryz.prog 156 [.slice A n c,.int .i64 most] [] [cL 1 A n (aW f)] (fun v_ X_ S_=>∃A1 c1,v_=(.tuple #[.slice A1 (dx f most).1.length c1,.int .i64 (dx f most).2])∧X_=[]∧S_=[cL 1 A1 (dx f most).1.length (aW (dx f most).1)]∧((dx f most).1.length≤c1)):=by
 refine aM (N:=48) Tryz.func156 rfl rfl (by simp) fun b=> ?_
 refine a6 (fun m=>eG (m.rd 0 rfl)) ?_
 rintro⟨hl_r,hA_r⟩
 refine ae<|ai<|aG rfl<|aG rfl<|ag<|ab<|ae<|ai<|aw rfl<| ?_
 refine hx (aq rfl Tryz.call216 (IL hl hn) [] rfl [0] rfl ?_)
 rintro _ _ _ ⟨rfl,rfl,rfl⟩
 refine aG rfl<|ag<|aB [6,5,4,0,1] rfl<|aj (X' :=[]) (S' :=[_]) (fun _ m=>m)<|ab<|ae<|ae<|ai<|aw rfl<|hy (fun _=>bw rfl rfl)<|ag<|aB [12,6,5,4,0,1] rfl<|ab<| ?_
 rcases hL:iF f with _|k
 ·refine fq rfl ((decide_eq_true (by rw[lK hL];decide))) ?_
  rw[(rp hL)]
  refine ae<|ai<|aG rfl<|aG rfl<|ag<|ab<|aV<|ay<| ?_
  refine aj (fun w m=>m.rm (r' :=cL 1 none 0 []) (.refl _ _) (Rd.nil _ _ _) (fun k hk=>absurd rfl hk.1)) ?_
  have hA_z:0<0→(none:Option Addr)≠none:=fun h=>absurd h (by decide)
  exact db trivial rfl rfl rfl [] rfl [0] rfl ⟨none,0,rfl,rfl,rfl,(Nat.le_refl _)⟩
 ·rw[sE hL]
  refine cN rfl ((decide_eq_false (by omega))) ?_
  refine aC<|ab<|ae<|ae<|ai<|aw rfl<|aw rfl<|hy (fun _=>cW rfl rfl)<|ag<|aB [15,12,6,5,4,0,1] rfl<|ab<| ?_
  refine cB rfl (fun hfar=> ?_) (fun hfar=> ?_)
  ·rw[(rP hL (by omega))]
   refine ae<|ai<|aG rfl<|aG rfl<|ag<|ab<|aV<|ay<| ?_
   refine aj (fun w m=>m.rm (r' :=cL 1 none 0 []) (.refl _ _) (Rd.nil _ _ _) (fun k hk=>absurd rfl hk.1)) ?_
   have hA_z:0<0→(none:Option Addr)≠none:=fun h=>absurd h (by decide)
   exact db trivial rfl rfl rfl [] rfl [0] rfl ⟨none,0,rfl,rfl,rfl,(Nat.le_refl _)⟩
  ·obtain⟨h10,hk32⟩:=uJ hL
   have hopen:=vH hL (by omega)
   refine bk (fun w m=>m.fA 0 rfl (View.sub (n:=n) (c:=c) (k:=6) (m:=n-4-6) (by omega) (by omega))) ?_
   refine a6 (fun m=>eG (m.rd 0 rfl)) ?_
   rintro⟨hl_p,hA_p⟩
   have hbl:n-4-6=(dR f).length:=by unfold dR;rw[List.length_take,List.length_drop];omega
   have hb2:(f.drop 6).take (n-4-6)=dR f:=by unfold dR;rw[show n-4-6=f.length-10 by omega]
   rw[hb2]
   refine aC<|ab<|ae<|ai<|aw rfl<|aw rfl<|hy (fun _=>aY rfl Tryz.underlying27)<|hy (fun _=>cn rfl rfl (bA (by omega) (by omega)))<|hy (fun _=>ey rfl rfl rfl Tryz.underlying27 dU (show((6:Nat):Int)=6 from rfl) (show((n-4:Nat):Int)=_ by omega) (by omega) (by omega))<|aG rfl<|ag<|aB [7,15,12,6,5,4,0,1] rfl<|ab<|ae<|ae<|ai<|aw rfl<|hy (fun _=>aZ rfl rfl Tryz.underlying27 dU hA_r (show((1:Nat):Int)=1 from rfl) (by omega))<|hy (fun m=>ao rfl iO ((m.rd 1 rfl).cell (bM (by omega))))<|hy (fun _=>cx rfl rfl)<|ag<|aB [24,7,15,12,6,5,4,0,1] rfl<|ab<| ?_
   refine cB rfl (fun h1=> ?_) (fun h1=> ?_)
   ·have hf1:f.getD 1 0=1:=UInt8.toNat_inj.1 (by rw[show(1:UInt8).toNat=1 from rfl];omega)
    have hun:zB f k=lD k (dR f) []:=if_pos hf1
    refine ae<|ai<|aw rfl<|aw rfl<| ?_
    refine hx (aq rfl Tryz.call217 (BU (show n-4-6≤c-6 by omega) (by omega) hbl.symm (show(k:Int)≤10000000 by omega) (l:=(dR f))) [] rfl [0] rfl ?_)
    rintro _ _ _ ⟨v,nn,rfl,rfl,rfl⟩
    refine az (fun m=>(m.own 0 rfl).slice) ?_
    rintro⟨A_x,c_x,rfl,hc_x⟩
    refine az (fun m=>(m.ord 0 rfl).2.1) fun hA_x=> ?_
    refine hx (bf pc (fun g8=> ?_))
    refine cI (ba 0 rfl rfl rfl jH rfl kv rfl ?_)
    refine ag<|aB [8,24,7,15,12,6,5,4,0,1] rfl<|aj (X' :=[_,_]) (S' :=[_,_]) (fun _ m=>m)<|ab<|ae<|ae<|ai<|hy (fun _=>aF rfl Da (by decide))<|hy (fun m=>ao rfl lU (aA (m.aU 0 rfl) (i:=2) rfl))<|hy (fun _=>cT rfl rfl)<|ag<|aB [30,8,24,7,15,12,6,5,4,0,1] rfl<|ab<| ?_
    refine cB rfl (fun he=> ?_) (fun he=> ?_)
    ·have hz:dx f most=([],2):=by rw[hopen,Br (by rw[hun];exact he)]
     rw[hz]
     refine ae<|ai<|aG rfl<|aG rfl<|ag<|ab<|aV<|ay<|ay<| ?_
     refine aj (fun w m=>m.rm (r' :=cL 1 none 0 []) (.refl _ _) (Rd.nil _ _ _) (fun k hk=>absurd rfl hk.1)) ?_
     have hA_z:0<0→(none:Option Addr)≠none:=fun h=>absurd h (by decide)
     exact db trivial rfl rfl rfl [] rfl [0] rfl ⟨none,0,rfl,rfl,rfl,(Nat.le_refl _)⟩
    ·have he:=Decidable.not_not.1 he
     have hun2:zB f k=((lD k (dR f) []).1,0):=by rw[hun];exact Prod.ext rfl he
     refine bk (fun w m=>(m.perm (ar [1] _ [_] _ rfl)).freeze) ?_
     refine bk (fun w m=>m.fA 0 rfl .own) ?_
     generalize(lD k (dR f) []).1=u at hc_x hA_x hun2 ⊢
     refine aC<|ab<|ai<|hy (fun _=>aF rfl ED (by decide))<|hy (fun m=>ao rfl dB (aA (m.aU 0 rfl) (i:=0) rfl))<|aG rfl<|ag<|aB [7,30,8,24,15,12,6,5,4,0,1] rfl<|ab<|ae<|ae<|ai<|aw rfl<|hy (fun _=>aY rfl Tryz.underlying27)<|aw rfl<|hy (fun _=>cT rfl rfl)<|ag<|aB [36,7,30,8,24,15,12,6,5,4,0,1] rfl<|ab<| ?_
     refine cB rfl (fun h36=> ?_) (fun h36=> ?_)
     ·have hz:dx f most=([],2):=by rw[hopen,nk hun2];exact if_pos (by omega)
      rw[hz]
      refine ae<|ai<|aG rfl<|aG rfl<|ag<|ab<|aV<|ay<| ?_
      refine aj (fun w m=>m.rm (r' :=cL 1 none 0 []) (.refl _ _) (Rd.nil _ _ _) (fun k hk=>absurd rfl hk.1)) ?_
      have hA_z:0<0→(none:Option Addr)≠none:=fun h=>absurd h (by decide)
      exact db trivial rfl rfl rfl [] rfl [0] rfl ⟨none,0,rfl,rfl,rfl,(Nat.le_refl _)⟩
     ·have hlu:(u).length=k:=by omega
      have hgo:dx f most=if jY (dE u)≠f.drop (f.length-4)then([],7)else(u,0):=by rw[hopen,nk hun2];exact if_neg (fun q=>q hlu)
      refine bk (fun w m=>m.fA 3 rfl (View.drop (n:=n) (c:=c) (k:=n-4) (by omega) (by omega))) ?_
      refine a6 (fun m=>eG (m.rd 0 rfl)) ?_
      rintro⟨hl_e4,hA_e4⟩
      refine aC<|ab<|ae<|ae<|cD [1,2] [(0,some 0),(3,some 2),(4,some 2),(5,some 2),(6,some 2),(7,some 2),(8,some 2),(1,none),(2,none),(9,some 2)] (by kernel_rfl) (by kernel_rfl) rfl 99<|ak (ah rfl)<|ak (ah rfl)<|ak (ah rfl)<|ak (aY rfl Tryz.underlying27)<|ak (cn rfl rfl (bA (by omega) (by omega)))<|ak (dP rfl rfl Tryz.underlying27 dU (show((n-4:Nat):Int)=_ by omega) (by omega))<|bZ (fun m=>ma rfl Tryz.underlying27 Tryz.underlying5 Tryz.underlying9 (m.rd 0 rfl))<| ?_
      refine dF (aq rfl Tryz.call161 (yK hc_x (by omega) rfl (l:=u)) [] rfl [1] rfl ?_)
      rintro _ _ _ ⟨v2,rfl,rfl,rfl⟩
      refine⟨(fun _=>wk [1] [0,1,2,3,4] rfl rfl), ?_⟩
      refine cd (fun m=>(m.own 0 rfl).slice) ?_
      rintro⟨A_x2,c_x2,rfl,hc_x2⟩
      refine cd (fun m=>(m.ord 0 rfl).2.1) fun hA_x2=> ?_
      refine Em (fun _=>wk [1] [0,1,2,3,4] rfl rfl) (fun m=>ma rfl Tryz.underlying27 Tryz.underlying5 Tryz.underlying9 (m.ord 0 rfl))<|ak (qN rfl rfl)<|bq<|aB [46,36,7,30,8,24,15,12,6,5,4,0,1] rfl<|aj (X' :=[_,_]) (S' :=[_,_,_,_,_]) (fun _ m=>m)<|ab<| ?_
      refine cB rfl (fun h46=> ?_) (fun h46=> ?_)
      ·have hz:dx f most=([],7):=by rw[hgo];exact if_pos (fun e=>h46 (by rw[e,hl]))
       rw[hz]
       refine ae<|ai<|aG rfl<|aG rfl<|ag<|ab<|aV<|ay<| ?_
       refine aj (fun w m=>m.rm (r' :=cL 1 none 0 []) (.refl _ _) (Rd.nil _ _ _) (fun k hk=>absurd rfl hk.1)) ?_
       have hA_z:0<0→(none:Option Addr)≠none:=fun h=>absurd h (by decide)
       exact db trivial rfl rfl rfl [] rfl [0] rfl ⟨none,0,rfl,rfl,rfl,(Nat.le_refl _)⟩
      ·have h46:=cJ.1 (Decidable.not_not.1 h46)
       have hz:dx f most=(u,0):=by rw[hgo];exact if_neg (fun q=>q (by rw[h46,hl]))
       rw[hz]
       refine aC<|ab<|ae<|ai<|aw rfl<|aG rfl<|aG rfl<|ag<|aB [5,4,46,36,7,30,8,24,15,12,6,0,1] rfl<|ab<|aV<| ?_
       exact db trivial rfl rfl rfl [] rfl [1] rfl ⟨_,_,rfl,rfl,rfl,hc_x⟩
   ·have hf1:¬f.getD 1 0=1:=fun q=>h1 (by rw[q];rfl)
    have hun:zB f k=(dR f,0):=if_neg hf1
    rw[hbl]
    refine aC<|ab<|ae<|ae<|ai<|aw rfl<|hy (fun _=>aY rfl Tryz.underlying27)<|aw rfl<|hy (fun _=>cT rfl rfl)<|ag<|aB [36,24,7,15,12,6,5,4,0,1] rfl<|ab<| ?_
    refine cB rfl (fun h36=> ?_) (fun h36=> ?_)
    ·have hz:dx f most=([],2):=by rw[hopen,nk hun];exact if_pos (by omega)
     rw[hz]
     refine ae<|ai<|aG rfl<|aG rfl<|ag<|ab<|aV<|ay<| ?_
     refine aj (fun w m=>m.rm (r' :=cL 1 none 0 []) (.refl _ _) (Rd.nil _ _ _) (fun k hk=>absurd rfl hk.1)) ?_
     have hA_z:0<0→(none:Option Addr)≠none:=fun h=>absurd h (by decide)
     exact db trivial rfl rfl rfl [] rfl [0] rfl ⟨none,0,rfl,rfl,rfl,(Nat.le_refl _)⟩
    ·have hlu:((dR f)).length=k:=by omega
     have hgo:dx f most=if jY (dE (dR f))≠f.drop (f.length-4)then([],7)else((dR f),0):=by rw[hopen,nk hun];exact if_neg (fun q=>q hlu)
     refine bk (fun w m=>m.fA 1 rfl (View.drop (n:=n) (c:=c) (k:=n-4) (by omega) (by omega))) ?_
     refine a6 (fun m=>eG (m.rd 0 rfl)) ?_
     rintro⟨hl_e4,hA_e4⟩
     refine aC<|ab<|ae<|ae<|cD [1,2] [(0,some 0),(3,some 2),(4,some 2),(5,some 2),(6,some 2),(7,some 2),(8,some 2),(1,none),(2,none),(9,some 2)] (by kernel_rfl) (by kernel_rfl) rfl 99<|ak (ah rfl)<|ak (ah rfl)<|ak (ah rfl)<|ak (aY rfl Tryz.underlying27)<|ak (cn rfl rfl (bA (by omega) (by omega)))<|ak (dP rfl rfl Tryz.underlying27 dU (show((n-4:Nat):Int)=_ by omega) (by omega))<|bZ (fun m=>ma rfl Tryz.underlying27 Tryz.underlying5 Tryz.underlying9 (m.rd 0 rfl))<| ?_
     refine dF (aq rfl Tryz.call161 (yK (show(dR f).length≤c-6 by omega) (by omega) rfl (l:=(dR f))) [] rfl [1] rfl ?_)
     rintro _ _ _ ⟨v,rfl,rfl,rfl⟩
     refine⟨(fun _=>wk [] [0,1,2] rfl rfl), ?_⟩
     refine cd (fun m=>(m.own 0 rfl).slice) ?_
     rintro⟨A_x,c_x,rfl,hc_x⟩
     refine cd (fun m=>(m.ord 0 rfl).2.1) fun hA_x=> ?_
     refine Em (fun _=>wk [] [0,1,2] rfl rfl) (fun m=>ma rfl Tryz.underlying27 Tryz.underlying5 Tryz.underlying9 (m.ord 0 rfl))<|ak (qN rfl rfl)<|bq<|aB [46,36,24,7,15,12,6,5,4,0,1] rfl<|aj (X' :=[_]) (S' :=[_,_,_]) (fun _ m=>m)<|ab<| ?_
     refine cB rfl (fun h46=> ?_) (fun h46=> ?_)
     ·have hz:dx f most=([],7):=by rw[hgo];exact if_pos (fun e=>h46 (by rw[e,hl]))
      rw[hz]
      refine ae<|ai<|aG rfl<|aG rfl<|ag<|ab<|aV<|ay<| ?_
      refine aj (fun w m=>m.rm (r' :=cL 1 none 0 []) (.refl _ _) (Rd.nil _ _ _) (fun k hk=>absurd rfl hk.1)) ?_
      have hA_z:0<0→(none:Option Addr)≠none:=fun h=>absurd h (by decide)
      exact db trivial rfl rfl rfl [] rfl [0] rfl ⟨none,0,rfl,rfl,rfl,(Nat.le_refl _)⟩
     ·have h46:=cJ.1 (Decidable.not_not.1 h46)
      have hz:dx f most=((dR f),0):=by rw[hgo];exact if_neg (fun q=>q (by rw[h46,hl]))
      rw[hz]
      refine aC<|ab<|ae<|ai<|aw rfl<|aG rfl<|aG rfl<|ag<|aB [5,4,46,36,24,7,15,12,6,0,1] rfl<|ab<|aV<| ?_
      exact db trivial rfl rfl rfl [] rfl [1] rfl ⟨_,_,rfl,rfl,rfl,(show(dR f).length≤c-6 by omega)⟩
end Go.Proofs.YtmibdabdlgmafaaGreatDoor
end
section
set_option maxRecDepth 20000
namespace Go.Proofs.YtmibdabdlgmafaaGreatDoor
open Go.Eng Go.Hx
theorem jn{x:UInt32}{n:Nat}(hn:n≤32):b7 Tryz.prog 204 [Wd x,.int .i64 (n:Int)] [] [] (fun v_ X_ S_=>v_=(Wd (iN n x))∧X_=[]∧S_=[]):=by
 refine aM (N:=18) Tryz.func204 rfl rfl (by simp) fun b=> ?_
 refine ae<|ai<|aG rfl<|ag<|ab<|ae<|ae<|ai<|aG rfl<|ag<|ab<|aN<| ?_
 refine mq (fun i y=>n-i) (fun i y=>[(0,Wd y),(5,.int .i64 (i:Nat))]) (fun i y=>[]) (fun i y=>[]) (fun i y=>i≤n∧y=iN i x) 0 x [(4,_),(1,_)] ⟨rfl,rfl,trivial⟩ [] rfl [] rfl (⟨Nat.zero_le _,(y9 x).symm⟩) ⟨rfl,rfl,trivial⟩ (fun i y ⟨hin,hyv⟩=> ?_)
 refine ae<|ae<|ai<|aw rfl<|aw rfl<|hy (fun _=>bw rfl rfl)<|ag<|aB [8,0,5,4,1] rfl<|ab<| ?_
 refine cB rfl (fun h=> ?_) (fun h=> ?_)
 ·refine aC<|ab<|ae<|aN<|ai<|aw rfl<|hy (fun _=>oh (b:=2) (by decide) rfl rfl)<|aw rfl<|hy (fun _=>wj (b:=2) (by decide) rfl rfl)<|hy (fun _=>mF (b:=2147483648) rfl rfl)<|hy (fun _=>yV (dz rfl rfl) ((rfl:_=Wd (vU y))))<|aG rfl<|ag<|aB [0,8,5,4,1] rfl<|aS<|ab<|ai<|aw rfl<|hy (fun _=>aP rfl rfl (bA (by omega) (by omega)))<|aG rfl<|ag<|aB [5,0,8,4,1] rfl<| ?_
  refine jt (i+1) (vU y) ⟨rfl,rfl,rfl,rfl,trivial⟩ [] rfl [] rfl (⟨by omega,by rw[hyv,zX (by omega)]⟩) (by omega)
 ·obtain rfl:i=n:=by omega
  subst hyv
  refine bG<|an<|an<|aE<|ab<|ae<|ai<|aw rfl<|aG rfl<|ag<|aB [4,8,0,5,1] rfl<|ab<|aV<| ?_
  exact bc trivial rfl rfl [] rfl [] rfl ⟨rfl,rfl,rfl⟩
theorem FW{A:Option Addr}{n c:Nat}{l:List UInt8}{i:Nat}(hi:i+4≤n)(hn:n≤1000000000000):b7 Tryz.prog 203 [.slice A n c,.int .i64 (i:Int)] [] [cL 1 A n (aW l)] (fun v_ X_ S_=>v_=(Wd (lh l i))∧X_=[]∧S_=[]):=by
 refine aM (N:=34) Tryz.func203 rfl rfl (by simp) fun b=> ?_
 refine a6 (fun m=>eG (m.rd 0 rfl)) ?_
 rintro⟨hl_r,hA_r⟩
 have hl:l.length=n:=hl_r
 refine ae<|ai<|aG rfl<|ag<|ab<|ae<|cD [] [(0,some 0),(1,some 0),(2,some 0),(3,some 0),(4,some 0),(5,some 0),(6,some 0),(7,some 0),(8,some 0),(9,some 0),(10,some 0),(11,some 0),(12,some 0),(13,some 0),(14,some 0),(15,some 0),(16,some 0),(17,some 0),(18,some 0),(19,some 0),(20,some 0),(21,some 0),(22,some 0),(23,some 0),(24,some 0),(25,some 0),(26,some 0),(27,some 0),(28,some 0),(29,some 0)] (by kernel_rfl) (by kernel_rfl) rfl 99<|ak (ah rfl)<|ak (ah rfl)<|ak (aZ rfl rfl Tryz.underlying27 dU hA_r rfl (by omega))<|bZ (fun m=>ao rfl iO ((m.rd 0 rfl).cell (bM (by omega))))<|ak (Bp rfl Tryz.underlying5 Tryz.underlying166)<|ak (mF (b:=16777216) rfl rfl)<|ak (ah rfl)<|ak (ah rfl)<|ak (aP rfl rfl (bA (by omega) (by omega)))<|ak (aZ rfl rfl Tryz.underlying27 dU hA_r (show((i+1:Nat):Int)=_ by omega) (by omega))<|bZ (fun m=>ao rfl iO ((m.rd 0 rfl).cell (bM (by omega))))<|ak (Bp rfl Tryz.underlying5 Tryz.underlying166)<|ak (mF (b:=65536) rfl rfl)<|ak (dz rfl rfl)<|ak (ah rfl)<|ak (ah rfl)<|ak (aP rfl rfl (bA (by omega) (by omega)))<|ak (aZ rfl rfl Tryz.underlying27 dU hA_r (show((i+2:Nat):Int)=_ by omega) (by omega))<|bZ (fun m=>ao rfl iO ((m.rd 0 rfl).cell (bM (by omega))))<|ak (Bp rfl Tryz.underlying5 Tryz.underlying166)<|ak (mF (b:=256) rfl rfl)<|ak (dz rfl rfl)<|ak (ah rfl)<|ak (ah rfl)<|ak (aP rfl rfl (bA (by omega) (by omega)))<|ak (aZ rfl rfl Tryz.underlying27 dU hA_r (show((i+3:Nat):Int)=_ by omega) (by omega))<|bZ (fun m=>ao rfl iO ((m.rd 0 rfl).cell (bM (by omega))))<|ak (Bp rfl Tryz.underlying5 Tryz.underlying166)<|ak (yV (dz rfl rfl) ((show Wd ((l.getD i 0).toUInt32*16777216+(l.getD (i+1) 0).toUInt32*65536+(l.getD (i+2) 0).toUInt32*256+(l.getD (i+3) 0).toUInt32)=Wd (lh l i) by rw[zQ])))<|ak (al rfl)<|bq<|aB [4,0,1] rfl<|ab<|aV<| ?_
 exact bc trivial rfl rfl [] rfl [] rfl ⟨rfl,rfl,rfl⟩
theorem Dd:b7 Tryz.prog 202 [] [] [] (fun v_ X_ S_=>∃v,v_=v∧X_=[aK 166 1 v 64 (ee fX)]∧S_=[]):=by
 refine aM (N:=2) Tryz.func202 rfl rfl (by simp) fun b=> ?_
 refine ae<|ai<|aG rfl<|ag<|ab<|ae<|ai<| ?_
 refine hx (bQ Tryz.underlying215 mf rfl rfl rfl (by decide) (by decide) (by decide) (fun g1=> ?_))
 have hA_b1:0<64→(some (⟨g1,0,none⟩:Addr))≠none:=fun _ h=>by cases h
 refine aG rfl<|ag<|aB [0] rfl<|aj (X' :=[_]) (S' :=[]) (fun _ m=>m)<|ab<|aV<| ?_
 refine aj (fun w m=>m.bz 0 rfl (show _=aK 166 1 (.slice (some ⟨g1,0,none⟩) 64 64) 64 (ee fX)from rfl)) ?_
 exact bc trivial rfl rfl [0] rfl [] rfl ⟨_,rfl,rfl,rfl⟩
theorem EU{H:Option Addr}{hc:Nat}{A:Option Addr}{c:Nat}{l:List UInt8}{h:List UInt32}(hcc:64≤c)(hh:h.length=8):b7 Tryz.prog 142 [.slice H 8 hc,.slice A 64 c] [] [cL 1 H 8 (ee h),cL 1 A 64 (aW l)] (fun v_ X_ S_=>∃u,v_=u∧X_=[aK 166 1 u 8 (ee (eF h l))]∧S_=[]):=by
 refine aM (N:=230) Tryz.func142 rfl rfl (by simp) fun b=> ?_
 refine a6 (fun m=>fH (m.rd 0 rfl)) ?_
 rintro⟨hl_q,hA_q⟩
 refine a6 (fun m=>eG (m.rd 1 rfl)) ?_
 rintro⟨hl_r,hA_r⟩
 have hl:l.length=64:=hl_r
 refine ae<|ai<|aG rfl<|ag<|ab<|ae<|ai<| ?_
 refine hx (aq rfl Tryz.call202 (Dd) [] rfl [] rfl ?_)
 rintro _ _ _ ⟨v,rfl,rfl,rfl⟩
 refine az (fun m=>(m.own 0 rfl).slice) ?_
 rintro⟨A_x,c_x,rfl,hc_x⟩
 refine az (fun m=>(m.ord 0 rfl).2.1) fun hA_x=> ?_
 refine aG rfl<|ag<|aB [5,4,0,1] rfl<|aj (X' :=[_]) (S' :=[_,_]) (fun _ m=>m)<|ab<|ae<|ai<|aG rfl<|ag<|ab<|ae<|ae<|ai<|aG rfl<|ag<|ab<|aN<| ?_
 refine bk (fun w m=>m.cQ (r' :=aK 166 1 (.slice none 0 0) 0 []) (.refl _ _) (Own.nil _ _ _ _) (fun k hk=>hk.elim)) ?_
 refine bk (fun w m=>m.bz 0 rfl (show _=aK 166 1 (.slice none 0 0) 0 (ee (wl l 0))from rfl)) ?_
 refine gJ (fun i A1 c1=>16-i) (fun i A1 c1=>[(6,.slice A1 i c1),(7,.int .i64 (i:Nat))]) (fun i A1 c1=>[aK 166 1 (.slice A1 i c1) i (ee (wl l i))]) (fun i A1 c1=>[]) (fun i A1 c1=>i≤16) 0 none 0 [(5,_),(4,_),(0,_),(1,_)] ⟨rfl,rfl,rfl,rfl,trivial⟩ [0] rfl [] rfl (Nat.zero_le _) ⟨rfl,rfl,trivial⟩ (fun i A1 c1 hI=> ?_)
 refine ae<|ae<|ai<|aw rfl<|hy (fun _=>bw rfl rfl)<|ag<|aB [21,6,7,5,4,0,1] rfl<|ab<| ?_
 refine cB rfl (fun hlt=> ?_) (fun hlt=> ?_)
 ·have hws:wl l (i+1)=wl l i++[lh l (4*i)]:=by rw[wl,if_pos (by omega)]
  refine aC<|ab<|ae<|aN<|ai<|aw rfl<|aw rfl<|aw rfl<|hy (fun _=>fK rfl rfl (bA (by omega) (by omega)))<| ?_
  rw[show(4:Int)*(i:Int)=((4*i:Nat):Int) by omega]
  refine hx (aq rfl Tryz.call203 (FW (by omega) (by omega) (i:=4*i)) [] rfl [1] rfl ?_)
  rintro _ _ _ ⟨rfl,rfl,rfl⟩
  refine hx (bQ Tryz.underlying215 mf rfl rfl rfl (by simp[Value.cells,B8]) (by decide) (by decide) (fun g29=> ?_))
  have hA_b29:0<1→(some (⟨g29,0,none⟩:Addr))≠none:=fun _ h=>by cases h
  refine aJ (fun w m=>m.bz 0 rfl (show _=aK 166 1 (.slice (some ⟨g29,0,none⟩) 1 1) 1 (ee [lh l (4*i)])from rfl)) ?_
  refine hx (bs 1 rfl rfl rfl Tryz.underlying215 Tryz.underlying215 (by exact .inl rfl) mf rfl (fun m=>Src.bJ (m.ord 0 rfl)) gO (by unfold maxLen;omega) (by omega) (fun u=> ?_))
  refine az (fun m=>(m.own 0 rfl).slice) ?_
  rintro⟨A_o,c_o,rfl,hc_o⟩
  refine az (fun m=>(m.ord 0 rfl).2.1) fun hA_o=> ?_
  refine aJ (fun w m=>m.bz 0 rfl (show _=aK 166 1 (.slice A_o (i+1) c_o) (i+1) (ee (wl l (i+1)))from by rw[hws,mj])) ?_
  refine aG rfl<|ag<|aB [6,21,7,5,4,0,1] rfl<|aj (X' :=[_,_,_]) (S' :=[_,_]) (fun _ m=>m)<|aS<|ab<|ai<|aw rfl<|hy (fun _=>aP rfl rfl (bA (by omega) (by omega)))<|aG rfl<|ag<|aB [7,6,21,5,4,0,1] rfl<| ?_
  refine fD (i+1) A_o c_o ⟨rfl,rfl,rfl,rfl,rfl,rfl,trivial⟩ [0,1] rfl [0,1] rfl (by omega) (by omega)
 ·obtain rfl:i=16:=by omega
  refine bG<|an<|an<|aE<|ab<|ae<|ae<|ai<|aG rfl<|ag<|ab<|aN<| ?_
  refine gJ (fun i A1 c1=>64-i) (fun i A1 c1=>[(6,.slice A1 i c1),(8,.int .i64 (i:Nat))]) (fun i A1 c1=>[aK 166 1 (.slice A1 i c1) i (ee (wl l i))]) (fun i A1 c1=>[]) (fun i A1 c1=>16≤i∧i≤64) 16 A1 c1 [(21,_),(7,_),(5,_),(4,_),(0,_),(1,_)] ⟨rfl,rfl,rfl,rfl,rfl,rfl,trivial⟩ [0] rfl [] rfl (⟨Nat.le_refl _,by decide⟩) ⟨rfl,rfl,trivial⟩ (fun i A1 c1 ⟨hi16,hi64⟩=> ?_)
  have hwl:=fO l i
  refine a6 (fun m=>(m.ord 0 rfl).2.1) fun hA_o=> ?_
  refine ae<|ae<|ai<|aw rfl<|hy (fun _=>bw rfl rfl)<|ag<|aB [32,6,8,21,7,5,4,0,1] rfl<|ab<| ?_
  refine cB rfl (fun hlt=> ?_) (fun hlt=> ?_)
  ·have hws:wl l (i+1)=wl l i++[nQ (wl l i) i]:=by rw[wl,if_neg (by omega)]
   refine aC<|ab<|ae<|aN<|ae<|cD [5,11] [(0,some 0),(1,some 2),(2,some 0),(3,some 0),(4,some 0),(6,some 1),(7,some 1),(8,some 1),(9,some 1),(10,some 1),(13,some 2),(14,some 2),(15,some 2),(16,some 2),(17,some 2),(18,some 2),(5,none),(11,none),(12,some 2),(19,some 2),(20,some 2)] (by kernel_rfl) (by kernel_rfl) rfl 99<|ak (ah rfl)<|ak (ah rfl)<|ak (cn rfl rfl (bA (by omega) (by omega)))<|ak (aZ rfl rfl Tryz.underlying215 bI hA_o (show((i-15:Nat):Int)=_ by omega) (by omega))<|bZ (fun m=>ao rfl bV ((m.ord 0 rfl).cell (j:=i-15) (br (by omega))))<|ak (ah rfl)<|ak (ah rfl)<|ak (cn rfl rfl (bA (by omega) (by omega)))<|ak (aZ rfl rfl Tryz.underlying215 bI hA_o (show((i-15:Nat):Int)=_ by omega) (by omega))<|bZ (fun m=>ao rfl bV ((m.ord 0 rfl).cell (j:=i-15) (br (by omega))))<|ak (ah rfl)<|ak (ah rfl)<|ak (cn rfl rfl (bA (by omega) (by omega)))<|ak (aZ rfl rfl Tryz.underlying215 bI hA_o (show((i-15:Nat):Int)=_ by omega) (by omega))<|bZ (fun m=>ao rfl bV ((m.ord 0 rfl).cell (j:=i-15) (br (by omega))))<|ak (oh (b:=8) (by decide) rfl rfl)<| ?_
   refine dF (aq rfl Tryz.call204 (jn (by omega) (n:=7)) [] rfl [] rfl ?_)
   rintro _ _ _ ⟨rfl,rfl,rfl⟩
   refine⟨(fun _=>wk [0,0] [0,1] rfl rfl), ?_⟩
   refine dF (aq rfl Tryz.call204 (jn (by omega) (n:=18)) [] rfl [] rfl ?_)
   rintro _ _ _ ⟨rfl,rfl,rfl⟩
   refine⟨(fun _=>wk [0,0] [0,1] rfl rfl), ?_⟩
   refine ak (dj rfl rfl)<|ak (dj rfl rfl)<|ak (al rfl)<|bq<|aB [9,32,6,8,21,7,5,4,0,1] rfl<|aj (X' :=[_,_]) (S' :=[_,_]) (fun _ m=>m)<|ab<|ae<|cD [5,11] [(0,some 0),(1,some 2),(2,some 0),(3,some 0),(4,some 0),(6,some 1),(7,some 1),(8,some 1),(9,some 1),(10,some 1),(13,some 2),(14,some 2),(15,some 2),(16,some 2),(17,some 2),(18,some 2),(5,none),(11,none),(12,some 2),(19,some 2),(20,some 2)] (by kernel_rfl) (by kernel_rfl) rfl 99<|ak (ah rfl)<|ak (ah rfl)<|ak (cn rfl rfl (bA (by omega) (by omega)))<|ak (aZ rfl rfl Tryz.underlying215 bI hA_o (show((i-2:Nat):Int)=_ by omega) (by omega))<|bZ (fun m=>ao rfl bV ((m.ord 0 rfl).cell (j:=i-2) (br (by omega))))<|ak (ah rfl)<|ak (ah rfl)<|ak (cn rfl rfl (bA (by omega) (by omega)))<|ak (aZ rfl rfl Tryz.underlying215 bI hA_o (show((i-2:Nat):Int)=_ by omega) (by omega))<|bZ (fun m=>ao rfl bV ((m.ord 0 rfl).cell (j:=i-2) (br (by omega))))<|ak (ah rfl)<|ak (ah rfl)<|ak (cn rfl rfl (bA (by omega) (by omega)))<|ak (aZ rfl rfl Tryz.underlying215 bI hA_o (show((i-2:Nat):Int)=_ by omega) (by omega))<|bZ (fun m=>ao rfl bV ((m.ord 0 rfl).cell (j:=i-2) (br (by omega))))<|ak (oh (b:=1024) (by decide) rfl rfl)<| ?_
   refine dF (aq rfl Tryz.call204 (jn (by omega) (n:=17)) [] rfl [] rfl ?_)
   rintro _ _ _ ⟨rfl,rfl,rfl⟩
   refine⟨(fun _=>wk [0,0] [0,1] rfl rfl), ?_⟩
   refine dF (aq rfl Tryz.call204 (jn (by omega) (n:=19)) [] rfl [] rfl ?_)
   rintro _ _ _ ⟨rfl,rfl,rfl⟩
   refine⟨(fun _=>wk [0,0] [0,1] rfl rfl), ?_⟩
   refine ak (dj rfl rfl)<|ak (dj rfl rfl)<|ak (al rfl)<|bq<|aB [10,9,32,6,8,21,7,5,4,0,1] rfl<|aj (X' :=[_,_]) (S' :=[_,_]) (fun _ m=>m)<|ab<|cD [5,16,17] [(0,some 2),(1,some 3),(2,some 3),(3,some 3),(4,some 3),(6,some 3),(8,some 3),(9,some 3),(10,some 3),(11,some 3),(12,some 1),(14,some 1),(5,none),(7,some 1),(13,some 1),(15,some 1),(16,none),(17,none),(18,some 3)] (by kernel_rfl) (by kernel_rfl) rfl 2<|ak (ah rfl)<|ak (ah rfl)<|ak (ah rfl)<|ak (cn rfl rfl (bA (by omega) (by omega)))<|ak (aZ rfl rfl Tryz.underlying215 bI hA_o (show((i-16:Nat):Int)=_ by omega) (by omega))<|ak (ah rfl)<|ak (ah rfl)<|ak (ah rfl)<|ak (cn rfl rfl (bA (by omega) (by omega)))<|ak (aZ rfl rfl Tryz.underlying215 bI hA_o (show((i-7:Nat):Int)=_ by omega) (by omega))<|bZ (fun m=>ao rfl bV ((m.ord 0 rfl).cell (j:=i-7) (br (by omega))))<|ak (ah rfl)<|Em (fun _=>wk [0,0] [0,1] rfl rfl) (fun m=>ao rfl bV ((m.ord 0 rfl).cell (j:=i-16) (br (by omega))))<|ak (dz rfl rfl)<|ak (dz rfl rfl)<|ak (yV (dz rfl rfl) ((rfl:_=Wd (nQ (wl l i) i))))<| ?_
   refine dF (bQ Tryz.underlying215 mf rfl rfl rfl (by exact uS (l:=[_])) (by decide) (by decide) (fun g91=>⟨(fun _=>wk [1,1] [0,1] rfl rfl), ?_⟩))
   have hA_b91:0<1→(some (⟨g91,0,none⟩:Addr))≠none:=fun _ h=>by cases h
   refine ez (fun w m=>m.bz 0 rfl (show _=aK 166 1 (.slice (some ⟨g91,0,none⟩) 1 1) 1 (ee [nQ (wl l i) i])from rfl)) ?_
   refine dF (bs 1 rfl rfl rfl Tryz.underlying215 Tryz.underlying215 (by exact .inl rfl) mf rfl (fun m=>Src.bJ (m.ord 0 rfl)) gO (by unfold maxLen;omega) (by omega) (fun u=>⟨(fun h=>absurd h (by decide)), ?_⟩))
   refine cd (fun m=>(m.own 0 rfl).slice) ?_
   rintro⟨A_o,c_o,rfl,hc_o⟩
   refine cd (fun m=>(m.ord 0 rfl).2.1) fun hA_o=> ?_
   refine ez (fun w m=>m.bz 0 rfl (show _=aK 166 1 (.slice A_o (i+1) c_o) (i+1) (ee (wl l (i+1)))from by rw[hws,mj])) ?_
   refine ak (al rfl)<|bq<|aB [6,10,9,32,8,21,7,5,4,0,1] rfl<|aj (X' :=[_,_,_]) (S' :=[_,_]) (fun _ m=>m)<|aS<|ab<|ai<|aw rfl<|hy (fun _=>aP rfl rfl (bA (by omega) (by omega)))<|aG rfl<|ag<|aB [8,6,10,9,32,21,7,5,4,0,1] rfl<| ?_
   refine fD (i+1) A_o c_o ⟨rfl,rfl,rfl,rfl,rfl,rfl,rfl,rfl,trivial⟩ [0,1] rfl [0,1] rfl (⟨by omega,by omega⟩) (by omega)
  ·obtain rfl:i=64:=by omega
   obtain⟨W,hW⟩:∃W,wl l 64=W:=⟨_,rfl⟩
   have hw64:W.length=64:=by rw[←hW];exact fO l 64
   rw[hW]
   refine bG<|an<|an<|aE<|ab<|ae<|ai<|aG rfl<|ag<|ab<|ae<|ai<|aw rfl<|aw rfl<| ?_
   refine aJ (fun w m=>m.cQ (r' :=aK 166 1 (.slice none 0 0) 0 []) (.refl _ _) (Own.nil _ _ _ _) (fun k hk=>hk.elim)) ?_
   refine hx (bs 0 rfl rfl rfl Tryz.underlying215 Tryz.underlying215 (by exact .inl rfl) mf rfl (fun m=>Src.bJ (m.rd 0 rfl)) gO (by unfold maxLen;omega) (by omega) (fun u=> ?_))
   refine az (fun m=>(m.own 0 rfl).slice) ?_
   rintro⟨A_v,c_v,rfl,hc_v⟩
   refine az (fun m=>(m.ord 0 rfl).2.1) fun hA_v=> ?_
   refine aJ (fun w m=>m.bz 0 rfl (show _=aK 166 1 (.slice A_v 8 c_v) 8 (ee (k0 W h 0))from rfl)) ?_
   refine aG rfl<|ag<|aB [11,32,6,8,21,7,5,4,0,1] rfl<|aj (X' :=[_,_,_]) (S' :=[_,_]) (fun _ m=>m)<|ab<|ae<|ae<|ai<|aG rfl<|ag<|ab<|aN<| ?_
   refine gJ (fun i A2 c2=>64-i) (fun i A2 c2=>[(11,.slice A2 8 c2),(12,.int .i64 (i:Nat))]) (fun i A2 c2=>[aK 166 1 (.slice A2 8 c2) 8 (ee (k0 W h i))]) (fun i A2 c2=>[]) (fun i A2 c2=>i≤64) 0 A_v c_v [(32,_),(6,_),(8,_),(21,_),(7,_),(5,_),(4,_),(0,_),(1,_)] ⟨rfl,rfl,rfl,rfl,rfl,rfl,rfl,rfl,rfl,trivial⟩ [0] rfl [] rfl (Nat.zero_le _) ⟨rfl,rfl,trivial⟩ (fun i A2 c2 hi64=> ?_)
   have hv:=k5 (w:=W) hh i
   have hro:fX.length=64:=rfl
   refine a6 (fun m=>(m.ord 0 rfl).2.1) fun hA_v=> ?_
   refine a6 (fun m=>(m.ord 2 rfl).2.1) fun hA_x=> ?_
   refine a6 (fun m=>(m.ord 1 rfl).2.1) fun hA_o=> ?_
   refine ae<|ae<|ai<|aw rfl<|hy (fun _=>bw rfl rfl)<|ag<|aB [97,11,12,32,6,8,21,7,5,4,0,1] rfl<|ab<| ?_
   refine cB rfl (fun hlt=> ?_) (fun hlt=> ?_)
   ·generalize hvd:k0 W h i=v at hv ⊢
    refine aC<|ab<|ae<|aN<|ae<|cD [3,7,12] [(0,some 3),(1,some 0),(2,some 0),(4,some 1),(5,some 1),(6,some 1),(9,some 2),(10,some 2),(11,some 2),(3,none),(7,none),(8,some 3),(12,none),(13,some 3),(14,some 3)] (by kernel_rfl) (by kernel_rfl) rfl 99<|ak (ah rfl)<|ak (aZ rfl rfl Tryz.underlying215 bI hA_v (show((4:Nat):Int)=4 from rfl) (by omega))<|bZ (fun m=>ao rfl bV ((m.ord 0 rfl).cell (j:=4) (br (by omega))))<|ak (ah rfl)<|ak (aZ rfl rfl Tryz.underlying215 bI hA_v (show((4:Nat):Int)=4 from rfl) (by omega))<|bZ (fun m=>ao rfl bV ((m.ord 0 rfl).cell (j:=4) (br (by omega))))<|ak (ah rfl)<|ak (aZ rfl rfl Tryz.underlying215 bI hA_v (show((4:Nat):Int)=4 from rfl) (by omega))<|bZ (fun m=>ao rfl bV ((m.ord 0 rfl).cell (j:=4) (br (by omega))))<| ?_
    refine dF (aq rfl Tryz.call204 (jn (by omega) (n:=6)) [] rfl [] rfl ?_)
    rintro _ _ _ ⟨rfl,rfl,rfl⟩
    refine⟨(fun _=>wk [0,0,0] [0,1] rfl rfl), ?_⟩
    refine dF (aq rfl Tryz.call204 (jn (by omega) (n:=11)) [] rfl [] rfl ?_)
    rintro _ _ _ ⟨rfl,rfl,rfl⟩
    refine⟨(fun _=>wk [0,0,0] [0,1] rfl rfl), ?_⟩
    refine ak (dj rfl rfl)<| ?_
    refine dF (aq rfl Tryz.call204 (jn (by omega) (n:=25)) [] rfl [] rfl ?_)
    rintro _ _ _ ⟨rfl,rfl,rfl⟩
    refine⟨(fun _=>wk [0,0,0] [0,1] rfl rfl), ?_⟩
    refine ak (yV (dj rfl rfl) ((rfl:_=Wd (turns 6 11 25 (v_ v 4)))))<|ak (al rfl)<|bq<|aB [13,97,11,12,32,6,8,21,7,5,4,0,1] rfl<|aj (X' :=[_,_,_]) (S' :=[_,_]) (fun _ m=>m)<|ab<|ae<|cD [] [(0,some 0),(1,some 0),(2,some 0),(3,some 0),(4,some 0),(5,some 0),(6,some 0),(7,some 0),(8,some 0),(9,some 0),(10,some 0),(11,some 0),(12,some 0),(13,some 0),(14,some 0),(15,some 0),(16,some 0)] (by kernel_rfl) (by kernel_rfl) rfl 99<|ak (ah rfl)<|ak (aZ rfl rfl Tryz.underlying215 bI hA_v (show((4:Nat):Int)=4 from rfl) (by omega))<|bZ (fun m=>ao rfl bV ((m.ord 0 rfl).cell (j:=4) (br (by omega))))<|ak (ah rfl)<|ak (aZ rfl rfl Tryz.underlying215 bI hA_v (show((5:Nat):Int)=5 from rfl) (by omega))<|bZ (fun m=>ao rfl bV ((m.ord 0 rfl).cell (j:=5) (br (by omega))))<|ak (iJ rfl rfl)<|ak (ah rfl)<|ak (aZ rfl rfl Tryz.underlying215 bI hA_v (show((4:Nat):Int)=4 from rfl) (by omega))<|bZ (fun m=>ao rfl bV ((m.ord 0 rfl).cell (j:=4) (br (by omega))))<|ak (EI rfl rfl)<|ak (ah rfl)<|ak (aZ rfl rfl Tryz.underlying215 bI hA_v (show((6:Nat):Int)=6 from rfl) (by omega))<|bZ (fun m=>ao rfl bV ((m.ord 0 rfl).cell (j:=6) (br (by omega))))<|ak (iJ rfl rfl)<|ak (dj rfl rfl)<|ak (al rfl)<|bq<|aB [14,13,97,11,12,32,6,8,21,7,5,4,0,1] rfl<|ab<|ae<|cD [] [(0,some 0),(1,some 0),(2,some 0),(3,some 0),(4,some 0),(5,some 0),(6,some 0),(7,some 0),(8,some 0),(9,some 0),(10,some 0),(11,some 0),(12,some 0),(13,some 0),(14,some 0),(15,some 0),(16,some 0),(17,some 0)] (by kernel_rfl) (by kernel_rfl) rfl 99<|ak (ah rfl)<|ak (aZ rfl rfl Tryz.underlying215 bI hA_v (show((7:Nat):Int)=7 from rfl) (by omega))<|bZ (fun m=>ao rfl bV ((m.ord 0 rfl).cell (j:=7) (br (by omega))))<|ak (ah rfl)<|ak (dz rfl rfl)<|ak (ah rfl)<|ak (dz rfl rfl)<|ak (ah rfl)<|ak (ah rfl)<|ak (aZ rfl rfl Tryz.underlying215 bI hA_x rfl (by omega))<|bZ (fun m=>ao rfl bV ((m.ord 2 rfl).cell (j:=i) (br (by omega))))<| ?_
    generalize hk:fX.getD i 0=k
    refine ak (dz rfl rfl)<|ak (ah rfl)<|ak (ah rfl)<|ak (aZ rfl rfl Tryz.underlying215 bI hA_o rfl (by omega))<|bZ (fun m=>ao rfl bV ((m.ord 1 rfl).cell (j:=i) (br (by omega))))<|ak (yV (dz rfl rfl) ((rfl:_=Wd (rt v k (W.getD i 0)))))<|ak (al rfl)<|bq<|aB [15,14,13,97,11,12,32,6,8,21,7,5,4,0,1] rfl<|ab<|ae<|cD [3,7,12] [(0,some 3),(1,some 0),(2,some 0),(4,some 1),(5,some 1),(6,some 1),(9,some 2),(10,some 2),(11,some 2),(3,none),(7,none),(8,some 3),(12,none),(13,some 3),(14,some 3)] (by kernel_rfl) (by kernel_rfl) rfl 99<|ak (ah rfl)<|ak (aZ rfl rfl Tryz.underlying215 bI hA_v (show((0:Nat):Int)=0 from rfl) (by omega))<|bZ (fun m=>ao rfl bV ((m.ord 0 rfl).cell (j:=0) (br (by omega))))<|ak (ah rfl)<|ak (aZ rfl rfl Tryz.underlying215 bI hA_v (show((0:Nat):Int)=0 from rfl) (by omega))<|bZ (fun m=>ao rfl bV ((m.ord 0 rfl).cell (j:=0) (br (by omega))))<|ak (ah rfl)<|ak (aZ rfl rfl Tryz.underlying215 bI hA_v (show((0:Nat):Int)=0 from rfl) (by omega))<|bZ (fun m=>ao rfl bV ((m.ord 0 rfl).cell (j:=0) (br (by omega))))<| ?_
    refine dF (aq rfl Tryz.call204 (jn (by omega) (n:=2)) [] rfl [] rfl ?_)
    rintro _ _ _ ⟨rfl,rfl,rfl⟩
    refine⟨(fun _=>wk [0,0,0] [0,1] rfl rfl), ?_⟩
    refine dF (aq rfl Tryz.call204 (jn (by omega) (n:=13)) [] rfl [] rfl ?_)
    rintro _ _ _ ⟨rfl,rfl,rfl⟩
    refine⟨(fun _=>wk [0,0,0] [0,1] rfl rfl), ?_⟩
    refine ak (dj rfl rfl)<| ?_
    refine dF (aq rfl Tryz.call204 (jn (by omega) (n:=22)) [] rfl [] rfl ?_)
    rintro _ _ _ ⟨rfl,rfl,rfl⟩
    refine⟨(fun _=>wk [0,0,0] [0,1] rfl rfl), ?_⟩
    refine ak (yV (dj rfl rfl) ((rfl:_=Wd (turns 2 13 22 (v_ v 0)))))<|ak (al rfl)<|bq<|aB [16,15,14,13,97,11,12,32,6,8,21,7,5,4,0,1] rfl<|aj (X' :=[_,_,_]) (S' :=[_,_]) (fun _ m=>m)<|ab<|ae<|cD [] [(0,some 0),(1,some 0),(2,some 0),(3,some 0),(4,some 0),(5,some 0),(6,some 0),(7,some 0),(8,some 0),(9,some 0),(10,some 0),(11,some 0),(12,some 0),(13,some 0),(14,some 0),(15,some 0),(16,some 0),(17,some 0),(18,some 0),(19,some 0),(20,some 0),(21,some 0),(22,some 0),(23,some 0)] (by kernel_rfl) (by kernel_rfl) rfl 99<|ak (ah rfl)<|ak (aZ rfl rfl Tryz.underlying215 bI hA_v (show((0:Nat):Int)=0 from rfl) (by omega))<|bZ (fun m=>ao rfl bV ((m.ord 0 rfl).cell (j:=0) (br (by omega))))<|ak (ah rfl)<|ak (aZ rfl rfl Tryz.underlying215 bI hA_v (show((1:Nat):Int)=1 from rfl) (by omega))<|bZ (fun m=>ao rfl bV ((m.ord 0 rfl).cell (j:=1) (br (by omega))))<|ak (iJ rfl rfl)<|ak (ah rfl)<|ak (aZ rfl rfl Tryz.underlying215 bI hA_v (show((0:Nat):Int)=0 from rfl) (by omega))<|bZ (fun m=>ao rfl bV ((m.ord 0 rfl).cell (j:=0) (br (by omega))))<|ak (ah rfl)<|ak (aZ rfl rfl Tryz.underlying215 bI hA_v (show((2:Nat):Int)=2 from rfl) (by omega))<|bZ (fun m=>ao rfl bV ((m.ord 0 rfl).cell (j:=2) (br (by omega))))<|ak (iJ rfl rfl)<|ak (dj rfl rfl)<|ak (ah rfl)<|ak (aZ rfl rfl Tryz.underlying215 bI hA_v (show((1:Nat):Int)=1 from rfl) (by omega))<|bZ (fun m=>ao rfl bV ((m.ord 0 rfl).cell (j:=1) (br (by omega))))<|ak (ah rfl)<|ak (aZ rfl rfl Tryz.underlying215 bI hA_v (show((2:Nat):Int)=2 from rfl) (by omega))<|bZ (fun m=>ao rfl bV ((m.ord 0 rfl).cell (j:=2) (br (by omega))))<|ak (iJ rfl rfl)<|ak (dj rfl rfl)<|ak (al rfl)<|bq<|aB [17,16,15,14,13,97,11,12,32,6,8,21,7,5,4,0,1] rfl<|ab<|cD [28] [(0,some 0),(1,some 0),(2,some 0),(3,some 0),(4,some 0),(5,some 0),(6,some 0),(7,some 0),(8,some 0),(9,some 0),(10,some 0),(11,some 0),(12,some 0),(13,some 0),(14,some 0),(15,some 0),(16,some 0),(17,some 0),(18,some 0),(19,some 0),(20,some 0),(21,some 0),(22,some 0),(23,some 0),(24,some 0),(25,some 0),(26,some 0),(27,some 0),(28,none),(29,some 1)] (by kernel_rfl) (by kernel_rfl) rfl 99<|ak (ah rfl)<|ak (ah rfl)<|ak (dz rfl rfl)<|ak (ah rfl)<|ak (yV (dz rfl rfl) ((show Wd (rt v k (W.getD i 0)+turns 2 13 22 (v_ v 0)+((v_ v 0 &&& v_ v 1) ^^^ (v_ v 0 &&& v_ v 2) ^^^ (v_ v 1 &&& v_ v 2)))=Wd (rt v k (W.getD i 0)+ru v) by rw[UInt32.add_assoc];rfl)))<|ak (ah rfl)<|ak (aZ rfl rfl Tryz.underlying215 bI hA_v (show((0:Nat):Int)=0 from rfl) (by omega))<|bZ (fun m=>ao rfl bV ((m.ord 0 rfl).cell (j:=0) (br (by omega))))<|ak (ah rfl)<|ak (aZ rfl rfl Tryz.underlying215 bI hA_v (show((1:Nat):Int)=1 from rfl) (by omega))<|bZ (fun m=>ao rfl bV ((m.ord 0 rfl).cell (j:=1) (br (by omega))))<|ak (ah rfl)<|ak (aZ rfl rfl Tryz.underlying215 bI hA_v (show((2:Nat):Int)=2 from rfl) (by omega))<|bZ (fun m=>ao rfl bV ((m.ord 0 rfl).cell (j:=2) (br (by omega))))<|ak (ah rfl)<|ak (aZ rfl rfl Tryz.underlying215 bI hA_v (show((3:Nat):Int)=3 from rfl) (by omega))<|bZ (fun m=>ao rfl bV ((m.ord 0 rfl).cell (j:=3) (br (by omega))))<|ak (ah rfl)<|ak (dz rfl rfl)<|ak (ah rfl)<|ak (aZ rfl rfl Tryz.underlying215 bI hA_v (show((4:Nat):Int)=4 from rfl) (by omega))<|bZ (fun m=>ao rfl bV ((m.ord 0 rfl).cell (j:=4) (br (by omega))))<|ak (ah rfl)<|ak (aZ rfl rfl Tryz.underlying215 bI hA_v (show((5:Nat):Int)=5 from rfl) (by omega))<|bZ (fun m=>ao rfl bV ((m.ord 0 rfl).cell (j:=5) (br (by omega))))<|ak (ah rfl)<|ak (aZ rfl rfl Tryz.underlying215 bI hA_v (show((6:Nat):Int)=6 from rfl) (by omega))<|bZ (fun m=>ao rfl bV ((m.ord 0 rfl).cell (j:=6) (br (by omega))))<| ?_
    refine dF (bQ Tryz.underlying215 mf rfl rfl rfl (by exact uS (l:=[_,_,_,_,_,_,_,_])) (by decide) (by decide) (fun g212=>⟨(fun _=>wk [1,1,1] [0,1] rfl rfl), ?_⟩))
    have hA_b212:0<8→(some (⟨g212,0,none⟩:Addr))≠none:=fun _ h=>by cases h
    refine ak (al rfl)<|bq<|aB [11,17,16,15,14,13,97,12,32,6,8,21,7,5,4,0,1] rfl<|aj (X' :=[_,_,_,_]) (S' :=[_,_]) (fun _ m=>m)<|aS<|ab<|ai<|aw rfl<|hy (fun _=>aP rfl rfl (bA (by omega) (by omega)))<|aG rfl<|ag<|aB [12,11,17,16,15,14,13,97,32,6,8,21,7,5,4,0,1] rfl<| ?_
    refine aj (fun w m=>m.bz 0 rfl (show _=aK 166 1 (.slice (some ⟨g212,0,none⟩) 8 8) 8 (ee (k0 W h (i+1)))from by rw[k0,hvd,hk];rfl)) ?_
    refine fD (i+1) (some ⟨g212,0,none⟩) 8 ⟨rfl,rfl,rfl,rfl,rfl,rfl,rfl,rfl,rfl,rfl,rfl,trivial⟩ [0,1,1] rfl [0,1] rfl (by omega) (by omega)
   ·obtain rfl:i=64:=by omega
    generalize hvv:k0 W h 64=v at hv ⊢
    refine bk (fun w m=>m.bz 0 rfl (show _=aK 166 1 (.slice A2 8 c2) 8 (ee (gn v h 0))from by rw[r9])) ?_
    refine bG<|an<|an<|aE<|ab<|ae<|ae<|ai<|aG rfl<|ag<|ab<|aN<| ?_
    refine de (fun j=>8-j) (fun j=>[(18,.int .i64 (j:Nat))]) (fun j=>[aK 166 1 (.slice A2 8 c2) 8 (ee (gn v h j))]) (fun j=>[]) (fun j=>j≤8) 0 [(97,_),(11,_),(12,_),(32,_),(6,_),(8,_),(21,_),(7,_),(5,_),(4,_),(0,_),(1,_)] ⟨rfl,rfl,rfl,rfl,rfl,rfl,rfl,rfl,rfl,rfl,rfl,rfl,trivial⟩ [0] rfl [] rfl (Nat.zero_le _) ⟨rfl,trivial⟩ (fun j hj8=> ?_)
    have hsl:(gn v h j).length=v.length:=by simp[gn]
    refine ae<|ae<|ai<|aw rfl<|hy (fun _=>bw rfl rfl)<|ag<|aB [214,18,97,11,12,32,6,8,21,7,5,4,0,1] rfl<|ab<| ?_
    refine cB rfl (fun hj=> ?_) (fun hj=> ?_)
    ·refine aC<|ab<|ae<|aN<|cD [12] [(0,some 0),(1,some 0),(2,some 0),(3,some 0),(4,some 0),(5,some 0),(6,some 0),(7,some 0),(8,some 0),(9,some 0),(10,some 0),(11,some 0),(12,none)] (by kernel_rfl) (by kernel_rfl) rfl 0<|ak (ah rfl)<|ak (ah rfl)<|ak (ah rfl)<|ak (ah rfl)<|ak (aZ rfl rfl Tryz.underlying215 bI hA_v rfl (by omega))<|bZ (fun m=>ao rfl bV ((m.ord 0 rfl).cell (j:=j) (br (by omega))))<|ak (ah rfl)<|ak (ah rfl)<|ak (aZ rfl rfl Tryz.underlying215 bI hA_q rfl (by omega))<|bZ (fun m=>ao rfl bV ((m.rd 0 rfl).cell (j:=j) (br (by omega))))<|ak (yV (dz rfl rfl) ((rfl:_=Wd (v_ (gn v h j) j+v_ h j))))<|ak (aZ rfl rfl Tryz.underlying215 bI hA_v rfl (by omega))<| ?_
     refine gu (AA 0 rfl rfl rfl bI rfl (by omega) ⟨(fun h=>absurd h (by decide)), ?_⟩)
     refine bq<|aB [214,18,97,11,12,32,6,8,21,7,5,4,0,1] rfl<|aj (X' :=[_,_,_]) (S' :=[_,_]) (fun _ m=>m)<|aS<|ab<|ai<|aw rfl<|hy (fun _=>aP rfl rfl (bA (by omega) (by omega)))<|aG rfl<|ag<|aB [18,214,97,11,12,32,6,8,21,7,5,4,0,1] rfl<| ?_
     refine aj (fun w m=>m.bz 0 rfl (show _=aK 166 1 (.slice A2 8 c2) 8 (ee (gn v h (j+1)))from by rw[ti,sr (by omega)])) ?_
     refine cM (j+1) ⟨rfl,rfl,rfl,rfl,rfl,rfl,rfl,rfl,rfl,rfl,rfl,rfl,rfl,trivial⟩ [0,0,0] rfl [0,1] rfl (by omega) (by omega)
    ·obtain rfl:j=8:=by omega
     have hB:gn v h 8=eF h l:=by rw[eF,hW,hvv]
     rw[hB]
     refine bG<|an<|an<|aE<|ab<|ae<|ai<|aw rfl<|aG rfl<|ag<|aB [4,214,18,97,11,12,32,6,8,21,7,5,0,1] rfl<|ab<|aV<| ?_
     exact bc trivial rfl rfl [0] rfl [] rfl ⟨_,rfl,rfl,rfl⟩
end Go.Proofs.YtmibdabdlgmafaaGreatDoor
end
section
set_option maxRecDepth 20000
namespace Go.Proofs.YtmibdabdlgmafaaGreatDoor
open Go.Eng Go.Hx
def mw(n:Nat):Nat→Nat
 |0=>n
 |i+1=>mw n i/256
theorem qK(n:Nat):∀i,mw n i=n/256 ^ i
 |0=>by simp[mw]
 |i+1=>by rw[mw,qK n i,Nat.div_div_eq_div_mul,Nat.pow_succ]
def qz(n i:Nat):List UInt8:=List.replicate (8-i) 0++(uf n).drop (8-i)
theorem lQ(n:Nat):(uf n).length=8:=by simp[uf]
theorem CF(n i:Nat)(h:i≤8):(qz n i).length=8:=by
 rw[qz,List.length_append,List.length_replicate,List.length_drop,lQ];omega
theorem zz{n i:Nat}(hi:i<8):(qz n i).set (7-i) (UInt8.ofNat (mw n i % 256))=qz n (i+1):=by
 have e:UInt8.ofNat (mw n i % 256)=UInt8.ofNat (n/256 ^ i):=by
  rw[qK];apply UInt8.toNat_inj.1;simp
 rw[e]
 obtain⟨k,hk⟩:∃k,8-i=k+1:=⟨7-i,by omega⟩
 have h7:7-i=k:=by omega
 have hd:(uf n).drop k=UInt8.ofNat (n/256 ^ i)::(uf n).drop (k+1):=by
  rw[List.drop_eq_getElem_cons (by rw[lQ];omega)]
  congr 1
  simp only[uf,List.getElem_map,List.getElem_range]
  congr 3;omega
 rw[qz,qz,hk,h7,show 8-(i+1)=k by omega,hd,List.replicate_succ',List.append_assoc,List.set_append_right _ _ (by simp)]
 simp
theorem Ed{A:Option Addr}{n c:Nat}{l:List UInt8}(hn:n≤140737488351232):b7 Tryz.prog 141 [.slice A n c] [] [cL 1 A n (aW l)] (fun v_ X_ S_=>∃v,v_=v∧X_=[aK 5 1 v (jz l).length (aW (jz l))]∧S_=[]):=by
 have hz64:iT n<64:=Nat.mod_lt _ (by decide)
 have hzp:(n+(1+iT n)) % 64=56:=by unfold iT;omega
 have hzm:∀j,j<iT n→(n+(1+j)) % 64≠56:=fun j hj=>by unfold iT at hj;omega
 refine aM (N:=39) Tryz.func141 rfl rfl (by simp) fun b=> ?_
 refine a6 (fun m=>eG (m.rd 0 rfl)) ?_
 rintro⟨hl_r,hA_r⟩
 have hl:l.length=n:=hl_r
 refine ae<|ai<|aG rfl<|ag<|ab<|ae<|ai<|aG rfl<|ag<|ab<|ae<|ai<|aw rfl<|aw rfl<| ?_
 refine aJ (fun w m=>m.cQ (r' :=aK 5 1 (.slice none 0 0) 0 []) (.refl _ _) (Own.nil _ _ _ _) (fun k hk=>hk.elim)) ?_
 refine hx (bs 0 rfl rfl rfl Tryz.underlying27 Tryz.underlying27 (by exact .inl rfl) fi rfl (fun m=>Src.bJ (m.rd 0 rfl)) bn (by unfold maxLen;omega) (by omega) (fun u=> ?_))
 refine az (fun m=>(m.own 0 rfl).slice) ?_
 rintro⟨A_o,c_o,rfl,hc_o⟩
 refine az (fun m=>(m.ord 0 rfl).2.1) fun hA_o=> ?_
 rw[Nat.zero_add]
 refine aG rfl<|ag<|aB [3,2,0] rfl<|aj (X' :=[_]) (S' :=[_]) (fun _ m=>m)<|ab<|ae<|ai<|aw rfl<| ?_
 refine hx (bQ Tryz.underlying27 fi rfl rfl rfl (by simp[Value.cells,B8]) (by decide) (by decide) (fun g11=> ?_))
 have hA_b11:0<1→(some (⟨g11,0,none⟩:Addr))≠none:=fun _ h=>by cases h
 refine aJ (fun w m=>m.bz 0 rfl (show _=aK 5 1 (.slice (some ⟨g11,0,none⟩) 1 1) 1 (aW [128])from rfl)) ?_
 refine hx (bs 1 rfl rfl rfl Tryz.underlying27 Tryz.underlying27 (by exact .inl rfl) fi rfl (fun m=>Src.bJ (m.ord 0 rfl)) bn (by unfold maxLen;omega) (by omega) (fun u2=> ?_))
 refine az (fun m=>(m.own 0 rfl).slice) ?_
 rintro⟨A_o2,c_o2,rfl,hc_o⟩
 refine az (fun m=>(m.ord 0 rfl).2.1) fun hA_o=> ?_
 refine aJ (fun w m=>m.bz 0 rfl (show _=aK 5 1 (.slice A_o2 (n+1+0) c_o2) (n+1+0) (aW (l++128::List.replicate 0 0))from by simp[aW])) ?_
 refine aG rfl<|ag<|aB [3,2,0] rfl<|aj (X' :=[_,_]) (S' :=[_]) (fun _ m=>m)<|ab<|ae<|aN<| ?_
 refine gJ (fun j A1 cc=>iT n-j) (fun j A1 cc=>[(3,.slice A1 (n+1+j) cc)]) (fun j A1 cc=>[aK 5 1 (.slice A1 (n+1+j) cc) (n+1+j) (aW (l++128::List.replicate j 0))]) (fun j A1 cc=>[]) (fun j A1 cc=>j≤iT n) 0 A_o2 c_o2 [(2,_),(0,_)] ⟨rfl,rfl,trivial⟩ [0] rfl [] rfl (Nat.zero_le _) ⟨rfl,trivial⟩ (fun j A1 cc hjz=> ?_)
 refine ae<|ae<|ai<|aw rfl<|hy (fun _=>aY rfl Tryz.underlying27)<|hy (fun _=>hZ rfl rfl (by omega) (by omega))<|hy (fun _=>cT rfl rfl)<|ag<|aB [16,3,2,0] rfl<|ab<| ?_
 refine cB rfl (fun hne=> ?_) (fun hne=> ?_)
 ·have hj:j<iT n:=by
   rcases Nat.lt_or_eq_of_le hjz with h|h
   ·exact h
   ·rw[←h]at hzp;omega
  refine aC<|ab<|aN<|ai<|aw rfl<| ?_
  refine hx (bQ Tryz.underlying27 fi rfl rfl rfl (by simp[Value.cells,B8]) (by decide) (by decide) (fun g18=> ?_))
  have hA_b18:0<1→(some (⟨g18,0,none⟩:Addr))≠none:=fun _ h=>by cases h
  refine aJ (fun w m=>m.bz 0 rfl (show _=aK 5 1 (.slice (some ⟨g18,0,none⟩) 1 1) 1 (aW [0])from rfl)) ?_
  refine hx (bs 1 rfl rfl rfl Tryz.underlying27 Tryz.underlying27 (by exact .inl rfl) fi rfl (fun m=>Src.bJ (m.ord 0 rfl)) bn (by unfold maxLen;omega) (by omega) (fun u3=> ?_))
  refine az (fun m=>(m.own 0 rfl).slice) ?_
  rintro⟨A_o3,c_o3,rfl,hc_o⟩
  refine az (fun m=>(m.ord 0 rfl).2.1) fun hA_o=> ?_
  refine aG rfl<|ag<|aB [3,16,2,0] rfl<|aj (X' :=[_,_,_]) (S' :=[_]) (fun _ m=>m)<|aS<| ?_
  refine aj (fun w m=>m.bz 0 rfl (show _=aK 5 1 (.slice A_o3 (n+1+(j+1)) c_o3) (n+1+(j+1)) (aW (l++128::List.replicate (j+1) 0))from by rw[List.replicate_succ'];simp[aW,Nat.add_assoc])) ?_
  refine fD (j+1) A_o3 c_o3 ⟨rfl,rfl,rfl,trivial⟩ [0,1] rfl [0] rfl (by omega) (by omega)
 ·have hj:j=iT n:=by
   refine Decidable.byContradiction fun hn=> ?_
   have:=hzm j (by omega)
   omega
  subst hj
  refine bG<|an<|an<|aE<|ab<|ae<|ai<|aw rfl<|hy (fun _=>aY rfl Tryz.underlying27)<|hy (fun _=>yV (fK rfl rfl (bA (by omega) (by omega))) ((show Value.int .i64 (8*(n:Int))= .int .i64 ((mw (8*n) 0:Nat):Int) by rw[mw];congr 1)))<|aG rfl<|ag<|aB [4,16,3,2,0] rfl<|ab<|ae<|ai<| ?_
  refine hx (Eu (n:=8) Tryz.underlying27 fi rfl rfl rfl (by decide) (by decide) (fun g23=> ?_))
  have hA_b23:∀{n:Nat},0<n→(some (⟨g23,0,none⟩:Addr))≠none:=fun _ h=>by cases h
  refine aG rfl<|ag<|aB [5,4,16,3,2,0] rfl<|aj (X' :=[_,_,_]) (S' :=[_]) (fun _ m=>m)<|ab<|ae<|ae<|ai<| ?_
  refine aJ (fun w m=>m.bz 0 rfl (show _=aH g23 5 (aW (qz (8*n) 0))from by rw[qz,List.drop_of_length_le (by rw[lQ];decide),List.append_nil];rfl)) ?_
  refine aG rfl<|ag<|ab<|aN<| ?_
  refine de (fun i=>8-i) (fun i=>[(4,.int .i64 ((mw (8*n) i:Nat):Int)),(6,.int .i64 (7-(i:Int)))]) (fun i=>[aH g23 5 (aW (qz (8*n) i))]) (fun i=>[]) (fun i=>i≤8) 0 [(5,_),(16,_),(3,_),(2,_),(0,_)] ⟨rfl,rfl,rfl,rfl,rfl,trivial⟩ [0] rfl [] rfl (Nat.zero_le _) ⟨rfl,rfl,trivial⟩ (fun i hi8=> ?_)
  have hq:mw (8*n) i≤8*n:=by rw[qK];exact Nat.div_le_self ..
  have hbl:=CF (8*n) i hi8
  refine ae<|ae<|ai<|aw rfl<|hy (fun _=>dL rfl rfl)<|ag<|aB [25,4,6,5,16,3,2,0] rfl<|ab<| ?_
  refine cB rfl (fun hi=> ?_) (fun hi=> ?_)
  ·refine aC<|ab<|ae<|aN<|ae<|ai<|aw rfl<|aw rfl<|aw rfl<|hy (fun _=>hZ rfl rfl (by omega) (by omega))<|hy (fun _=>bY rfl Tryz.underlying3 Tryz.underlying5 (show IntKind.u8.wrap (((mw (8*n) i:Nat):Int) % 256)=((UInt8.ofNat (mw (8*n) i % 256)).toNat:Int)from jm (mw (8*n) i % 256)))<|hy (fun _=>aZ rfl rfl Tryz.underlying27 dU hA_b23 (show((7-i:Nat):Int)=_ by omega) (by omega))<| ?_
   refine cI (b9 0 rfl rfl rfl dU rfl (by rw[ax,hbl];omega) ?_)
   refine ag<|aB [25,4,6,5,16,3,2,0] rfl<|aj (X' :=[_,_,_]) (S' :=[_]) (fun _ m=>m)<|ab<|ai<|aw rfl<|hy (fun _=>yV (kA rfl rfl (by omega) (by omega) (bA (by omega) (by omega))) ((show Value.int .i64 (((mw (8*n) i:Nat):Int)/256)= .int .i64 ((mw (8*n) (i+1):Nat):Int)from rfl)))<|aG rfl<|ag<|aB [4,25,6,5,16,3,2,0] rfl<|aS<|ab<|ai<|aw rfl<|hy (fun _=>yV (cn rfl rfl (bA (by omega) (by omega))) ((show Value.int .i64 (7-(i:Int)-1)= .int .i64 (7-((i+1:Nat):Int))from congrArg (Value.int .i64) (by omega))))<|aG rfl<|ag<|aB [6,4,25,5,16,3,2,0] rfl<| ?_
   refine aj (fun w m=>m.bz 0 rfl (show _=aH g23 5 (aW (qz (8*n) (i+1)))from by rw[Nat.zero_add,←zz (by omega),yo];rfl)) ?_
   refine cM (i+1) ⟨rfl,rfl,rfl,rfl,rfl,rfl,rfl,trivial⟩ [0,0,0] rfl [0] rfl (by omega) (by omega)
  ·obtain rfl:i=8:=by omega
   have hpl:(jz l).length=n+1+iT n+8:=by
    simp only[jz,List.length_append,List.length_cons,List.length_replicate,lQ,hl];omega
   refine bk (fun w m=>m.bz 0 rfl (show _=aH g23 5 (aW (uf (8*n)))from by simp[qz])) ?_
   refine bG<|an<|an<|aE<|ab<|ae<|ai<|aw rfl<|aw rfl<| ?_
   refine hx (bs 1 rfl rfl rfl Tryz.underlying27 Tryz.underlying27 (by exact .inl rfl) fi rfl (fun m=>Src.bJ (Rd.j4 (m.aU 0 rfl) (by rw[ax,lQ]))) bn (by unfold maxLen;omega) (by omega) (fun u3=> ?_))
   refine az (fun m=>(m.own 0 rfl).slice) ?_
   rintro⟨A_o3,c_o3,rfl,hc_o⟩
   refine az (fun m=>(m.ord 0 rfl).2.1) fun hA_o=> ?_
   refine aJ (fun w m=>m.bz 0 rfl (show _=aK 5 1 (.slice A_o3 (jz l).length c_o3) (jz l).length (aW (jz l))from by rw[hpl,jz,hl];simp[aW])) ?_
   refine aG rfl<|ag<|aB [2,25,4,6,5,16,3,0] rfl<|aj (X' :=[_,_,_]) (S' :=[_]) (fun _ m=>m)<|ab<|aV<| ?_
   exact bc trivial rfl rfl [0] rfl [] rfl ⟨_,(by rw[hpl]),rfl,rfl⟩
theorem AF{p r:List UInt8}{k:Nat}{a x:UInt8}(hp:p.length=k):(aW (p++x::r)).set k (B8 a)=aW (p++[a]++r):=by
 subst hp
 simp[aW,List.set_append]
def qw(x:UInt32):Nat→UInt32
 |0=>x
 |j+1=>qw x j/256
theorem va(x:UInt32):∀j,(qw x j).toNat=x.toNat/256 ^ j
 |0=>by simp[qw]
 |j+1=>by
  rw[qw,UInt32.toNat_div,va x j,Nat.pow_succ,←Nat.div_div_eq_div_mul];rfl
theorem Gd(x:UInt32){r:Nat}(hr:r<4):(C4 x)[r]? =some (UInt8.ofNat (qw x (3-r) % 256).toNat):=by
 have h256:(256:UInt32).toNat=256:=rfl
 have e:∀k,UInt8.ofNat ((qw x k % 256).toNat)=UInt8.ofNat (x.toNat/256 ^ k):=fun k=>by
  rw[UInt32.toNat_mod,va,h256]
  apply UInt8.toNat_inj.1;simp
 rw[e]
 match r,hr with
 |0,_=>simp[C4,UInt32.toNat_div]
 |1,_=>simp[C4,UInt32.toNat_div]
 |2,_=>simp[C4,UInt32.toNat_div]
 |3,_=>simp[C4]
theorem rU:∀(h:List UInt32) (q r:Nat),q<h.length→r<4→(eV h)[4*q+r]? =(C4 (h.getD q 0))[r]?
 |a::t,0,r,hq,hr=>by
  rw[eV,List.flatMap_cons,List.getElem?_append_left (by show 4*0+r<4;omega)]
  simp
 |a::t,q+1,r,hq,hr=>by
  rw[eV,List.flatMap_cons,List.getElem?_append_right (by show 4≤_;omega),show 4*(q+1)+r-(C4 a).length=4*q+r by show 4*(q+1)+r-4=_;omega]
  have:=rU t q r (by simpa using hq) hr
  simpa[eV]using this
theorem kH{A:Option Addr}{n c:Nat}{l:List UInt8}(hn:n≤140737488351232):b7 Tryz.prog 56 [.slice A n c] [] [cL 1 A n (aW l)] (fun v_ X_ S_=>v_=(.agg (aW (bL l)).toArray)∧X_=[]∧S_=[]):=by
 refine aM (N:=49) Tryz.func56 rfl rfl (by simp) fun b=> ?_
 refine a6 (fun m=>eG (m.rd 0 rfl)) ?_
 rintro⟨hl_r,hA_r⟩
 refine ae<|ai<| ?_
 refine hx (bf dw (fun g2=> ?_))
 refine ag<|aj (X' :=[_]) (S' :=[_]) (fun _ m=>m)<|ab<|ae<|ai<| ?_
 refine hx (bQ Tryz.underlying215 mf rfl rfl rfl (by decide) (by decide) (by decide) (fun g10=> ?_))
 have hA_b10:0<8→(some (⟨g10,0,none⟩:Addr))≠none:=fun _ h=>by cases h
 refine aJ (fun w m=>m.bz 0 rfl (show _=aK 166 1 (.slice (some ⟨g10,0,none⟩) 8 8) 8 (ee (fN mQ ((jz l).take (64*0))))from by rw[Nat.mul_zero,List.take_zero];rfl)) ?_
 refine aG rfl<|ag<|aB [3,2,0] rfl<|aj (X' :=[_,_]) (S' :=[_]) (fun _ m=>m)<|ab<|ae<|ai<|aw rfl<| ?_
 refine hx (aq rfl Tryz.call141 (Ed (by omega)) [] rfl [0] rfl ?_)
 rintro _ _ _ ⟨v,rfl,rfl,rfl⟩
 refine az (fun m=>(m.own 0 rfl).slice) ?_
 rintro⟨A_x,c_x,rfl,hc_x⟩
 refine az (fun m=>(m.ord 0 rfl).2.1) fun hA_x=> ?_
 refine aG rfl<|ag<|aB [4,3,2,0] rfl<|aj (X' :=[_,_,_]) (S' :=[_]) (fun _ m=>m)<|ab<|ae<|ae<|ai<|aG rfl<|ag<|ab<|aN<| ?_
 have hpl:=oX l
 have hpb:(jz l).length≤140737488352000:=by
  have:l.length=n:=hl_r
  have hz:iT l.length<64:=Nat.mod_lt _ (by decide)
  simp only[jz,List.length_append,List.length_cons,List.length_replicate,lQ];omega
 obtain⟨K,hK⟩:∃K,(jz l).length=64*K:=⟨(jz l).length/64,by omega⟩
 generalize hP:jz l=P at hpl hpb hK hc_x hA_x ⊢
 refine bk (fun w m=>(m.perm (ar [0] _ [_] _ rfl)).freeze) ?_
 refine bk (fun w m=>m.fA 0 rfl .own) ?_
 refine a6 (fun m=>eG (m.rd 0 rfl)) ?_
 rintro⟨hl_xr,hA_xr⟩
 refine gJ (fun k H hc=>K-k) (fun k H hc=>[(3,.slice H 8 hc),(5,.int .i64 ((64*k:Nat):Int))]) (fun k H hc=>[aK 166 1 (.slice H 8 hc) 8 (ee (fN mQ (P.take (64*k))))]) (fun k H hc=>[]) (fun k H hc=>k≤K) 0 (some ⟨g10,0,none⟩) 8 [(4,_),(2,_),(0,_)] ⟨rfl,rfl,rfl,trivial⟩ [0] rfl [] rfl (Nat.zero_le _) ⟨rfl,rfl,trivial⟩ (fun k H hc hkK=> ?_)
 have hh:=nu (h:=mQ) (P.take (64*k)) rfl
 refine ae<|ae<|ai<|aw rfl<|aw rfl<|hy (fun _=>aY rfl Tryz.underlying27)<|hy (fun _=>bw rfl rfl)<|ag<|aB [16,3,5,4,2,0] rfl<|ab<| ?_
 refine cB rfl (fun hlt=> ?_) (fun hlt=> ?_)
 ·have hk:k<K:=by omega
  refine bk (fun w m=>m.fA 0 rfl (View.sub (k:=64*k) (m:=64) hc_x (by omega))) ?_
  refine a6 (fun m=>eG (m.rd 0 rfl)) ?_
  rintro⟨hl_r64,hA_r64⟩
  refine aC<|ab<|ae<|aN<|ai<|aw rfl<|aw rfl<|aw rfl<|aw rfl<|hy (fun _=>aP rfl rfl (bA (by omega) (by omega)))<|hy (fun _=>yV (ey rfl rfl rfl Tryz.underlying27 dU (show((64*k:Nat):Int)=_ by omega) (show((64*k+64:Nat):Int)=_ by omega) (by omega) (by omega)) ((show Value.slice (if c_x=64*k then A_x else A_x.map (·.add (64*k*1))) (64*k+64-64*k) (c_x-64*k)= .slice (if c_x=64*k then A_x else A_x.map (·.add (64*k*1))) 64 (c_x-64*k) by rw[Nat.add_sub_cancel_left])))<| ?_
  refine hx (c6 rfl Tryz.call142 (EU (by omega) hh (h:=(fN mQ (P.take (64*k))))) [] rfl (.x 0 rfl .own (.s 0 rfl .nil)) ?_)
  rintro _ _ _ ⟨u,rfl,rfl,rfl⟩
  refine⟨rfl, ?_⟩
  refine az (fun m=>(m.own 0 rfl).slice) ?_
  rintro⟨A_y,c_y,rfl,hc_y⟩
  refine az (fun m=>(m.ord 0 rfl).2.1) fun hA_y=> ?_
  refine aG rfl<|ag<|aB [3,16,5,4,2,0] rfl<|aj (X' :=[_,_,_]) (S' :=[_,_,_,_]) (fun _ m=>m)<|aS<|ab<|ai<|aw rfl<|hy (fun _=>yV (aP rfl rfl (bA (by omega) (by omega))) ((show Value.int .i64 (((64*k:Nat):Int)+64)= .int .i64 ((64*(k+1):Nat):Int)from congrArg (Value.int .i64) (by omega))))<|aG rfl<|ag<|aB [5,3,16,4,2,0] rfl<| ?_
  have hfs:eF (fN mQ (P.take (64*k))) ((P.drop (64*k)).take 64)=fN mQ (P.take (64*(k+1))):=by
   rw[←qm (by rw[List.length_take];omega) (by rw[List.length_take,List.length_drop];omega),←List.take_add]
   rfl
  rw[hfs]
  refine fD (k+1) A_y c_y ⟨rfl,rfl,rfl,rfl,rfl,trivial⟩ [0,1] rfl [1,2,3] rfl (by omega) (by omega)
 ·obtain rfl:k=K:=by omega
  have hfl:fN mQ (P.take (64*k))=fN mQ P:=by rw[List.take_of_length_le (by omega)]
  rw[hfl]at hh ⊢
  have hsha:bL l=eV (fN mQ P):=by rw[bL,hP]
  have hdl:=n0 hh
  generalize fN mQ P=F at hh hsha hdl ⊢
  refine a6 (fun m=>(m.ord 0 rfl).2.1) fun hA_b10=> ?_
  refine bG<|an<|an<|aE<|ab<|ae<|ai<| ?_
  refine hx (bf dw (fun g6=> ?_))
  refine ag<|aj (X' :=[_,_,_]) (S' :=[_,_,_]) (fun _ m=>m)<|ab<|ae<|ae<|ai<|aG rfl<|ag<|ab<|aN<| ?_
  refine bk (fun w m=>m.bz 0 rfl (show _=aH g6 53 (aW ((eV F).take 0++List.replicate (32-0) 0))from rfl)) ?_
  refine de (fun i=>32-i) (fun i=>[(7,.int .i64 (i:Nat))]) (fun i=>[aH g6 53 (aW ((eV F).take i++List.replicate (32-i) 0))]) (fun i=>[]) (fun i=>i≤32) 0 [(6,_),(16,_),(3,_),(5,_),(4,_),(2,_),(0,_)] ⟨rfl,rfl,rfl,rfl,rfl,rfl,rfl,trivial⟩ [0] rfl [] rfl (Nat.zero_le _) ⟨rfl,trivial⟩ (fun i hi32=> ?_)
  refine ae<|ae<|ai<|aw rfl<|hy (fun _=>bw rfl rfl)<|ag<|aB [27,7,6,16,3,5,4,2,0] rfl<|ab<| ?_
  refine cB rfl (fun hi=> ?_) (fun hi=> ?_)
  ·refine aC<|ab<|ae<|aN<|ae<|ai<|aw rfl<|aw rfl<|hy (fun _=>kA rfl rfl (by omega) (by omega) (bA (by omega) (by omega)))<|hy (fun _=>aZ rfl rfl Tryz.underlying215 bI hA_b10 (show((i/4:Nat):Int)=_ by omega) (by omega))<|hy (fun m=>yV (ao rfl bV ((m.ord 1 rfl).cell (j:=i/4) (br (by omega)))) ((rfl:_=Wd (qw (F.getD (i/4) 0) 0))))<|aG rfl<|ag<|aB [8,27,7,6,16,3,5,4,2,0] rfl<|ab<|ae<|ae<|ai<|aw rfl<|hy (fun _=>yV (hZ rfl rfl (by omega) (by omega)) ((show Value.int .i64 ((i:Int) % 4)= .int .i64 (((i % 4+0:Nat)):Int)from congrArg (Value.int .i64) (by omega))))<|aG rfl<|ag<|aB [9,8,27,7,6,16,3,5,4,2,0] rfl<|ab<|aN<| ?_
   refine de (fun j=>3-j) (fun j=>[(8,Wd (qw (F.getD (i/4) 0) j)),(9,.int .i64 ((i % 4+j:Nat):Int))]) (fun j=>[]) (fun j=>[]) (fun j=>i % 4+j≤3) 0 [(27,_),(7,_),(6,_),(16,_),(3,_),(5,_),(4,_),(2,_),(0,_)] ⟨rfl,rfl,rfl,rfl,rfl,rfl,rfl,rfl,rfl,trivial⟩ [] rfl [] rfl ((by omega)) ⟨rfl,rfl,trivial⟩ (fun j hj3=> ?_)
   refine ae<|ae<|ai<|aw rfl<|hy (fun _=>bw rfl rfl)<|ag<|aB [38,8,9,27,7,6,16,3,5,4,2,0] rfl<|ab<| ?_
   refine cB rfl (fun hj=> ?_) (fun hj=> ?_)
   ·refine aC<|ab<|ae<|aN<|ai<|aw rfl<|hy (fun _=>yV (oh (b:=256) (by decide) rfl rfl) ((rfl:_=Wd (qw (F.getD (i/4) 0) (j+1)))))<|aG rfl<|ag<|aB [8,38,9,27,7,6,16,3,5,4,2,0] rfl<|aS<|ab<|ai<|aw rfl<|hy (fun _=>yV (aP rfl rfl (bA (by omega) (by omega))) ((show Value.int .i64 (((i % 4+j:Nat):Int)+1)= .int .i64 ((i % 4+(j+1):Nat):Int)from congrArg (Value.int .i64) (by omega))))<|aG rfl<|ag<|aB [9,8,38,27,7,6,16,3,5,4,2,0] rfl<| ?_
    refine cM (j+1) ⟨rfl,rfl,rfl,rfl,rfl,rfl,rfl,rfl,rfl,rfl,rfl,trivial⟩ [0,0,0] rfl [0,1,2] rfl (by omega) (by omega)
   ·have hj:j=3-i % 4:=by omega
    subst hj
    have hbyte:(eV F)[i]? =some (UInt8.ofNat (qw (F.getD (i/4) 0) (3-i % 4) % 256).toNat):=by
     rw[←Gd _ (by omega),←rU F (i/4) (i % 4) (by omega) (by omega)]
     congr 1;omega
    have hri:List.replicate (32-i) (0:UInt8)=0::List.replicate (32-(i+1)) 0:=by rw[show 32-i=(32-(i+1))+1 by omega];rfl
    have hti:(eV F).take (i+1)=(eV F).take i++[UInt8.ofNat (qw (F.getD (i/4) 0) (3-i % 4) % 256).toNat]:=by
     rw[List.take_add_one,hbyte];rfl
    refine bG<|an<|an<|aE<|ab<|ai<|aw rfl<|aw rfl<|hy (fun _=>wj (b:=256) (by decide) rfl rfl)<|hy (fun _=>Bk rfl Tryz.underlying166 Tryz.underlying5)<|hy (fun _=>bS rfl rfl Tryz.underlying53 dU rfl (by omega))<| ?_
    refine cI (b9 0 rfl rfl rfl dU rfl (by rw[ax,List.length_append,List.length_take,List.length_replicate];omega) ?_)
    refine ag<|aB [38,8,9,27,7,6,16,3,5,4,2,0] rfl<|aj (X' :=[_,_,_]) (S' :=[_,_,_]) (fun _ m=>m)<|aS<|ab<|ai<|aw rfl<|hy (fun _=>aP rfl rfl (bA (by omega) (by omega)))<|aG rfl<|ag<|aB [7,38,8,9,27,6,16,3,5,4,2,0] rfl<| ?_
    refine aj (fun w m=>m.bz 0 rfl (show _=aH g6 53 (aW ((eV F).take (i+1)++List.replicate (32-(i+1)) 0))from by rw[hri,Nat.zero_add,hti];exact congrArg (aH _ _) (AF (by rw[List.length_take];omega)))) ?_
    refine cM (i+1) ⟨rfl,rfl,rfl,rfl,rfl,rfl,rfl,rfl,trivial⟩ [0,0,0] rfl [0,1,2] rfl (by omega) (by omega)
  ·obtain rfl:i=32:=by omega
   refine bk (fun w m=>m.bz 0 rfl (show _=aH g6 53 (aW (bL l))from by rw[List.take_of_length_le (by omega),←hsha];simp)) ?_
   refine bG<|an<|an<|aE<|ab<|ae<|ai<|hy (fun m=>yV (aQ rfl b5 bp (by rw[ax,bK]) ((m.aU 0 rfl).au)) ((rfl:_=Value.agg (aW (bL l)).toArray)))<| ?_
   refine cI (ba 2 rfl rfl rfl bp (by rw[ax,bK]) bn rfl ?_)
   refine ag<|aB [27,7,6,16,3,5,4,2,0] rfl<|aj (X' :=[_,_,_]) (S' :=[_,_,_]) (fun _ m=>m)<|ab<|aV<| ?_
   exact eO trivial rfl rfl b5 bp (by rw[ax,bK]) (fun m=>(m.aU 0 rfl).au) [] rfl [] rfl ⟨rfl,rfl,rfl⟩
end Go.Proofs.YtmibdabdlgmafaaGreatDoor
end
section
set_option maxRecDepth 20000
set_option maxHeartbeats 4000000
namespace Go.Proofs.YtmibdabdlgmafaaGreatDoor
open Go.Eng Go.Hx
theorem yn{nm:List UInt8}(hm:nm.length=32):b7 Tryz.prog 98 [.agg (aW nm).toArray] [] [] (fun v_ X_ S_=>v_=(.string (strOf (b6 nm)))∧X_=[]∧S_=[]):=by
 have hhl:(cq nm).length=64:=by rw[dQ,hm]
 refine aM (N:=6) Tryz.func98 rfl rfl (by simp) fun b=> ?_
 refine ae<|ai<| ?_
 refine hx (bu rfl (fun g1=> ?_))
 refine aJ (fun w m=>m.bz 0 rfl (show _=aH g1 53 (aW nm)from congrArg (aH _ _) (aT _))) ?_
 refine aG rfl<|ag<|aj (X' :=[_]) (S' :=[]) (fun _ m=>m)<|ab<|ae<|ai<|hy (fun m=>aQ rfl b5 bp (by rw[ax];exact hm) ((m.aU 0 rfl).au))<| ?_
 refine hx (aq rfl Tryz.call111 (yj hm) [] rfl [] rfl ?_)
 rintro _ _ _ ⟨rfl,rfl,rfl⟩
 refine hy (fun _=>yV (jx rfl rfl (je (a:=[116,47]) (b:=cq nm) (by simp[hhl]))) ((show Value.string (strOf [116,47]++strOf (cq nm))= .string (strOf (b6 nm))from congrArg Value.string (dC _ _))))<|aG rfl<|ag<|aB [2,1,0] rfl<|aj (X' :=[_]) (S' :=[]) (fun _ m=>m)<|ab<|aV<| ?_
 exact bc trivial rfl rfl [] rfl [] rfl ⟨rfl,rfl,rfl⟩
theorem AG{x:RX}{kk:Nat}{nm:List UInt8}(ok:zY x.d kk)(hkk:kk≤100000)(hm:nm.length=32)(hrd:(x.d.cS (bx nm)).length≤10000000):b7 Tryz.prog 74 [.agg x.cs.toArray,.agg (aW nm).toArray] [] [eL x,dZ] (fun v_ X_ S_=>v_=(.tuple #[.string (strOf (x.d.xq nm)),.int .i64 (x.d.ic nm)])∧X_=[]∧S_=[]):=by
 have h32:(aW nm).length=32:=by rw[ax,hm]
 refine aM (N:=34) Tryz.func74 rfl rfl (by simp) fun b=> ?_
 refine ae<|ai<| ?_
 refine hx (bu rfl (fun g2=> ?_))
 refine aJ (fun w m=>m.bz 0 rfl (show _=aH g2 39 x.cs from congrArg (aH _ _) (aT _))) ?_
 refine hx (bu rfl (fun g3=> ?_))
 refine aJ (fun w m=>m.bz 0 rfl (show _=aH g3 53 (aW nm)from congrArg (aH _ _) (aT _))) ?_
 refine aG rfl<|aG rfl<|ag<|aj (X' :=[_,_]) (S' :=[_,_]) (fun _ m=>m)<|ab<|ae<|cD [2,3] [(0,some 1),(1,some 0),(2,none),(3,none),(4,some 2),(5,some 2),(6,some 2),(7,some 2),(8,some 2)] (by kernel_rfl) (by kernel_rfl) rfl 99<|bZ (fun m=>yV (aQ rfl cF bP rfl ((m.aU 1 rfl).au)) ((rfl:_=Value.agg x.cs.toArray)))<|bZ (fun m=>aQ rfl b5 bp h32 ((m.aU 0 rfl).au))<| ?_
 refine dF (aq rfl Tryz.call29 (tI hm) [] rfl [] rfl ?_)
 rintro _ _ _ ⟨rfl,rfl,rfl⟩
 refine⟨(fun _=>wk [0,0] [0,1] rfl rfl), ?_⟩
 refine dF (aq rfl Tryz.call91 (Cg ok hkk (p:=(bx nm))) [] rfl [0] rfl ?_)
 rintro _ _ _ ⟨rfl,rfl,rfl⟩
 refine⟨(fun _=>wk [0,0] [0,1] rfl rfl), ?_⟩
 refine ak (ah rfl)<|ak (aD rfl rfl)<|ak (aD rfl rfl)<|ak (al rfl)<|ak (al rfl)<|bq<|aB [7,6,5,4,3,2,0,1] rfl<|aj (X' :=[_,_]) (S' :=[_,_]) (fun _ m=>m)<|ab<|ae<|ae<|ai<|aw rfl<|hy (fun _=>cT rfl rfl)<|ag<|aB [18,7,6,5,4,3,2,0,1] rfl<|ab<| ?_
 refine cB rfl (fun h=> ?_) (fun h=> ?_)
 ·rw[jI h,ll (by rw[jI h];exact h)]
  refine ae<|ai<|aw rfl<|aG rfl<|aG rfl<|ag<|aB [5,4,18,7,6,3,2,0,1] rfl<|ab<|aV<|ay<| ?_
  exact db trivial rfl rfl rfl [] rfl [] rfl ⟨rfl,rfl,rfl⟩
 ·have h1:=Decidable.not_not.1 h
  have hbs:(bytesOf (strOf (x.d.cS (bx nm)))).length=(x.d.cS (bx nm)).length:=rfl
  have hol:=sG (f:=x.d.cS (bx nm)) (most:=4096) (by decide)
  refine aC<|ab<|ae<|ai<|aw rfl<| ?_
  refine hx (A5 rfl Tryz.underlying9 Tryz.underlying27 Tryz.underlying5 (show(x.d.cS (bx nm)).length≤maxLen by unfold maxLen;omega) (fun v22=> ?_))
  refine az (fun m=>(m.own 0 rfl).slice) ?_
  rintro⟨A_b22,c_b22,rfl,hc_b22⟩
  refine az (fun m=>(m.ord 0 rfl).2.1) fun hA_b22=> ?_
  refine aJ (fun w m=>m.bz 0 rfl (show _=aK 5 1 (.slice A_b22 (x.d.cS (bx nm)).length c_b22) (x.d.cS (bx nm)).length (aW (x.d.cS (bx nm)))from rfl)) ?_
  refine aJ (fun w m=>(m.perm (ar [0] _ [_] _ rfl)).freeze) ?_
  refine aJ (fun w m=>m.fA 0 rfl .own) ?_
  refine hx (aq rfl Tryz.call156 (Hz hc_b22 rfl hrd (show(4096:Int)≤1000000 by decide) (f:=(x.d.cS (bx nm)))) [] rfl [0] rfl ?_)
  rintro _ _ _ ⟨A1,c1,rfl,rfl,rfl,hp⟩
  refine az (fun m=>eG (m.rd 0 rfl)) ?_
  rintro⟨hl_q,hA_q⟩
  refine aw rfl<|hy (fun _=>aD rfl rfl)<|hy (fun _=>aD rfl rfl)<|aG rfl<|aG rfl<|ag<|aB [9,8,18,7,6,5,4,3,2,0,1] rfl<|aj (X' :=[_,_]) (S' :=[_,_,_,_,_]) (fun _ m=>m)<|ab<|ae<|ae<|ai<|aw rfl<|hy (fun _=>cT rfl rfl)<|ag<|aB [27,9,8,18,7,6,5,4,3,2,0,1] rfl<|ab<| ?_
  refine cB rfl (fun h2=> ?_) (fun h2=> ?_)
  ·have hE:=n5 (d:=x.d) (nm:=nm) h1 (.inl h2)
   rw[hE,ll (by rw[hE];decide)]
   refine ae<|ai<|aG rfl<|aG rfl<|ag<|ab<|aV<|ay<| ?_
   exact db trivial rfl rfl rfl [] rfl [] rfl ⟨rfl,rfl,rfl⟩
  ·have h2:=Decidable.not_not.1 h2
   refine aC<|ab<|ae<|ae<|cD [1] [(0,some 0),(2,some 1),(1,none),(3,some 1)] (by kernel_rfl) (by kernel_rfl) rfl 99<|ak (ah rfl)<|bZ (fun m=>aQ rfl b5 bp h32 ((m.aU 0 rfl).au))<| ?_
   refine dF (aq rfl Tryz.call56 (kH (by omega)) [] rfl [0] rfl ?_)
   rintro _ _ _ ⟨rfl,rfl,rfl⟩
   refine⟨(fun _=>wk [0,0] [0,1,2,3,4] rfl rfl), ?_⟩
   refine ak (ta rfl rfl (bK _) hm)<|bq<|aB [31,27,9,8,18,7,6,5,4,3,2,0,1] rfl<|aj (X' :=[_,_]) (S' :=[_,_,_,_,_]) (fun _ m=>m)<|ab<| ?_
   refine cB rfl (fun h3=> ?_) (fun h3=> ?_)
   ·have hE:=n5 (d:=x.d) (nm:=nm) h1 (.inr h3)
    rw[hE,ll (by rw[hE];decide)]
    refine ae<|ai<|aG rfl<|aG rfl<|ag<|ab<|aV<|ay<| ?_
    exact db trivial rfl rfl rfl [] rfl [] rfl ⟨rfl,rfl,rfl⟩
   ·have hE:=ya (d:=x.d) (nm:=nm) h1 (fun q=>q.elim (fun q=>q h2) h3)
    rw[hE,yL hE]
    refine aC<|ab<|ae<|ai<|aw rfl<|hy (fun m=>ma rfl Tryz.underlying27 Tryz.underlying5 Tryz.underlying9 (m.rd 0 rfl))<|aG rfl<|aG rfl<|ag<|aB [5,4,31,27,9,8,18,7,6,3,2,0,1] rfl<|ab<|aV<| ?_
    exact db trivial rfl rfl rfl [] rfl [] rfl ⟨rfl,rfl,rfl⟩
theorem GI{d:RD}{bb:List UInt8}(h:d.bX (b6 (bL bb)) (cr bb)≠0):d.iX bb=(d.write (b6 (bL bb)) (cr bb),d.bX (b6 (bL bb)) (cr bb)):=by
 unfold RD.iX
 rw[fB]
 exact if_pos h
theorem Gy{d:RD}{bb:List UInt8}(h:d.bX (b6 (bL bb)) (cr bb)=0)(h2:(d.write (b6 (bL bb)) (cr bb)).dM≠0):d.iX bb=((d.write (b6 (bL bb)) (cr bb)).sync,(d.write (b6 (bL bb)) (cr bb)).dM):=by
 unfold RD.iX
 rw[fB,if_neg (by show¬d.bX _ _≠0;rw[h];decide),fB]
 exact if_pos h2
theorem GF{d:RD}{bb:List UInt8}(h:d.bX (b6 (bL bb)) (cr bb)=0)(h2:(d.write (b6 (bL bb)) (cr bb)).dM=0)(h3:(d.write (b6 (bL bb)) (cr bb)).sync.cg (b6 (bL bb)) (bx (bL bb))≠0):d.iX bb=((d.write (b6 (bL bb)) (cr bb)).sync.rename (b6 (bL bb)) (bx (bL bb)),(d.write (b6 (bL bb)) (cr bb)).sync.cg (b6 (bL bb)) (bx (bL bb))):=by
 unfold RD.iX
 rw[fB,if_neg (by show¬d.bX _ _≠0;rw[h];decide),fB,if_neg (by show¬(d.write _ _).dM≠0;rw[h2];decide),fB]
 exact if_pos h3
theorem Gh{d:RD}{bb:List UInt8}(h:d.bX (b6 (bL bb)) (cr bb)=0)(h2:(d.write (b6 (bL bb)) (cr bb)).dM=0)(h3:(d.write (b6 (bL bb)) (cr bb)).sync.cg (b6 (bL bb)) (bx (bL bb))=0):d.iX bb=(((d.write (b6 (bL bb)) (cr bb)).sync.rename (b6 (bL bb)) (bx (bL bb))).sync,((d.write (b6 (bL bb)) (cr bb)).sync.rename (b6 (bL bb)) (bx (bL bb))).dM):=by
 unfold RD.iX
 rw[fB,if_neg (by show¬d.bX _ _≠0;rw[h];decide),fB,if_neg (by show¬(d.write _ _).dM≠0;rw[h2];decide),fB,if_neg (by show¬((d.write _ _).sync).cg _ _≠0;rw[h3];decide),fB]
 by_cases h4:(mi (tb (b6 (bL bb)) (bx (bL bb)) (mi (tS (b6 (bL bb)) (cr bb) d).1).1).1).2=0
 ·rw[if_neg (fun q=>q h4)]
  exact Prod.ext rfl h4.symm
 ·rw[if_pos h4];rfl
theorem nc{d:RD}{bb:List UInt8}(hn:¬4096<bb.length)(h6:d.ic (bL bb)≠6)(h0:d.ic (bL bb)≠0){d' :RD}{e:Int}(h:d.iX bb=(d',e)):d.put bb=(d',if e=0 then bL bb else ek,e):=by
 unfold RD.put;rw[if_neg hn,if_neg h6,if_neg h0,h]
theorem FC{x:RX}{kk:Nat}{A:Option Addr}{n c:Nat}{bb:List UInt8}(hD:x.d.ok kk)(hkk:kk≤90000)(hc:n≤c)(hl:bb.length=n)(hn:n≤100000):b7 Tryz.prog 26 [.agg x.cs.toArray,.slice A n c] [] [eL x,cL 1 A n (aW bb),dZ] (fun v_ X_ S_=>∃y,v_=(.tuple #[.agg y.cs.toArray,.agg (aW (x.d.put bb).2.1).toArray,.int .i64 (x.d.put bb).2.2])∧X_=[]∧S_=[eL y]∧(y.d=(x.d.put bb).1)):=by
 have hm:=bK bb
 have h32:(aW (bL bb)).length=32:=by rw[ax,hm]
 have z32:(aW ek).length=32:=by rw[ax,fw]
 obtain⟨s0,s1⟩:=n4 bb
 have hrd:(x.d.cS (bx (bL bb))).length≤10000000:=by
  obtain⟨st,hst⟩:=hD
  have:=hst.wi (bx (bL bb))
  omega
 have ok1:=hD.write (p:=b6 (bL bb)) (l:=cr bb) (by omega)
 have okr:=hD.C2
 have okr1:=ok1.C2
 have okr2:=ok1.sync.C2
 have okr3:=ok1.sync.rename (a:=b6 (bL bb)) (c:=bx (bL bb))|>.C2
 refine aM (N:=74) Tryz.func26 rfl rfl (by simp) fun b=> ?_
 refine a6 (fun m=>eG (m.rd 1 rfl)) ?_
 rintro⟨hl_rb,hA_rb⟩
 refine ae<|ai<| ?_
 refine hx (bu rfl (fun g2=> ?_))
 refine aJ (fun w m=>m.bz 0 rfl (show _=aH g2 39 x.cs from congrArg (aH _ _) (aT _))) ?_
 refine hx (bf ou (fun g4=> ?_))
 refine hx (bf dw (fun g5=> ?_))
 refine aG rfl<|ag<|aj (X' :=[_,_,_]) (S' :=[_,_,_]) (fun _ m=>m)<|ab<|ae<|ae<|ai<|aw rfl<|hy (fun _=>aY rfl Tryz.underlying27)<|hy (fun _=>cW rfl rfl)<|ag<|aB [12,6,5,4,2,0,1] rfl<|ab<| ?_
 refine cB rfl (fun hbig=> ?_) (fun hbig=> ?_)
 ·have e0:x.d.put bb=(x.d,ek,3):=xE (by omega)
  rw[e0]
  refine ae<|ai<|hy (fun m=>yV (aQ rfl cF bP rfl ((m.aU 2 rfl).au)) ((rfl:_=Value.agg x.cs.toArray)))<|hy (fun _=>yV (dK dw rfl (by kernel_rfl)) ((rfl:_=Value.agg (aW ek).toArray)))<| ?_
  refine cI (ba 1 rfl rfl rfl bP rfl cH rfl ?_)
  refine cI (ba 1 rfl rfl rfl bp z32 bn rfl ?_)
  refine aG rfl<|ag<|aB [6,12,5,4,2,0,1] rfl<|aj (X' :=[_,_,_]) (S' :=[_,_,_]) (fun _ m=>m)<|ab<|aV<|ay<| ?_
  exact fx trivial rfl rfl rfl rfl cF bP rfl (fun m=>(m.aU 1 rfl).au) b5 bp z32 (fun m=>(m.aU 0 rfl).au) [] rfl [0] rfl ⟨x,rfl,rfl,rfl,rfl⟩
 ·have hbg:¬4096<bb.length:=by omega
  refine aC<|ab<|ae<|ai<|aw rfl<| ?_
  refine hx (aq rfl Tryz.call56 (kH (by omega)) [] rfl [1] rfl ?_)
  rintro _ _ _ ⟨rfl,rfl,rfl⟩
  refine hx (bf dw (fun g7=> ?_))
  refine cI (ba 0 rfl rfl rfl bp h32 bn rfl ?_)
  refine ag<|aB [7,12,6,5,4,2,0,1] rfl<|aj (X' :=[_,_,_,_]) (S' :=[_,_,_]) (fun _ m=>m)<|ab<|ae<|ai<|hy (fun m=>yV (aQ rfl cF bP rfl ((m.aU 3 rfl).au)) ((rfl:_=Value.agg x.cs.toArray)))<|hy (fun m=>aQ rfl b5 bp h32 ((m.aU 0 rfl).au))<| ?_
  refine hx (aq rfl Tryz.call74 (AG okr (by omega) hm hrd) [] rfl [0,2] rfl ?_)
  rintro _ _ _ ⟨rfl,rfl,rfl⟩
  refine aw rfl<|hy (fun _=>aD rfl rfl)<|hy (fun _=>aD rfl rfl)<|aG rfl<|aG rfl<|ag<|aB [9,7,12,6,5,4,2,0,1] rfl<|aj (X' :=[_,_,_,_]) (S' :=[_,_,_]) (fun _ m=>m)<|ab<|ae<|ae<|ai<|aw rfl<|hy (fun _=>cx rfl rfl)<|ag<|aB [24,9,7,12,6,5,4,2,0,1] rfl<|ab<| ?_
  refine cB rfl (fun h0=> ?_) (fun h0=> ?_)
  ·have e0:x.d.put bb=(x.d,bL bb,0):=by unfold RD.put;rw[if_neg hbg,if_neg (by rw[h0];decide),if_pos h0]
   rw[e0]
   refine ae<|Fi [0,1,2,3] (.alt 0 (.alt 1 (.alt 2 (.alt 3 (.take 4 4<|.done) (.stop)) (.stop)) (.alt 2 (.alt 1 (.alt 3 (.take 4 4<|.done) (.stop)) (.stop)) (.stop))) (.alt 1 (.alt 0 (.alt 2 (.alt 3 (.take 4 4<|.done) (.stop)) (.stop)) (.stop)) (.stop))) (by kernel_rfl) (by kernel_rfl) rfl 1<| ?_
   refine qq ?_ ?_
   ·refine xA<|qt (fun m=>yV (aQ rfl cF bP rfl ((m.aU 3 rfl).au)) ((rfl:_=Value.agg x.cs.toArray)))<|And.intro (fun _=>wk [0,0,0,0] [0,1,2] rfl rfl)<| ?_
    refine qq ?_ ?_
    ·refine xA<|qt (fun m=>aQ rfl b5 bp h32 ((m.aU 0 rfl).au))<|And.intro (fun h=>absurd h (by decide))<| ?_
     refine mX (ba 2 rfl rfl rfl bP rfl cH rfl ⟨(fun h=>absurd h (by decide)), ?_⟩)
     refine mX (ba 2 rfl rfl rfl bp h32 bn rfl ⟨(fun h=>absurd h (by decide)), ?_⟩)
     refine fW (al rfl)<|pk<|aB [6,24,9,7,12,5,4,2,0,1] rfl<|aj (X' :=[_,_,_,_]) (S' :=[_,_,_]) (fun _ m=>m)<|ab<|aV<|ay<| ?_
     exact fx trivial rfl rfl rfl rfl cF bP rfl (fun m=>(m.aU 1 rfl).au) b5 bp h32 (fun m=>(m.aU 0 rfl).au) [] rfl [0] rfl ⟨x,rfl,rfl,rfl,rfl⟩
    ·refine mX (ba 2 rfl rfl rfl bP rfl cH rfl ⟨(fun h=>absurd h (by decide)), ?_⟩)
     refine xA<|qt (fun m=>aQ rfl b5 bp h32 ((m.aU 1 rfl).au))<|And.intro (fun h=>absurd h (by decide))<| ?_
     refine mX (ba 2 rfl rfl rfl bp h32 bn rfl ⟨(fun h=>absurd h (by decide)), ?_⟩)
     refine fW (al rfl)<|pk<|aB [6,24,9,7,12,5,4,2,0,1] rfl<|aj (X' :=[_,_,_,_]) (S' :=[_,_,_]) (fun _ m=>m)<|ab<|aV<|ay<| ?_
     exact fx trivial rfl rfl rfl rfl cF bP rfl (fun m=>(m.aU 1 rfl).au) b5 bp h32 (fun m=>(m.aU 0 rfl).au) [] rfl [0] rfl ⟨x,rfl,rfl,rfl,rfl⟩
   ·refine xA<|qt (fun m=>aQ rfl b5 bp h32 ((m.aU 0 rfl).au))<|And.intro (fun _=>wk [0,0,0,0] [0,1,2] rfl rfl)<|xA<|qt (fun m=>yV (aQ rfl cF bP rfl ((m.aU 3 rfl).au)) ((rfl:_=Value.agg x.cs.toArray)))<|And.intro (fun h=>absurd h (by decide))<| ?_
    refine mX (ba 2 rfl rfl rfl bP rfl cH rfl ⟨(fun h=>absurd h (by decide)), ?_⟩)
    refine mX (ba 2 rfl rfl rfl bp h32 bn rfl ⟨(fun h=>absurd h (by decide)), ?_⟩)
    refine fW (al rfl)<|pk<|aB [6,24,9,7,12,5,4,2,0,1] rfl<|aj (X' :=[_,_,_,_]) (S' :=[_,_,_]) (fun _ m=>m)<|ab<|aV<|ay<| ?_
    exact fx trivial rfl rfl rfl rfl cF bP rfl (fun m=>(m.aU 1 rfl).au) b5 bp h32 (fun m=>(m.aU 0 rfl).au) [] rfl [0] rfl ⟨x,rfl,rfl,rfl,rfl⟩
  ·refine aC<|ab<|ae<|ae<|ai<|aw rfl<|hy (fun _=>cx rfl rfl)<|ag<|aB [28,24,9,7,12,6,5,4,2,0,1] rfl<|ab<| ?_
   refine cB rfl (fun h6=> ?_) (fun h6=> ?_)
   ·have e0:x.d.put bb=(x.d,ek,6):=by unfold RD.put;rw[if_neg hbg,if_pos h6]
    rw[e0,h6]
    refine ae<|ai<|hy (fun m=>yV (aQ rfl cF bP rfl ((m.aU 3 rfl).au)) ((rfl:_=Value.agg x.cs.toArray)))<|hy (fun _=>yV (dK dw rfl (by kernel_rfl)) ((rfl:_=Value.agg (aW ek).toArray)))<|aw rfl<| ?_
    refine cI (ba 2 rfl rfl rfl bP rfl cH rfl ?_)
    refine cI (ba 2 rfl rfl rfl bp z32 bn rfl ?_)
    refine aG rfl<|ag<|aB [6,28,24,9,7,12,5,4,2,0,1] rfl<|aj (X' :=[_,_,_,_]) (S' :=[_,_,_]) (fun _ m=>m)<|ab<|aV<|ay<| ?_
    exact fx trivial rfl rfl rfl rfl cF bP rfl (fun m=>(m.aU 1 rfl).au) b5 bp z32 (fun m=>(m.aU 0 rfl).au) [] rfl [0] rfl ⟨x,rfl,rfl,rfl,rfl⟩
   ·refine aC<|ab<|ae<|cD [2,4,5,6,10] [(0,some 3),(1,some 0),(3,some 1),(2,none),(4,none),(5,none),(6,none),(7,some 4),(8,some 4),(9,some 5),(10,none),(11,some 5)] (by kernel_rfl) (by kernel_rfl) rfl 4<|bZ (fun m=>yV (aQ rfl cF bP rfl ((m.aU 3 rfl).au)) ((rfl:_=Value.agg x.cs.toArray)))<|bZ (fun m=>aQ rfl b5 bp h32 ((m.aU 0 rfl).au))<|ak (ah rfl)<| ?_
    refine dF (aq rfl Tryz.call98 (yn hm) [] rfl [] rfl ?_)
    rintro _ _ _ ⟨rfl,rfl,rfl⟩
    refine⟨(fun _=>wk [0,0,0,0] [0,1,2] rfl rfl), ?_⟩
    refine dF (aq rfl Tryz.call81 (Gx hc (by omega) hl) [] rfl [1] rfl ?_)
    rintro _ _ _ ⟨v,rfl,rfl,rfl⟩
    refine⟨(fun _=>wk [1,1,1,1] [0,1,2] rfl rfl), ?_⟩
    refine cd (fun m=>(m.own 0 rfl).slice) ?_
    rintro⟨A_x,c_x,rfl,hc_x⟩
    refine cd (fun m=>(m.ord 0 rfl).2.1) fun hA_x=> ?_
    refine Em (fun _=>wk [1,1,1,1] [0,1,2] rfl rfl) (fun m=>ma rfl Tryz.underlying27 Tryz.underlying5 Tryz.underlying9 (m.ord 0 rfl))<| ?_
    refine dF (aq rfl Tryz.call31 (E3 okr (by omega) (by rw[jA hm];decide) (by omega) (p:=(b6 (bL bb))) (bb:=(cr bb))) [] rfl [0] rfl ?_)
    rintro _ _ _ ⟨y,rfl,rfl,rfl,hd1⟩
    refine⟨(fun _=>wk [1,1,1,1] [1,2,3] rfl rfl), ?_⟩
    refine ak (ah rfl)<|ak (aD rfl rfl)<|ak (aD rfl rfl)<| ?_
    refine gu (ba 4 rfl rfl rfl bP rfl cH rfl ⟨(fun h=>absurd h (by decide)), ?_⟩)
    refine ak (al rfl)<|bq<|aB [9,28,24,7,12,6,5,4,2,0,1] rfl<|aj (X' :=[_,_,_,_,_]) (S' :=[_,_,_,_]) (fun _ m=>m)<|ab<|ae<|ae<|ai<|aw rfl<|hy (fun _=>cx rfl rfl)<|ag<|aB [43,9,28,24,7,12,6,5,4,2,0,1] rfl<|ab<| ?_
    refine cB rfl (fun h1=> ?_) (fun h1=> ?_)
    ·refine ai<|hy (fun m=>yV (aQ rfl cF bP rfl ((m.aU 0 rfl).au)) ((rfl:_=Value.agg y.cs.toArray)))<| ?_
     refine hx (aq rfl Tryz.call99 (BX (by rw[hd1];exact okr1)) [] rfl [0] rfl ?_)
     rintro _ _ _ ⟨y2,rfl,rfl,rfl,hd2⟩
     refine aw rfl<|hy (fun _=>aD rfl rfl)<|hy (fun _=>aD rfl rfl)<| ?_
     refine cI (ba 0 rfl rfl rfl bP rfl cH rfl ?_)
     refine aG rfl<|ag<|aB [9,43,28,24,7,12,6,5,4,2,0,1] rfl<|aj (X' :=[_,_,_,_,_]) (S' :=[_,_,_,_,_]) (fun _ m=>m)<|ab<|ae<|ae<|ai<|aw rfl<|hy (fun _=>cx rfl rfl)<|ag<|aB [50,9,43,28,24,7,12,6,5,4,2,0,1] rfl<|ab<| ?_
     refine cB rfl (fun h2=> ?_) (fun h2=> ?_)
     ·refine cD [2,4,5,9] [(0,some 2),(1,some 0),(3,some 1),(2,none),(4,none),(5,none),(6,some 3),(7,some 3),(8,some 4),(9,none),(10,some 4)] (by kernel_rfl) (by kernel_rfl) rfl 3<|bZ (fun m=>yV (aQ rfl cF bP rfl ((m.aU 0 rfl).au)) ((rfl:_=Value.agg y2.cs.toArray)))<|bZ (fun m=>aQ rfl b5 bp h32 ((m.aU 2 rfl).au))<|bZ (fun m=>aQ rfl b5 bp h32 ((m.aU 2 rfl).au))<| ?_
      refine dF (aq rfl Tryz.call98 (yn hm) [] rfl [] rfl ?_)
      rintro _ _ _ ⟨rfl,rfl,rfl⟩
      refine⟨(fun _=>wk [0,0,0,0,0] [0,1,2,3,4] rfl rfl), ?_⟩
      refine dF (aq rfl Tryz.call29 (tI hm) [] rfl [] rfl ?_)
      rintro _ _ _ ⟨rfl,rfl,rfl⟩
      refine⟨(fun _=>wk [0,0,0,0,0] [0,1,2,3,4] rfl rfl), ?_⟩
      refine dF (aq rfl Tryz.call100 (AU (by rw[hd2,hd1];exact okr2) (show kk+1≤100000 by omega) (by rw[fp hm];decide) (a:=(b6 (bL bb))) (c:=(bx (bL bb)))) [] rfl [0] rfl ?_)
      rintro _ _ _ ⟨y3,rfl,rfl,rfl,hd3⟩
      refine⟨(fun _=>wk [0,0,0,0,0] [1,2,3,4,5] rfl rfl), ?_⟩
      refine ak (ah rfl)<|ak (aD rfl rfl)<|ak (aD rfl rfl)<| ?_
      refine gu (ba 0 rfl rfl rfl bP rfl cH rfl ⟨(fun h=>absurd h (by decide)), ?_⟩)
      refine ak (al rfl)<|bq<|aB [9,50,43,28,24,7,12,6,5,4,2,0,1] rfl<|aj (X' :=[_,_,_,_,_]) (S' :=[_,_,_,_,_,_]) (fun _ m=>m)<|ab<|ae<|ae<|ai<|aw rfl<|hy (fun _=>cx rfl rfl)<|ag<|aB [61,9,50,43,28,24,7,12,6,5,4,2,0,1] rfl<|ab<| ?_
      refine cB rfl (fun h3=> ?_) (fun h3=> ?_)
      ·have hP:=Gh (d:=x.d) (bb:=bb) h1 (by rw[←hd1];exact h2) (by rw[←hd1,←hd2];exact h3)
       rw[←hd1,←hd2,←hd3]at hP
       have e0:=nc hbg h6 h0 hP
       refine ai<|hy (fun m=>yV (aQ rfl cF bP rfl ((m.aU 0 rfl).au)) ((rfl:_=Value.agg y3.cs.toArray)))<| ?_
       refine hx (aq rfl Tryz.call99 (BX (by rw[hd3,hd2,hd1];exact okr3)) [] rfl [0] rfl ?_)
       rintro _ _ _ ⟨y4,rfl,rfl,rfl,hd4⟩
       refine aw rfl<|hy (fun _=>aD rfl rfl)<|hy (fun _=>aD rfl rfl)<| ?_
       refine cI (ba 0 rfl rfl rfl bP rfl cH rfl ?_)
       refine aG rfl<|ag<|aB [9,61,50,43,28,24,7,12,6,5,4,2,0,1] rfl<|aj (X' :=[_,_,_,_,_]) (S' :=[_,_,_,_,_,_,_]) (fun _ m=>m)<|ab<|ae<|ae<|ai<|aw rfl<|hy (fun _=>cT rfl rfl)<|ag<|aB [68,9,61,50,43,28,24,7,12,6,5,4,2,0,1] rfl<|ab<| ?_
       rw[←hd4]at e0
       refine cB rfl (fun h4=> ?_) (fun h4=> ?_)
       ·rw[if_neg h4]at e0
        rw[e0]
        refine ae<|ai<|hy (fun m=>yV (aQ rfl cF bP rfl ((m.aU 0 rfl).au)) ((rfl:_=Value.agg y4.cs.toArray)))<|hy (fun _=>yV (dK dw rfl (by kernel_rfl)) ((rfl:_=Value.agg (aW ek).toArray)))<|aw rfl<| ?_
        refine cI (ba 4 rfl rfl rfl bP rfl cH rfl ?_)
        refine cI (ba 4 rfl rfl rfl bp z32 bn rfl ?_)
        refine aG rfl<|ag<|aB [6,68,9,61,50,43,28,24,7,12,5,4,2,0,1] rfl<|aj (X' :=[_,_,_,_,_]) (S' :=[_,_,_,_,_,_,_]) (fun _ m=>m)<|ab<|aV<|ay<| ?_
        exact fx trivial rfl rfl rfl rfl cF bP rfl (fun m=>(m.aU 1 rfl).au) b5 bp z32 (fun m=>(m.aU 0 rfl).au) [] rfl [0] rfl ⟨y4,rfl,rfl,rfl,rfl⟩
       ·have h4:=Decidable.not_not.1 h4
        rw[if_pos h4,h4]at e0
        rw[e0]
        refine aC<|ab<|ae<|Fi [0,1,2,3] (.alt 0 (.alt 1 (.alt 2 (.alt 3 (.take 4 4<|.done) (.stop)) (.stop)) (.alt 2 (.alt 1 (.alt 3 (.take 4 4<|.done) (.stop)) (.stop)) (.stop))) (.alt 1 (.alt 0 (.alt 2 (.alt 3 (.take 4 4<|.done) (.stop)) (.stop)) (.stop)) (.stop))) (by kernel_rfl) (by kernel_rfl) rfl 1<| ?_
        refine qq ?_ ?_
        ·refine xA<|qt (fun m=>yV (aQ rfl cF bP rfl ((m.aU 0 rfl).au)) ((rfl:_=Value.agg y4.cs.toArray)))<|And.intro (fun _=>wk [0,0,0,0,0] [0,1,2,3,4,5,6] rfl rfl)<| ?_
         refine qq ?_ ?_
         ·refine xA<|qt (fun m=>aQ rfl b5 bp h32 ((m.aU 2 rfl).au))<|And.intro (fun h=>absurd h (by decide))<| ?_
          refine mX (ba 4 rfl rfl rfl bP rfl cH rfl ⟨(fun h=>absurd h (by decide)), ?_⟩)
          refine mX (ba 4 rfl rfl rfl bp h32 bn rfl ⟨(fun h=>absurd h (by decide)), ?_⟩)
          refine fW (al rfl)<|pk<|aB [6,68,9,61,50,43,28,24,7,12,5,4,2,0,1] rfl<|aj (X' :=[_,_,_,_,_]) (S' :=[_,_,_,_,_,_,_]) (fun _ m=>m)<|ab<|aV<| ?_
          exact fx trivial rfl rfl rfl rfl cF bP rfl (fun m=>(m.aU 1 rfl).au) b5 bp h32 (fun m=>(m.aU 0 rfl).au) [] rfl [0] rfl ⟨y4,rfl,rfl,rfl,rfl⟩
         ·refine mX (ba 4 rfl rfl rfl bP rfl cH rfl ⟨(fun h=>absurd h (by decide)), ?_⟩)
          refine xA<|qt (fun m=>aQ rfl b5 bp h32 ((m.aU 3 rfl).au))<|And.intro (fun h=>absurd h (by decide))<| ?_
          refine mX (ba 4 rfl rfl rfl bp h32 bn rfl ⟨(fun h=>absurd h (by decide)), ?_⟩)
          refine fW (al rfl)<|pk<|aB [6,68,9,61,50,43,28,24,7,12,5,4,2,0,1] rfl<|aj (X' :=[_,_,_,_,_]) (S' :=[_,_,_,_,_,_,_]) (fun _ m=>m)<|ab<|aV<| ?_
          exact fx trivial rfl rfl rfl rfl cF bP rfl (fun m=>(m.aU 1 rfl).au) b5 bp h32 (fun m=>(m.aU 0 rfl).au) [] rfl [0] rfl ⟨y4,rfl,rfl,rfl,rfl⟩
        ·refine xA<|qt (fun m=>aQ rfl b5 bp h32 ((m.aU 2 rfl).au))<|And.intro (fun _=>wk [0,0,0,0,0] [0,1,2,3,4,5,6] rfl rfl)<|xA<|qt (fun m=>yV (aQ rfl cF bP rfl ((m.aU 0 rfl).au)) ((rfl:_=Value.agg y4.cs.toArray)))<|And.intro (fun h=>absurd h (by decide))<| ?_
         refine mX (ba 4 rfl rfl rfl bP rfl cH rfl ⟨(fun h=>absurd h (by decide)), ?_⟩)
         refine mX (ba 4 rfl rfl rfl bp h32 bn rfl ⟨(fun h=>absurd h (by decide)), ?_⟩)
         refine fW (al rfl)<|pk<|aB [6,68,9,61,50,43,28,24,7,12,5,4,2,0,1] rfl<|aj (X' :=[_,_,_,_,_]) (S' :=[_,_,_,_,_,_,_]) (fun _ m=>m)<|ab<|aV<| ?_
         exact fx trivial rfl rfl rfl rfl cF bP rfl (fun m=>(m.aU 1 rfl).au) b5 bp h32 (fun m=>(m.aU 0 rfl).au) [] rfl [0] rfl ⟨y4,rfl,rfl,rfl,rfl⟩
      ·have hP:=GF (d:=x.d) (bb:=bb) h1 (by rw[←hd1];exact h2) (by rw[←hd1,←hd2];exact h3)
       rw[←hd1,←hd2,←hd3]at hP
       have e0:=nc hbg h6 h0 hP
       rw[if_neg h3]at e0
       rw[e0]
       refine aC<|ab<|ae<|ae<|ai<|aw rfl<|hy (fun _=>cT rfl rfl)<|ag<|aB [68,61,9,50,43,28,24,7,12,6,5,4,2,0,1] rfl<|ab<| ?_
       refine fq rfl ((decide_eq_true h3)) ?_
       refine ae<|ai<|hy (fun m=>yV (aQ rfl cF bP rfl ((m.aU 0 rfl).au)) ((rfl:_=Value.agg y3.cs.toArray)))<|hy (fun _=>yV (dK dw rfl (by kernel_rfl)) ((rfl:_=Value.agg (aW ek).toArray)))<|aw rfl<| ?_
       refine cI (ba 4 rfl rfl rfl bP rfl cH rfl ?_)
       refine cI (ba 4 rfl rfl rfl bp z32 bn rfl ?_)
       refine aG rfl<|ag<|aB [6,68,61,9,50,43,28,24,7,12,5,4,2,0,1] rfl<|aj (X' :=[_,_,_,_,_]) (S' :=[_,_,_,_,_,_]) (fun _ m=>m)<|ab<|aV<|ay<| ?_
       exact fx trivial rfl rfl rfl rfl cF bP rfl (fun m=>(m.aU 1 rfl).au) b5 bp z32 (fun m=>(m.aU 0 rfl).au) [] rfl [0] rfl ⟨y3,rfl,rfl,rfl,rfl⟩
     ·have hP:=Gy (d:=x.d) (bb:=bb) h1 (by rw[←hd1];exact h2)
      rw[←hd1,←hd2]at hP
      have e0:=nc hbg h6 h0 hP
      rw[if_neg h2]at e0
      rw[e0]
      refine aC<|ab<|ae<|ae<|ai<|aw rfl<|hy (fun _=>cx rfl rfl)<|ag<|aB [61,50,9,43,28,24,7,12,6,5,4,2,0,1] rfl<|ab<| ?_
      refine cN rfl ((decide_eq_false h2)) ?_
      refine aC<|ab<|ae<|ae<|ai<|aw rfl<|hy (fun _=>cT rfl rfl)<|ag<|aB [68,61,50,9,43,28,24,7,12,6,5,4,2,0,1] rfl<|ab<| ?_
      refine fq rfl ((decide_eq_true h2)) ?_
      refine ae<|ai<|hy (fun m=>yV (aQ rfl cF bP rfl ((m.aU 0 rfl).au)) ((rfl:_=Value.agg y2.cs.toArray)))<|hy (fun _=>yV (dK dw rfl (by kernel_rfl)) ((rfl:_=Value.agg (aW ek).toArray)))<|aw rfl<| ?_
      refine cI (ba 4 rfl rfl rfl bP rfl cH rfl ?_)
      refine cI (ba 4 rfl rfl rfl bp z32 bn rfl ?_)
      refine aG rfl<|ag<|aB [6,68,61,50,9,43,28,24,7,12,5,4,2,0,1] rfl<|aj (X' :=[_,_,_,_,_]) (S' :=[_,_,_,_,_]) (fun _ m=>m)<|ab<|aV<|ay<| ?_
      exact fx trivial rfl rfl rfl rfl cF bP rfl (fun m=>(m.aU 1 rfl).au) b5 bp z32 (fun m=>(m.aU 0 rfl).au) [] rfl [0] rfl ⟨y2,rfl,rfl,rfl,rfl⟩
    ·have hP:=GI (d:=x.d) (bb:=bb) h1
     have e0:=nc hbg h6 h0 hP
     rw[if_neg h1]at e0
     rw[e0,←hd1]
     refine aC<|ab<|ae<|ae<|ai<|aw rfl<|hy (fun _=>cx rfl rfl)<|ag<|aB [50,43,9,28,24,7,12,6,5,4,2,0,1] rfl<|ab<| ?_
     refine cN rfl ((decide_eq_false h1)) ?_
     refine aC<|ab<|ae<|ae<|ai<|aw rfl<|hy (fun _=>cx rfl rfl)<|ag<|aB [61,50,43,9,28,24,7,12,6,5,4,2,0,1] rfl<|ab<| ?_
     refine cN rfl ((decide_eq_false h1)) ?_
     refine aC<|ab<|ae<|ae<|ai<|aw rfl<|hy (fun _=>cT rfl rfl)<|ag<|aB [68,61,50,43,9,28,24,7,12,6,5,4,2,0,1] rfl<|ab<| ?_
     refine fq rfl ((decide_eq_true h1)) ?_
     refine ae<|ai<|hy (fun m=>yV (aQ rfl cF bP rfl ((m.aU 0 rfl).au)) ((rfl:_=Value.agg y.cs.toArray)))<|hy (fun _=>yV (dK dw rfl (by kernel_rfl)) ((rfl:_=Value.agg (aW ek).toArray)))<|aw rfl<| ?_
     refine cI (ba 4 rfl rfl rfl bP rfl cH rfl ?_)
     refine cI (ba 4 rfl rfl rfl bp z32 bn rfl ?_)
     refine aG rfl<|ag<|aB [6,68,61,50,43,9,28,24,7,12,5,4,2,0,1] rfl<|aj (X' :=[_,_,_,_,_]) (S' :=[_,_,_,_]) (fun _ m=>m)<|ab<|aV<|ay<| ?_
     exact fx trivial rfl rfl rfl rfl cF bP rfl (fun m=>(m.aU 1 rfl).au) b5 bp z32 (fun m=>(m.aU 0 rfl).au) [] rfl [0] rfl ⟨y,rfl,rfl,rfl,rfl⟩
end Go.Proofs.YtmibdabdlgmafaaGreatDoor
end
section
set_option maxRecDepth 20000
set_option maxHeartbeats 4000000
namespace Go.Proofs.YtmibdabdlgmafaaGreatDoor
open Go.Eng Go.Hx
def kQ(acc:List (List UInt8))(p:List UInt8):List (List UInt8):=match kB p with|some nm=>lV acc nm|none=>acc
def cR(d:RD)(i:Nat):List (List UInt8):=((d.seen.take i).map (·.1)).foldl kQ []
theorem oc{d:RD}{i:Nat}{x:FP}(h:d.seen[i]? =some x):cR d (i+1)=kQ (cR d i) x.1:=by
 unfold cR
 rw[List.take_add_one,h,List.map_append,List.foldl_append]
 rfl
theorem Ar{acc:List (List UInt8)}{p:List UInt8}(h:xh acc):xh (kQ acc p):=by
 unfold kQ
 cases hq:kB p with
 |none=>exact h
 |some nm=>
  have hm:nm.length=32:=by
   rw[←kX]at hq
   exact(fa hq).1
  exact Cs h hm
theorem kP(d:RD):∀i,xh (cR d i)
 |0=>fun x h=>(List.not_mem_nil h).elim
 |i+1=>by
  rcases Nat.lt_or_ge i d.seen.length with h|h
  ·rw[oc (List.getElem?_eq_getElem h)]
   exact Ar (kP d i)
  ·have:cR d (i+1)=cR d i:=by unfold cR;rw[List.take_of_length_le (by omega),List.take_of_length_le h]
   rw[this];exact kP d i
theorem Ga{A:Option Addr}{n c:Nat}{ds:List (List UInt8)}{d:List UInt8}(hD:xh ds)(hd:d.length=32)(hn:n≤1000000):b7 Tryz.prog 96 [.slice A n c,.agg (aW d).toArray] [aK 53 32 (.slice A n c) n (dc ds)] [] (fun v_ X_ S_=>∃A1 n1 c1,v_=(.slice A1 n1 c1)∧X_=[aK 53 32 (.slice A1 n1 c1) n1 (dc (lV ds d))]∧S_=[]∧(n1=(lV ds d).length)):=by
 have h32:(aW d).length=32:=by rw[ax,hd]
 refine aM (N:=53) Tryz.func96 rfl rfl (by simp) fun b=> ?_
 refine a6 (fun m=>B5 (m.ord 0 rfl) hD) fun hln=> ?_
 refine a6 (fun m=>(Own.rd (m.own 0 rfl)).2.1) fun hco=> ?_
 refine a6 (fun m=>(m.ord 0 rfl).2.1) fun hA_o=> ?_
 refine ae<|ai<| ?_
 refine hx (bu rfl (fun g3=> ?_))
 refine aJ (fun w m=>m.bz 0 rfl (show _=aH g3 53 (aW d)from congrArg (aH _ _) (aT _))) ?_
 refine aG rfl<|ag<|aj (X' :=[_,_]) (S' :=[]) (fun _ m=>m)<|ab<|ae<|ai<|aG rfl<|ag<|ab<|ae<|aN<| ?_
 refine de (fun k=>n-k) (fun k=>[(5,.int .i64 (k:Nat))]) (fun k=>[]) (fun k=>[]) (fun k=>k≤n∧∀i,i<k→cb (ds.getD i []) d<0) 0 [(4,_),(3,_),(0,_),(1,_)] ⟨rfl,rfl,rfl,rfl,trivial⟩ [] rfl [] rfl (⟨Nat.zero_le _,fun i hi=>absurd hi (Nat.not_lt_zero _)⟩) ⟨rfl,trivial⟩ (fun k ⟨hkn,hlt⟩=> ?_)
 refine ae<|ae<|cD [10] [(0,some 0),(1,some 0),(2,some 0),(3,some 0),(4,some 0),(5,some 0),(6,some 0),(7,some 0),(8,some 0),(9,some 0),(10,none),(11,some 1),(12,some 1)] (by kernel_rfl) (by kernel_rfl) rfl 99<|ak (ah rfl)<|ak (ah rfl)<|ak (aY rfl Tryz.underlying33)<|ak (bw rfl rfl)<|ak (ah rfl)<| ?_
 refine iu 11 rfl (fun h1=> ?_) (fun h1=> ?_)
 ·have hkl:k<ds.length:=by omega
  have hdk:=lA hD hkl
  refine bB (o:=_) rfl rfl rfl (ah rfl)<|bB (o:=_) rfl rfl rfl (ah rfl)<|bB (o:=_) rfl rfl rfl (cC rfl rfl Tryz.underlying33 bp hA_o rfl (by omega))<|iW (o:=_) rfl rfl rfl (fun m=>aQ rfl b5 bp (by rw[ax];exact hdk) ((m.ord 1 rfl).kl hD hkl))<|iW (o:=_) rfl rfl rfl (fun m=>aQ rfl b5 bp h32 ((m.aU 0 rfl).au))<| ?_
  refine El (o:=_) rfl rfl rfl (aq rfl Tryz.call171 (zF hdk hd) [] rfl [] rfl ?_)
  rintro _ _ _ ⟨rfl,rfl,rfl⟩
  refine⟨(fun _=>wk [0,0] [] rfl rfl), ?_⟩
  refine bB (o:=_) rfl rfl rfl (bw rfl rfl)<|ak (bC rfl rfl)<|bq<|aB [19,5,4,3,0,1] rfl<|aj (X' :=[_,_]) (S' :=[]) (fun _ m=>m)<|ab<| ?_
  refine cB rfl (fun h2=> ?_) (fun h2=> ?_)
  ·have hlt2:∀i,i<k+1→cb (ds.getD i []) d<0:=fun i hi=>by
    rcases Nat.lt_or_ge i k with h|h
    ·exact hlt i h
    ·rw[show i=k by omega];exact h2
   refine aC<|ab<|aN<|ai<|aw rfl<|hy (fun _=>aP rfl rfl (bA (by omega) (by omega)))<|aG rfl<|ag<|aB [5,19,4,3,0,1] rfl<|aS<| ?_
   refine cM (k+1) ⟨rfl,rfl,rfl,rfl,rfl,trivial⟩ [0,0] rfl [] rfl (⟨by omega,hlt2⟩) (by omega)
  ·have heq:=pL ds d k (by omega) hlt (fun h=>h2)
   refine bG<|an<|an<|aE<|ab<|ae<|ae<|cD [] [(0,some 0),(1,some 0),(2,some 0),(3,some 0),(4,some 0),(5,some 0),(6,some 0),(7,some 0),(8,some 0),(9,some 0),(10,some 0),(11,some 0),(12,some 0),(13,some 0),(14,some 0),(15,some 0)] (by kernel_rfl) (by kernel_rfl) rfl 99<|ak (ah rfl)<|ak (ah rfl)<|ak (aY rfl Tryz.underlying33)<|ak (bw rfl rfl)<|ak (ah rfl)<| ?_
   refine iu 26 rfl (fun h3=> ?_) (fun h3=> ?_)
   ·have hkl3:k<ds.length:=by omega
    have hdk3:=lA hD hkl3
    refine bB (o:=_) rfl rfl rfl (ah rfl)<|bB (o:=_) rfl rfl rfl (ah rfl)<|bB (o:=_) rfl rfl rfl (ah rfl)<|bB (o:=_) rfl rfl rfl (aY rfl Tryz.underlying33)<|bB (o:=_) rfl rfl rfl (cn rfl rfl (bA (by omega) (by omega)))<|bB (o:=_) rfl rfl rfl (uI rfl rfl)<|bB (o:=_) rfl rfl rfl (cC rfl rfl Tryz.underlying33 bp hA_o (show((k:Nat):Int)=min (k:Int) ((n:Int)-1) by omega) (by omega))<|iW (o:=_) rfl rfl rfl (fun m=>aQ rfl b5 bp (by rw[ax];exact hdk3) ((m.ord 1 rfl).kl hD hkl3))<|iW (o:=_) rfl rfl rfl (fun m=>aQ rfl b5 bp h32 ((m.aU 0 rfl).au))<|bB (o:=_) rfl rfl rfl (nY rfl rfl hdk3 hd)<|ak (bC rfl rfl)<|bq<|aB [37,19,5,4,3,0,1] rfl<|ab<| ?_
    refine cB rfl (fun h4=> ?_) (fun h4=> ?_)
    ·rw[if_pos ⟨hkl3,h4⟩]at heq
     rw[heq]
     refine ae<|ai<|aw rfl<|aG rfl<|ag<|aB [4,37,19,5,3,0,1] rfl<|ab<|aV<|ay<| ?_
     exact bc trivial rfl rfl [1] rfl [] rfl ⟨_,_,_,rfl,rfl,rfl,hln.symm⟩
    ·have hne:¬(k<ds.length∧ds.getD k []=d):=fun h=>h4 h.2
     rw[if_neg hne]at heq
     rw[heq]
     refine aC<|ab<|ae<|ai<|aG rfl<|ag<|ab<|ae<|ai<|aw rfl<|aw rfl<|aw rfl<|hy (fun _=>kq rfl rfl Tryz.underlying33 bp (show((k:Nat):Int)=_ by omega) (by omega))<| ?_
     refine aJ (fun w m=>m.cQ (r' :=aK 53 32 (.slice none 0 0) 0 []) (.refl _ _) (Own.nil _ _ _ _) (fun k hk=>hk.elim)) ?_
     refine hx (bs 0 rfl rfl rfl Tryz.underlying33 Tryz.underlying33 (by exact .inl rfl) dw rfl (fun m=>Src.bJ ((m.ord 2 rfl).pZ hD (show k≤n by omega))) cZ (by unfold maxLen;omega) (by omega) (fun u=> ?_))
     refine az (fun m=>(m.own 0 rfl).slice) ?_
     rintro⟨A_z,c_z,rfl,hc_z⟩
     refine az (fun m=>(m.ord 0 rfl).2.1) fun hA_z=> ?_
     refine aG rfl<|ag<|aB [6,37,19,5,4,3,0,1] rfl<|aj (X' :=[_,_,_]) (S' :=[]) (fun _ m=>m)<|ab<|ae<|ai<|aw rfl<|hy (fun m=>aQ rfl b5 bp h32 ((m.aU 1 rfl).au))<| ?_
     refine hx (bQ Tryz.underlying33 dw rfl rfl rfl (by simpa[Value.cells,B8]using h32) (by decide) (by decide) (fun g46=> ?_))
     have hA_b46:0<1→(some (⟨g46,0,none⟩:Addr))≠none:=fun _ h=>by cases h
     refine aJ (fun w m=>m.bz 0 rfl (show _=aK 53 32 (.slice (some ⟨g46,0,none⟩) 1 1) 1 (dc [d])from rfl)) ?_
     refine hx (bs 1 rfl rfl rfl Tryz.underlying33 Tryz.underlying33 (by exact .inl rfl) dw rfl (fun m=>Src.bJ (m.ord 0 rfl)) cZ (by unfold maxLen;omega) (by omega) (fun u2=> ?_))
     refine az (fun m=>(m.own 0 rfl).slice) ?_
     rintro⟨A_z2,c_z2,rfl,hc_z⟩
     refine az (fun m=>(m.ord 0 rfl).2.1) fun hA_z=> ?_
     refine aG rfl<|ag<|aB [6,37,19,5,4,3,0,1] rfl<|aj (X' :=[_,_,_,_]) (S' :=[]) (fun _ m=>m)<|ab<|ae<|ai<|aw rfl<|aw rfl<|aw rfl<|hy (fun _=>dP rfl rfl Tryz.underlying33 bp (show((k:Nat):Int)=_ by omega) (by omega))<| ?_
     refine hx (bs 0 rfl rfl rfl Tryz.underlying33 Tryz.underlying33 (by exact .inl rfl) dw rfl (fun m=>Src.bJ ((m.ord 3 rfl).tt hD hco (show k≤n by omega))) cZ (by unfold maxLen;omega) (by omega) (fun u3=> ?_))
     refine az (fun m=>(m.own 0 rfl).slice) ?_
     rintro⟨A_z3,c_z3,rfl,hc_z⟩
     refine az (fun m=>(m.ord 0 rfl).2.1) fun hA_z=> ?_
     refine aG rfl<|ag<|aB [4,6,37,19,5,3,0,1] rfl<|aj (X' :=[_,_,_,_]) (S' :=[]) (fun _ m=>m)<|ab<|aV<| ?_
     refine aj (fun w m=>m.bz 0 rfl (show _=aK 53 32 (.slice A_z3 (0+k+1+(n-k)) c_z3) (0+k+1+(n-k)) (dc (ds.take k++[d]++ds.drop k))from congrArg (aK _ _ _ _) (by rw[ew,ew,List.nil_append]))) ?_
     exact bc trivial rfl rfl [0] rfl [] rfl ⟨_,_,_,rfl,rfl,rfl,(by rw[List.length_append,List.length_append,List.length_take,List.length_drop,List.length_singleton];omega)⟩
   ·have hne:¬(k<ds.length∧ds.getD k []=d):=fun h=>h3 (by omega)
    refine aX rfl rfl rfl (by decide)<|aX rfl rfl rfl (by decide)<|aX rfl rfl rfl (by decide)<|aX rfl rfl rfl (by decide)<|aX rfl rfl rfl (by decide)<|aX rfl rfl rfl (by decide)<|aX rfl rfl rfl (by decide)<|aX rfl rfl rfl (by decide)<|aX rfl rfl rfl (by decide)<|aX rfl rfl rfl (by decide)<|ak (bo rfl rfl)<|bq<|aB [37,19,5,4,3,0,1] rfl<|ab<| ?_
    refine cN rfl (rfl) ?_
    rw[if_neg hne]at heq
    rw[heq]
    refine aC<|ab<|ae<|ai<|aG rfl<|ag<|ab<|ae<|ai<|aw rfl<|aw rfl<|aw rfl<|hy (fun _=>kq rfl rfl Tryz.underlying33 bp (show((k:Nat):Int)=_ by omega) (by omega))<| ?_
    refine aJ (fun w m=>m.cQ (r' :=aK 53 32 (.slice none 0 0) 0 []) (.refl _ _) (Own.nil _ _ _ _) (fun k hk=>hk.elim)) ?_
    refine hx (bs 0 rfl rfl rfl Tryz.underlying33 Tryz.underlying33 (by exact .inl rfl) dw rfl (fun m=>Src.bJ ((m.ord 2 rfl).pZ hD (show k≤n by omega))) cZ (by unfold maxLen;omega) (by omega) (fun u=> ?_))
    refine az (fun m=>(m.own 0 rfl).slice) ?_
    rintro⟨A_z,c_z,rfl,hc_z⟩
    refine az (fun m=>(m.ord 0 rfl).2.1) fun hA_z=> ?_
    refine aG rfl<|ag<|aB [6,37,19,5,4,3,0,1] rfl<|aj (X' :=[_,_,_]) (S' :=[]) (fun _ m=>m)<|ab<|ae<|ai<|aw rfl<|hy (fun m=>aQ rfl b5 bp h32 ((m.aU 1 rfl).au))<| ?_
    refine hx (bQ Tryz.underlying33 dw rfl rfl rfl (by simpa[Value.cells,B8]using h32) (by decide) (by decide) (fun g46=> ?_))
    have hA_b46:0<1→(some (⟨g46,0,none⟩:Addr))≠none:=fun _ h=>by cases h
    refine aJ (fun w m=>m.bz 0 rfl (show _=aK 53 32 (.slice (some ⟨g46,0,none⟩) 1 1) 1 (dc [d])from rfl)) ?_
    refine hx (bs 1 rfl rfl rfl Tryz.underlying33 Tryz.underlying33 (by exact .inl rfl) dw rfl (fun m=>Src.bJ (m.ord 0 rfl)) cZ (by unfold maxLen;omega) (by omega) (fun u2=> ?_))
    refine az (fun m=>(m.own 0 rfl).slice) ?_
    rintro⟨A_z2,c_z2,rfl,hc_z⟩
    refine az (fun m=>(m.ord 0 rfl).2.1) fun hA_z=> ?_
    refine aG rfl<|ag<|aB [6,37,19,5,4,3,0,1] rfl<|aj (X' :=[_,_,_,_]) (S' :=[]) (fun _ m=>m)<|ab<|ae<|ai<|aw rfl<|aw rfl<|aw rfl<|hy (fun _=>dP rfl rfl Tryz.underlying33 bp (show((k:Nat):Int)=_ by omega) (by omega))<| ?_
    refine hx (bs 0 rfl rfl rfl Tryz.underlying33 Tryz.underlying33 (by exact .inl rfl) dw rfl (fun m=>Src.bJ ((m.ord 3 rfl).tt hD hco (show k≤n by omega))) cZ (by unfold maxLen;omega) (by omega) (fun u3=> ?_))
    refine az (fun m=>(m.own 0 rfl).slice) ?_
    rintro⟨A_z3,c_z3,rfl,hc_z⟩
    refine az (fun m=>(m.ord 0 rfl).2.1) fun hA_z=> ?_
    refine aG rfl<|ag<|aB [4,6,37,19,5,3,0,1] rfl<|aj (X' :=[_,_,_,_]) (S' :=[]) (fun _ m=>m)<|ab<|aV<| ?_
    refine aj (fun w m=>m.bz 0 rfl (show _=aK 53 32 (.slice A_z3 (0+k+1+(n-k)) c_z3) (0+k+1+(n-k)) (dc (ds.take k++[d]++ds.drop k))from congrArg (aK _ _ _ _) (by rw[ew,ew,List.nil_append]))) ?_
    exact bc trivial rfl rfl [0] rfl [] rfl ⟨_,_,_,rfl,rfl,rfl,(by rw[List.length_append,List.length_append,List.length_take,List.length_drop,List.length_singleton];omega)⟩
 ·refine aX rfl rfl rfl (by decide)<|aX rfl rfl rfl (by decide)<|aX rfl rfl rfl (by decide)<|aX rfl rfl rfl (by decide)<|aX rfl rfl rfl (by decide)<|xL rfl rfl rfl (by decide) (fun _=>wk [0,0] [] rfl rfl)<|aX rfl rfl rfl (by decide)<|ak (bo rfl rfl)<|bq<|aB [19,5,4,3,0,1] rfl<|ab<| ?_
  refine cN rfl (rfl) ?_
  have heq:=pL ds d k (by omega) hlt (fun h=>absurd h (by omega))
  refine bG<|an<|an<|aE<|ab<|ae<|ae<|cD [] [(0,some 0),(1,some 0),(2,some 0),(3,some 0),(4,some 0),(5,some 0),(6,some 0),(7,some 0),(8,some 0),(9,some 0),(10,some 0),(11,some 0),(12,some 0),(13,some 0),(14,some 0),(15,some 0)] (by kernel_rfl) (by kernel_rfl) rfl 99<|ak (ah rfl)<|ak (ah rfl)<|ak (aY rfl Tryz.underlying33)<|ak (bw rfl rfl)<|ak (ah rfl)<| ?_
  refine iu 26 rfl (fun h3=> ?_) (fun h3=> ?_)
  ·have hkl3:k<ds.length:=by omega
   have hdk3:=lA hD hkl3
   refine bB (o:=_) rfl rfl rfl (ah rfl)<|bB (o:=_) rfl rfl rfl (ah rfl)<|bB (o:=_) rfl rfl rfl (ah rfl)<|bB (o:=_) rfl rfl rfl (aY rfl Tryz.underlying33)<|bB (o:=_) rfl rfl rfl (cn rfl rfl (bA (by omega) (by omega)))<|bB (o:=_) rfl rfl rfl (uI rfl rfl)<|bB (o:=_) rfl rfl rfl (cC rfl rfl Tryz.underlying33 bp hA_o (show((k:Nat):Int)=min (k:Int) ((n:Int)-1) by omega) (by omega))<|iW (o:=_) rfl rfl rfl (fun m=>aQ rfl b5 bp (by rw[ax];exact hdk3) ((m.ord 1 rfl).kl hD hkl3))<|iW (o:=_) rfl rfl rfl (fun m=>aQ rfl b5 bp h32 ((m.aU 0 rfl).au))<|bB (o:=_) rfl rfl rfl (nY rfl rfl hdk3 hd)<|ak (bC rfl rfl)<|bq<|aB [37,19,5,4,3,0,1] rfl<|ab<| ?_
   refine cB rfl (fun h4=> ?_) (fun h4=> ?_)
   ·rw[if_pos ⟨hkl3,h4⟩]at heq
    rw[heq]
    refine ae<|ai<|aw rfl<|aG rfl<|ag<|aB [4,37,19,5,3,0,1] rfl<|ab<|aV<|ay<| ?_
    exact bc trivial rfl rfl [1] rfl [] rfl ⟨_,_,_,rfl,rfl,rfl,hln.symm⟩
   ·have hne:¬(k<ds.length∧ds.getD k []=d):=fun h=>h4 h.2
    rw[if_neg hne]at heq
    rw[heq]
    refine aC<|ab<|ae<|ai<|aG rfl<|ag<|ab<|ae<|ai<|aw rfl<|aw rfl<|aw rfl<|hy (fun _=>kq rfl rfl Tryz.underlying33 bp (show((k:Nat):Int)=_ by omega) (by omega))<| ?_
    refine aJ (fun w m=>m.cQ (r' :=aK 53 32 (.slice none 0 0) 0 []) (.refl _ _) (Own.nil _ _ _ _) (fun k hk=>hk.elim)) ?_
    refine hx (bs 0 rfl rfl rfl Tryz.underlying33 Tryz.underlying33 (by exact .inl rfl) dw rfl (fun m=>Src.bJ ((m.ord 2 rfl).pZ hD (show k≤n by omega))) cZ (by unfold maxLen;omega) (by omega) (fun u=> ?_))
    refine az (fun m=>(m.own 0 rfl).slice) ?_
    rintro⟨A_z,c_z,rfl,hc_z⟩
    refine az (fun m=>(m.ord 0 rfl).2.1) fun hA_z=> ?_
    refine aG rfl<|ag<|aB [6,37,19,5,4,3,0,1] rfl<|aj (X' :=[_,_,_]) (S' :=[]) (fun _ m=>m)<|ab<|ae<|ai<|aw rfl<|hy (fun m=>aQ rfl b5 bp h32 ((m.aU 1 rfl).au))<| ?_
    refine hx (bQ Tryz.underlying33 dw rfl rfl rfl (by simpa[Value.cells,B8]using h32) (by decide) (by decide) (fun g46=> ?_))
    have hA_b46:0<1→(some (⟨g46,0,none⟩:Addr))≠none:=fun _ h=>by cases h
    refine aJ (fun w m=>m.bz 0 rfl (show _=aK 53 32 (.slice (some ⟨g46,0,none⟩) 1 1) 1 (dc [d])from rfl)) ?_
    refine hx (bs 1 rfl rfl rfl Tryz.underlying33 Tryz.underlying33 (by exact .inl rfl) dw rfl (fun m=>Src.bJ (m.ord 0 rfl)) cZ (by unfold maxLen;omega) (by omega) (fun u2=> ?_))
    refine az (fun m=>(m.own 0 rfl).slice) ?_
    rintro⟨A_z2,c_z2,rfl,hc_z⟩
    refine az (fun m=>(m.ord 0 rfl).2.1) fun hA_z=> ?_
    refine aG rfl<|ag<|aB [6,37,19,5,4,3,0,1] rfl<|aj (X' :=[_,_,_,_]) (S' :=[]) (fun _ m=>m)<|ab<|ae<|ai<|aw rfl<|aw rfl<|aw rfl<|hy (fun _=>dP rfl rfl Tryz.underlying33 bp (show((k:Nat):Int)=_ by omega) (by omega))<| ?_
    refine hx (bs 0 rfl rfl rfl Tryz.underlying33 Tryz.underlying33 (by exact .inl rfl) dw rfl (fun m=>Src.bJ ((m.ord 3 rfl).tt hD hco (show k≤n by omega))) cZ (by unfold maxLen;omega) (by omega) (fun u3=> ?_))
    refine az (fun m=>(m.own 0 rfl).slice) ?_
    rintro⟨A_z3,c_z3,rfl,hc_z⟩
    refine az (fun m=>(m.ord 0 rfl).2.1) fun hA_z=> ?_
    refine aG rfl<|ag<|aB [4,6,37,19,5,3,0,1] rfl<|aj (X' :=[_,_,_,_]) (S' :=[]) (fun _ m=>m)<|ab<|aV<| ?_
    refine aj (fun w m=>m.bz 0 rfl (show _=aK 53 32 (.slice A_z3 (0+k+1+(n-k)) c_z3) (0+k+1+(n-k)) (dc (ds.take k++[d]++ds.drop k))from congrArg (aK _ _ _ _) (by rw[ew,ew,List.nil_append]))) ?_
    exact bc trivial rfl rfl [0] rfl [] rfl ⟨_,_,_,rfl,rfl,rfl,(by rw[List.length_append,List.length_append,List.length_take,List.length_drop,List.length_singleton];omega)⟩
  ·have hne:¬(k<ds.length∧ds.getD k []=d):=fun h=>h3 (by omega)
   refine aX rfl rfl rfl (by decide)<|aX rfl rfl rfl (by decide)<|aX rfl rfl rfl (by decide)<|aX rfl rfl rfl (by decide)<|aX rfl rfl rfl (by decide)<|aX rfl rfl rfl (by decide)<|aX rfl rfl rfl (by decide)<|aX rfl rfl rfl (by decide)<|aX rfl rfl rfl (by decide)<|aX rfl rfl rfl (by decide)<|ak (bo rfl rfl)<|bq<|aB [37,19,5,4,3,0,1] rfl<|ab<| ?_
   refine cN rfl (rfl) ?_
   rw[if_neg hne]at heq
   rw[heq]
   refine aC<|ab<|ae<|ai<|aG rfl<|ag<|ab<|ae<|ai<|aw rfl<|aw rfl<|aw rfl<|hy (fun _=>kq rfl rfl Tryz.underlying33 bp (show((k:Nat):Int)=_ by omega) (by omega))<| ?_
   refine aJ (fun w m=>m.cQ (r' :=aK 53 32 (.slice none 0 0) 0 []) (.refl _ _) (Own.nil _ _ _ _) (fun k hk=>hk.elim)) ?_
   refine hx (bs 0 rfl rfl rfl Tryz.underlying33 Tryz.underlying33 (by exact .inl rfl) dw rfl (fun m=>Src.bJ ((m.ord 2 rfl).pZ hD (show k≤n by omega))) cZ (by unfold maxLen;omega) (by omega) (fun u=> ?_))
   refine az (fun m=>(m.own 0 rfl).slice) ?_
   rintro⟨A_z,c_z,rfl,hc_z⟩
   refine az (fun m=>(m.ord 0 rfl).2.1) fun hA_z=> ?_
   refine aG rfl<|ag<|aB [6,37,19,5,4,3,0,1] rfl<|aj (X' :=[_,_,_]) (S' :=[]) (fun _ m=>m)<|ab<|ae<|ai<|aw rfl<|hy (fun m=>aQ rfl b5 bp h32 ((m.aU 1 rfl).au))<| ?_
   refine hx (bQ Tryz.underlying33 dw rfl rfl rfl (by simpa[Value.cells,B8]using h32) (by decide) (by decide) (fun g46=> ?_))
   have hA_b46:0<1→(some (⟨g46,0,none⟩:Addr))≠none:=fun _ h=>by cases h
   refine aJ (fun w m=>m.bz 0 rfl (show _=aK 53 32 (.slice (some ⟨g46,0,none⟩) 1 1) 1 (dc [d])from rfl)) ?_
   refine hx (bs 1 rfl rfl rfl Tryz.underlying33 Tryz.underlying33 (by exact .inl rfl) dw rfl (fun m=>Src.bJ (m.ord 0 rfl)) cZ (by unfold maxLen;omega) (by omega) (fun u2=> ?_))
   refine az (fun m=>(m.own 0 rfl).slice) ?_
   rintro⟨A_z2,c_z2,rfl,hc_z⟩
   refine az (fun m=>(m.ord 0 rfl).2.1) fun hA_z=> ?_
   refine aG rfl<|ag<|aB [6,37,19,5,4,3,0,1] rfl<|aj (X' :=[_,_,_,_]) (S' :=[]) (fun _ m=>m)<|ab<|ae<|ai<|aw rfl<|aw rfl<|aw rfl<|hy (fun _=>dP rfl rfl Tryz.underlying33 bp (show((k:Nat):Int)=_ by omega) (by omega))<| ?_
   refine hx (bs 0 rfl rfl rfl Tryz.underlying33 Tryz.underlying33 (by exact .inl rfl) dw rfl (fun m=>Src.bJ ((m.ord 3 rfl).tt hD hco (show k≤n by omega))) cZ (by unfold maxLen;omega) (by omega) (fun u3=> ?_))
   refine az (fun m=>(m.own 0 rfl).slice) ?_
   rintro⟨A_z3,c_z3,rfl,hc_z⟩
   refine az (fun m=>(m.ord 0 rfl).2.1) fun hA_z=> ?_
   refine aG rfl<|ag<|aB [4,6,37,19,5,3,0,1] rfl<|aj (X' :=[_,_,_,_]) (S' :=[]) (fun _ m=>m)<|ab<|aV<| ?_
   refine aj (fun w m=>m.bz 0 rfl (show _=aK 53 32 (.slice A_z3 (0+k+1+(n-k)) c_z3) (0+k+1+(n-k)) (dc (ds.take k++[d]++ds.drop k))from congrArg (aK _ _ _ _) (by rw[ew,ew,List.nil_append]))) ?_
   exact bc trivial rfl rfl [0] rfl [] rfl ⟨_,_,_,rfl,rfl,rfl,(by rw[List.length_append,List.length_append,List.length_take,List.length_drop,List.length_singleton];omega)⟩
theorem AR{x:RX}{kk:Nat}(ok:zY x.d kk)(hkk:kk≤100000)(hnl:∀y∈x.d.seen,y.1.length≤1000000):b7 Tryz.prog 21 [.agg x.cs.toArray] [] [eL x] (fun v_ X_ S_=>∃A1 k c1,v_=(.slice A1 k c1)∧X_=[aK 53 32 (.slice A1 k c1) k (dc (cR x.d x.d.seen.length))]∧S_=[]∧(k=(cR x.d x.d.seen.length).length)):=by
 have hsn:=ok.seen
 refine aM (N:=42) Tryz.func21 rfl rfl (by simp) fun b=> ?_
 refine ae<|ai<| ?_
 refine hx (bu rfl (fun g1=> ?_))
 refine aJ (fun w m=>m.bz 0 rfl (show _=aH g1 39 x.cs from congrArg (aH _ _) (aT _))) ?_
 refine aJ (fun w m=>m.fA 0 rfl View.BZ) ?_
 refine az (fun m=>fH (m.rd 0 rfl)) ?_
 rintro⟨hl_r0,hA_r0⟩
 refine aG rfl<|ag<|aj (X' :=[_]) (S' :=[_,_]) (fun _ m=>m)<|ab<|ae<|ai<|aG rfl<|ag<|ab<|ae<|ae<|ai<|aG rfl<|ag<|ab<|aN<| ?_
 refine bk (fun w m=>m.cQ (r' :=aK 53 32 (.slice none 0 0) 0 []) (.refl _ _) (Own.nil _ _ _ _) (fun k hk=>hk.elim)) ?_
 refine j3 (fun i k A1 c1=>x.d.seen.length-i) (fun i k A1 c1=>[(3,.slice A1 k c1),(4,.int .i64 (i:Nat))]) (fun i k A1 c1=>[aK 53 32 (.slice A1 k c1) k (dc (cR x.d i))]) (fun i k A1 c1=>[]) (fun i k A1 c1=>i≤x.d.seen.length∧k=(cR x.d i).length∧k≤i) 0 0 none 0 [(2,_),(1,_),(0,_)] ⟨rfl,rfl,rfl,trivial⟩ [0] rfl [] rfl (⟨Nat.zero_le _,rfl,Nat.le_refl _⟩) ⟨rfl,rfl,trivial⟩ (fun i k A1 c1 ⟨hin,hk,hki⟩=> ?_)
 refine ae<|ae<|ai<|aw rfl<|hy (fun _=>aF rfl iR (by decide))<|hy (fun m=>ao rfl rJ (aA (m.aU 1 rfl) (i:=1) rfl))<|hy (fun _=>aY rfl Tryz.underlying36)<|hy (fun _=>bw rfl rfl)<|ag<|aB [12,3,4,2,1,0] rfl<|ab<| ?_
 refine cB rfl (fun hlt=> ?_) (fun hlt=> ?_)
 ·have hi2:i<x.d.seen.length:=by omega
  obtain⟨y,hyi⟩:∃y,x.d.seen[i]? =some y:=⟨_,List.getElem?_eq_getElem hi2⟩
  have hpl:=hnl y (List.mem_of_getElem? hyi)
  have hsc:=oc hyi
  have hg:=jy x.d.seen i y hyi
  generalize y.1=p at hpl hsc hg
  refine aC<|ab<|ae<|aN<|ae<|ai<|hy (fun _=>aF rfl iR (by decide))<|hy (fun m=>ao rfl rJ (aA (m.aU 1 rfl) (i:=1) rfl))<|aw rfl<|hy (fun _=>cC rfl rfl Tryz.underlying36 fh hA_r0 rfl (by omega))<|hy (fun _=>aF rfl fe (by decide))<|hy (fun m=>ao rfl mG (fC (m.rd 0 rfl) hg.1))<|aG rfl<|ag<|aB [5,12,3,4,2,1,0] rfl<|ab<|ae<|ae<|ai<|aw rfl<|hy (fun _=>cU rfl Tryz.underlying9)<|hy (fun _=>cT rfl rfl)<|ag<|aB [23,5,12,3,4,2,1,0] rfl<|ab<| ?_
  have hpz:=cY p
  refine cB rfl (fun h69=> ?_) (fun h69=> ?_)
  ·have hno:kB p=none:=by unfold kB;exact if_neg (fun h=>h69 (by omega))
   have hl2:kQ (cR x.d i) p=cR x.d i:=by unfold kQ;rw[hno]
   rw[hl2]at hsc
   refine bk (fun w m=>m.bz 0 rfl (show _=aK 53 32 (.slice A1 k c1) k (dc (cR x.d (i+1)))from by rw[hsc])) ?_
   refine bG<|an<|aE<|ab<|ai<|aw rfl<|hy (fun _=>aP rfl rfl (bA (by omega) (by omega)))<|aG rfl<|ag<|aB [4,23,5,12,3,2,1,0] rfl<| ?_
   refine ej (i+1) k A1 c1 ⟨rfl,rfl,rfl,rfl,rfl,trivial⟩ [0,0] rfl [0,1] rfl (⟨by omega,by rw[hsc,hk],by omega⟩) (by omega)
  ·have h69:p.length=69:=by omega
   have ho0:kB p=kT p (p.drop 5):=by unfold kB;exact if_pos h69
   have hdl:=ig (p.drop 5)
   have h32:(aW (cj (p.drop 5)).1).length=32:=by rw[ax,hdl]
   have hql:(p.drop 5).length≤1000000:=by rw[List.length_drop];omega
   have ho1:kB p=if(cj (p.drop 5)).2=0∧bx (cj (p.drop 5)).1=p then some (cj (p.drop 5)).1 else none:=ho0
   refine aC<|ab<|ae<|ai<|aw rfl<|hy (fun _=>rT rfl rfl Tryz.underlying9 (show((5:Nat):Int)=5 from rfl) (show 5≤p.length by omega))<| ?_
   refine hx (aq rfl Tryz.call95 (y7 hql (s:=(p.drop 5))) [] rfl [] rfl ?_)
   rintro _ _ _ ⟨rfl,rfl,rfl⟩
   refine aw rfl<|hy (fun _=>aD rfl rfl)<|hy (fun _=>aD rfl rfl)<| ?_
   refine hx (bf dw (fun g6=> ?_))
   refine cI (ba 0 rfl rfl rfl bp h32 bn rfl ?_)
   generalize hdo:cj (p.drop 5)=dq at hdl h32 ho1 ⊢
   by_cases hE:dq.2=0
   ·refine aG rfl<|ag<|aB [7,6,23,5,12,3,4,2,1,0] rfl<|aj (X' :=[_,_,_]) (S' :=[_,_]) (fun _ m=>m)<|ab<|ae<|ai<|aw rfl<|hy (fun _=>yT (cx rfl rfl) ((decide_eq_true hE)))<|aw rfl<|cy (o:=_) rfl rfl rfl (fun m=>aQ rfl b5 bp h32 ((m.aU 0 rfl).au))<| ?_
    refine HV (o:=_) rfl rfl rfl (aq rfl Tryz.call29 (tI hdl) [] rfl [] rfl ?_)
    rintro _ _ _ ⟨rfl,rfl,rfl⟩
    refine cy (o:=_) rfl rfl rfl (fun _=>ah rfl)<|cy (o:=_) rfl rfl rfl (fun _=>sB rfl rfl)<|hy (fun _=>bC rfl rfl)<|ag<|aB [37,7,6,23,5,12,3,4,2,1,0] rfl<|aj (X' :=[_,_,_]) (S' :=[_,_]) (fun _ m=>m)<|ab<| ?_
    refine zw rfl (fun hp=> ?_) (fun hp=> ?_)
    ·have hp:=cJ.1 (of_decide_eq_true hp)
     rw[if_pos ⟨hE,hp⟩]at ho1
     have hl2:kQ (cR x.d i) p=lV (cR x.d i) dq.1:=by unfold kQ;rw[ho1]
     rw[hl2]at hsc
     have hdln:=vr (cR x.d i) dq.1
     refine ai<|aw rfl<|hy (fun m=>aQ rfl b5 bp h32 ((m.aU 0 rfl).au))<| ?_
     refine hx (aq rfl Tryz.call96 (Ga (kP _ _) hdl (by omega)) [1] rfl [] rfl ?_)
     rintro _ _ _ ⟨A12,n1,c12,rfl,rfl,rfl,hn1⟩
     refine aG rfl<|ag<|aB [3,37,7,6,23,5,12,4,2,1,0] rfl<|aj (X' :=[_,_,_]) (S' :=[_,_]) (fun _ m=>m)<|aS<|ab<|ai<|aw rfl<|hy (fun _=>aP rfl rfl (bA (by omega) (by omega)))<|aG rfl<|ag<|aB [4,3,37,7,6,23,5,12,2,1,0] rfl<| ?_
     rw[←hsc]at hn1
     refine aj (fun w m=>m.bz 0 rfl (show _=aK 53 32 (.slice A12 n1 c12) n1 (dc (cR x.d (i+1)))from by rw[hsc])) ?_
     refine ej (i+1) n1 A12 c12 ⟨rfl,rfl,rfl,rfl,rfl,trivial⟩ [0,1] rfl [0,1] rfl (⟨by omega,hn1,by rw[hn1,hsc];omega⟩) (by omega)
    ·have hp:=of_decide_eq_false hp
     rw[if_neg (fun h=>hp (by rw[h.2]))]at ho1
     have hl2:kQ (cR x.d i) p=cR x.d i:=by unfold kQ;rw[ho1]
     rw[hl2]at hsc
     refine bk (fun w m=>m.bz 1 rfl (show _=aK 53 32 (.slice A1 k c1) k (dc (cR x.d (i+1)))from by rw[hsc])) ?_
     refine aC<|aS<|ab<|ai<|aw rfl<|hy (fun _=>aP rfl rfl (bA (by omega) (by omega)))<|aG rfl<|ag<|aB [4,37,7,6,23,5,12,3,2,1,0] rfl<| ?_
     refine ej (i+1) k A1 c1 ⟨rfl,rfl,rfl,rfl,rfl,trivial⟩ [0,1] rfl [0,1] rfl (⟨by omega,by rw[hsc,hk],by omega⟩) (by omega)
   ·refine aG rfl<|ag<|aB [7,6,23,5,12,3,4,2,1,0] rfl<|ab<|ae<|ai<|aw rfl<|hy (fun _=>yF (cx rfl rfl) ((decide_eq_false hE)))<|aw rfl<|bg rfl rfl rfl (by decide)<|bg rfl rfl rfl (by decide)<|bg rfl rfl rfl (by decide)<|bg rfl rfl rfl (by decide)<|hy (fun _=>bo rfl rfl)<|ag<|aB [37,7,6,23,5,12,3,4,2,1,0] rfl<|ab<| ?_
    refine cN rfl (rfl) ?_
    rw[if_neg (fun h=>hE h.1)]at ho1
    have hl2:kQ (cR x.d i) p=cR x.d i:=by unfold kQ;rw[ho1]
    rw[hl2]at hsc
    refine bk (fun w m=>m.bz 1 rfl (show _=aK 53 32 (.slice A1 k c1) k (dc (cR x.d (i+1)))from by rw[hsc])) ?_
    refine aC<|aS<|ab<|ai<|aw rfl<|hy (fun _=>aP rfl rfl (bA (by omega) (by omega)))<|aG rfl<|ag<|aB [4,37,7,6,23,5,12,3,2,1,0] rfl<| ?_
    refine ej (i+1) k A1 c1 ⟨rfl,rfl,rfl,rfl,rfl,trivial⟩ [0,1] rfl [0,1] rfl (⟨by omega,by rw[hsc,hk],by omega⟩) (by omega)
 ·obtain rfl:i=x.d.seen.length:=by omega
  refine bG<|an<|an<|aE<|ab<|ae<|ai<|aw rfl<|aG rfl<|ag<|aB [2,12,3,4,1,0] rfl<|ab<|aV<| ?_
  exact bc trivial rfl rfl [0] rfl [] rfl ⟨_,_,_,rfl,rfl,rfl,hk⟩
end Go.Proofs.YtmibdabdlgmafaaGreatDoor
end
section
set_option maxRecDepth 20000
set_option maxHeartbeats 4000000
namespace Go.Proofs.YtmibdabdlgmafaaGreatDoor
open Go.Eng Go.Hx
theorem wT{A B:Option Addr}{n c m:Nat}{ds:List (List UInt8)}(hD:xh ds)(hn:n≤1000000):b7 Tryz.prog 19 [.slice A n c,.slice B n m] [] [cL 32 A n (dc ds),cL 32 B n (dc ds)] (fun v_ X_ S_=>v_=(.bool true)∧X_=[]∧S_=[]):=by
 refine aM (N:=26) Tryz.func19 rfl rfl (by simp) fun b=> ?_
 refine a6 (fun m=>fH (m.rd 0 rfl)) ?_
 rintro⟨hl_r,hA_r⟩
 refine a6 (fun m=>fH (m.rd 1 rfl)) ?_
 rintro⟨hl_q,hA_q⟩
 refine a6 (fun m=>B5 (m.rd 0 rfl) hD) fun hln=> ?_
 refine ae<|ai<|aG rfl<|ag<|ab<|ae<|ae<|ai<|aw rfl<|hy (fun _=>aY rfl Tryz.underlying33)<|aw rfl<|hy (fun _=>aY rfl Tryz.underlying33)<|hy (fun _=>cT rfl rfl)<|ag<|aB [10,4,0,1] rfl<|ab<| ?_
 refine cN rfl ((decide_eq_false (by simp))) ?_
 refine aC<|ab<|ae<|ae<|ai<|aG rfl<|ag<|ab<|aN<| ?_
 refine de (fun i=>n-i) (fun i=>[(5,.int .i64 (i:Nat))]) (fun i=>[]) (fun i=>[]) (fun i=>i≤n) 0 [(10,_),(0,_),(1,_)] ⟨rfl,rfl,rfl,trivial⟩ [] rfl [] rfl (Nat.zero_le _) ⟨rfl,trivial⟩ (fun i hi=> ?_)
 refine ae<|ae<|ai<|aw rfl<|aw rfl<|hy (fun _=>aY rfl Tryz.underlying33)<|hy (fun _=>bw rfl rfl)<|ag<|aB [14,5,10,0,1] rfl<|ab<| ?_
 refine cB rfl (fun hlt=> ?_) (fun hlt=> ?_)
 ·have hi2:i<ds.length:=by omega
  have hdk:=lA hD hi2
  have h32:(aW (ds.getD i [])).length=32:=by rw[ax,hdk]
  refine aC<|ab<|ae<|aN<|ae<|cD [] [(0,some 0),(1,some 0),(2,some 0),(3,some 0),(4,some 0),(5,some 0),(6,some 0),(7,some 0),(8,some 0)] (by kernel_rfl) (by kernel_rfl) rfl 99<|ak (ah rfl)<|ak (ah rfl)<|ak (cC rfl rfl Tryz.underlying33 bp hA_r rfl (by omega))<|bZ (fun m=>aQ rfl b5 bp h32 ((m.rd 0 rfl).kl hD hi2))<|ak (ah rfl)<|ak (ah rfl)<|ak (cC rfl rfl Tryz.underlying33 bp hA_q rfl (by omega))<|bZ (fun m=>aQ rfl b5 bp h32 ((m.rd 1 rfl).kl hD hi2))<|ak (yF (ta rfl rfl hdk hdk) ((decide_eq_false (by simp))))<|bq<|aB [25,14,5,10,0,1] rfl<|ab<| ?_
  refine cN rfl (rfl) ?_
  refine aC<|aS<|ab<|ai<|aw rfl<|hy (fun _=>aP rfl rfl (bA (by omega) (by omega)))<|aG rfl<|ag<|aB [5,25,14,10,0,1] rfl<| ?_
  refine cM (i+1) ⟨rfl,rfl,rfl,rfl,trivial⟩ [] rfl [0,1] rfl ((by omega)) (by omega)
 ·refine bG<|an<|an<|aE<|ab<|ae<|ai<|aG rfl<|ag<|ab<|aV<| ?_
  exact bc trivial rfl rfl [] rfl [] rfl ⟨rfl,rfl,rfl⟩
end Go.Proofs.YtmibdabdlgmafaaGreatDoor
end
section
set_option maxRecDepth 100000
namespace Go.Hx
def Iq(b:List UInt8)(w:List UInt32):Bool:=(List.range 64).all fun i=>w.getD i 0 == (if i<16 then lh b (4*i)else nQ w i)
theorem yk{b:List UInt8}{w:List UInt32}(hl:w.length=64)(h:Iq b w=true):∀n,n≤64→wl b n=w.take n
 |0,_=>by simp[wl]
 |n+1,hn=>by
  have ih:=yk hl h n (by omega)
  have hc:w.getD n 0=(if n<16 then lh b (4*n)else nQ w n):=by
   have:=List.all_eq_true.1 h n (List.mem_range.2 (by omega))
   exact eq_of_beq this
  have hg:∀j,j<n→(w.take n).getD j 0=w.getD j 0:=fun j hj=>by simp only[List.getD,List.getElem?_take,if_pos hj]
  have hw:w.take (n+1)=w.take n++[w.getD n 0]:=by
   rw[List.take_add_one,List.getElem?_eq_getElem (by omega)]
   simp[List.getD,List.getElem?_eq_getElem (show n<w.length by omega)]
  rw[wl,ih,hw,hc]
  congr 2
  split
  ·rfl
  ·unfold nQ
   rw[hg _ (by omega),hg _ (by omega),hg _ (by omega),hg _ (by omega)]
def DX(w v:List UInt32):List (List UInt32)→List UInt32→List UInt32→Bool
 | [],_,_=>true
 |y::r,k,u=>y == JQ v (k.getD 0 0) (u.getD 0 0) && DX w y r k.tail u.tail
theorem uq{w v:List UInt32}:∀(t:List (List UInt32)) (n:Nat) (s:List UInt32),k0 w v n=s→DX w s t (fX.drop n) (w.drop n)=true→k0 w v (n+t.length)=(s::t).getLastD []
 | [],n,s,hs,_=>by simpa using hs
 |y::r,n,s,hs,h=>by
  simp only[DX,Bool.and_eq_true]at h
  have e:k0 w v (n+1)=y:=by
   rw[eq_of_beq h.1,k0,hs]
   simp only[List.getD,List.getElem?_drop,Nat.add_zero]
  have:=uq r (n+1) y e (by rw[←List.tail_drop,←List.tail_drop];exact h.2)
  rw[List.length_cons,show n+(r.length+1)=n+1+r.length by omega,this]
  rfl
theorem tB{b m:List UInt8}{w:List UInt32}{t:List (List UInt32)}(hp:jz b=m)(hm:m.length=64)(hw:w.length=64)(ht:t.length=64)(h1:Iq m w=true)(h2:DX w mQ t fX w=true):
  bL b=eV (gn ((mQ::t).getLastD []) mQ 8):=by
 have e1:fN mQ m=eF mQ m:=by
  unfold fN
  rw[hm]
  show pn 0 (eF mQ (m.take 64)) (m.drop 64)=_
  rw[List.take_of_length_le (by omega)]
  rfl
 have e2:wl m 64=w:=by rw[yk hw h1 64 (Nat.le_refl _),List.take_of_length_le (by omega)]
 have e3:=uq (w:=w) (v:=mQ) t 0 mQ rfl (by simpa using h2)
 rw[Nat.zero_add,ht]at e3
 unfold bL
 rw[hp,e1,eF,e2,e3]
end Go.Hx
end
section
set_option maxRecDepth 20000
namespace Go.Proofs.YtmibdabdlgmafaaGreatDoor
open Go.Eng Go.Hx
structure Pm where
 mn:Int
 av:Int
 mx:Int
def Pm.cs(p:Pm):List Value:=[.int .i64 p.mn,.int .i64 p.av,.int .i64 p.mx]
theorem Pm.one{p:Pm}:∀u∈p.cs,u.oneCell' =true:=by
 intro u hu
 simp only[Pm.cs,List.mem_cons,List.not_mem_nil,or_false]at hu
 rcases hu with rfl|rfl|rfl <;> rfl
def Pm.may(p:Pm):Prop:=0<p.mn∧p.mn≤p.av∧p.av≤p.mx∧p.mx<4097
instance(p:Pm):Decidable p.may:=by unfold Pm.may;infer_instance
structure Pn where
 a:Nat
 b:Nat
 m:Nat
def Pn.p(q:Pn):Pm:=⟨q.a,q.b,q.m⟩
structure Pn.ok(q:Pn):Prop where
 h1:1≤q.a
 h2:q.a≤q.b
 h3:q.b≤q.m
 h4:q.m≤4096
def gA(p:Pm):Pn:=⟨(1+dr p.mn 12).toNat,(1+dr p.mn 12+dr p.av 20).toNat,(1+dr p.mn 12+dr p.av 20+dr p.mx 40).toNat⟩
theorem B6(p:Pm):(gA p).p=⟨1+dr p.mn 12,1+dr p.mn 12+dr p.av 20,1+dr p.mn 12+dr p.av 20+dr p.mx 40⟩:=by
 have h1:=ef p.mn 12 (by decide)
 have h2:=ef p.av 20 (by decide)
 have h3:=ef p.mx 40 (by decide)
 unfold gA Pn.p
 simp only[Pm.mk.injEq]
 omega
theorem vF(p:Pm):(gA p).ok∧(gA p).m≤70:=by
 have h1:=ef p.mn 12 (by decide)
 have h2:=ef p.av 20 (by decide)
 have h3:=ef p.mx 40 (by decide)
 refine⟨⟨?_, ?_, ?_, ?_⟩, ?_⟩ <;> simp only[gA] <;> omega
def j6(n:Nat):Nat:=2 ^ Nat.log2 n
theorem uD(n:Nat):0<j6 n:=Nat.two_pow_pos _
theorem Dq{n j:Nat}(h1:2 ^ j≤n)(h2:n<2*2 ^ j):j6 n=2 ^ j:=by
 have hn:n≠0:=fun e=>by rw[e]at h1;exact absurd h1 (Nat.not_le.2 (Nat.two_pow_pos _))
 unfold j6
 congr 1
 have a:=(Nat.le_log2 hn).2 h1
 have b:=(Nat.log2_lt (k:=j+1) hn).2 (by rw[Nat.pow_succ];omega)
 omega
theorem y6{n:Nat}(h1:1≤n)(h2:n≤1000000):b7 Tryz.prog 200 [.int .i64 (n:Int)] [] [] (fun v_ X_ S_=>v_=(.int .i64 (j6 n:Nat))∧X_=[]∧S_=[]):=by
 refine aM (N:=11) Tryz.func200 rfl rfl (by simp) fun b=> ?_
 refine ae<|ai<|aG rfl<|ag<|ab<|ae<|ai<|aG rfl<|ag<|ab<|ae<|aN<| ?_
 refine de (fun j=>n-j) (fun j=>[(3,.int .i64 ((2 ^ j:Nat):Int))]) (fun j=>[]) (fun j=>[]) (fun j=>2 ^ j≤n) 0 [(2,_),(0,_)] ⟨rfl,rfl,trivial⟩ [] rfl [] rfl (h1) ⟨rfl,trivial⟩ (fun j hj=> ?_)
 have hpos:(0:Int)≤((2 ^ j:Nat):Int):=Int.natCast_nonneg _
 have hjn:j<n:=Nat.lt_of_lt_of_le Nat.lt_two_pow_self hj
 refine ae<|ae<|ai<|aw rfl<|hy (fun _=>yV (fK rfl rfl (bA (by omega) (by omega))) ((show Value.int .i64 (2*((2 ^ j:Nat):Int))= .int .i64 ((2 ^ (j+1):Nat):Int)from by rw[Nat.pow_succ];congr 1;omega)))<|aw rfl<|hy (fun _=>mh rfl rfl)<|ag<|aB [7,3,2,0] rfl<|ab<| ?_
 refine cB rfl (fun hle=> ?_) (fun hle=> ?_)
 ·have hle2:2 ^ (j+1)≤n:=by omega
  refine aC<|ab<|aN<|ai<|aw rfl<|hy (fun _=>yV (fK rfl rfl (bA (by omega) (by omega))) ((show Value.int .i64 (2*((2 ^ j:Nat):Int))= .int .i64 ((2 ^ (j+1):Nat):Int)from by rw[Nat.pow_succ];congr 1;omega)))<|aG rfl<|ag<|aB [3,7,2,0] rfl<|aS<| ?_
  refine cM (j+1) ⟨rfl,rfl,rfl,trivial⟩ [] rfl [] rfl (hle2) (by omega)
 ·have hp:j6 n=2 ^ j:=Dq hj (by rw[←Nat.mul_comm,←Nat.pow_succ];omega)
  rw[hp]
  refine bG<|an<|an<|aE<|ab<|ae<|ai<|aw rfl<|aG rfl<|ag<|aB [2,7,3,0] rfl<|ab<|aV<| ?_
  exact bc trivial rfl rfl [] rfl [] rfl ⟨rfl,rfl,rfl⟩
theorem I5{p:Pm}(h1:-9223372036854775808≤p.mn∧p.mn≤9223372036854775807)(h2:-9223372036854775808≤p.av∧p.av≤9223372036854775807)(h3:-9223372036854775808≤p.mx∧p.mx≤9223372036854775807):b7 Tryz.prog 125 [.agg p.cs.toArray] [] [] (fun v_ X_ S_=>v_=(.agg (gA p).p.cs.toArray)∧X_=[]∧S_=[]):=by
 have a1:=ef p.mn 12 (by decide)
 have a2:=ef p.av 20 (by decide)
 have a3:=ef p.mx 40 (by decide)
 rw[B6]
 refine aM (N:=22) Tryz.func125 rfl rfl (by simp) fun b=> ?_
 refine ae<|ai<| ?_
 refine hx (bu rfl (fun g1=> ?_))
 refine aJ (fun w m=>m.bz 0 rfl (show _=aH g1 75 p.cs from congrArg (aH _ _) (aT _))) ?_
 refine hx (bf AD (fun g2=> ?_))
 refine ag<|aj (X' :=[_,_]) (S' :=[]) (fun _ m=>m)<|ab<|ae<|ai<|hy (fun _=>aF rfl iM (by decide))<|hy (fun m=>ao rfl dD (aA (m.aU 1 rfl) (i:=0) rfl))<| ?_
 refine hx (aq rfl Tryz.call16 (lq h1.1 h1.2 (by decide) (n:=p.mn) (m:=12)) [] rfl [] rfl ?_)
 rintro _ _ _ ⟨rfl,rfl,rfl⟩
 refine hy (fun _=>aP rfl rfl (bA (by omega) (by omega)))<|aG rfl<|ag<|aB [3,2,1,0] rfl<|aj (X' :=[_,_]) (S' :=[]) (fun _ m=>m)<|ab<|ae<|ai<|aw rfl<|hy (fun _=>aF rfl kY (by decide))<|hy (fun m=>ao rfl dD (aA (m.aU 1 rfl) (i:=1) rfl))<| ?_
 refine hx (aq rfl Tryz.call16 (lq h2.1 h2.2 (by decide) (n:=p.av) (m:=20)) [] rfl [] rfl ?_)
 rintro _ _ _ ⟨rfl,rfl,rfl⟩
 refine hy (fun _=>aP rfl rfl (bA (by omega) (by omega)))<|aG rfl<|ag<|aB [4,3,2,1,0] rfl<|aj (X' :=[_,_]) (S' :=[]) (fun _ m=>m)<|ab<|ae<|ai<|aw rfl<|aw rfl<|aw rfl<|hy (fun _=>aF rfl km (by decide))<|hy (fun m=>ao rfl dD (aA (m.aU 1 rfl) (i:=2) rfl))<| ?_
 refine hx (aq rfl Tryz.call16 (lq h3.1 h3.2 (by decide) (n:=p.mx) (m:=40)) [] rfl [] rfl ?_)
 rintro _ _ _ ⟨rfl,rfl,rfl⟩
 refine hy (fun _=>aP rfl rfl (bA (by omega) (by omega)))<|hy (fun _=>bU AD rfl rfl (by kernel_rfl) (.cons (o:=0) (sz:=1) (by kernel_rfl) rfl rfl (Nat.le_of_ble_eq_true rfl) (.cons (o:=1) (sz:=1) (by kernel_rfl) rfl rfl (Nat.le_of_ble_eq_true rfl) (.cons (o:=2) (sz:=1) (by kernel_rfl) rfl rfl (Nat.le_of_ble_eq_true rfl) .nil))))<| ?_
 refine cI (ba 0 rfl rfl rfl gg rfl (Pm.one (p:=⟨_,_,_⟩)) rfl ?_)
 refine ag<|aB [4,3,2,1,0] rfl<|aj (X' :=[_,_]) (S' :=[]) (fun _ m=>m)<|ab<|aV<| ?_
 exact eO trivial rfl rfl gC gg rfl (fun m=>(m.aU 0 rfl).au) [] rfl [] rfl ⟨rfl,rfl,rfl⟩
end Go.Proofs.YtmibdabdlgmafaaGreatDoor
end
