/- Part. -/
import Derived.Test.YtmibdabdlgmafaaGreatDoorSWP4
set_option linter.all false
section
namespace Go.Proofs.YtmibdabdlgmafaaGreatDoor
open Go.Eng Go.Hx
theorem uq:∀i:Nat,i<16→kj.getD i 0≠0:=by decide
theorem pX(l:List UInt8):¬(0:UInt8)∈cf l:=by
 intro h
 unfold cf at h
 obtain⟨x,hx,hc⟩:=List.mem_flatMap.1 h
 have hb:=x.toNat_lt
 simp only[pV,List.mem_cons,List.not_mem_nil,or_false]at hc
 rcases hc with hc|hc
 ·exact uq _ (by omega) hc.symm
 ·exact uq _ (by omega) hc.symm
theorem zw{nm:List UInt8}(h:nm.length=32):fV (aH nm):=by
 refine⟨by simp[aH],by rw[ee h];decide,fun hz=> ?_⟩
 unfold aH at hz
 simp only[List.mem_append,List.mem_cons,List.not_mem_nil,or_false]at hz
 rcases hz with((hz|hz)|hz)|hz
 ·rcases hz with hz|hz <;> exact absurd hz (by decide)
 ·exact pX nm (List.mem_of_mem_take hz)
 ·exact absurd hz (by decide)
 ·exact pX nm hz
theorem zo{nm:List UInt8}(h:nm.length=32):fV (bT nm):=by
 refine⟨by simp[bT],by rw[jq h];decide,fun hz=> ?_⟩
 unfold bT at hz
 simp only[List.mem_append,List.mem_cons,List.not_mem_nil,or_false]at hz
 rcases hz with hz|hz
 ·rcases hz with hz|hz <;> exact absurd hz (by decide)
 ·exact pX nm hz
theorem eu(a b:List UInt8):aH a≠bT b:=by
 intro h
 unfold aH bT at h
 simp only[List.cons_append,List.nil_append,List.cons.injEq]at h
 exact absurd h.1 (by decide)
theorem uV{d:RD}(h:d.pw=-1):d.sync.cO=d.sync.seen∧d.sync.waits=[]:=by
 have e:d.sync={d with cO:=d.seen,waits:=[],pw:=en d.pw}:=by rw[RD.sync,if_neg (by rw[h];decide)]
 rw[e]
 exact⟨rfl,rfl⟩
structure SD(d:RD)(F:List UInt8→Option (List UInt8))(T:Nat)(room:Int):Prop where
 at_:At d F T room
 same:d.cO=d.seen
 waits:d.waits=[]
theorem SD.new(room:Int):SD (RD.new room) (fun _=>none) 0 room:=⟨⟨rfl,rfl,fun p=>rfl,Nat.le_refl _⟩,rfl,rfl⟩
theorem wU{d:RD}{F:List UInt8→Option (List UInt8)}{T:Nat}{room:Int}(h:At d F T room){nm:List UInt8}(hF:F (aH nm)=none):d.fg nm=4:=by
 have e:d.cj (aH nm)=4:=by rw[h.cj,if_pos hF]
 rw[jV (by rw[e];decide),e]
theorem get_at{d:RD}{F:List UInt8→Option (List UInt8)}{T:Nat}{room:Int}(h:At d F T room){b:List UInt8}(hb:b.length≤4096)(hF:F (aH (bk b))=some (bK b)):d.fg (bk b)=0∧d.pM (bk b)=b:=by
 have e:d.cj (aH (bk b))=0:=by rw[h.cj,if_neg (by rw[hF];simp)]
 have eB:d.cF (aH (bk b))=bK b:=by rw[h.cF,hF];rfl
 have eo:d.xM (bk b)=(b,0):=by unfold RD.xM;rw[eB];exact yn (by omega) (by omega)
 have e0:d.fg (bk b)=0:=sk e (by rw[eo];simp)
 exact⟨e0,by rw[r7 e0,eo]⟩
def oS(F:List UInt8→Option (List UInt8))(b:List UInt8):List UInt8→Option (List UInt8):=sP (sP (sP F (bT (bk b)) (some (bK b))) (bT (bk b)) none) (aH (bk b)) (some (bK b))
theorem pZ(F:List UInt8→Option (List UInt8))(b:List UInt8):oS F b (aH (bk b))=some (bK b):=if_pos rfl
theorem SD.iY{d:RD}{F:List UInt8→Option (List UInt8)}{T:Nat}{room:Int}(h:SD d F T room){b:List UInt8}(hr:(T:Int)+(bK b).length≤room):
  ∃d',d.iY b=(d',0)∧SD d' (oS F b) (T+(bK b).length) room:=by
 have hn:=zo (nm:=bk b) (br b)
 have hp:=zw (nm:=bk b) (br b)
 have h1:=h.at_.write (p:=bT (bk b)) (l:=bK b) hn (by omega)
 have h2:=h1.sync
 have hx:sP F (bT (bk b)) (some (bK b)) (bT (bk b))=some (bK b):=if_pos rfl
 have h3:=h2.rename hp hx
 obtain⟨c1,c2⟩:=uV h3.pw
 refine⟨_, ?_,⟨h3.sync,c1,c2⟩⟩
 unfold RD.iY
 rw[cB,if_neg (by show¬d.bO _ _≠0;rw[h.at_.bO hn (by omega)];decide)]
 rw[cB,if_neg (by show¬(d.write _ _).dp≠0;rw[h1.dp];decide)]
 rw[cB,if_neg (by show¬(d.write _ _).sync.b7 _ _≠0;rw[h2.b7 hp hx];decide)]
 rw[cB,if_neg (by show¬((d.write _ _).sync.rename _ _).dp≠0;rw[h3.dp];decide)]
 rfl
theorem SD.put{d:RD}{F:List UInt8→Option (List UInt8)}{T:Nat}{room:Int}(h:SD d F T room){b:List UInt8}(hb:b.length≤4096)(hF:F (aH (bk b))=none)(hr:(T:Int)+(bK b).length≤room):
  ∃d',d.put b=(d',bk b,0)∧SD d' (oS F b) (T+(bK b).length) room:=by
 have e4:=wU h.at_ hF
 obtain⟨d',e,hd⟩:=h.iY hr
 refine⟨d', ?_,hd⟩
 unfold RD.put
 rw[if_neg (by omega),if_neg (by rw[e4];decide),if_neg (by rw[e4];decide),e]
 rfl
end Go.Proofs.YtmibdabdlgmafaaGreatDoor
end
section
set_option maxRecDepth 20000
set_option maxHeartbeats 4000000
namespace Go.Proofs.YtmibdabdlgmafaaGreatDoor
open Go.Eng Go.Hx
def fk(c:UInt8):List UInt8→Nat
 | []=>0
 |x::r=>if 0<fk c r then fk c r+1 else if x=c then 1 else 0
theorem jJ{c:UInt8}:∀{s:List UInt8} {k:Nat},k≤s.length→(0<k→s.getD (k-1) 0=c)→(∀j,k≤j→j<s.length→s.getD j 0≠c)→fk c s=k
 | [],k,hk,_,_=>by
  have:k=0:=by simpa using hk
  subst this;rfl
 |x::r,0,hk,h1,h2=>by
  have ih:=jJ (c:=c) (s:=r) (k:=0) (Nat.zero_le _) (fun h=>absurd h (by decide)) (fun j _ hj=>by
   have:=h2 (j+1) (Nat.zero_le _) (by rw[List.length_cons];omega)
   simpa using this)
  have hx:x≠c:=by
   have:=h2 0 (Nat.le_refl _) (by simp)
   simpa using this
  unfold fk
  rw[ih,if_neg (by decide),if_neg hx]
 |x::r,1,hk,h1,h2=>by
  have ih:=jJ (c:=c) (s:=r) (k:=0) (Nat.zero_le _) (fun h=>absurd h (by decide)) (fun j _ hj=>by
   have:=h2 (j+1) (by omega) (by rw[List.length_cons];omega)
   simpa using this)
  have hx:x=c:=by simpa using h1 (by decide)
  unfold fk
  rw[ih,if_neg (by decide),if_pos hx]
 |x::r,k+2,hk,h1,h2=>by
  have ih:=jJ (c:=c) (s:=r) (k:=k+1) (by rw[List.length_cons]at hk;omega) (fun _=>by
   have:=h1 (by omega)
   simpa using this) (fun j hj hl=>by
   have:=h2 (j+1) (by omega) (by rw[List.length_cons];omega)
   simpa using this)
  unfold fk
  rw[ih,if_pos (by omega)]
theorem xw{s:List UInt8}{c:UInt8}(hs:s.length≤1000000000):ck Tryz.prog 167 [.string (strOf s),B8 c] [] [] (fun v_ X_ S_=>v_=(.int .i64 ((fk c s:Nat)-1))∧X_=[]∧S_=[]):=by
 have hsz:=cY s
 refine aP (N:=19) Tryz.func167 rfl rfl (by simp) fun b=> ?_
 refine ah<|aj<|hy (fun _=>ab rfl)<|ai<|ag<|ah<|ah<|aj<|hy (fun _=>aa rfl)<|hy (fun _=>cV rfl Tryz.underlying9)<|hy (fun _=>cn rfl rfl (bG (by omega) (by omega)))<|hy (fun _=>ab rfl)<|ai<|al (ρ' :=[(5,_),(4,_),(0,_),(1,_)]) ⟨rfl,rfl,rfl,rfl,trivial⟩<|ag<|aI<| ?_
 refine dx (fun k=>k) (fun k=>[(5,.int .i64 ((k:Nat)-1))]) (fun k=>[]) (fun k=>[]) (fun k=>k≤s.length∧∀j,k≤j→j<s.length→s.getD j 0≠c) s.length [(0,_),(1,_)] ⟨rfl,rfl,trivial⟩ [] rfl [] rfl (⟨Nat.le_refl _,fun j h1 h2=>absurd h2 (by omega)⟩) ⟨rfl,trivial⟩ (fun k ⟨hk,hno⟩=> ?_)
 refine ah<|ah<|aj<|hy (fun _=>aa rfl)<|hy (fun _=>iP rfl rfl)<|ai<|al (ρ' :=[(10,_),(5,_),(0,_),(1,_)]) ⟨rfl,rfl,rfl,rfl,trivial⟩<|ag<| ?_
 refine cD rfl (fun h=> ?_) (fun h=> ?_)
 ·have hil:k-1<s.length:=by omega
  refine aD<|ag<|ah<|aI<|ah<|aj<|hy (fun _=>aa rfl)<|hy (fun _=>aa rfl)<|hy (fun _=>eT rfl rfl Tryz.underlying9 (show((k-1:Nat):Int)=_ by omega) (iM hil))<|hy (fun _=>aa rfl)<|hy (fun _=>cJ rfl rfl)<|ai<|al (ρ' :=[(17,_),(10,_),(5,_),(0,_),(1,_)]) ⟨rfl,rfl,rfl,rfl,rfl,trivial⟩<|ag<| ?_
  refine cD rfl (fun h0=> ?_) (fun h0=> ?_)
  ·have h00:s.getD (k-1) 0=c:=UInt8.toNat_inj.1 (by omega)
   rw[jJ hk (fun _=>h00) hno]
   refine ah<|aj<|hy (fun _=>aa rfl)<|hy (fun _=>ab rfl)<|ai<|al (ρ' :=[(4,_),(17,_),(10,_),(5,_),(0,_),(1,_)]) ⟨rfl,rfl,rfl,rfl,rfl,rfl,trivial⟩<|ag<|aX<|a8<|aw<|aw<|a8<|aw<| ?_
   exact bg trivial rfl rfl [] rfl [] rfl ⟨rfl,rfl,rfl⟩
  ·have h00:s.getD (k-1) 0≠c:=fun e=>h0 (by rw[e])
   have hno2:∀j,k-1≤j→j<s.length→s.getD j 0≠c:=fun j h1 h2=>by
    rcases Nat.lt_or_ge j k with hlt|hge
    ·rw[show j=k-1 by omega];exact h00
    ·exact hno j hge h2
   refine aD<|aQ<|ag<|aj<|hy (fun _=>aa rfl)<|hy (fun _=>yV (cn rfl rfl (bG (by omega) (by omega))) ((show Value.int .i64 _= .int .i64 (((k-1:Nat):Int)-1) by congr 1;omega)))<|hy (fun _=>ab rfl)<|ai<|al (ρ' :=[(5,_),(17,_),(10,_),(0,_),(1,_)]) ⟨rfl,rfl,rfl,rfl,rfl,trivial⟩<| ?_
   refine cR (k-1) ⟨rfl,rfl,rfl,trivial⟩ [] rfl [] rfl (⟨by omega,hno2⟩) (by omega)
 ·obtain rfl:k=0:=by omega
  rw[jJ (Nat.zero_le _) (fun h=>absurd h (by decide)) hno]
  refine bJ<|ao<|ao<|aB<|ag<|ah<|aj<|hy (fun _=>ab rfl)<|ai<|ag<|aX<| ?_
  exact bg trivial rfl rfl [] rfl [] rfl ⟨rfl,rfl,rfl⟩
theorem vq{s:List UInt8}(hs:s.length≤1000000000):ck Tryz.prog 93 [.string (strOf s),.string (strOf [47])] [] [] (fun v_ X_ S_=>v_=(.int .i64 ((fk 47 s:Nat)-1))∧X_=[]∧S_=[]):=by
 refine aP (N:=36) Tryz.func93 rfl rfl (by simp) fun b=> ?_
 refine ah<|aj<|hy (fun _=>ab rfl)<|ai<|ag<|ah<|aj<|hy (fun _=>aa rfl)<|hy (fun _=>cV rfl Tryz.underlying9)<|hy (fun _=>ab rfl)<|ai<|al (ρ' :=[(5,_),(4,_),(0,_),(1,_)]) ⟨rfl,rfl,rfl,rfl,trivial⟩<|ag<|ah<|aI<|ah<|aj<|hy (fun _=>aa rfl)<|hy (fun _=>cJ rfl rfl)<|hy (fun _=>ab rfl)<|ai<|al (ρ' :=[(8,_),(5,_),(4,_),(0,_),(1,_)]) ⟨rfl,rfl,rfl,rfl,rfl,trivial⟩<|ag<| ?_
 refine dB rfl ((decide_eq_false (by decide))) ?_
 refine ah<|aj<|hy (fun _=>aa rfl)<|hy (fun _=>cJ rfl rfl)<|hy (fun _=>ab rfl)<|ai<|al (ρ' :=[(13,_),(8,_),(5,_),(4,_),(0,_),(1,_)]) ⟨rfl,rfl,rfl,rfl,rfl,rfl,trivial⟩<|ag<| ?_
 refine ia rfl ((decide_eq_true (by decide))) ?_
 refine ah<|aj<|hy (fun _=>aa rfl)<|hy (fun _=>aa rfl)<|hy (fun _=>eT rfl rfl Tryz.underlying9 rfl (show(strOf [47]).data[0]? =some 47 from rfl))<| ?_
 refine hx (aq rfl Tryz.call167 (xw hs (c:=47)) [] rfl [] rfl ?_)
 rintro _ _ _ ⟨rfl,rfl,rfl⟩
 refine hy (fun _=>ab rfl)<|ai<|al (ρ' :=[(4,_),(13,_),(8,_),(5,_),(0,_),(1,_)]) ⟨rfl,rfl,rfl,rfl,rfl,rfl,trivial⟩<|ak (X' :=[]) (S' :=[]) (fun _ m=>m)<|ag<|aX<|a8<|aw<| ?_
 exact bg trivial rfl rfl [] rfl [] rfl ⟨rfl,rfl,rfl⟩
theorem xX(l:List UInt8):¬(47:UInt8)∈cf l:=by
 have hd:∀i:Nat,i<16→kj.getD i 0≠47:=by decide
 intro h
 unfold cf at h
 obtain⟨x,hx,hc⟩:=List.mem_flatMap.1 h
 have hb:=x.toNat_lt
 simp only[pV,List.mem_cons,List.not_mem_nil,or_false]at hc
 rcases hc with hc|hc
 ·exact hd _ (by omega) hc.symm
 ·exact hd _ (by omega) hc.symm
theorem th{nm:List UInt8}(h:nm.length=32):fk 47 (aH nm)=5:=by
 have h64:(cf nm).length=64:=by rw[dQ,h]
 obtain⟨a,b,r,hr⟩:∃a b r,cf nm=a::b::r:=by
  match hq:cf nm with
  | []=>rw[hq]at h64;cases h64
  | [_]=>rw[hq]at h64;cases h64
  |a::b::r=>exact⟨a,b,r,rfl⟩
 have hp:aH nm=[99,47,a,b,47]++cf nm:=by unfold aH;rw[hr];rfl
 refine jJ (by rw[ee h];decide) (fun _=>by rw[hp];rfl) (fun j h1 h2 e=> ?_)
 rw[hp]at e h2
 rw[List.getD_eq_getElem?_getD,List.getElem?_append_right (by exact h1)]at e
 have hj:j-5<(cf nm).length:=by simp at h2;omega
 have e2:(cf nm)[j-5]?.getD 0=47:=e
 rw[List.getElem?_eq_getElem hj]at e2
 exact xX nm (by rw[←show(cf nm)[j-5]=47 from e2];exact List.getElem_mem hj)
def kF(p q:List UInt8):Option (List UInt8):=if(b8 q).2=0∧aH (b8 q).1=p then some (b8 q).1 else none
theorem ez{p q nm:List UInt8}(h:kF p q=some nm):nm.length=32∧p=aH nm:=by
 unfold kF at h
 split at h
 ·rename_i hq
  cases h
  exact⟨gT _,hq.2.symm⟩
 ·cases h
theorem pn{nm:List UInt8}(h:nm.length=32):kF (aH nm) (cf nm)=some nm:=by
 unfold kF
 rw[qQ nm h,if_pos ⟨rfl,rfl⟩]
def gZ(p:List UInt8):Option (List UInt8):=kF p (p.drop (fk 47 p))
def jF(p:List UInt8):Option (List UInt8):=if p.length=69 then kF p (p.drop 5)else none
theorem jI(p:List UInt8):gZ p=jF p:=by
 have h1:∀{nm:List UInt8},nm.length=32→gZ (aH nm)=some nm∧jF (aH nm)=some nm:=fun{nm} h=>by
  unfold gZ jF
  rw[th h,ji h,ee h,if_pos rfl]
  exact⟨pn h,pn h⟩
 cases h:gZ p with
 |some nm=>
  obtain⟨h2,rfl⟩:=ez h
  exact(h1 h2).2.symm
 |none=>
  cases h3:jF p with
  |none=>rfl
  |some nm=>
   have h4:kF p (p.drop 5)=some nm:=by
    unfold jF at h3
    split at h3
    ·exact h3
    ·cases h3
   obtain⟨h2,rfl⟩:=ez h4
   rw[(h1 h2).1]at h
   cases h
def bw(d:RD):List (List UInt8):=(d.seen.map (·.1)).filterMap jF
end Go.Proofs.YtmibdabdlgmafaaGreatDoor
end
section
set_option maxRecDepth 20000
set_option maxHeartbeats 4000000
namespace Go.Proofs.YtmibdabdlgmafaaGreatDoor
open Go.Eng Go.Hx
def zc:List UInt8:=[99,47]
theorem tY(c:UInt8):∀s:List UInt8,fk c s≤s.length
 | []=>Nat.le_refl _
 |x::r=>by
  have:=tY c r
  unfold fk
  split
  ·rw[List.length_cons];omega
  ·split <;> (rw[List.length_cons];omega)
theorem AA{p nm:List UInt8}(h:gZ p=some nm):pre zc p=true:=by
 obtain⟨h1,rfl⟩:=ez h
 unfold pre
 exact decide_eq_true rfl
theorem sL(d:RD):(gU d zc).filterMap gZ=bw d:=by
 unfold gU bw
 rw[show jF=gZ from funext fun p=>(jI p).symm]
 generalize d.seen.map (·.1)=l
 induction l with
 |nil=>rfl
 |cons p r ih=>
  rw[List.filter_cons]
  cases h:gZ p with
  |some nm=>rw[if_pos (AA h),List.filterMap_cons,List.filterMap_cons,h,ih]
  |none=>
   rw[List.filterMap_cons,h]
   split
   ·rw[List.filterMap_cons,h];exact ih
   ·exact ih
theorem xu{ns:List (List UInt8)}{i:Nat}(h:i<ns.length):(ns.take (i+1)).filterMap gZ=(ns.take i).filterMap gZ++(gZ (ns.getD i [])).toList:=by
 have h1:ns.take (i+1)=ns.take i++[ns.getD i []]:=by
  rw[List.take_add_one,List.getElem?_eq_getElem h]
  simp[List.getD,List.getElem?_eq_getElem h]
 rw[h1,List.filterMap_append]
 generalize ns.getD i []=x
 cases hq:gZ x <;> simp[hq]
theorem EJ{g:Nat}{st:cN}{d:RD}{kk:Nat}(hD:DS st d kk)(hkk:kk≤99000)(hnl:∀x∈d.seen,x.1.length≤1000000):ck Tryz.prog 20 [.pointer (some ⟨g,0,none⟩)] [bs g st] [] (fun v_ X_ S_=>∃v k,v_=v∧X_=[bs g st,aG 53 32 v k (dc (bw d))]∧S_=[]∧(k=(bw d).length)):=by
 have hcn:=sL d
 have hnl2:∀p∈gU d zc,p.length≤1000000:=fun p hp=>by
  obtain⟨x,hx,rfl⟩:=List.mem_map.1 (List.mem_filter.1 hp).1
  exact hnl x hx
 refine aP (N:=38) Tryz.func20 rfl rfl (by simp) fun b=> ?_
 refine ah<|aj<|hy (fun _=>ab rfl)<|ai<|ag<|ah<|aj<|hy (fun _=>ab rfl)<|ai<|ag<|ah<|ah<|aj<|hy (fun _=>aa rfl)<| ?_
 refine hx (aq rfl Tryz.call86 (Fa hD hkk (p:=zc)) [0] rfl [] rfl ?_)
 rintro _ _ _ ⟨v,rfl,rfl,rfl,hn⟩
 refine aA (fun m=>(m.own 1 rfl).slice) ?_
 rintro⟨A_x,c_x,rfl,hc_x⟩
 refine aA (fun m=>(m.ord 1 rfl).2.1) fun hA_x=> ?_
 generalize gU d zc=ns at hn hcn hnl2 hc_x hA_x ⊢
 refine hy (fun _=>aS rfl Tryz.underlying152)<|hy (fun _=>aa rfl)<|ai<|al (ρ' :=[(11,_),(10,_),(9,_),(3,_),(2,_),(0,_)]) ⟨rfl,rfl,rfl,rfl,rfl,rfl,trivial⟩<|ak (X' :=[_,_]) (S' :=[]) (fun _ m=>m)<|ag<|aI<| ?_
 refine bx (fun w m=>m.dm (r' :=aG 53 32 (.slice none 0 0) 0 []) (.refl _ _) (Own.nil _ _ _ _) (fun k hk=>hk.elim)) ?_
 refine iG (fun i k A1 c1=>ns.length-i) (fun i k A1 c1=>[(3,.slice A1 k c1),(11,.int .i64 (i:Nat))]) (fun i k A1 c1=>[aG 53 32 (.slice A1 k c1) k (dc ((ns.take i).filterMap gZ))]) (fun i k A1 c1=>[]) (fun i k A1 c1=>i≤ns.length∧k=((ns.take i).filterMap gZ).length∧k≤i) 0 0 none 0 [(10,_),(9,_),(2,_),(0,_)] ⟨rfl,rfl,rfl,rfl,trivial⟩ [0] rfl [] rfl (⟨Nat.zero_le _,rfl,Nat.le_refl _⟩) ⟨rfl,rfl,trivial⟩ (fun i k A1 c1 ⟨hin,hk,hki⟩=> ?_)
 refine ah<|aj<|hy (fun _=>bq rfl rfl)<|ai<|ag<|ah<| ?_
 refine cD rfl (fun hlt=> ?_) (fun hlt=> ?_)
 ·have hi2:i<ns.length:=by omega
  have hsn:=xu hi2
  have hpl:=hnl2 (ns.getD i []) (by rw[List.getD,List.getElem?_eq_getElem hi2];exact List.getElem_mem hi2)
  refine aD<|ag<|ah<|aI<|ah<|aj<|hy (fun _=>aT rfl rfl Tryz.underlying152 Hp hA_x rfl (by omega))<|hy (fun m=>ay rfl lF ((m.ord 2 rfl).cell (zS hi2)))<|hy (fun _=>ab rfl)<|ai<|al (ρ' :=[(5,_),(12,_),(3,_),(11,_),(10,_),(9,_),(2,_),(0,_)]) ⟨rfl,rfl,rfl,rfl,rfl,rfl,rfl,rfl,trivial⟩<|ag<|ah<|aj<|hy (fun _=>aa rfl)<|hy (fun _=>aa rfl)<| ?_
  generalize ns.getD i []=p at hsn hpl ⊢
  have hlp:=tY 47 p
  have hdl:=gT (p.drop (fk 47 p))
  have h32:(aV (b8 (p.drop (fk 47 p))).1).length=32:=by rw[az,hdl]
  have hql:(p.drop (fk 47 p)).length≤1000000:=by rw[List.length_drop];omega
  have ho1:gZ p=if(b8 (p.drop (fk 47 p))).2=0∧aH (b8 (p.drop (fk 47 p))).1=p then some (b8 (p.drop (fk 47 p))).1 else none:=rfl
  refine hx (aq rfl Tryz.call93 (vq (by omega) (s:=p)) [] rfl [] rfl ?_)
  rintro _ _ _ ⟨rfl,rfl,rfl⟩
  refine hy (fun _=>aM rfl rfl (bG (by omega) (by omega)))<|hy (fun _=>rF rfl rfl Tryz.underlying9 (show((fk 47 p:Nat):Int)=_ by omega) hlp)<| ?_
  refine hx (aq rfl Tryz.call92 (As hql (s:=(p.drop (fk 47 p)))) [] rfl [] rfl ?_)
  rintro _ _ _ ⟨rfl,rfl,rfl⟩
  refine hy (fun _=>aa rfl)<|hy (fun _=>ar rfl rfl)<|hy (fun _=>ar rfl rfl)<| ?_
  refine hx (aN cS (fun g6=> ?_))
  refine cL (aJ 0 rfl rfl rfl bf h32 aZ rfl ?_)
  generalize hdo:b8 (p.drop (fk 47 p))=dq at hdl h32 ho1 ⊢
  by_cases hE:dq.2=0
  ·refine hy (fun _=>ab rfl)<|ai<|al (ρ' :=[(7,_),(6,_),(5,_),(12,_),(3,_),(11,_),(10,_),(9,_),(2,_),(0,_)]) ⟨rfl,rfl,rfl,rfl,rfl,rfl,rfl,rfl,rfl,rfl,trivial⟩<|ak (X' :=[_,_,_,_]) (S' :=[]) (fun _ m=>m)<|ag<|ah<|aj<|hy (fun _=>aa rfl)<|hy (fun _=>yT (cJ rfl rfl) ((decide_eq_true hE)))<|hy (fun _=>aa rfl)<|dU (o:=_) rfl rfl rfl (fun m=>aU rfl b9 bf h32 ((m.a6 0 rfl).ax))<| ?_
   refine F0 (o:=_) rfl rfl rfl (aq rfl Tryz.call94 (se hdl) [] rfl [] rfl ?_)
   rintro _ _ _ ⟨rfl,rfl,rfl⟩
   refine dU (o:=_) rfl rfl rfl (fun _=>aa rfl)<|dU (o:=_) rfl rfl rfl (fun _=>rj rfl rfl)<|hy (fun _=>bM rfl rfl)<|ai<|al (ρ' :=[(31,_),(7,_),(6,_),(5,_),(12,_),(3,_),(11,_),(10,_),(9,_),(2,_),(0,_)]) ⟨rfl,rfl,rfl,rfl,rfl,rfl,rfl,rfl,rfl,rfl,rfl,trivial⟩<|ak (X' :=[_,_,_,_]) (S' :=[]) (fun _ m=>m)<|ag<| ?_
   refine AH rfl (fun hp=> ?_) (fun hp=> ?_)
   ·have hp:=cI.1 (of_decide_eq_true hp)
    rw[ho1,if_pos ⟨hE,hp⟩]at hsn
    have hsn:(ns.take (i+1)).filterMap gZ=(ns.take i).filterMap gZ++[dq.1]:=hsn
    refine aj<|hy (fun _=>aa rfl)<|hy (fun m=>aU rfl b9 bf h32 ((m.a6 0 rfl).ax))<| ?_
    refine hx (b5 Tryz.underlying33 cS rfl rfl rfl (by simpa[Value.cells,B8]using h32) (by decide) (by decide) (fun g34=> ?_))
    have hA_b34:0<1→(some (⟨g34,0,none⟩:Addr))≠none:=fun _ h=>by cases h
    refine aO (fun w m=>m.bQ 0 rfl (show _=aG 53 32 (.slice (some ⟨g34,0,none⟩) 1 1) 1 (dc [dq.1])from rfl)) ?_
    refine hx (bu 2 rfl rfl rfl Tryz.underlying33 Tryz.underlying33 (by exact .inl rfl) cS rfl (fun m=>Src.bP (m.ord 0 rfl)) cP (by unfold maxLen;omega) (by omega) (fun u=> ?_))
    refine aA (fun m=>(m.own 0 rfl).slice) ?_
    rintro⟨A_o,c_o,rfl,hc_o⟩
    refine aA (fun m=>(m.ord 0 rfl).2.1) fun hA_o=> ?_
    refine aO (fun w m=>m.bQ 0 rfl (show _=aG 53 32 (.slice A_o (k+1) c_o) (k+1) (dc ((ns.take (i+1)).filterMap gZ))from congrArg (aG _ _ _ _) (by rw[hsn,dj]))) ?_
    refine hy (fun _=>ab rfl)<|ai<|al (ρ' :=[(3,_),(31,_),(7,_),(6,_),(5,_),(12,_),(11,_),(10,_),(9,_),(2,_),(0,_)]) ⟨rfl,rfl,rfl,rfl,rfl,rfl,rfl,rfl,rfl,rfl,rfl,trivial⟩<|ak (X' :=[_,_,_,_,_]) (S' :=[]) (fun _ m=>m)<|aQ<|ag<|aj<|hy (fun _=>aM rfl rfl (bG (by omega) (by omega)))<|hy (fun _=>aa rfl)<|ai<|al (ρ' :=[(11,_),(3,_),(31,_),(7,_),(6,_),(5,_),(12,_),(10,_),(9,_),(2,_),(0,_)]) ⟨rfl,rfl,rfl,rfl,rfl,rfl,rfl,rfl,rfl,rfl,rfl,trivial⟩<| ?_
    refine eJ (i+1) (k+1) A_o c_o ⟨rfl,rfl,rfl,rfl,rfl,rfl,trivial⟩ [0,2,2] rfl [] rfl (⟨by omega,by rw[hsn,hk,List.length_append];rfl,by omega⟩) (by omega)
   ·have hp:=of_decide_eq_false hp
    rw[ho1,if_neg (fun h=>hp (by rw[h.2]))]at hsn
    have hsn:(ns.take (i+1)).filterMap gZ=(ns.take i).filterMap gZ:=hsn.trans (List.append_nil _)
    refine bx (fun w m=>m.bQ 1 rfl (show _=aG 53 32 (.slice A1 k c1) k (dc ((ns.take (i+1)).filterMap gZ))from by rw[hsn])) ?_
    refine aD<|aQ<|ag<|aj<|hy (fun _=>aM rfl rfl (bG (by omega) (by omega)))<|hy (fun _=>aa rfl)<|ai<|al (ρ' :=[(11,_),(31,_),(7,_),(6,_),(5,_),(12,_),(3,_),(10,_),(9,_),(2,_),(0,_)]) ⟨rfl,rfl,rfl,rfl,rfl,rfl,rfl,rfl,rfl,rfl,rfl,trivial⟩<| ?_
    refine eJ (i+1) k A1 c1 ⟨rfl,rfl,rfl,rfl,rfl,rfl,trivial⟩ [0,1,1] rfl [] rfl (⟨by omega,by rw[hsn,hk],by omega⟩) (by omega)
  ·refine hy (fun _=>ab rfl)<|ai<|al (ρ' :=[(7,_),(6,_),(5,_),(12,_),(3,_),(11,_),(10,_),(9,_),(2,_),(0,_)]) ⟨rfl,rfl,rfl,rfl,rfl,rfl,rfl,rfl,rfl,rfl,trivial⟩<|ag<|ah<|aj<|hy (fun _=>aa rfl)<|hy (fun _=>yF (cJ rfl rfl) ((decide_eq_false hE)))<|hy (fun _=>aa rfl)<|bE rfl rfl rfl (by decide)<|bE rfl rfl rfl (by decide)<|bE rfl rfl rfl (by decide)<|bE rfl rfl rfl (by decide)<|hy (fun _=>bC rfl rfl)<|ai<|al (ρ' :=[(31,_),(7,_),(6,_),(5,_),(12,_),(3,_),(11,_),(10,_),(9,_),(2,_),(0,_)]) ⟨rfl,rfl,rfl,rfl,rfl,rfl,rfl,rfl,rfl,rfl,rfl,trivial⟩<|ag<| ?_
   refine dB rfl (rfl) ?_
   rw[ho1,if_neg (fun h=>hE h.1)]at hsn
   have hsn:(ns.take (i+1)).filterMap gZ=(ns.take i).filterMap gZ:=hsn.trans (List.append_nil _)
   refine bx (fun w m=>m.bQ 1 rfl (show _=aG 53 32 (.slice A1 k c1) k (dc ((ns.take (i+1)).filterMap gZ))from by rw[hsn])) ?_
   refine aD<|aQ<|ag<|aj<|hy (fun _=>aM rfl rfl (bG (by omega) (by omega)))<|hy (fun _=>aa rfl)<|ai<|al (ρ' :=[(11,_),(31,_),(7,_),(6,_),(5,_),(12,_),(3,_),(10,_),(9,_),(2,_),(0,_)]) ⟨rfl,rfl,rfl,rfl,rfl,rfl,rfl,rfl,rfl,rfl,rfl,trivial⟩<| ?_
   refine eJ (i+1) k A1 c1 ⟨rfl,rfl,rfl,rfl,rfl,rfl,trivial⟩ [0,1,1] rfl [] rfl (⟨by omega,by rw[hsn,hk],by omega⟩) (by omega)
 ·obtain rfl:i=ns.length:=by omega
  rw[List.take_length,hcn]at hk ⊢
  refine bJ<|ao<|ao<|aB<|ag<|ah<|aj<|hy (fun _=>aa rfl)<|hy (fun _=>ab rfl)<|ai<|al (ρ' :=[(2,_),(12,_),(3,_),(11,_),(10,_),(9,_),(0,_)]) ⟨rfl,rfl,rfl,rfl,rfl,rfl,rfl,trivial⟩<|ag<|aX<| ?_
  exact bg trivial rfl rfl [1,0] rfl [] rfl ⟨_,_,rfl,rfl,rfl,hk⟩
end Go.Proofs.YtmibdabdlgmafaaGreatDoor
end
section
namespace Go.Eng
open Go.RowKit
section
variable{P:Program}{fn:Func}{R:Value→List bn→List bn→Prop}{N:Nat}{ρ:Env}{b:cK}{X X' Xz S S' :List bn}{e:Exit}
theorem fo{t t2 t' sz sz2:Nat}{ty ty2:TypeId}{p p2:Addr}{cs cs2:List Value}{v' :Value}(he:Leaves e)(hr:fn.results= #[.cell t ty,.cell t2 ty2,.tmp t'])(hv:get ρ t=some (.pointer (some p)))(hv2:get ρ t2=some (.pointer (some p2)))(hv' :get ρ t' =some v')(ha:dD P ty=some true)(hs:fA P ty=some sz)(hl:cs.length=sz)
  (hc:∀{w},Mem b X S w→∀j u,cs[j]? =some u→w.cell? (p.add j)=some u) (ha2:dD P ty2=some true) (hs2:fA P ty2=some sz2) (hl2:cs2.length=sz2)
  (hc2:∀{w},Mem b X S w→∀j u,cs2[j]? =some u→w.cell? (p2.add j)=some u) (is:List Nat) (hX:bW is X=some (X',Xz)) (js:List Nat) (hS:dT js S=some S') (hR:R (.tuple #[.agg cs.toArray,.agg cs2.toArray,v']) X' S'):HQ (bodyPost P fn (RB b R)) N [] e ρ b X S:=
 fun w m=>gO he (fun a hA=>by have h1:=hA.getD hv;have h2:=hA.getD hv2;have h3:=hA.getD hv';simp at h1 h2 h3;simp[results,hr,h1,h2,h3,asAddr,jH ha hs hl (hc m),jH ha2 hs2 hl2 (hc2 m)]) ⟨_,_,_,rfl,hR,m.out is hX js hS⟩
end
end Go.Eng
end
section
set_option maxRecDepth 20000
set_option maxHeartbeats 2000000
namespace Go.Proofs.YtmibdabdlgmafaaGreatDoor
open Go.Eng Go.Hx
def mv(s:Nat×Nat):List Value:=[.int .i64 (s.1:Nat),.int .i64 (s.2:Nat)]
theorem nV{s:Nat×Nat}:∀u∈mv s,u.oneCell' =true:=by
 intro u hu
 simp only[mv,List.mem_cons,List.not_mem_nil,or_false]at hu
 rcases hu with rfl|rfl <;> rfl
theorem CJ{A:Option Addr}{n c i:Nat}{l:List UInt8}(hn:n≤1000000000)(hl:l.length=n)(hi:i<n):ck Tryz.prog 218 [.slice A n c,.int .i64 (i:Nat)] [] [dr 1 A n (aV l)] (fun v_ X_ S_=>v_=(.agg (mv (a7 l i)).toArray)∧X_=[]∧S_=[]):=by
 refine aP (N:=67) Tryz.func218 rfl rfl (by simp) fun b=> ?_
 refine aY (fun m=>gY (m.rd 0 rfl)) ?_
 rintro⟨hl_r,hA_r⟩
 refine ah<|aj<| ?_
 refine hx (aN rp (fun g4=> ?_))
 refine ai<|ak (X' :=[_]) (S' :=[_]) (fun _ m=>m)<|ag<|ah<|aj<| ?_
 refine hx (aN rp (fun g5=> ?_))
 refine ai<|ak (X' :=[_,_]) (S' :=[_]) (fun _ m=>m)<|ag<|ah<|ah<|aj<|hy (fun _=>aa rfl)<|hy (fun _=>bq rfl rfl)<|hy (fun _=>aa rfl)<| ?_
 refine eK 10 rfl (fun h0=> ?_) (fun h0=> ?_)
 ·exact absurd h0 (by omega)
 ·refine dU (o:=_) rfl rfl rfl (fun _=>aa rfl)<|dU (o:=_) rfl rfl rfl (fun _=>aa rfl)<|dU (o:=_) rfl rfl rfl (fun _=>aS rfl Tryz.underlying27)<|dU (o:=_) rfl rfl rfl (fun _=>iP rfl rfl)<|hy (fun _=>bC rfl rfl)<|ai<|al (ρ' :=[(15,_),(5,_),(4,_),(0,_),(1,_)]) ⟨rfl,rfl,rfl,rfl,rfl,trivial⟩<|ag<| ?_
  refine dB rfl ((decide_eq_false (by omega))) ?_
  refine bx (fun w m=>m.bQ 0 rfl (show _=aL g5 298 (mv (ct l i 0))from rfl)) ?_
  refine bx (fun w m=>m.bQ 1 rfl (show _=aL g4 298 (mv (0,0))from rfl)) ?_
  refine aD<|ag<|ah<|ah<|aj<|hy (fun _=>ab rfl)<|ai<|ag<|aI<| ?_
  refine dx (fun q=>2000-q) (fun q=>[(6,.int .i64 ((q+1:Nat):Int))]) (fun q=>[aL g5 298 (mv (ct l i q))]) (fun q=>[]) (fun q=>q≤min i 1024) 0 [(15,_),(5,_),(4,_),(0,_),(1,_)] ⟨rfl,rfl,rfl,rfl,rfl,trivial⟩ [1] rfl [] rfl (Nat.zero_le _) ⟨rfl,trivial⟩ (fun q hI=> ?_)
  refine ah<|ah<|aj<|hy (fun _=>aa rfl)<|hy (fun _=>aa rfl)<|hy (fun _=>oD rfl rfl)<|hy (fun _=>aa rfl)<| ?_
  refine eK 20 rfl (fun h1=> ?_) (fun h1=> ?_)
  ·refine dU (o:=_) rfl rfl rfl (fun _=>aa rfl)<|dU (o:=_) rfl rfl rfl (fun _=>oD rfl rfl)<|hy (fun _=>bM rfl rfl)<|ai<|al (ρ' :=[(23,_),(6,_),(15,_),(5,_),(4,_),(0,_),(1,_)]) ⟨rfl,rfl,rfl,rfl,rfl,rfl,rfl,trivial⟩<|ag<| ?_
   refine cD rfl (fun h2=> ?_) (fun h2=> ?_)
   ·refine aD<|ag<|ah<|aI<|ah<|aj<|hy (fun _=>ab rfl)<|ai<|ag<|ah<|aI<| ?_
    refine dx (fun j=>131-j) (fun j=>[(7,.int .i64 (j:Nat))]) (fun j=>[]) (fun j=>[]) (fun j=>j≤131∧i+j≤n∧lR l i (i-(q+1)) (131-j) j=l9 l i (i-(q+1))) 0 [(23,_),(6,_),(15,_),(5,_),(4,_),(0,_),(1,_)] ⟨rfl,rfl,rfl,rfl,rfl,rfl,rfl,trivial⟩ [] rfl [] rfl (⟨by decide,by omega,rfl⟩) ⟨rfl,trivial⟩ (fun j ⟨hj,hij,hL⟩=> ?_)
    refine ah<|ah<|c5 [] [(0,some 0),(1,some 0),(2,some 0),(3,some 0),(4,some 0),(5,some 0),(6,some 0),(7,some 0),(8,some 0),(9,some 0),(10,some 0),(11,some 0),(12,some 0),(13,some 0),(14,some 0),(15,some 0),(16,some 0),(17,some 0),(18,some 0),(19,some 0),(20,some 0),(21,some 0),(22,some 0),(23,some 0),(24,some 0),(25,some 0),(26,some 0)] (by kernel_rfl) (by kernel_rfl) rfl 99<|an (aa rfl)<|an (aa rfl)<|an (aM rfl rfl (bG (by omega) (by omega)))<|an (aa rfl)<|an (aS rfl Tryz.underlying27)<|an (bq rfl rfl)<|an (aa rfl)<| ?_
    refine hZ 32 rfl (fun g1=> ?_) (fun g1=> ?_)
    ·refine bj (o:=_) rfl rfl rfl (aa rfl)<|bj (o:=_) rfl rfl rfl (bq rfl rfl)<|an (bM rfl rfl)<|an (aa rfl)<| ?_
     refine hZ 36 rfl (fun g2=> ?_) (fun g2=> ?_)
     ·refine bj (o:=_) rfl rfl rfl (aa rfl)<|bj (o:=_) rfl rfl rfl (aa rfl)<|bj (o:=_) rfl rfl rfl (aa rfl)<|bj (o:=_) rfl rfl rfl (aM rfl rfl (bG (by omega) (by omega)))<|bj (o:=_) rfl rfl rfl (aT rfl rfl Tryz.underlying27 ea hA_r (show((i+j:Nat):Int)=_ by omega) (by omega))<|iS (o:=_) rfl rfl rfl (fun m=>ay rfl iX ((m.rd 0 rfl).cell (bL (by omega))))<|bj (o:=_) rfl rfl rfl (aa rfl)<|bj (o:=_) rfl rfl rfl (aa rfl)<|bj (o:=_) rfl rfl rfl (aa rfl)<|bj (o:=_) rfl rfl rfl (aM rfl rfl (bG (by omega) (by omega)))<|bj (o:=_) rfl rfl rfl (aa rfl)<|bj (o:=_) rfl rfl rfl (yV (cn rfl rfl (bG (by omega) (by omega))) ((show Value.int .i64 ((i:Int)+(j:Int)-((q+1:Nat):Int))= .int .i64 ((i-(q+1)+j:Nat):Int) by congr 1;omega)))<|bj (o:=_) rfl rfl rfl (aT rfl rfl Tryz.underlying27 ea hA_r rfl (by omega))<|iS (o:=_) rfl rfl rfl (fun m=>ay rfl iX ((m.rd 0 rfl).cell (bL (by omega))))<|bj (o:=_) rfl rfl rfl (cJ rfl rfl)<|an (bM rfl rfl)<|bD<|al (ρ' :=[(52,_),(7,_),(23,_),(6,_),(15,_),(5,_),(4,_),(0,_),(1,_)]) ⟨rfl,rfl,rfl,rfl,rfl,rfl,rfl,rfl,rfl,trivial⟩<|ag<| ?_
      refine cD rfl (fun g3=> ?_) (fun g3=> ?_)
      ·have e3:l.getD (i+j) 0=l.getD (i-(q+1)+j) 0:=UInt8.toNat_inj.1 (by omega)
       rw[iu (by omega) ⟨by omega,e3⟩]at hL
       refine aD<|ag<|aI<|aj<|hy (fun _=>aa rfl)<|hy (fun _=>aM rfl rfl (bG (by omega) (by omega)))<|hy (fun _=>ab rfl)<|ai<|al (ρ' :=[(7,_),(52,_),(23,_),(6,_),(15,_),(5,_),(4,_),(0,_),(1,_)]) ⟨rfl,rfl,rfl,rfl,rfl,rfl,rfl,rfl,rfl,trivial⟩<|aQ<| ?_
       refine cR (j+1) ⟨rfl,rfl,rfl,rfl,rfl,rfl,rfl,rfl,trivial⟩ [0,0] rfl [0] rfl (⟨by omega,by omega,by rw[←hL];rfl⟩) (by omega)
      ·refine bJ<|ao<|ao<|aB<|ag<|ah<|aj<|hy (fun _=>aa rfl)<|hy (fun _=>da rfl rfl)<|hy (fun _=>aa rfl)<| ?_
       have hL2:j=l9 l i (i-(q+1)):=(by rw[←hL,lJ (fun e=>g3 (by rw[e.2]))])
       subst hL2
       refine eK 57 rfl (fun h3=> ?_) (fun h3=> ?_)
       ·refine dU (o:=_) rfl rfl rfl (fun _=>aa rfl)<|dU (o:=_) rfl rfl rfl (fun _=>aK rfl lG (by decide))<|dU (o:=_) rfl rfl rfl (fun m=>ay rfl fS (aE (m.a6 0 rfl) rfl))<|dU (o:=_) rfl rfl rfl (fun _=>da rfl rfl)<|hy (fun _=>bM rfl rfl)<|ai<|al (ρ' :=[(62,_),(52,_),(7,_),(23,_),(6,_),(15,_),(5,_),(4,_),(0,_),(1,_)]) ⟨rfl,rfl,rfl,rfl,rfl,rfl,rfl,rfl,rfl,rfl,trivial⟩<|ag<| ?_
        refine cD rfl (fun h4=> ?_) (fun h4=> ?_)
        ·refine aj<|hy (fun _=>aa rfl)<|hy (fun _=>aa rfl)<|hy (fun _=>cC rp rfl rfl (by kernel_rfl) (.cons (o:=0) (sz:=1) (by kernel_rfl) rfl rfl (Nat.le_of_ble_eq_true rfl) (.cons (o:=1) (sz:=1) (by kernel_rfl) rfl rfl (Nat.le_of_ble_eq_true rfl) .nil)))<| ?_
         refine cL (aJ 0 rfl rfl rfl l5 rfl (nV (s:=(l9 l i (i-(q+1)),q+1))) rfl ?_)
         have hst:mv (l9 l i (i-(q+1)),q+1)=mv (ct l i (q+1)):=by
          rw[dS]
          unfold gF
          rw[if_pos ⟨by omega,by omega⟩]
         refine aO (fun w m=>m.bQ 0 rfl (show _=aL g5 298 (mv (ct l i (q+1)))from congrArg (aL g5 _) hst)) ?_
         refine ai<|al (ρ' :=[(62,_),(52,_),(7,_),(23,_),(6,_),(15,_),(5,_),(4,_),(0,_),(1,_)]) ⟨rfl,rfl,rfl,rfl,rfl,rfl,rfl,rfl,rfl,rfl,trivial⟩<|ak (X' :=[_,_]) (S' :=[_]) (fun _ m=>m)<|aQ<|ag<|aj<|hy (fun _=>aa rfl)<|hy (fun _=>aM rfl rfl (bG (by omega) (by omega)))<|hy (fun _=>ab rfl)<|ai<|al (ρ' :=[(6,_),(62,_),(52,_),(7,_),(23,_),(15,_),(5,_),(4,_),(0,_),(1,_)]) ⟨rfl,rfl,rfl,rfl,rfl,rfl,rfl,rfl,rfl,rfl,trivial⟩<| ?_
         refine cR (q+1) ⟨rfl,rfl,rfl,rfl,rfl,rfl,trivial⟩ [0,0] rfl [0] rfl ((by omega)) (by omega)
        ·have hst:mv (ct l i q)=mv (ct l i (q+1)):=by
          rw[dS]
          unfold gF
          rw[if_neg (fun h=>by omega)]
         refine aD<|aQ<|ag<|aj<|hy (fun _=>aa rfl)<|hy (fun _=>aM rfl rfl (bG (by omega) (by omega)))<|hy (fun _=>ab rfl)<|ai<|al (ρ' :=[(6,_),(62,_),(52,_),(7,_),(23,_),(15,_),(5,_),(4,_),(0,_),(1,_)]) ⟨rfl,rfl,rfl,rfl,rfl,rfl,rfl,rfl,rfl,rfl,trivial⟩<| ?_
         refine ak (fun w m=>m.bQ 0 rfl (show _=aL g5 298 (mv (ct l i (q+1)))from congrArg (aL g5 _) hst)) ?_
         refine cR (q+1) ⟨rfl,rfl,rfl,rfl,rfl,rfl,trivial⟩ [0,0] rfl [0] rfl ((by omega)) (by omega)
       ·have hst:mv (ct l i q)=mv (ct l i (q+1)):=by
         rw[dS]
         unfold gF
         rw[if_neg (fun h=>by omega)]
        refine bE rfl rfl rfl (by decide)<|bE rfl rfl rfl (by decide)<|bE rfl rfl rfl (by decide)<|bE rfl rfl rfl (by decide)<|hy (fun _=>bC rfl rfl)<|ai<|al (ρ' :=[(62,_),(52,_),(7,_),(23,_),(6,_),(15,_),(5,_),(4,_),(0,_),(1,_)]) ⟨rfl,rfl,rfl,rfl,rfl,rfl,rfl,rfl,rfl,rfl,trivial⟩<|ag<| ?_
        refine dB rfl (rfl) ?_
        refine aD<|aQ<|ag<|aj<|hy (fun _=>aa rfl)<|hy (fun _=>aM rfl rfl (bG (by omega) (by omega)))<|hy (fun _=>ab rfl)<|ai<|al (ρ' :=[(6,_),(62,_),(52,_),(7,_),(23,_),(15,_),(5,_),(4,_),(0,_),(1,_)]) ⟨rfl,rfl,rfl,rfl,rfl,rfl,rfl,rfl,rfl,rfl,trivial⟩<| ?_
        refine ak (fun w m=>m.bQ 0 rfl (show _=aL g5 298 (mv (ct l i (q+1)))from congrArg (aL g5 _) hst)) ?_
        refine cR (q+1) ⟨rfl,rfl,rfl,rfl,rfl,rfl,trivial⟩ [0,0] rfl [0] rfl ((by omega)) (by omega)
     ·refine aR rfl rfl rfl (by decide)<|aR rfl rfl rfl (by decide)<|aR rfl rfl rfl (by decide)<|aR rfl rfl rfl (by decide)<|aR rfl rfl rfl (by decide)<|aR rfl rfl rfl (by decide)<|aR rfl rfl rfl (by decide)<|aR rfl rfl rfl (by decide)<|aR rfl rfl rfl (by decide)<|aR rfl rfl rfl (by decide)<|aR rfl rfl rfl (by decide)<|aR rfl rfl rfl (by decide)<|aR rfl rfl rfl (by decide)<|aR rfl rfl rfl (by decide)<|aR rfl rfl rfl (by decide)<|an (bC rfl rfl)<|bD<|al (ρ' :=[(52,_),(7,_),(23,_),(6,_),(15,_),(5,_),(4,_),(0,_),(1,_)]) ⟨rfl,rfl,rfl,rfl,rfl,rfl,rfl,rfl,rfl,trivial⟩<|ag<| ?_
      refine dB rfl (rfl) ?_
      refine bJ<|ao<|ao<|aB<|ag<|ah<|aj<|hy (fun _=>aa rfl)<|hy (fun _=>da rfl rfl)<|hy (fun _=>aa rfl)<| ?_
      have hL2:j=l9 l i (i-(q+1)):=(by rw[←hL,show 131-j=0 by omega];rfl)
      subst hL2
      refine eK 57 rfl (fun h3=> ?_) (fun h3=> ?_)
      ·refine dU (o:=_) rfl rfl rfl (fun _=>aa rfl)<|dU (o:=_) rfl rfl rfl (fun _=>aK rfl lG (by decide))<|dU (o:=_) rfl rfl rfl (fun m=>ay rfl fS (aE (m.a6 0 rfl) rfl))<|dU (o:=_) rfl rfl rfl (fun _=>da rfl rfl)<|hy (fun _=>bM rfl rfl)<|ai<|al (ρ' :=[(62,_),(52,_),(7,_),(23,_),(6,_),(15,_),(5,_),(4,_),(0,_),(1,_)]) ⟨rfl,rfl,rfl,rfl,rfl,rfl,rfl,rfl,rfl,rfl,trivial⟩<|ag<| ?_
       refine cD rfl (fun h4=> ?_) (fun h4=> ?_)
       ·refine aj<|hy (fun _=>aa rfl)<|hy (fun _=>aa rfl)<|hy (fun _=>cC rp rfl rfl (by kernel_rfl) (.cons (o:=0) (sz:=1) (by kernel_rfl) rfl rfl (Nat.le_of_ble_eq_true rfl) (.cons (o:=1) (sz:=1) (by kernel_rfl) rfl rfl (Nat.le_of_ble_eq_true rfl) .nil)))<| ?_
        refine cL (aJ 0 rfl rfl rfl l5 rfl (nV (s:=(l9 l i (i-(q+1)),q+1))) rfl ?_)
        have hst:mv (l9 l i (i-(q+1)),q+1)=mv (ct l i (q+1)):=by
         rw[dS]
         unfold gF
         rw[if_pos ⟨by omega,by omega⟩]
        refine aO (fun w m=>m.bQ 0 rfl (show _=aL g5 298 (mv (ct l i (q+1)))from congrArg (aL g5 _) hst)) ?_
        refine ai<|al (ρ' :=[(62,_),(52,_),(7,_),(23,_),(6,_),(15,_),(5,_),(4,_),(0,_),(1,_)]) ⟨rfl,rfl,rfl,rfl,rfl,rfl,rfl,rfl,rfl,rfl,trivial⟩<|ak (X' :=[_,_]) (S' :=[_]) (fun _ m=>m)<|aQ<|ag<|aj<|hy (fun _=>aa rfl)<|hy (fun _=>aM rfl rfl (bG (by omega) (by omega)))<|hy (fun _=>ab rfl)<|ai<|al (ρ' :=[(6,_),(62,_),(52,_),(7,_),(23,_),(15,_),(5,_),(4,_),(0,_),(1,_)]) ⟨rfl,rfl,rfl,rfl,rfl,rfl,rfl,rfl,rfl,rfl,trivial⟩<| ?_
        refine cR (q+1) ⟨rfl,rfl,rfl,rfl,rfl,rfl,trivial⟩ [0,0] rfl [0] rfl ((by omega)) (by omega)
       ·have hst:mv (ct l i q)=mv (ct l i (q+1)):=by
         rw[dS]
         unfold gF
         rw[if_neg (fun h=>by omega)]
        refine aD<|aQ<|ag<|aj<|hy (fun _=>aa rfl)<|hy (fun _=>aM rfl rfl (bG (by omega) (by omega)))<|hy (fun _=>ab rfl)<|ai<|al (ρ' :=[(6,_),(62,_),(52,_),(7,_),(23,_),(15,_),(5,_),(4,_),(0,_),(1,_)]) ⟨rfl,rfl,rfl,rfl,rfl,rfl,rfl,rfl,rfl,rfl,trivial⟩<| ?_
        refine ak (fun w m=>m.bQ 0 rfl (show _=aL g5 298 (mv (ct l i (q+1)))from congrArg (aL g5 _) hst)) ?_
        refine cR (q+1) ⟨rfl,rfl,rfl,rfl,rfl,rfl,trivial⟩ [0,0] rfl [0] rfl ((by omega)) (by omega)
      ·have hst:mv (ct l i q)=mv (ct l i (q+1)):=by
        rw[dS]
        unfold gF
        rw[if_neg (fun h=>by omega)]
       refine bE rfl rfl rfl (by decide)<|bE rfl rfl rfl (by decide)<|bE rfl rfl rfl (by decide)<|bE rfl rfl rfl (by decide)<|hy (fun _=>bC rfl rfl)<|ai<|al (ρ' :=[(62,_),(52,_),(7,_),(23,_),(6,_),(15,_),(5,_),(4,_),(0,_),(1,_)]) ⟨rfl,rfl,rfl,rfl,rfl,rfl,rfl,rfl,rfl,rfl,trivial⟩<|ag<| ?_
       refine dB rfl (rfl) ?_
       refine aD<|aQ<|ag<|aj<|hy (fun _=>aa rfl)<|hy (fun _=>aM rfl rfl (bG (by omega) (by omega)))<|hy (fun _=>ab rfl)<|ai<|al (ρ' :=[(6,_),(62,_),(52,_),(7,_),(23,_),(15,_),(5,_),(4,_),(0,_),(1,_)]) ⟨rfl,rfl,rfl,rfl,rfl,rfl,rfl,rfl,rfl,rfl,trivial⟩<| ?_
       refine ak (fun w m=>m.bQ 0 rfl (show _=aL g5 298 (mv (ct l i (q+1)))from congrArg (aL g5 _) hst)) ?_
       refine cR (q+1) ⟨rfl,rfl,rfl,rfl,rfl,rfl,trivial⟩ [0,0] rfl [0] rfl ((by omega)) (by omega)
    ·refine aR rfl rfl rfl (by decide)<|aR rfl rfl rfl (by decide)<|an (bC rfl rfl)<|an (aa rfl)<| ?_
     refine aR rfl rfl rfl (by decide)<|aR rfl rfl rfl (by decide)<|aR rfl rfl rfl (by decide)<|aR rfl rfl rfl (by decide)<|aR rfl rfl rfl (by decide)<|aR rfl rfl rfl (by decide)<|aR rfl rfl rfl (by decide)<|aR rfl rfl rfl (by decide)<|aR rfl rfl rfl (by decide)<|aR rfl rfl rfl (by decide)<|aR rfl rfl rfl (by decide)<|aR rfl rfl rfl (by decide)<|aR rfl rfl rfl (by decide)<|aR rfl rfl rfl (by decide)<|aR rfl rfl rfl (by decide)<|an (bC rfl rfl)<|bD<|al (ρ' :=[(52,_),(7,_),(23,_),(6,_),(15,_),(5,_),(4,_),(0,_),(1,_)]) ⟨rfl,rfl,rfl,rfl,rfl,rfl,rfl,rfl,rfl,trivial⟩<|ag<| ?_
     refine dB rfl (rfl) ?_
     refine bJ<|ao<|ao<|aB<|ag<|ah<|aj<|hy (fun _=>aa rfl)<|hy (fun _=>da rfl rfl)<|hy (fun _=>aa rfl)<| ?_
     have hL2:j=l9 l i (i-(q+1)):=(by rw[←hL,lJ (fun e=>g1 (by omega))])
     subst hL2
     refine eK 57 rfl (fun h3=> ?_) (fun h3=> ?_)
     ·refine dU (o:=_) rfl rfl rfl (fun _=>aa rfl)<|dU (o:=_) rfl rfl rfl (fun _=>aK rfl lG (by decide))<|dU (o:=_) rfl rfl rfl (fun m=>ay rfl fS (aE (m.a6 0 rfl) rfl))<|dU (o:=_) rfl rfl rfl (fun _=>da rfl rfl)<|hy (fun _=>bM rfl rfl)<|ai<|al (ρ' :=[(62,_),(52,_),(7,_),(23,_),(6,_),(15,_),(5,_),(4,_),(0,_),(1,_)]) ⟨rfl,rfl,rfl,rfl,rfl,rfl,rfl,rfl,rfl,rfl,trivial⟩<|ag<| ?_
      refine cD rfl (fun h4=> ?_) (fun h4=> ?_)
      ·refine aj<|hy (fun _=>aa rfl)<|hy (fun _=>aa rfl)<|hy (fun _=>cC rp rfl rfl (by kernel_rfl) (.cons (o:=0) (sz:=1) (by kernel_rfl) rfl rfl (Nat.le_of_ble_eq_true rfl) (.cons (o:=1) (sz:=1) (by kernel_rfl) rfl rfl (Nat.le_of_ble_eq_true rfl) .nil)))<| ?_
       refine cL (aJ 0 rfl rfl rfl l5 rfl (nV (s:=(l9 l i (i-(q+1)),q+1))) rfl ?_)
       have hst:mv (l9 l i (i-(q+1)),q+1)=mv (ct l i (q+1)):=by
        rw[dS]
        unfold gF
        rw[if_pos ⟨by omega,by omega⟩]
       refine aO (fun w m=>m.bQ 0 rfl (show _=aL g5 298 (mv (ct l i (q+1)))from congrArg (aL g5 _) hst)) ?_
       refine ai<|al (ρ' :=[(62,_),(52,_),(7,_),(23,_),(6,_),(15,_),(5,_),(4,_),(0,_),(1,_)]) ⟨rfl,rfl,rfl,rfl,rfl,rfl,rfl,rfl,rfl,rfl,trivial⟩<|ak (X' :=[_,_]) (S' :=[_]) (fun _ m=>m)<|aQ<|ag<|aj<|hy (fun _=>aa rfl)<|hy (fun _=>aM rfl rfl (bG (by omega) (by omega)))<|hy (fun _=>ab rfl)<|ai<|al (ρ' :=[(6,_),(62,_),(52,_),(7,_),(23,_),(15,_),(5,_),(4,_),(0,_),(1,_)]) ⟨rfl,rfl,rfl,rfl,rfl,rfl,rfl,rfl,rfl,rfl,trivial⟩<| ?_
       refine cR (q+1) ⟨rfl,rfl,rfl,rfl,rfl,rfl,trivial⟩ [0,0] rfl [0] rfl ((by omega)) (by omega)
      ·have hst:mv (ct l i q)=mv (ct l i (q+1)):=by
        rw[dS]
        unfold gF
        rw[if_neg (fun h=>by omega)]
       refine aD<|aQ<|ag<|aj<|hy (fun _=>aa rfl)<|hy (fun _=>aM rfl rfl (bG (by omega) (by omega)))<|hy (fun _=>ab rfl)<|ai<|al (ρ' :=[(6,_),(62,_),(52,_),(7,_),(23,_),(15,_),(5,_),(4,_),(0,_),(1,_)]) ⟨rfl,rfl,rfl,rfl,rfl,rfl,rfl,rfl,rfl,rfl,trivial⟩<| ?_
       refine ak (fun w m=>m.bQ 0 rfl (show _=aL g5 298 (mv (ct l i (q+1)))from congrArg (aL g5 _) hst)) ?_
       refine cR (q+1) ⟨rfl,rfl,rfl,rfl,rfl,rfl,trivial⟩ [0,0] rfl [0] rfl ((by omega)) (by omega)
     ·have hst:mv (ct l i q)=mv (ct l i (q+1)):=by
       rw[dS]
       unfold gF
       rw[if_neg (fun h=>by omega)]
      refine bE rfl rfl rfl (by decide)<|bE rfl rfl rfl (by decide)<|bE rfl rfl rfl (by decide)<|bE rfl rfl rfl (by decide)<|hy (fun _=>bC rfl rfl)<|ai<|al (ρ' :=[(62,_),(52,_),(7,_),(23,_),(6,_),(15,_),(5,_),(4,_),(0,_),(1,_)]) ⟨rfl,rfl,rfl,rfl,rfl,rfl,rfl,rfl,rfl,rfl,trivial⟩<|ag<| ?_
      refine dB rfl (rfl) ?_
      refine aD<|aQ<|ag<|aj<|hy (fun _=>aa rfl)<|hy (fun _=>aM rfl rfl (bG (by omega) (by omega)))<|hy (fun _=>ab rfl)<|ai<|al (ρ' :=[(6,_),(62,_),(52,_),(7,_),(23,_),(15,_),(5,_),(4,_),(0,_),(1,_)]) ⟨rfl,rfl,rfl,rfl,rfl,rfl,rfl,rfl,rfl,rfl,trivial⟩<| ?_
      refine ak (fun w m=>m.bQ 0 rfl (show _=aL g5 298 (mv (ct l i (q+1)))from congrArg (aL g5 _) hst)) ?_
      refine cR (q+1) ⟨rfl,rfl,rfl,rfl,rfl,rfl,trivial⟩ [0,0] rfl [0] rfl ((by omega)) (by omega)
   ·have hq:q=min i 1024:=by omega
    subst hq
    refine bJ<|ao<|ao<|aB<|ag<|ah<|aj<|hy (fun m=>aU rfl vU l5 rfl ((m.a6 0 rfl).ax))<| ?_
    refine cL (aJ 1 rfl rfl rfl l5 rfl nV rfl ?_)
    refine ai<|al (ρ' :=[(23,_),(6,_),(15,_),(5,_),(4,_),(0,_),(1,_)]) ⟨rfl,rfl,rfl,rfl,rfl,rfl,rfl,trivial⟩<|ak (X' :=[_,_]) (S' :=[_]) (fun _ m=>m)<|ag<|aX<| ?_
    exact fl trivial rfl rfl vU l5 rfl (fun m=>(m.a6 0 rfl).ax) [] rfl [] rfl ⟨rfl,rfl,rfl⟩
  ·refine bE rfl rfl rfl (by decide)<|bE rfl rfl rfl (by decide)<|hy (fun _=>bC rfl rfl)<|ai<|al (ρ' :=[(23,_),(6,_),(15,_),(5,_),(4,_),(0,_),(1,_)]) ⟨rfl,rfl,rfl,rfl,rfl,rfl,rfl,trivial⟩<|ag<| ?_
   refine dB rfl (rfl) ?_
   have hq:q=min i 1024:=by omega
   subst hq
   refine bJ<|ao<|ao<|aB<|ag<|ah<|aj<|hy (fun m=>aU rfl vU l5 rfl ((m.a6 0 rfl).ax))<| ?_
   refine cL (aJ 1 rfl rfl rfl l5 rfl nV rfl ?_)
   refine ai<|al (ρ' :=[(23,_),(6,_),(15,_),(5,_),(4,_),(0,_),(1,_)]) ⟨rfl,rfl,rfl,rfl,rfl,rfl,rfl,trivial⟩<|ak (X' :=[_,_]) (S' :=[_]) (fun _ m=>m)<|ag<|aX<| ?_
   exact fl trivial rfl rfl vU l5 rfl (fun m=>(m.a6 0 rfl).ax) [] rfl [] rfl ⟨rfl,rfl,rfl⟩
theorem Dq{A:Option Addr}{n c:Nat}{l:List UInt8}(hc:n≤c)(hn:n≤500000000)(hl:l.length=n):ck Tryz.prog 219 [.slice A n c] [] [dr 1 A n (aV l)] (fun v_ X_ S_=>∃v,v_=v∧X_=[aG 5 1 v (eG l).length (aV (eG l))]∧S_=[]):=by
 refine aP (N:=31) Tryz.func219 rfl rfl (by simp) fun b=> ?_
 refine aY (fun m=>gY (m.rd 0 rfl)) ?_
 rintro⟨hl_r,hA_r⟩
 refine ah<|aj<|hy (fun _=>ab rfl)<|ai<|ag<|ah<|aj<|hy (fun _=>ab rfl)<|ai<|ag<|ah<|ah<|aj<|hy (fun _=>ab rfl)<|ai<|ag<|aI<| ?_
 refine bx (fun w m=>m.dm (r' :=aG 5 1 (.slice none 0 0) 0 []) (.refl _ _) (Own.nil _ _ _ _) (fun k hk=>hk.elim)) ?_
 refine iG (fun i o A3 c3=>n-i) (fun i o A3 c3=>[(3,.slice A3 o.length c3),(4,.int .i64 (i:Nat))]) (fun i o A3 c3=>[aG 5 1 (.slice A3 o.length c3) o.length (aV o)]) (fun i o A3 c3=>[]) (fun i o A3 c3=>i≤n+128∧o.length≤2*i∧o++eG (l.drop i)=eG l) 0 [] none 0 [(2,_),(0,_)] ⟨rfl,rfl,trivial⟩ [0] rfl [] rfl (⟨by omega,by decide,rfl⟩) ⟨rfl,rfl,trivial⟩ (fun i o A3 c3 ⟨hin,hon,hE⟩=> ?_)
 refine ah<|ah<|aj<|hy (fun _=>aa rfl)<|hy (fun _=>aa rfl)<|hy (fun _=>aS rfl Tryz.underlying27)<|hy (fun _=>bq rfl rfl)<|ai<|al (ρ' :=[(9,_),(3,_),(4,_),(2,_),(0,_)]) ⟨rfl,rfl,rfl,rfl,rfl,trivial⟩<|ag<| ?_
 refine cD rfl (fun hi=> ?_) (fun hi=> ?_)
 ·obtain⟨k,hk⟩:∃k,k=min (n-i) 128:=⟨_,rfl⟩
  have hki:1≤k∧k≤128∧i+k≤n:=by omega
  have hdl:(l.drop i).length=n-i:=by rw[List.length_drop,hl]
  have hne:l.drop i≠ []:=fun e=>by rw[e]at hdl;simp at hdl;omega
  have htk:(l.drop i).take 128=(l.drop i).take k:=by
   rcases Nat.lt_or_ge (n-i) 128 with h|h
   ·rw[List.take_of_length_le (by omega),List.take_of_length_le (by omega)]
   ·rw[show k=128 by omega]
  rw[ln hne,hdl,←hk,htk,List.drop_drop]at hE
  refine bx (fun w m=>m.iW 0 rfl (View.sub (n:=n) (c:=c) (k:=i) (m:=k) (by omega) (by omega))) ?_
  refine aY (fun m=>gY (m.rd 0 rfl)) ?_
  rintro⟨hl_p,hA_p⟩
  refine aD<|ag<|ah<|aI<|ah<|aj<|hy (fun _=>aa rfl)<|hy (fun _=>aa rfl)<|hy (fun _=>aa rfl)<|hy (fun _=>aM rfl rfl (bG (by omega) (by omega)))<|hy (fun _=>aa rfl)<|hy (fun _=>aS rfl Tryz.underlying27)<|hy (fun _=>yV (uB rfl rfl) ((show Value.int .i64 _= .int .i64 ((i+k:Nat):Int) by congr 1;omega)))<|hy (fun _=>yV (eS rfl rfl rfl Tryz.underlying27 ea rfl rfl (by omega) (by omega)) ((show Value.slice (if c=i then A else A.map (·.add (i*1))) (i+k-i) (c-i)= .slice (if c=i then A else A.map (·.add (i*1))) k (c-i) by congr 1;omega)))<|hy (fun _=>ab rfl)<|ai<|al (ρ' :=[(5,_),(9,_),(3,_),(4,_),(2,_),(0,_)]) ⟨rfl,rfl,rfl,rfl,rfl,rfl,trivial⟩<|ag<|ah<|aj<|hy (fun _=>aa rfl)<|hy (fun _=>aa rfl)<|hy (fun _=>aS rfl Tryz.underlying27)<|hy (fun _=>yV (cn rfl rfl (bG (by omega) (by omega))) ((show Value.int .i64 ((k:Int)-1)= .int .i64 ((k-1:Nat):Int) by congr 1;omega)))<|hy (fun _=>yV (bX rfl Tryz.underlying3 Tryz.underlying5 (gX _)) ((show Value.int .u8 _=B8 (UInt8.ofNat (k-1))from rfl)))<| ?_
  refine hx (b5 Tryz.underlying27 fa rfl rfl rfl (by simp[Value.cells,B8]) (by decide) (by decide) (fun g25=> ?_))
  have hA_b25:0<1→(some (⟨g25,0,none⟩:Addr))≠none:=fun _ h=>by cases h
  refine aO (fun w m=>m.bQ 0 rfl (show _=aG 5 1 (.slice (some ⟨g25,0,none⟩) 1 1) 1 (aV [UInt8.ofNat (k-1)])from rfl)) ?_
  refine hx (bu 1 rfl rfl rfl Tryz.underlying27 Tryz.underlying27 (by exact .inl rfl) fa rfl (fun m=>Src.bP (m.ord 0 rfl)) aZ (by unfold maxLen;omega) (by omega) (fun u=> ?_))
  refine aA (fun m=>(m.own 0 rfl).slice) ?_
  rintro⟨A_x,c_x,rfl,hc_x⟩
  refine aA (fun m=>(m.ord 0 rfl).2.1) fun hA_x=> ?_
  refine hy (fun _=>ab rfl)<|ai<|al (ρ' :=[(3,_),(5,_),(9,_),(4,_),(2,_),(0,_)]) ⟨rfl,rfl,rfl,rfl,rfl,rfl,trivial⟩<|ak (X' :=[_,_]) (S' :=[_,_]) (fun _ m=>m)<|ag<|aj<|hy (fun _=>aa rfl)<|hy (fun _=>aa rfl)<| ?_
  refine hx (bu 0 rfl rfl rfl Tryz.underlying27 Tryz.underlying27 (by exact .inl rfl) fa rfl (fun m=>Src.bP (m.rd 0 rfl)) aZ (by unfold maxLen;omega) (by omega) (fun u2=> ?_))
  refine aA (fun m=>(m.own 0 rfl).slice) ?_
  rintro⟨A_x2,c_x2,rfl,hc_x⟩
  refine aA (fun m=>(m.ord 0 rfl).2.1) fun hA_x=> ?_
  refine hy (fun _=>ab rfl)<|ai<|al (ρ' :=[(3,_),(5,_),(9,_),(4,_),(2,_),(0,_)]) ⟨rfl,rfl,rfl,rfl,rfl,rfl,trivial⟩<|ak (X' :=[_,_]) (S' :=[_,_]) (fun _ m=>m)<|aQ<|ag<|aj<|hy (fun _=>aa rfl)<|hy (fun _=>aM rfl rfl (bG (by omega) (by omega)))<|hy (fun _=>ab rfl)<|ai<|al (ρ' :=[(4,_),(3,_),(5,_),(9,_),(2,_),(0,_)]) ⟨rfl,rfl,rfl,rfl,rfl,rfl,trivial⟩<| ?_
  have hol:o.length+1+k=(o++(UInt8.ofNat (k-1)::(l.drop i).take k)).length:=by simp;omega
  rw[hol]
  refine ak (fun w m=>m.bQ 0 rfl (show _=aG 5 1 (.slice A_x2 (o++(UInt8.ofNat (k-1)::(l.drop i).take k)).length c_x2) (o++(UInt8.ofNat (k-1)::(l.drop i).take k)).length (aV (o++(UInt8.ofNat (k-1)::(l.drop i).take k)))from congrArg (aG _ _ _ _) (show aV o++aV [UInt8.ofNat (k-1)]++aV ((l.drop i).take k)=_ by rw[←bH,←bH,List.append_assoc];rfl))) ?_
  refine eJ (i+128) (o++(UInt8.ofNat (k-1)::(l.drop i).take k)) _ _ ⟨rfl,rfl,rfl,rfl,trivial⟩ [0] rfl [1] rfl (⟨by omega,by rw[←hol];omega,by rw[←hE];simp⟩) (by omega)
 ·rw[List.drop_of_length_le (by omega),nv,List.append_nil]at hE
  subst hE
  refine bJ<|ao<|ao<|aB<|ag<|ah<|aj<|hy (fun _=>aa rfl)<|hy (fun _=>ab rfl)<|ai<|al (ρ' :=[(2,_),(9,_),(3,_),(4,_),(0,_)]) ⟨rfl,rfl,rfl,rfl,rfl,trivial⟩<|ag<|aX<| ?_
  exact bg trivial rfl rfl [0] rfl [] rfl ⟨_,rfl,rfl,rfl⟩
theorem Eh{A:Option Addr}{n c:Nat}{l:List UInt8}(hc:n≤c)(hn:n≤500000000)(hl:l.length=n):ck Tryz.prog 159 [.slice A n c] [] [dr 1 A n (aV l)] (fun v_ X_ S_=>∃v,v_=v∧X_=[aG 5 1 v (eN l).length (aV (eN l))]∧S_=[]):=by
 refine aP (N:=54) Tryz.func159 rfl rfl (by simp) fun b=> ?_
 refine aY (fun m=>gY (m.rd 0 rfl)) ?_
 rintro⟨hl_r,hA_r⟩
 refine ah<|aj<|hy (fun _=>ab rfl)<|ai<|ag<|ah<|aj<|hy (fun _=>ab rfl)<|ai<|ag<|ah<|aj<|hy (fun _=>ab rfl)<|ai<|ag<|ah<|aj<|hy (fun _=>ab rfl)<|ai<|ag<|ah<|aI<| ?_
 refine bx (fun w m=>m.dm (r' :=aG 5 1 (.slice none 0 0) 0 []) (.refl _ _) (Own.nil _ _ _ _) (fun k hk=>hk.elim)) ?_
 refine vp (fun i f o A3 c3=>n-i) (fun i f o A3 c3=>[(3,.slice A3 o.length c3),(4,.int .i64 (f:Nat)),(5,.int .i64 (i:Nat))]) (fun i f o A3 c3=>[aG 5 1 (.slice A3 o.length c3) o.length (aV o)]) (fun i f o A3 c3=>[]) (fun i f o A3 c3=>i≤n∧f≤i∧o.length+2*(i-f)≤2*i∧gJ l i ((l.drop f).take (i-f)) o=eN l) 0 0 [] none 0 [(2,_),(0,_)] ⟨rfl,rfl,trivial⟩ [0] rfl [] rfl (⟨by omega,by decide,by decide,rfl⟩) ⟨rfl,rfl,rfl,trivial⟩ (fun i f o A3 c3 ⟨hin,hfi,hon,hE⟩=> ?_)
 have hown:((l.drop f).take (i-f)).length=i-f:=by rw[List.length_take,List.length_drop];omega
 refine ah<|ah<|aj<|hy (fun _=>aa rfl)<|hy (fun _=>aa rfl)<|hy (fun _=>aS rfl Tryz.underlying27)<|hy (fun _=>bq rfl rfl)<|ai<|al (ρ' :=[(10,_),(3,_),(4,_),(5,_),(2,_),(0,_)]) ⟨rfl,rfl,rfl,rfl,rfl,rfl,trivial⟩<|ag<| ?_
 refine cD rfl (fun hi=> ?_) (fun hi=> ?_)
 ·refine aD<|ag<|aI<|ah<|aj<|hy (fun _=>aa rfl)<|hy (fun _=>aa rfl)<| ?_
  refine hx (aq rfl Tryz.call218 (CJ (by omega) hl (by omega)) [] rfl [0] rfl ?_)
  rintro _ _ _ ⟨rfl,rfl,rfl⟩
  refine hx (aN rp (fun g6=> ?_))
  refine cL (aJ 0 rfl rfl rfl l5 rfl nV rfl ?_)
  refine ai<|al (ρ' :=[(6,_),(10,_),(3,_),(4,_),(5,_),(2,_),(0,_)]) ⟨rfl,rfl,rfl,rfl,rfl,rfl,rfl,trivial⟩<|ak (X' :=[_,_]) (S' :=[_]) (fun _ m=>m)<|ag<|ah<|ah<|aj<|hy (fun _=>aK rfl lG (by decide))<|hy (fun m=>ay rfl fS (aE (m.a6 0 rfl) rfl))<|hy (fun _=>cJ rfl rfl)<|ai<|al (ρ' :=[(16,_),(6,_),(10,_),(3,_),(4,_),(5,_),(2,_),(0,_)]) ⟨rfl,rfl,rfl,rfl,rfl,rfl,rfl,rfl,trivial⟩<|ag<| ?_
  refine cD rfl (fun h0=> ?_) (fun h0=> ?_)
  ·rw[lH (by omega) (by omega)]at hE
   have hsn:(l.drop f).take (i-f)++[l.getD i 0]=(l.drop f).take (i+1-f):=by
    rw[show i+1-f=(i-f)+1 by omega,dY (by rw[List.length_drop];omega)]
    congr 2
    simp only[List.getD,List.getElem?_drop]
    rw[show f+(i-f)=i by omega]
   rw[hsn]at hE
   refine ah<|aj<|hy (fun _=>aa rfl)<|hy (fun _=>aM rfl rfl (bG (by omega) (by omega)))<|hy (fun _=>ab rfl)<|ai<|al (ρ' :=[(5,_),(16,_),(6,_),(10,_),(3,_),(4,_),(2,_),(0,_)]) ⟨rfl,rfl,rfl,rfl,rfl,rfl,rfl,rfl,trivial⟩<|ag<|bJ<|ao<|aB<| ?_
   refine qx (i+1) f o A3 c3 ⟨rfl,rfl,rfl,rfl,rfl,trivial⟩ [1] rfl [0] rfl (⟨by omega,by omega,by omega,hE⟩) (by omega)
  ·have hm:=lI (b:=l) (i:=i) (by omega)
   rw[je (by omega) (by omega)]at hE
   obtain⟨m1,m2,m3,m4,m5,m6⟩:=hm.resolve_left (fun e=>h0 (by rw[e];rfl))
   have hll:=fF ((l.drop f).take (i-f))
   refine bx (fun w m=>m.iW 0 rfl (View.sub (n:=n) (c:=c) (k:=f) (m:=i-f) (by omega) (by omega))) ?_
   refine aY (fun m=>gY (m.rd 0 rfl)) ?_
   rintro⟨hl_p,hA_p⟩
   refine aD<|ag<|ah<|aj<|hy (fun _=>aa rfl)<|hy (fun _=>aa rfl)<|hy (fun _=>aa rfl)<|hy (fun _=>aa rfl)<|hy (fun _=>eS rfl rfl rfl Tryz.underlying27 ea rfl rfl (by omega) (by omega))<| ?_
   refine hx (aq rfl Tryz.call219 (Dq (by omega) (by omega) hown) [] rfl [0] rfl ?_)
   rintro _ _ _ ⟨v,rfl,rfl,rfl⟩
   refine aA (fun m=>(m.own 0 rfl).slice) ?_
   rintro⟨A_x2,c_x2,rfl,hc_x2⟩
   refine aA (fun m=>(m.ord 0 rfl).2.1) fun hA_x2=> ?_
   refine hx (bu 2 rfl rfl rfl Tryz.underlying27 Tryz.underlying27 (by exact .inl rfl) fa rfl (fun m=>Src.bP (m.ord 0 rfl)) aZ (by unfold maxLen;omega) (by omega) (fun u=> ?_))
   refine aA (fun m=>(m.own 0 rfl).slice) ?_
   rintro⟨A_x,c_x,rfl,hc_x⟩
   refine aA (fun m=>(m.ord 0 rfl).2.1) fun hA_x=> ?_
   generalize hLL:eG ((l.drop f).take (i-f))=L at hE hll ⊢
   refine hy (fun _=>ab rfl)<|ai<|al (ρ' :=[(3,_),(16,_),(6,_),(10,_),(4,_),(5,_),(2,_),(0,_)]) ⟨rfl,rfl,rfl,rfl,rfl,rfl,rfl,rfl,trivial⟩<|ak (X' :=[_,_,_]) (S' :=[_,_]) (fun _ m=>m)<|ag<|ah<|aj<|hy (fun _=>aa rfl)<|hy (fun _=>aK rfl lG (by decide))<|hy (fun m=>ay rfl fS (aE (m.a6 2 rfl) rfl))<|hy (fun _=>yV (aM rfl rfl (bG (by omega) (by omega))) ((show Value.int .i64 (124+((a7 l i).1:Int))= .int .i64 ((124+(a7 l i).1:Nat):Int) by congr 1)))<|hy (fun _=>yV (bX rfl Tryz.underlying3 Tryz.underlying5 (gX _)) ((show Value.int .u8 _=B8 (UInt8.ofNat (124+(a7 l i).1))from rfl)))<|hy (fun _=>aK rfl wF (by decide))<|hy (fun m=>ay rfl fS (aE (m.a6 2 rfl) rfl))<|hy (fun _=>yV (cn rfl rfl (bG (by omega) (by omega))) ((show Value.int .i64 (((a7 l i).2:Int)-1)= .int .i64 (((a7 l i).2-1:Nat):Int) by congr 1;omega)))<|hy (fun _=>yV (gN rfl rfl (by omega) (by omega)) ((show Value.int .i64 ((((a7 l i).2-1:Nat):Int) % 256)= .int .i64 ((((a7 l i).2-1) % 256:Nat):Int) by congr 1)))<|hy (fun _=>yV (bX rfl Tryz.underlying3 Tryz.underlying5 (gX _)) ((show Value.int .u8 _=B8 (UInt8.ofNat (((a7 l i).2-1) % 256))from rfl)))<|hy (fun _=>aK rfl wF (by decide))<|hy (fun m=>ay rfl fS (aE (m.a6 2 rfl) rfl))<|hy (fun _=>yV (cn rfl rfl (bG (by omega) (by omega))) ((show Value.int .i64 (((a7 l i).2:Int)-1)= .int .i64 (((a7 l i).2-1:Nat):Int) by congr 1;omega)))<|hy (fun _=>yV (ky rfl rfl (by omega) (by omega) (bG (by omega) (by omega))) ((show Value.int .i64 ((((a7 l i).2-1:Nat):Int)/256)= .int .i64 ((((a7 l i).2-1)/256:Nat):Int) by congr 1)))<|hy (fun _=>yV (bX rfl Tryz.underlying3 Tryz.underlying5 (gX _)) ((show Value.int .u8 _=B8 (UInt8.ofNat (((a7 l i).2-1)/256))from rfl)))<| ?_
   refine hx (b5 Tryz.underlying27 fa rfl rfl rfl (by simp[Value.cells,B8]) (by decide) (by decide) (fun g41=> ?_))
   have hA_b41:0<3→(some (⟨g41,0,none⟩:Addr))≠none:=fun _ h=>by cases h
   have htm:[UInt8.ofNat (124+(a7 l i).1),UInt8.ofNat (((a7 l i).2-1) % 256),UInt8.ofNat (((a7 l i).2-1)/256)]=gh (a7 l i):=by
    unfold gh
    congr 2
    exact UInt8.toNat_inj.1 (by rw[UInt8.toNat_ofNat',UInt8.toNat_ofNat'];omega)
   refine aO (fun w m=>m.bQ 0 rfl (show _=aG 5 1 (.slice (some ⟨g41,0,none⟩) 3 3) 3 (aV (gh (a7 l i)))from congrArg (aG _ _ _ _) (show aV [UInt8.ofNat (124+(a7 l i).1),UInt8.ofNat (((a7 l i).2-1) % 256),UInt8.ofNat (((a7 l i).2-1)/256)]=_ by rw[htm]))) ?_
   refine hx (bu 1 rfl rfl rfl Tryz.underlying27 Tryz.underlying27 (by exact .inl rfl) fa rfl (fun m=>Src.bP (m.ord 0 rfl)) aZ (by unfold maxLen;omega) (by omega) (fun u2=> ?_))
   refine aA (fun m=>(m.own 0 rfl).slice) ?_
   rintro⟨A_x3,c_x3,rfl,hc_x⟩
   refine aA (fun m=>(m.ord 0 rfl).2.1) fun hA_x=> ?_
   refine hy (fun _=>ab rfl)<|ai<|al (ρ' :=[(3,_),(16,_),(6,_),(10,_),(4,_),(5,_),(2,_),(0,_)]) ⟨rfl,rfl,rfl,rfl,rfl,rfl,rfl,rfl,trivial⟩<|ak (X' :=[_,_,_,_]) (S' :=[_,_]) (fun _ m=>m)<|ag<|ah<|aj<|hy (fun _=>aa rfl)<|hy (fun _=>aK rfl lG (by decide))<|hy (fun m=>ay rfl fS (aE (m.a6 3 rfl) rfl))<|hy (fun _=>yV (aM rfl rfl (bG (by omega) (by omega))) ((show Value.int .i64 ((i:Int)+((a7 l i).1:Int))= .int .i64 ((i+(a7 l i).1:Nat):Int) by congr 1)))<|hy (fun _=>ab rfl)<|ai<|al (ρ' :=[(5,_),(3,_),(16,_),(6,_),(10,_),(4,_),(2,_),(0,_)]) ⟨rfl,rfl,rfl,rfl,rfl,rfl,rfl,rfl,trivial⟩<|ag<|aj<|hy (fun _=>aa rfl)<|hy (fun _=>ab rfl)<|ai<|al (ρ' :=[(4,_),(5,_),(3,_),(16,_),(6,_),(10,_),(2,_),(0,_)]) ⟨rfl,rfl,rfl,rfl,rfl,rfl,rfl,rfl,trivial⟩<|aQ<| ?_
   have hol:o.length+L.length+3=(o++L++gh (a7 l i)).length:=by simp[gh];omega
   rw[hol]
   refine ak (fun w m=>m.bQ 0 rfl (show _=aG 5 1 (.slice A_x3 (o++L++gh (a7 l i)).length c_x3) (o++L++gh (a7 l i)).length (aV (o++L++gh (a7 l i)))from congrArg (aG _ _ _ _) (show aV o++aV L++aV (gh (a7 l i))=aV (o++L++gh (a7 l i)) by rw[bH,bH]))) ?_
   have hE2:gJ l (i+(a7 l i).1) ((l.drop (i+(a7 l i).1)).take (i+(a7 l i).1-(i+(a7 l i).1))) (o++L++gh (a7 l i))=eN l:=by rw[Nat.sub_self,List.take_zero];exact hE
   refine qx (i+(a7 l i).1) (i+(a7 l i).1) (o++L++gh (a7 l i)) _ _ ⟨rfl,rfl,rfl,rfl,rfl,trivial⟩ [0] rfl [1] rfl (⟨by omega,Nat.le_refl _,by rw[←hol];omega,hE2⟩) (by omega)
 ·obtain rfl:i=n:=by omega
  rw[lv (by omega),List.take_of_length_le (by rw[List.length_drop];omega)]at hE
  have hdl:(l.drop f).length=i-f:=by rw[List.length_drop];omega
  have hll:=fF (l.drop f)
  refine bx (fun w m=>m.iW 0 rfl (View.drop (n:=i) (c:=c) (k:=f) (by omega) (by omega))) ?_
  refine aY (fun m=>gY (m.rd 0 rfl)) ?_
  rintro⟨hl_p,hA_p⟩
  refine bJ<|ao<|ao<|aB<|ag<|ah<|aj<|hy (fun _=>aa rfl)<|hy (fun _=>aa rfl)<|hy (fun _=>aa rfl)<|hy (fun _=>dM rfl rfl Tryz.underlying27 ea rfl (by omega))<| ?_
  refine hx (aq rfl Tryz.call219 (Dq (by omega) (by omega) hdl) [] rfl [0] rfl ?_)
  rintro _ _ _ ⟨v,rfl,rfl,rfl⟩
  refine aA (fun m=>(m.own 0 rfl).slice) ?_
  rintro⟨A_x2,c_x2,rfl,hc_x2⟩
  refine aA (fun m=>(m.ord 0 rfl).2.1) fun hA_x2=> ?_
  refine hx (bu 1 rfl rfl rfl Tryz.underlying27 Tryz.underlying27 (by exact .inl rfl) fa rfl (fun m=>Src.bP (m.ord 0 rfl)) aZ (by unfold maxLen;omega) (by omega) (fun u=> ?_))
  refine aA (fun m=>(m.own 0 rfl).slice) ?_
  rintro⟨A_x,c_x,rfl,hc_x⟩
  refine aA (fun m=>(m.ord 0 rfl).2.1) fun hA_x=> ?_
  have hol:o.length+(eG (l.drop f)).length=(eN l).length:=by rw[←hE];simp
  rw[hol]
  refine aO (fun w m=>m.bQ 0 rfl (show _=aG 5 1 (.slice A_x (eN l).length c_x) (eN l).length (aV (eN l))from congrArg (aG _ _ _ _) (show aV o++aV (eG (l.drop f))=aV (eN l) by rw[←hE,bH]))) ?_
  refine hy (fun _=>ab rfl)<|ai<|al (ρ' :=[(2,_),(10,_),(3,_),(4,_),(5,_),(0,_)]) ⟨rfl,rfl,rfl,rfl,rfl,rfl,trivial⟩<|ak (X' :=[_,_]) (S' :=[_,_]) (fun _ m=>m)<|ag<|aX<| ?_
  exact bg trivial rfl rfl [0] rfl [] rfl ⟨_,rfl,rfl,rfl⟩
end Go.Proofs.YtmibdabdlgmafaaGreatDoor
end
section
set_option maxRecDepth 20000
set_option maxHeartbeats 2000000
namespace Go.Proofs.YtmibdabdlgmafaaGreatDoor
open Go.Eng Go.Hx
theorem vO{A:Option Addr}{n c:Nat}{l:List UInt8}(hc:n≤c)(hn:n≤1000000000)(hl:l.length=n):ck Tryz.prog 161 [.slice A n c] [] [dr 1 A n (aV l)] (fun v_ X_ S_=>∃v,v_=v∧X_=[aG 5 1 v 4 (aV (gI (cZ l)))]∧S_=[]):=by
 have e4:n+4-n=4:=by omega
 have ed:(aV (zR l)).drop (n*1)=aV (gI (cZ l)):=by rw[Nat.mul_one,←qa,zR,List.drop_append_of_le_length (by omega),List.drop_of_length_le (by omega)];rfl
 refine aP (N:=8) Tryz.func161 rfl rfl (by simp) fun b=> ?_
 refine aY (fun m=>gY (m.rd 0 rfl)) ?_
 rintro⟨hl_r,hA_r⟩
 refine ah<|aj<|hy (fun _=>ab rfl)<|ai<|ag<|ah<|aj<|hy (fun _=>aa rfl)<| ?_
 refine hx (aq rfl Tryz.call189 (yC (by omega)) [] rfl [0] rfl ?_)
 rintro _ _ _ ⟨v,rfl,rfl,rfl⟩
 refine aA (fun m=>(m.own 0 rfl).slice) ?_
 rintro⟨A_x,c_x,rfl,hc_x⟩
 refine aA (fun m=>(m.ord 0 rfl).2.1) fun hA_x=> ?_
 refine hy (fun _=>aa rfl)<|hy (fun _=>aS rfl Tryz.underlying27)<|hy (fun _=>yV (dM rfl rfl Tryz.underlying27 ea rfl (by omega)) ((show Value.slice (if c_x=n then A_x else A_x.map (·.add (n*1))) (n+4-n) (c_x-n)= .slice (if c_x=n then A_x else A_x.map (·.add (n*1))) 4 (c_x-n) by congr 1)))<|hy (fun _=>ab rfl)<|ai<|al (ρ' :=[(2,_),(0,_)]) ⟨rfl,rfl,trivial⟩<|ak (X' :=[_]) (S' :=[_]) (fun _ m=>m)<|ag<|aX<| ?_
 refine ak (X' :=aG 5 1 (.slice (if c_x=n then A_x else A_x.map (·.add (n*1))) (n+4-n) (c_x-n)) (n+4-n) ((aV (zR l)).drop (n*1))::_) (fun w m=>(m.perm (au [0] _ [_] _ rfl)).wO (View.sj (by omega) hc_x)) ?_
 rw[e4,ed]
 exact bg trivial rfl rfl [0] rfl [] rfl ⟨_,rfl,rfl,rfl⟩
theorem E7{A:Option Addr}{n c:Nat}{l:List UInt8}(hc:n≤c)(hn:n≤100000000)(hl:l.length=n):ck Tryz.prog 81 [.slice A n c] [] [dr 1 A n (aV l)] (fun v_ X_ S_=>∃v,v_=v∧X_=[aG 5 1 v (bK l).length (aV (bK l))]∧S_=[]):=by
 have hpl:=nw l
 have hcl:=jL l
 refine aP (N:=30) Tryz.func81 rfl rfl (by simp) fun b=> ?_
 refine aY (fun m=>gY (m.rd 0 rfl)) ?_
 rintro⟨hl_r,hA_r⟩
 refine ah<|aj<|hy (fun _=>ab rfl)<|ai<|ag<|ah<|aj<|hy (fun _=>aa rfl)<| ?_
 refine hx (aq rfl Tryz.call159 (Eh (by omega) (by omega) (by omega)) [] rfl [0] rfl ?_)
 rintro _ _ _ ⟨v,rfl,rfl,rfl⟩
 refine aA (fun m=>(m.own 0 rfl).slice) ?_
 rintro⟨A_x,c_x,rfl,hc_x⟩
 refine aA (fun m=>(m.ord 0 rfl).2.1) fun hA_x=> ?_
 refine hy (fun _=>ab rfl)<|ai<|al (ρ' :=[(3,_),(2,_),(0,_)]) ⟨rfl,rfl,rfl,trivial⟩<|ak (X' :=[_]) (S' :=[_]) (fun _ m=>m)<|ag<|ah<|aj<| ?_
 refine hx (b5 Tryz.underlying27 fa rfl rfl rfl (by simp[Value.cells,B8]) (by decide) (by decide) (fun g7=> ?_))
 have hA_b7:0<2→(some (⟨g7,0,none⟩:Addr))≠none:=fun _ h=>by cases h
 refine hy (fun _=>ab rfl)<|ai<|al (ρ' :=[(4,_),(3,_),(2,_),(0,_)]) ⟨rfl,rfl,rfl,rfl,trivial⟩<|ak (X' :=[_,_]) (S' :=[_]) (fun _ m=>m)<|ag<|ah<|aj<|hy (fun _=>aa rfl)<|hy (fun _=>aa rfl)<|hy (fun _=>aS rfl Tryz.underlying27)<| ?_
 refine hx (aq rfl Tryz.call160 (BC (by omega)) [] rfl [] rfl ?_)
 rintro _ _ _ ⟨v2,rfl,rfl,rfl⟩
 refine aA (fun m=>(m.own 0 rfl).slice) ?_
 rintro⟨A_x2,c_x2,rfl,hc_x2⟩
 refine aA (fun m=>(m.ord 0 rfl).2.1) fun hA_x2=> ?_
 refine aO (fun w m=>m.bQ 1 rfl (show _=aG 5 1 (.slice (some ⟨g7,0,none⟩) 2 2) 2 (aV [76,0])from rfl)) ?_
 refine hx (bu 0 rfl rfl rfl Tryz.underlying27 Tryz.underlying27 (by exact .inl rfl) fa rfl (fun m=>Src.bP (m.ord 1 rfl)) aZ (by unfold maxLen;omega) (by omega) (fun u=> ?_))
 refine aA (fun m=>(m.own 0 rfl).slice) ?_
 rintro⟨A_b7,c_b7,rfl,hc_b7⟩
 refine aA (fun m=>(m.ord 0 rfl).2.1) fun hA_b7=> ?_
 refine hy (fun _=>ab rfl)<|ai<|al (ρ' :=[(4,_),(3,_),(2,_),(0,_)]) ⟨rfl,rfl,rfl,rfl,trivial⟩<|ak (X' :=[_,_,_]) (S' :=[_]) (fun _ m=>m)<|ag<|ah<|ah<|aj<|hy (fun _=>aa rfl)<|hy (fun _=>aS rfl Tryz.underlying27)<|hy (fun _=>aa rfl)<|hy (fun _=>aS rfl Tryz.underlying27)<|hy (fun _=>bq rfl rfl)<|ai<|al (ρ' :=[(17,_),(4,_),(3,_),(2,_),(0,_)]) ⟨rfl,rfl,rfl,rfl,rfl,trivial⟩<|ag<| ?_
 refine cD rfl (fun hp=> ?_) (fun hp=> ?_)
 ·have hq:bK l=[76,1]++gI l.length++eN l++gI (cZ l):=by
   have:vg l=true:=by unfold vg;exact decide_eq_true (by omega)
   unfold bK iH
   rw[this];rfl
  refine ah<|aj<|hy (fun _=>aa rfl)<|hy (fun _=>aT rfl rfl Tryz.underlying27 ea hA_b7 (show((1:Nat):Int)=1 from rfl) (by omega))<| ?_
  refine cL (Bf 0 rfl rfl rfl ea rfl (by omega) ?_)
  refine ai<|al (ρ' :=[(17,_),(4,_),(3,_),(2,_),(0,_)]) ⟨rfl,rfl,rfl,rfl,rfl,trivial⟩<|ak (X' :=[_,_,_]) (S' :=[_]) (fun _ m=>m)<|ag<|aj<|hy (fun _=>aa rfl)<|hy (fun _=>aa rfl)<| ?_
  refine aO (fun w m=>m.bQ 0 rfl (show _=aG 5 1 (.slice A_b7 (2+4) c_b7) (2+4) (aV ([76,1]++gI n))from rfl)) ?_
  refine hx (bu 0 rfl rfl rfl Tryz.underlying27 Tryz.underlying27 (by exact .inl rfl) fa rfl (fun m=>Src.bP (m.ord 2 rfl)) aZ (by unfold maxLen;omega) (by omega) (fun u2=> ?_))
  refine aA (fun m=>(m.own 0 rfl).slice) ?_
  rintro⟨A_b72,c_b72,rfl,hc_b7⟩
  refine aA (fun m=>(m.ord 0 rfl).2.1) fun hA_b7=> ?_
  refine hy (fun _=>ab rfl)<|ai<|al (ρ' :=[(4,_),(17,_),(3,_),(2,_),(0,_)]) ⟨rfl,rfl,rfl,rfl,rfl,trivial⟩<|ak (X' :=[_,_,_]) (S' :=[_]) (fun _ m=>m)<|ag<|ah<|aj<|hy (fun _=>aa rfl)<|hy (fun _=>aa rfl)<| ?_
  refine hx (aq rfl Tryz.call161 (vO (by omega) (by omega) (by omega)) [] rfl [0] rfl ?_)
  rintro _ _ _ ⟨v3,rfl,rfl,rfl⟩
  refine aA (fun m=>(m.own 0 rfl).slice) ?_
  rintro⟨A_x3,c_x3,rfl,hc_x3⟩
  refine aA (fun m=>(m.ord 0 rfl).2.1) fun hA_x3=> ?_
  refine hx (bu 1 rfl rfl rfl Tryz.underlying27 Tryz.underlying27 (by exact .inl rfl) fa rfl (fun m=>Src.bP (m.ord 0 rfl)) aZ (by unfold maxLen;omega) (by omega) (fun u3=> ?_))
  refine aA (fun m=>(m.own 0 rfl).slice) ?_
  rintro⟨A_b73,c_b73,rfl,hc_b7⟩
  refine aA (fun m=>(m.ord 0 rfl).2.1) fun hA_b7=> ?_
  refine hy (fun _=>ab rfl)<|ai<|al (ρ' :=[(2,_),(4,_),(17,_),(3,_),(0,_)]) ⟨rfl,rfl,rfl,rfl,rfl,trivial⟩<|ak (X' :=[_,_,_,_]) (S' :=[_]) (fun _ m=>m)<|ag<|aX<| ?_
  have hol:2+4+(eN l).length+4=(bK l).length:=by rw[hq];simp[fq,hl];try omega
  rw[hol]
  have hsl:aV ([76,1]++gI n)++aV (eN l)++aV (gI (cZ l))=aV (bK l):=by rw[hq,hl,bH ([76,1]++gI n++(eN l)),bH ([76,1]++gI n)]
  rw[hsl]
  exact bg trivial rfl rfl [0] rfl [] rfl ⟨_,rfl,rfl,rfl⟩
 ·have hq:bK l=[76,0]++gI l.length++l++gI (cZ l):=by
   have:vg l=false:=by unfold vg;exact decide_eq_false (by omega)
   unfold bK iH
   rw[this];rfl
  refine aj<|hy (fun _=>aa rfl)<|hy (fun _=>aa rfl)<| ?_
  refine aO (fun w m=>m.bQ 0 rfl (show _=aG 5 1 (.slice A_b7 (2+4) c_b7) (2+4) (aV ([76,0]++gI n))from rfl)) ?_
  refine hx (bu 0 rfl rfl rfl Tryz.underlying27 Tryz.underlying27 (by exact .inl rfl) fa rfl (fun m=>Src.bP (m.rd 0 rfl)) aZ (by unfold maxLen;omega) (by omega) (fun u2=> ?_))
  refine aA (fun m=>(m.own 0 rfl).slice) ?_
  rintro⟨A_b72,c_b72,rfl,hc_b7⟩
  refine aA (fun m=>(m.ord 0 rfl).2.1) fun hA_b7=> ?_
  refine hy (fun _=>ab rfl)<|ai<|al (ρ' :=[(4,_),(17,_),(3,_),(2,_),(0,_)]) ⟨rfl,rfl,rfl,rfl,rfl,trivial⟩<|ak (X' :=[_,_,_]) (S' :=[_]) (fun _ m=>m)<|ag<|ah<|aj<|hy (fun _=>aa rfl)<|hy (fun _=>aa rfl)<| ?_
  refine hx (aq rfl Tryz.call161 (vO (by omega) (by omega) (by omega)) [] rfl [0] rfl ?_)
  rintro _ _ _ ⟨v3,rfl,rfl,rfl⟩
  refine aA (fun m=>(m.own 0 rfl).slice) ?_
  rintro⟨A_x3,c_x3,rfl,hc_x3⟩
  refine aA (fun m=>(m.ord 0 rfl).2.1) fun hA_x3=> ?_
  refine hx (bu 1 rfl rfl rfl Tryz.underlying27 Tryz.underlying27 (by exact .inl rfl) fa rfl (fun m=>Src.bP (m.ord 0 rfl)) aZ (by unfold maxLen;omega) (by omega) (fun u3=> ?_))
  refine aA (fun m=>(m.own 0 rfl).slice) ?_
  rintro⟨A_b73,c_b73,rfl,hc_b7⟩
  refine aA (fun m=>(m.ord 0 rfl).2.1) fun hA_b7=> ?_
  refine hy (fun _=>ab rfl)<|ai<|al (ρ' :=[(2,_),(4,_),(17,_),(3,_),(0,_)]) ⟨rfl,rfl,rfl,rfl,rfl,trivial⟩<|ak (X' :=[_,_,_,_]) (S' :=[_]) (fun _ m=>m)<|ag<|aX<| ?_
  have hol:2+4+n+4=(bK l).length:=by rw[hq];simp[fq,hl];try omega
  rw[hol]
  have hsl:aV ([76,0]++gI n)++aV l++aV (gI (cZ l))=aV (bK l):=by rw[hq,hl,bH ([76,0]++gI n++l),bH ([76,0]++gI n)]
  rw[hsl]
  exact bg trivial rfl rfl [0] rfl [] rfl ⟨_,rfl,rfl,rfl⟩
end Go.Proofs.YtmibdabdlgmafaaGreatDoor
end
section
set_option maxRecDepth 20000
set_option maxHeartbeats 4000000
namespace Go.Proofs.YtmibdabdlgmafaaGreatDoor
open Go.Eng Go.Hx
@[reducible]def HD (v:Value) (nn e:Int):List Value:=[v,.int .i64 nn,.int .i64 e]
theorem j7{A:Option Addr}{n c:Nat}{nn e:Int}:∀u∈HD (.slice A n c) nn e,u.oneCell' =true:=by
 intro u hu
 simp only[List.mem_cons,List.not_mem_nil,or_false]at hu
 rcases hu with rfl|rfl|rfl <;> rfl
theorem lM(l:List UInt8)(i j:Nat):(l.drop i).getD j 0=l.getD (i+j) 0:=by simp[List.getD,List.getElem?_drop]
theorem zU{A:Option Addr}{n c:Nat}{l:List UInt8}{z:Int}(hc:n≤c)(hn:n≤10000000)(hl:l.length=n)(hz:z≤10000000):ck Tryz.prog 217 [.slice A n c,.int .i64 z] [] [dr 1 A n (aV l)] (fun v_ X_ S_=>∃v nn,v_=(.agg (HD v nn (j0 z l []).2).toArray)∧X_=[aG 5 1 v (j0 z l []).1.length (aV (j0 z l []).1)]∧S_=[]):=by
 refine aP (N:=109) Tryz.func217 rfl rfl (by simp) fun b=> ?_
 refine aY (fun m=>gY (m.rd 0 rfl)) ?_
 rintro⟨hl_r,hA_r⟩
 refine ah<|aj<| ?_
 refine hx (aN oE (fun g4=> ?_))
 refine ai<|ak (X' :=[_]) (S' :=[_]) (fun _ m=>m)<|ag<|ah<|aj<|hy (fun _=>ab rfl)<|ai<|ag<|ah<|aj<|hy (fun _=>ab rfl)<|ai<|ag<|ah<|ah<|aj<|hy (fun _=>ab rfl)<|ai<|ag<|aI<| ?_
 refine bx (fun w m=>m.dm (r' :=aG 5 1 (.slice none 0 0) 0 []) (.refl _ _) (Own.nil _ _ _ _) (fun k hk=>hk.elim)) ?_
 refine vp (fun i o nn A3 c3=>n-i) (fun i o nn A3 c3=>[(5,.slice A3 (o:List UInt8).length c3),(6,.int .i64 (nn:Nat)),(7,.int .i64 (i:Nat))]) (fun i o nn A3 c3=>[aG 5 1 (.slice A3 o.length c3) o.length (aV o)]) (fun i o nn A3 c3=>[]) (fun i o nn A3 c3=>i≤n∧nn≤i∧o.length≤10000000∧j0 z (l.drop i) o=j0 z l []) 0 [] 0 none 0 [(4,_),(0,_),(1,_)] ⟨rfl,rfl,rfl,trivial⟩ [0] rfl [] rfl (⟨Nat.zero_le _,Nat.zero_le _,Nat.zero_le _,rfl⟩) ⟨rfl,rfl,rfl,trivial⟩ (fun i o nn A3 c3 ⟨hin,hni,hol,hU⟩=> ?_)
 refine ah<|ah<|aj<|hy (fun _=>aa rfl)<|hy (fun _=>aa rfl)<|hy (fun _=>aS rfl Tryz.underlying27)<|hy (fun _=>bq rfl rfl)<|ai<|al (ρ' :=[(14,_),(5,_),(6,_),(7,_),(4,_),(0,_),(1,_)]) ⟨rfl,rfl,rfl,rfl,rfl,rfl,rfl,trivial⟩<|ag<| ?_
 refine cD rfl (fun hlt=> ?_) (fun hlt=> ?_)
 ·have hil:i<l.length:=by omega
  have hq0:l.drop i≠ []:=fun e=>by have:=congrArg List.length e;rw[List.length_drop]at this;simp at this;omega
  have hql:(l.drop i).length=n-i:=by rw[List.length_drop,hl]
  have hg0:(l.drop i).getD 0 0=l.getD i 0:=lM l i 0
  have hc0:=(l.getD i 0).toNat_lt
  refine aD<|ag<|ah<|aI<|ah<|aj<|hy (fun _=>aa rfl)<|hy (fun _=>aa rfl)<|hy (fun _=>aT rfl rfl Tryz.underlying27 ea hA_r rfl (by omega))<|hy (fun m=>ay rfl iX ((m.rd 0 rfl).cell (bL (by omega))))<|hy (fun _=>bX rfl Tryz.underlying5 Tryz.underlying3 (Bq _))<|hy (fun _=>ab rfl)<|ai<|al (ρ' :=[(8,_),(14,_),(5,_),(6,_),(7,_),(4,_),(0,_),(1,_)]) ⟨rfl,rfl,rfl,rfl,rfl,rfl,rfl,rfl,trivial⟩<|ag<|ah<|ah<|aj<|hy (fun _=>aa rfl)<|hy (fun _=>bq rfl rfl)<|ai<|al (ρ' :=[(23,_),(8,_),(14,_),(5,_),(6,_),(7,_),(4,_),(0,_),(1,_)]) ⟨rfl,rfl,rfl,rfl,rfl,rfl,rfl,rfl,rfl,trivial⟩<|ag<| ?_
  generalize hc8:(l.getD i 0).toNat=c8 at hc0 hg0 ⊢
  have hc8' :((l.drop i).getD 0 0).toNat=c8:=by rw[lM,Nat.add_zero,hc8]
  refine cD rfl (fun h128=> ?_) (fun h128=> ?_)
  ·have ht:cQ (l.drop i)=(c8+2,c8+1,0,decide (c8+2≤n-i)):=by
    unfold cQ;rw[hc8',if_pos (by omega),hql]
   refine ah<|ah<|aj<|hy (fun _=>aa rfl)<|hy (fun _=>aa rfl)<|hy (fun _=>aM rfl rfl (bG (by omega) (by omega)))<|hy (fun _=>aM rfl rfl (bG (by omega) (by omega)))<|hy (fun _=>aa rfl)<|hy (fun _=>aS rfl Tryz.underlying27)<|hy (fun _=>da rfl rfl)<|ai<|al (ρ' :=[(30,_),(23,_),(8,_),(14,_),(5,_),(6,_),(7,_),(4,_),(0,_),(1,_)]) ⟨rfl,rfl,rfl,rfl,rfl,rfl,rfl,rfl,rfl,rfl,trivial⟩<|ag<| ?_
   refine cD rfl (fun h30=> ?_) (fun h30=> ?_)
   ·rw[lE hq0 (fun h=>by rw[ht]at h;have:=of_decide_eq_true h.1;omega)]at hU
    rw[←hU]
    refine ah<|aj<|hy (fun _=>cC oE rfl rfl (by kernel_rfl) (.cons (o:=2) (sz:=1) (by kernel_rfl) rfl rfl (Nat.le_of_ble_eq_true rfl) .nil))<| ?_
    refine cL (aJ 1 rfl rfl rfl jE rfl j7 rfl ?_)
    refine ai<|al (ρ' :=[(30,_),(23,_),(8,_),(14,_),(5,_),(6,_),(7,_),(4,_),(0,_),(1,_)]) ⟨rfl,rfl,rfl,rfl,rfl,rfl,rfl,rfl,rfl,rfl,trivial⟩<|ak (X' :=[_,_]) (S' :=[_]) (fun _ m=>m)<|ag<|aX<|aw<|aw<|a8<|aw<|aw<|a8<|aw<| ?_
    refine ak (fun w m=>m.dm (r' :=aG 5 1 (.slice none 0 0) 0 []) (.refl _ _) (Own.nil _ _ _ _) (fun k hk=>hk.elim)) ?_
    exact fl trivial rfl rfl rL jE rfl (fun m=>(m.a6 1 rfl).ax) [0] rfl [] rfl ⟨_,_,rfl,rfl,rfl⟩
   ·have hok:(cQ (l.drop i)).2.2.2=true:=by rw[ht];exact decide_eq_true (by omega)
    have hdo:(cQ (l.drop i)).2.2.1≤o.length:=by rw[ht];exact Nat.zero_le _
    refine aD<|ag<|ah<|ah<|aj<|hy (fun _=>aa rfl)<|hy (fun _=>aS rfl Tryz.underlying27)<|hy (fun _=>aa rfl)<|hy (fun _=>aM rfl rfl (bG (by omega) (by omega)))<|hy (fun _=>aM rfl rfl (bG (by omega) (by omega)))<|hy (fun _=>aa rfl)<|hy (fun _=>da rfl rfl)<|ai<|al (ρ' :=[(38,_),(30,_),(23,_),(8,_),(14,_),(5,_),(6,_),(7,_),(4,_),(0,_),(1,_)]) ⟨rfl,rfl,rfl,rfl,rfl,rfl,rfl,rfl,rfl,rfl,rfl,trivial⟩<|ag<| ?_
    refine cD rfl (fun h38=> ?_) (fun h38=> ?_)
    ·rw[pa hq0 hok hdo (by rw[ht];show z<(o.length:Int)+((c8+1:Nat):Int);omega)]at hU
     rw[←hU]
     refine ah<|aj<|hy (fun _=>cC oE rfl rfl (by kernel_rfl) (.cons (o:=2) (sz:=1) (by kernel_rfl) rfl rfl (Nat.le_of_ble_eq_true rfl) .nil))<| ?_
     refine cL (aJ 1 rfl rfl rfl jE rfl j7 rfl ?_)
     refine ai<|al (ρ' :=[(38,_),(30,_),(23,_),(8,_),(14,_),(5,_),(6,_),(7,_),(4,_),(0,_),(1,_)]) ⟨rfl,rfl,rfl,rfl,rfl,rfl,rfl,rfl,rfl,rfl,rfl,trivial⟩<|ak (X' :=[_,_]) (S' :=[_]) (fun _ m=>m)<|ag<|aX<|aw<|aw<|a8<|aw<|aw<|a8<|aw<| ?_
     refine ak (fun w m=>m.dm (r' :=aG 5 1 (.slice none 0 0) 0 []) (.refl _ _) (Own.nil _ _ _ _) (fun k hk=>hk.elim)) ?_
     exact fl trivial rfl rfl rL jE rfl (fun m=>(m.a6 1 rfl).ax) [0] rfl [] rfl ⟨_,_,rfl,rfl,rfl⟩
    ·rw[nU hq0 hok hdo (by rw[ht];show¬z<(o.length:Int)+((c8+1:Nat):Int);omega)]at hU
     have hK:i+1+(c8+1)-(i+1)=c8+1:=by omega
     have hma:made (l.drop i) o=o++(l.drop (i+1)).take (i+1+(c8+1)-(i+1)):=by unfold made;rw[ht,hK,if_pos rfl,List.drop_drop];rfl
     rw[hma,ht,List.drop_drop]at hU
     have hpl:((l.drop (i+1)).take (i+1+(c8+1)-(i+1))).length=i+1+(c8+1)-(i+1):=by rw[List.length_take,List.length_drop];omega
     refine bx (fun w m=>m.iW 0 rfl (View.sub (n:=n) (c:=c) (k:=i+1) (m:=i+1+(c8+1)-(i+1)) (by omega) (by omega))) ?_
     refine aY (fun m=>gY (m.rd 0 rfl)) ?_
     rintro⟨hl_q,hA_q⟩
     refine aD<|ag<|ah<|aj<|hy (fun _=>aa rfl)<|hy (fun _=>aa rfl)<|hy (fun _=>aa rfl)<|hy (fun _=>aM rfl rfl (bG (by omega) (by omega)))<|hy (fun _=>aa rfl)<|hy (fun _=>aa rfl)<|hy (fun _=>aM rfl rfl (bG (by omega) (by omega)))<|hy (fun _=>aM rfl rfl (bG (by omega) (by omega)))<|hy (fun _=>eS rfl rfl rfl Tryz.underlying27 ea (show((i+1:Nat):Int)=_ by omega) (show((i+1+(c8+1):Nat):Int)=_ by omega) (by omega) (by omega))<| ?_
     refine hx (bu 0 rfl rfl rfl Tryz.underlying27 Tryz.underlying27 (by exact .inl rfl) fa rfl (fun m=>Src.bP (m.rd 0 rfl)) aZ (by unfold maxLen;omega) (by omega) (fun u=> ?_))
     refine aA (fun m=>(m.own 0 rfl).slice) ?_
     rintro⟨A_x,c_x,rfl,hc_x⟩
     refine aA (fun m=>(m.ord 0 rfl).2.1) fun hA_x=> ?_
     have hlm:o.length+(i+1+(c8+1)-(i+1))=(o++(l.drop (i+1)).take (i+1+(c8+1)-(i+1))).length:=by rw[List.length_append,hpl]
     rw[hlm]at hc_x hA_x ⊢
     refine aO (fun w m=>m.bQ 0 rfl (show _=aG 5 1 (.slice A_x (o++(l.drop (i+1)).take (i+1+(c8+1)-(i+1))).length c_x) (o++(l.drop (i+1)).take (i+1+(c8+1)-(i+1))).length (aV (o++(l.drop (i+1)).take (i+1+(c8+1)-(i+1))))from congrArg (aG _ _ _ _) (by rw[bH]))) ?_
     refine hy (fun _=>ab rfl)<|ai<|al (ρ' :=[(5,_),(38,_),(30,_),(23,_),(8,_),(14,_),(6,_),(7,_),(4,_),(0,_),(1,_)]) ⟨rfl,rfl,rfl,rfl,rfl,rfl,rfl,rfl,rfl,rfl,rfl,trivial⟩<|ak (X' :=[_,_]) (S' :=[_,_]) (fun _ m=>m)<|ag<|ah<|aj<|hy (fun _=>aa rfl)<|hy (fun _=>aa rfl)<|hy (fun _=>aM rfl rfl (bG (by omega) (by omega)))<|hy (fun _=>yV (aM rfl rfl (bG (by omega) (by omega))) ((show Value.int .i64 _= .int .i64 ((i+(c8+2):Nat):Int) by congr 1)))<|hy (fun _=>ab rfl)<|ai<|al (ρ' :=[(7,_),(5,_),(38,_),(30,_),(23,_),(8,_),(14,_),(6,_),(4,_),(0,_),(1,_)]) ⟨rfl,rfl,rfl,rfl,rfl,rfl,rfl,rfl,rfl,rfl,rfl,trivial⟩<|ag<|bJ<|ao<|aB<|ag<|aj<|hy (fun _=>aa rfl)<|hy (fun _=>aM rfl rfl (bG (by omega) (by omega)))<|hy (fun _=>ab rfl)<|ai<|al (ρ' :=[(6,_),(7,_),(5,_),(38,_),(30,_),(23,_),(8,_),(14,_),(4,_),(0,_),(1,_)]) ⟨rfl,rfl,rfl,rfl,rfl,rfl,rfl,rfl,rfl,rfl,rfl,trivial⟩<| ?_
     refine qx (i+(c8+2)) (o++(l.drop (i+1)).take (i+1+(c8+1)-(i+1))) (nn+1) A_x c_x ⟨rfl,rfl,rfl,rfl,rfl,rfl,trivial⟩ [0,0] rfl [1] rfl (⟨by omega,by omega,by rw[←hlm];omega,hU⟩) (by omega)
  ·refine aD<|ag<|ah<|ah<|aj<|hy (fun _=>aa rfl)<|hy (fun _=>aM rfl rfl (bG (by omega) (by omega)))<|hy (fun _=>aa rfl)<|hy (fun _=>aS rfl Tryz.underlying27)<|hy (fun _=>da rfl rfl)<|ai<|al (ρ' :=[(58,_),(23,_),(8,_),(14,_),(5,_),(6,_),(7,_),(4,_),(0,_),(1,_)]) ⟨rfl,rfl,rfl,rfl,rfl,rfl,rfl,rfl,rfl,rfl,trivial⟩<|ag<| ?_
   refine cD rfl (fun h58=> ?_) (fun h58=> ?_)
   ·have ht:cQ (l.drop i)=(0,0,0,false):=by unfold cQ;rw[hc8',if_neg (by omega),if_pos (by omega)]
    rw[lE hq0 (fun h=>by rw[ht]at h;cases h.1)]at hU
    rw[←hU]
    refine ah<|aj<|hy (fun _=>cC oE rfl rfl (by kernel_rfl) (.cons (o:=2) (sz:=1) (by kernel_rfl) rfl rfl (Nat.le_of_ble_eq_true rfl) .nil))<| ?_
    refine cL (aJ 1 rfl rfl rfl jE rfl j7 rfl ?_)
    refine ai<|al (ρ' :=[(58,_),(23,_),(8,_),(14,_),(5,_),(6,_),(7,_),(4,_),(0,_),(1,_)]) ⟨rfl,rfl,rfl,rfl,rfl,rfl,rfl,rfl,rfl,rfl,trivial⟩<|ak (X' :=[_,_]) (S' :=[_]) (fun _ m=>m)<|ag<|aX<|aw<|a8<|aw<|aw<|a8<|aw<| ?_
    refine ak (fun w m=>m.dm (r' :=aG 5 1 (.slice none 0 0) 0 []) (.refl _ _) (Own.nil _ _ _ _) (fun k hk=>hk.elim)) ?_
    exact fl trivial rfl rfl rL jE rfl (fun m=>(m.a6 1 rfl).ax) [0] rfl [] rfl ⟨_,_,rfl,rfl,rfl⟩
   ·have ht:cQ (l.drop i)=(3,c8-124,1+(l.getD (i+1) 0).toNat+256*(l.getD (i+2) 0).toNat,true):=by
     unfold cQ;rw[hc8',if_neg (by omega),if_neg (by omega),lM,lM]
    have b1:=(l.getD (i+1) 0).toNat_lt
    have b2:=(l.getD (i+2) 0).toNat_lt
    have hok:(cQ (l.drop i)).2.2.2=true:=by rw[ht]
    refine aD<|ag<|ah<|c5 [] [(0,some 0),(1,some 0),(2,some 0),(3,some 0),(4,some 0),(5,some 0),(6,some 0),(7,some 0),(8,some 0),(9,some 0),(10,some 0),(11,some 0),(12,some 0),(13,some 0),(14,some 0),(15,some 0)] (by kernel_rfl) (by kernel_rfl) rfl 99<|an (aa rfl)<|an (aa rfl)<|an (aM rfl rfl (bG (by omega) (by omega)))<|an (aT rfl rfl Tryz.underlying27 ea hA_r (show((i+1:Nat):Int)=_ by omega) (by omega))<|cr (fun m=>ay rfl iX ((m.rd 0 rfl).cell (bL (by omega))))<|an (bX rfl Tryz.underlying5 Tryz.underlying3 (Bq _))<|an (aM rfl rfl (bG (by omega) (by omega)))<|an (aa rfl)<|an (aa rfl)<|an (aM rfl rfl (bG (by omega) (by omega)))<|an (aT rfl rfl Tryz.underlying27 ea hA_r (show((i+2:Nat):Int)=_ by omega) (by omega))<|cr (fun m=>ay rfl iX ((m.rd 0 rfl).cell (bL (by omega))))<|an (bX rfl Tryz.underlying5 Tryz.underlying3 (Bq _))<|an (fB rfl rfl (bG (by omega) (by omega)))<|an (yV (aM rfl rfl (bG (by omega) (by omega))) ((show Value.int .i64 ((1:Int)+((l.getD (i+1) 0).toNat:Int)+256*((l.getD (i+2) 0).toNat:Int))= .int .i64 ((1+(l.getD (i+1) 0).toNat+256*(l.getD (i+2) 0).toNat:Nat):Int) by congr 1)))<|an (ab rfl)<|bD<|al (ρ' :=[(9,_),(58,_),(23,_),(8,_),(14,_),(5,_),(6,_),(7,_),(4,_),(0,_),(1,_)]) ⟨rfl,rfl,rfl,rfl,rfl,rfl,rfl,rfl,rfl,rfl,rfl,trivial⟩<|ag<|ah<|ah<|aj<|hy (fun _=>aa rfl)<|hy (fun _=>aa rfl)<|hy (fun _=>aS rfl Tryz.underlying27)<|hy (fun _=>da rfl rfl)<|ai<|al (ρ' :=[(78,_),(9,_),(58,_),(23,_),(8,_),(14,_),(5,_),(6,_),(7,_),(4,_),(0,_),(1,_)]) ⟨rfl,rfl,rfl,rfl,rfl,rfl,rfl,rfl,rfl,rfl,rfl,rfl,trivial⟩<|ag<| ?_
    generalize hdd:1+(l.getD (i+1) 0).toNat+256*(l.getD (i+2) 0).toNat=dd at ht ⊢
    refine cD rfl (fun h78=> ?_) (fun h78=> ?_)
    ·rw[lE hq0 (fun h=>by rw[ht]at h;have h2:dd≤o.length:=h.2;omega)]at hU
     rw[←hU]
     refine ah<|aj<|hy (fun _=>cC oE rfl rfl (by kernel_rfl) (.cons (o:=2) (sz:=1) (by kernel_rfl) rfl rfl (Nat.le_of_ble_eq_true rfl) .nil))<| ?_
     refine cL (aJ 1 rfl rfl rfl jE rfl j7 rfl ?_)
     refine ai<|al (ρ' :=[(78,_),(9,_),(58,_),(23,_),(8,_),(14,_),(5,_),(6,_),(7,_),(4,_),(0,_),(1,_)]) ⟨rfl,rfl,rfl,rfl,rfl,rfl,rfl,rfl,rfl,rfl,rfl,rfl,trivial⟩<|ak (X' :=[_,_]) (S' :=[_]) (fun _ m=>m)<|ag<|aX<|aw<|a8<|aw<|aw<|a8<|aw<| ?_
     refine ak (fun w m=>m.dm (r' :=aG 5 1 (.slice none 0 0) 0 []) (.refl _ _) (Own.nil _ _ _ _) (fun k hk=>hk.elim)) ?_
     exact fl trivial rfl rfl rL jE rfl (fun m=>(m.a6 1 rfl).ax) [0] rfl [] rfl ⟨_,_,rfl,rfl,rfl⟩
    ·have hdo:(cQ (l.drop i)).2.2.1≤o.length:=by rw[ht];show dd≤_;omega
     refine aD<|ag<|ah<|ah<|aj<|hy (fun _=>aa rfl)<|hy (fun _=>aS rfl Tryz.underlying27)<|hy (fun _=>aa rfl)<|hy (fun _=>aM rfl rfl (bG (by omega) (by omega)))<|hy (fun _=>cn rfl rfl (bG (by omega) (by omega)))<|hy (fun _=>aa rfl)<|hy (fun _=>da rfl rfl)<|ai<|al (ρ' :=[(86,_),(78,_),(9,_),(58,_),(23,_),(8,_),(14,_),(5,_),(6,_),(7,_),(4,_),(0,_),(1,_)]) ⟨rfl,rfl,rfl,rfl,rfl,rfl,rfl,rfl,rfl,rfl,rfl,rfl,rfl,trivial⟩<|ag<| ?_
     refine cD rfl (fun h86=> ?_) (fun h86=> ?_)
     ·rw[pa hq0 hok hdo (by rw[ht];show z<(o.length:Int)+((c8-124:Nat):Int);omega)]at hU
      rw[←hU]
      refine ah<|aj<|hy (fun _=>cC oE rfl rfl (by kernel_rfl) (.cons (o:=2) (sz:=1) (by kernel_rfl) rfl rfl (Nat.le_of_ble_eq_true rfl) .nil))<| ?_
      refine cL (aJ 1 rfl rfl rfl jE rfl j7 rfl ?_)
      refine ai<|al (ρ' :=[(86,_),(78,_),(9,_),(58,_),(23,_),(8,_),(14,_),(5,_),(6,_),(7,_),(4,_),(0,_),(1,_)]) ⟨rfl,rfl,rfl,rfl,rfl,rfl,rfl,rfl,rfl,rfl,rfl,rfl,rfl,trivial⟩<|ak (X' :=[_,_]) (S' :=[_]) (fun _ m=>m)<|ag<|aX<|aw<|a8<|aw<|aw<|a8<|aw<| ?_
      refine ak (fun w m=>m.dm (r' :=aG 5 1 (.slice none 0 0) 0 []) (.refl _ _) (Own.nil _ _ _ _) (fun k hk=>hk.elim)) ?_
      exact fl trivial rfl rfl rL jE rfl (fun m=>(m.a6 1 rfl).ax) [0] rfl [] rfl ⟨_,_,rfl,rfl,rfl⟩
     ·rw[nU hq0 hok hdo (by rw[ht];show¬z<(o.length:Int)+((c8-124:Nat):Int);omega)]at hU
      have hma:made (l.drop i) o=again dd (c8-124) o:=by unfold made;rw[ht];exact if_neg (show¬dd=0 by omega)
      rw[hma,ht,List.drop_drop]at hU
      refine aD<|ag<|ah<|ah<|aj<|hy (fun _=>ab rfl)<|ai<|ag<|aI<| ?_
      refine iG (fun k2 o2 A4 c4=>c8-124-k2) (fun k2 o2 A4 c4=>[(5,.slice A4 (o2:List UInt8).length c4),(10,.int .i64 (k2:Nat))]) (fun k2 o2 A4 c4=>[aG 5 1 (.slice A4 o2.length c4) o2.length (aV o2)]) (fun k2 o2 A4 c4=>[]) (fun k2 o2 A4 c4=>k2≤c8-124∧o2.length=o.length+k2∧again dd (c8-124-k2) o2=again dd (c8-124) o) 0 o A3 c3 [(86,_),(78,_),(9,_),(58,_),(23,_),(8,_),(14,_),(6,_),(7,_),(4,_),(0,_),(1,_)] ⟨rfl,rfl,rfl,rfl,rfl,rfl,rfl,rfl,rfl,rfl,rfl,rfl,trivial⟩ [0] rfl [] rfl (⟨Nat.zero_le _,rfl,rfl⟩) ⟨rfl,rfl,trivial⟩ (fun k2 o2 A4 c4 ⟨hk2,ho2,hag⟩=> ?_)
      refine ah<|ah<|aj<|hy (fun _=>aa rfl)<|hy (fun _=>aa rfl)<|hy (fun _=>cn rfl rfl (bG (by omega) (by omega)))<|hy (fun _=>bq rfl rfl)<|ai<|al (ρ' :=[(91,_),(5,_),(10,_),(86,_),(78,_),(9,_),(58,_),(23,_),(8,_),(14,_),(6,_),(7,_),(4,_),(0,_),(1,_)]) ⟨rfl,rfl,rfl,rfl,rfl,rfl,rfl,rfl,rfl,rfl,rfl,rfl,rfl,rfl,rfl,trivial⟩<|ag<| ?_
      refine cD rfl (fun hk=> ?_) (fun hk=> ?_)
      ·have hk3:k2<c8-124:=by omega
       have hi2:o2.length-dd<o2.length:=by omega
       have hs:again dd (c8-124-k2) o2=again dd (c8-124-(k2+1)) (o2++[o2.getD (o2.length-dd) 0]):=by
        rw[show c8-124-k2=(c8-124-(k2+1))+1 by omega];rfl
       rw[hs]at hag
       refine aY (fun m=>(m.ord 0 rfl).2.1) fun hA_x=> ?_
       refine aD<|ag<|ah<|aI<|aj<|hy (fun _=>aa rfl)<|hy (fun _=>aa rfl)<|hy (fun _=>aa rfl)<|hy (fun _=>aS rfl Tryz.underlying27)<|hy (fun _=>aa rfl)<|hy (fun _=>cn rfl rfl (bG (by omega) (by omega)))<|hy (fun _=>aT rfl rfl Tryz.underlying27 ea hA_x (show((o2.length-dd:Nat):Int)=_ by omega) (by omega))<|hy (fun m=>ay rfl iX ((m.ord 0 rfl).cell (bL (by omega))))<| ?_
       refine hx (b5 Tryz.underlying27 fa rfl rfl rfl (by simp[Value.cells,B8]) (by decide) (by decide) (fun g102=> ?_))
       have hA_b102:0<1→(some (⟨g102,0,none⟩:Addr))≠none:=fun _ h=>by cases h
       refine aO (fun w m=>m.bQ 0 rfl (show _=aG 5 1 (.slice (some ⟨g102,0,none⟩) 1 1) 1 (aV [o2.getD (o2.length-dd) 0])from rfl)) ?_
       refine hx (bu 1 rfl rfl rfl Tryz.underlying27 Tryz.underlying27 (by exact .inl rfl) fa rfl (fun m=>Src.bP (m.ord 0 rfl)) aZ (by unfold maxLen;omega) (by omega) (fun u=> ?_))
       refine aA (fun m=>(m.own 0 rfl).slice) ?_
       rintro⟨A_x,c_x,rfl,hc_x⟩
       refine aA (fun m=>(m.ord 0 rfl).2.1) fun hA_x=> ?_
       have hlm:o2.length+1=(o2++[o2.getD (o2.length-dd) 0]).length:=by rw[List.length_append];rfl
       rw[hlm]at hc_x hA_x ⊢
       refine aO (fun w m=>m.bQ 0 rfl (show _=aG 5 1 (.slice A_x (o2++[o2.getD (o2.length-dd) 0]).length c_x) (o2++[o2.getD (o2.length-dd) 0]).length (aV (o2++[o2.getD (o2.length-dd) 0]))from congrArg (aG _ _ _ _) (by rw[bH]))) ?_
       refine hy (fun _=>ab rfl)<|ai<|al (ρ' :=[(5,_),(91,_),(10,_),(86,_),(78,_),(9,_),(58,_),(23,_),(8,_),(14,_),(6,_),(7,_),(4,_),(0,_),(1,_)]) ⟨rfl,rfl,rfl,rfl,rfl,rfl,rfl,rfl,rfl,rfl,rfl,rfl,rfl,rfl,rfl,trivial⟩<|ak (X' :=[_,_,_]) (S' :=[_]) (fun _ m=>m)<|aQ<|ag<|aj<|hy (fun _=>aa rfl)<|hy (fun _=>aM rfl rfl (bG (by omega) (by omega)))<|hy (fun _=>ab rfl)<|ai<|al (ρ' :=[(10,_),(5,_),(91,_),(86,_),(78,_),(9,_),(58,_),(23,_),(8,_),(14,_),(6,_),(7,_),(4,_),(0,_),(1,_)]) ⟨rfl,rfl,rfl,rfl,rfl,rfl,rfl,rfl,rfl,rfl,rfl,rfl,rfl,rfl,rfl,trivial⟩<| ?_
       refine eJ (k2+1) (o2++[o2.getD (o2.length-dd) 0]) A_x c_x ⟨rfl,rfl,rfl,rfl,rfl,rfl,rfl,rfl,rfl,rfl,rfl,rfl,rfl,rfl,trivial⟩ [0,1] rfl [0] rfl (⟨by omega,by rw[←hlm];omega,hag⟩) (by omega)
      ·obtain rfl:k2=c8-124:=by omega
       rw[Nat.sub_self]at hag
       have hag:o2=again dd (c8-124) o:=hag
       rw[←hag]at hU
       refine bJ<|ao<|ao<|aB<|ag<|aj<|hy (fun _=>aa rfl)<|hy (fun _=>yV (aM rfl rfl (bG (by omega) (by omega))) ((show Value.int .i64 _= .int .i64 ((i+3:Nat):Int) by congr 1)))<|hy (fun _=>ab rfl)<|ai<|al (ρ' :=[(7,_),(91,_),(5,_),(10,_),(86,_),(78,_),(9,_),(58,_),(23,_),(8,_),(14,_),(6,_),(4,_),(0,_),(1,_)]) ⟨rfl,rfl,rfl,rfl,rfl,rfl,rfl,rfl,rfl,rfl,rfl,rfl,rfl,rfl,rfl,trivial⟩<|aQ<|ag<|aj<|hy (fun _=>aa rfl)<|hy (fun _=>aM rfl rfl (bG (by omega) (by omega)))<|hy (fun _=>ab rfl)<|ai<|al (ρ' :=[(6,_),(7,_),(91,_),(5,_),(10,_),(86,_),(78,_),(9,_),(58,_),(23,_),(8,_),(14,_),(4,_),(0,_),(1,_)]) ⟨rfl,rfl,rfl,rfl,rfl,rfl,rfl,rfl,rfl,rfl,rfl,rfl,rfl,rfl,rfl,trivial⟩<| ?_
       refine qx (i+3) o2 (nn+1) A4 c4 ⟨rfl,rfl,rfl,rfl,rfl,rfl,trivial⟩ [0,0] rfl [0] rfl (⟨by omega,by omega,by omega,hU⟩) (by omega)
 ·obtain rfl:i=n:=by omega
  rw[List.drop_of_length_le (by omega),o9]at hU
  rw[←hU]
  refine bJ<|ao<|ao<|aB<|ag<|ah<|aj<|hy (fun _=>aa rfl)<|hy (fun _=>aa rfl)<|hy (fun _=>cC oE rfl rfl (by kernel_rfl) (.cons (o:=0) (sz:=1) (by kernel_rfl) rfl rfl (Nat.le_of_ble_eq_true rfl) (.cons (o:=1) (sz:=1) (by kernel_rfl) rfl rfl (Nat.le_of_ble_eq_true rfl) .nil)))<| ?_
  refine cL (aJ 1 rfl rfl rfl jE rfl j7 rfl ?_)
  refine ai<|al (ρ' :=[(14,_),(5,_),(6,_),(7,_),(4,_),(0,_),(1,_)]) ⟨rfl,rfl,rfl,rfl,rfl,rfl,rfl,trivial⟩<|ak (X' :=[_,_]) (S' :=[_]) (fun _ m=>m)<|ag<|aX<| ?_
  exact fl trivial rfl rfl rL jE rfl (fun m=>(m.a6 0 rfl).ax) [1] rfl [] rfl ⟨_,_,rfl,rfl,rfl⟩
end Go.Proofs.YtmibdabdlgmafaaGreatDoor
end
section
set_option maxRecDepth 20000
set_option maxHeartbeats 4000000
namespace Go.Proofs.YtmibdabdlgmafaaGreatDoor
open Go.Eng Go.Hx
def AF(f:List UInt8):Int:=match gS f with|none=>-1|some k=>(k:Nat)
theorem ly{f:List UInt8}(h:gS f=none):AF f=-1:=by unfold AF;rw[h]
theorem rz{f:List UInt8}{k:Nat}(h:gS f=some k):AF f=(k:Nat):=by unfold AF;rw[h]
theorem Gs{A:Option Addr}{n c:Nat}{f:List UInt8}(hl:f.length=n)(hn:n≤10000000):ck Tryz.prog 216 [.slice A n c] [] [dr 1 A n (aV f)] (fun v_ X_ S_=>v_=(.int .i64 (AF f))∧X_=[]∧S_=[]):=by
 have hv:kO (f.drop 2)=(f.getD 2 0).toNat+256*(f.getD 3 0).toNat+65536*(f.getD 4 0).toNat+16777216*(f.getD 5 0).toNat:=by simp[kO,List.getD]
 have b0:=(f.getD 2 0).toNat_lt
 have b1:=(f.getD 3 0).toNat_lt
 have b2:=(f.getD 4 0).toNat_lt
 have b3:=(f.getD 5 0).toNat_lt
 have h76:(((f.getD 0 0).toNat:Int)≠76)↔f.getD 0 0≠76:=by
  constructor
  ·intro h e;rw[e]at h;exact h rfl
  ·intro h e;exact h (UInt8.toNat_inj.1 (by rw[show(76:UInt8).toNat=76 from rfl];omega))
 refine aP (N:=40) Tryz.func216 rfl rfl (by simp) fun b=> ?_
 refine aY (fun m=>gY (m.rd 0 rfl)) ?_
 rintro⟨hl_r,hA_r⟩
 by_cases h1:f.length<10
 ·rw[ly (if_pos (.inl h1))]
  refine ah<|aj<|hy (fun _=>ab rfl)<|ai<|ag<|ah<|ah<|aj<|hy (fun _=>aa rfl)<|hy (fun _=>aS rfl Tryz.underlying27)<|hy (fun _=>yT (bq rfl rfl) ((decide_eq_true (by omega))))<|hy (fun _=>aa rfl)<|bE rfl rfl rfl (by decide)<|bE rfl rfl rfl (by decide)<|bE rfl rfl rfl (by decide)<|bE rfl rfl rfl (by decide)<|hy (fun _=>bM rfl rfl)<|hy (fun _=>aa rfl)<|bE rfl rfl rfl (by decide)<|bE rfl rfl rfl (by decide)<|bE rfl rfl rfl (by decide)<|bE rfl rfl rfl (by decide)<|hy (fun _=>bM rfl rfl)<|ai<|al (ρ' :=[(17,_),(2,_),(0,_)]) ⟨rfl,rfl,rfl,trivial⟩<|ag<| ?_
  refine ia rfl (rfl) ?_
  refine ah<|aj<|hy (fun _=>ab rfl)<|ai<|ag<|aX<|aw<| ?_
  exact bg trivial rfl rfl [] rfl [] rfl ⟨rfl,rfl,rfl⟩
 ·by_cases h2:f.getD 0 0≠76
  ·rw[ly (if_pos (.inr (.inl h2)))]
   refine ah<|aj<|hy (fun _=>ab rfl)<|ai<|ag<|ah<|ah<|aj<|hy (fun _=>aa rfl)<|hy (fun _=>aS rfl Tryz.underlying27)<|hy (fun _=>yF (bq rfl rfl) ((decide_eq_false (by omega))))<|hy (fun _=>aa rfl)<|dU (o:=_) rfl rfl rfl (fun _=>aa rfl)<|dU (o:=_) rfl rfl rfl (fun _=>aT rfl rfl Tryz.underlying27 ea hA_r (show((0:Nat):Int)=0 from rfl) (by omega))<|dU (o:=_) rfl rfl rfl (fun m=>ay rfl iX ((m.rd 0 rfl).cell (bL (by omega))))<|dU (o:=_) rfl rfl rfl (fun _=>yT (db rfl rfl) ((decide_eq_true (h76.2 h2))))<|hy (fun _=>bC rfl rfl)<|hy (fun _=>aa rfl)<|bE rfl rfl rfl (by decide)<|bE rfl rfl rfl (by decide)<|bE rfl rfl rfl (by decide)<|bE rfl rfl rfl (by decide)<|hy (fun _=>bM rfl rfl)<|ai<|al (ρ' :=[(17,_),(2,_),(0,_)]) ⟨rfl,rfl,rfl,trivial⟩<|ag<| ?_
   refine ia rfl (rfl) ?_
   refine ah<|aj<|hy (fun _=>ab rfl)<|ai<|ag<|aX<|aw<| ?_
   exact bg trivial rfl rfl [] rfl [] rfl ⟨rfl,rfl,rfl⟩
  ·by_cases h3:1<(f.getD 1 0).toNat
   ·rw[ly (if_pos (.inr (.inr h3)))]
    refine ah<|aj<|hy (fun _=>ab rfl)<|ai<|ag<|ah<|ah<|aj<|hy (fun _=>aa rfl)<|hy (fun _=>aS rfl Tryz.underlying27)<|hy (fun _=>yF (bq rfl rfl) ((decide_eq_false (by omega))))<|hy (fun _=>aa rfl)<|dU (o:=_) rfl rfl rfl (fun _=>aa rfl)<|dU (o:=_) rfl rfl rfl (fun _=>aT rfl rfl Tryz.underlying27 ea hA_r (show((0:Nat):Int)=0 from rfl) (by omega))<|dU (o:=_) rfl rfl rfl (fun m=>ay rfl iX ((m.rd 0 rfl).cell (bL (by omega))))<|dU (o:=_) rfl rfl rfl (fun _=>yF (db rfl rfl) ((decide_eq_false (fun q=>h2 (h76.1 q)))))<|hy (fun _=>bC rfl rfl)<|hy (fun _=>aa rfl)<|dU (o:=_) rfl rfl rfl (fun _=>aa rfl)<|dU (o:=_) rfl rfl rfl (fun _=>aT rfl rfl Tryz.underlying27 ea hA_r (show((1:Nat):Int)=1 from rfl) (by omega))<|dU (o:=_) rfl rfl rfl (fun m=>ay rfl iX ((m.rd 0 rfl).cell (bL (by omega))))<|dU (o:=_) rfl rfl rfl (fun _=>yT (da rfl rfl) ((decide_eq_true (by omega))))<|hy (fun _=>bC rfl rfl)<|ai<|al (ρ' :=[(17,_),(2,_),(0,_)]) ⟨rfl,rfl,rfl,trivial⟩<|ag<| ?_
    refine ia rfl (rfl) ?_
    refine ah<|aj<|hy (fun _=>ab rfl)<|ai<|ag<|aX<|aw<| ?_
    exact bg trivial rfl rfl [] rfl [] rfl ⟨rfl,rfl,rfl⟩
   ·refine ah<|aj<|hy (fun _=>ab rfl)<|ai<|ag<|ah<|ah<|aj<|hy (fun _=>aa rfl)<|hy (fun _=>aS rfl Tryz.underlying27)<|hy (fun _=>yF (bq rfl rfl) ((decide_eq_false (by omega))))<|hy (fun _=>aa rfl)<|dU (o:=_) rfl rfl rfl (fun _=>aa rfl)<|dU (o:=_) rfl rfl rfl (fun _=>aT rfl rfl Tryz.underlying27 ea hA_r (show((0:Nat):Int)=0 from rfl) (by omega))<|dU (o:=_) rfl rfl rfl (fun m=>ay rfl iX ((m.rd 0 rfl).cell (bL (by omega))))<|dU (o:=_) rfl rfl rfl (fun _=>yF (db rfl rfl) ((decide_eq_false (fun q=>h2 (h76.1 q)))))<|hy (fun _=>bC rfl rfl)<|hy (fun _=>aa rfl)<|dU (o:=_) rfl rfl rfl (fun _=>aa rfl)<|dU (o:=_) rfl rfl rfl (fun _=>aT rfl rfl Tryz.underlying27 ea hA_r (show((1:Nat):Int)=1 from rfl) (by omega))<|dU (o:=_) rfl rfl rfl (fun m=>ay rfl iX ((m.rd 0 rfl).cell (bL (by omega))))<|dU (o:=_) rfl rfl rfl (fun _=>yF (da rfl rfl) ((decide_eq_false (by omega))))<|hy (fun _=>bC rfl rfl)<|ai<|al (ρ' :=[(17,_),(2,_),(0,_)]) ⟨rfl,rfl,rfl,trivial⟩<|ag<| ?_
    refine dB rfl (rfl) ?_
    have hL:gS f=some (kO (f.drop 2)):=if_neg (fun q=>q.elim h1 (fun q=>q.elim h2 h3))
    rw[rz hL]
    refine aD<|ag<|ah<|c5 [] [(0,some 0),(1,some 0),(2,some 0),(3,some 0),(4,some 0),(5,some 0),(6,some 0),(7,some 0),(8,some 0),(9,some 0),(10,some 0),(11,some 0),(12,some 0),(13,some 0),(14,some 0),(15,some 0),(16,some 0),(17,some 0),(18,some 0),(19,some 0),(20,some 0),(21,some 0),(22,some 0)] (by kernel_rfl) (by kernel_rfl) rfl 99<|an (aa rfl)<|an (aT rfl rfl Tryz.underlying27 ea hA_r (show((2:Nat):Int)=2 from rfl) (by omega))<|cr (fun m=>ay rfl iX ((m.rd 0 rfl).cell (bL (by omega))))<|an (bX rfl Tryz.underlying5 Tryz.underlying3 (Bq _))<|an (aa rfl)<|an (aT rfl rfl Tryz.underlying27 ea hA_r (show((3:Nat):Int)=3 from rfl) (by omega))<|cr (fun m=>ay rfl iX ((m.rd 0 rfl).cell (bL (by omega))))<|an (bX rfl Tryz.underlying5 Tryz.underlying3 (Bq _))<|an (fB rfl rfl (bG (by omega) (by omega)))<|an (aM rfl rfl (bG (by omega) (by omega)))<|an (aa rfl)<|an (aT rfl rfl Tryz.underlying27 ea hA_r (show((4:Nat):Int)=4 from rfl) (by omega))<|cr (fun m=>ay rfl iX ((m.rd 0 rfl).cell (bL (by omega))))<|an (bX rfl Tryz.underlying5 Tryz.underlying3 (Bq _))<|an (fB rfl rfl (bG (by omega) (by omega)))<|an (aM rfl rfl (bG (by omega) (by omega)))<|an (aa rfl)<|an (aT rfl rfl Tryz.underlying27 ea hA_r (show((5:Nat):Int)=5 from rfl) (by omega))<|cr (fun m=>ay rfl iX ((m.rd 0 rfl).cell (bL (by omega))))<|an (bX rfl Tryz.underlying5 Tryz.underlying3 (Bq _))<|an (fB rfl rfl (bG (by omega) (by omega)))<|an (yV (aM rfl rfl (bG (by omega) (by omega))) ((show Value.int .i64 (((f.getD 2 0).toNat:Int)+256*((f.getD 3 0).toNat:Int)+65536*((f.getD 4 0).toNat:Int)+16777216*((f.getD 5 0).toNat:Int))= .int .i64 (kO (f.drop 2):Nat) by rw[hv];congr 1)))<|an (ab rfl)<|bD<|al (ρ' :=[(2,_),(17,_),(0,_)]) ⟨rfl,rfl,rfl,trivial⟩<|ag<|aX<| ?_
    exact bg trivial rfl rfl [] rfl [] rfl ⟨rfl,rfl,rfl⟩
theorem my{f u:List UInt8}{k:Nat}(h:vF f k=(u,0)):fX f k=if u.length≠k then([],2)else if gI (cZ u)≠f.drop (f.length-4)then([],7)else(u,0):=by
 unfold fX
 rw[h]
 exact if_neg (by simp)
theorem zV{f:List UInt8}{k:Nat}(h:(vF f k).2≠0):fX f k=([],2):=by
 unfold fX
 exact if_pos h
theorem EH{A:Option Addr}{n c:Nat}{f:List UInt8}{most:Int}(hc:n≤c)(hl:f.length=n)(hn:n≤10000000)(hm:most≤1000000):ck Tryz.prog 156 [.slice A n c,.int .i64 most] [] [dr 1 A n (aV f)] (fun v_ X_ S_=>∃A1 c1,v_=(.tuple #[.slice A1 (dh f most).1.length c1,.int .i64 (dh f most).2])∧X_=[]∧S_=[dr 1 A1 (dh f most).1.length (aV (dh f most).1)]∧((dh f most).1.length≤c1)):=by
 refine aP (N:=48) Tryz.func156 rfl rfl (by simp) fun b=> ?_
 refine aY (fun m=>gY (m.rd 0 rfl)) ?_
 rintro⟨hl_r,hA_r⟩
 refine ah<|aj<|hy (fun _=>ab rfl)<|hy (fun _=>ab rfl)<|ai<|ag<|ah<|aj<|hy (fun _=>aa rfl)<| ?_
 refine hx (aq rfl Tryz.call216 (Gs hl hn) [] rfl [0] rfl ?_)
 rintro _ _ _ ⟨rfl,rfl,rfl⟩
 refine hy (fun _=>ab rfl)<|ai<|al (ρ' :=[(6,_),(5,_),(4,_),(0,_),(1,_)]) ⟨rfl,rfl,rfl,rfl,rfl,trivial⟩<|ak (X' :=[]) (S' :=[_]) (fun _ m=>m)<|ag<|ah<|ah<|aj<|hy (fun _=>aa rfl)<|hy (fun _=>bq rfl rfl)<|ai<|al (ρ' :=[(12,_),(6,_),(5,_),(4,_),(0,_),(1,_)]) ⟨rfl,rfl,rfl,rfl,rfl,rfl,trivial⟩<|ag<| ?_
 rcases hL:gS f with _|k
 ·refine ia rfl ((decide_eq_true (by rw[ly hL];decide))) ?_
  rw[(pS hL)]
  refine ah<|aj<|hy (fun _=>ab rfl)<|hy (fun _=>ab rfl)<|ai<|ag<|aX<|aw<| ?_
  refine ak (fun w m=>m.qv (r' :=dr 1 none 0 []) (.refl _ _) (Rd.nil _ _ _) (fun k hk=>absurd rfl hk.1)) ?_
  have hA_z:0<0→(none:Option Addr)≠none:=fun h=>absurd h (by decide)
  exact dF trivial rfl rfl rfl [] rfl [0] rfl ⟨none,0,rfl,rfl,rfl,(Nat.le_refl _)⟩
 ·rw[rz hL]
  refine dB rfl ((decide_eq_false (by omega))) ?_
  refine aD<|ag<|ah<|ah<|aj<|hy (fun _=>aa rfl)<|hy (fun _=>aa rfl)<|hy (fun _=>da rfl rfl)<|ai<|al (ρ' :=[(15,_),(12,_),(6,_),(5,_),(4,_),(0,_),(1,_)]) ⟨rfl,rfl,rfl,rfl,rfl,rfl,rfl,trivial⟩<|ag<| ?_
  refine cD rfl (fun hfar=> ?_) (fun hfar=> ?_)
  ·rw[(rD hL (by omega))]
   refine ah<|aj<|hy (fun _=>ab rfl)<|hy (fun _=>ab rfl)<|ai<|ag<|aX<|aw<| ?_
   refine ak (fun w m=>m.qv (r' :=dr 1 none 0 []) (.refl _ _) (Rd.nil _ _ _) (fun k hk=>absurd rfl hk.1)) ?_
   have hA_z:0<0→(none:Option Addr)≠none:=fun h=>absurd h (by decide)
   exact dF trivial rfl rfl rfl [] rfl [0] rfl ⟨none,0,rfl,rfl,rfl,(Nat.le_refl _)⟩
  ·obtain⟨h10,hk32⟩:=tH hL
   have hopen:=tM hL (by omega)
   refine bx (fun w m=>m.iW 0 rfl (View.sub (n:=n) (c:=c) (k:=6) (m:=n-4-6) (by omega) (by omega))) ?_
   refine aY (fun m=>gY (m.rd 0 rfl)) ?_
   rintro⟨hl_p,hA_p⟩
   have hbl:n-4-6=(dG f).length:=by unfold dG;rw[List.length_take,List.length_drop];omega
   have hb2:(f.drop 6).take (n-4-6)=dG f:=by unfold dG;rw[show n-4-6=f.length-10 by omega]
   rw[hb2]
   refine aD<|ag<|ah<|aj<|hy (fun _=>aa rfl)<|hy (fun _=>aa rfl)<|hy (fun _=>aS rfl Tryz.underlying27)<|hy (fun _=>cn rfl rfl (bG (by omega) (by omega)))<|hy (fun _=>eS rfl rfl rfl Tryz.underlying27 ea (show((6:Nat):Int)=6 from rfl) (show((n-4:Nat):Int)=_ by omega) (by omega) (by omega))<|hy (fun _=>ab rfl)<|ai<|al (ρ' :=[(7,_),(15,_),(12,_),(6,_),(5,_),(4,_),(0,_),(1,_)]) ⟨rfl,rfl,rfl,rfl,rfl,rfl,rfl,rfl,trivial⟩<|ag<|ah<|ah<|aj<|hy (fun _=>aa rfl)<|hy (fun _=>aT rfl rfl Tryz.underlying27 ea hA_r (show((1:Nat):Int)=1 from rfl) (by omega))<|hy (fun m=>ay rfl iX ((m.rd 1 rfl).cell (bL (by omega))))<|hy (fun _=>cJ rfl rfl)<|ai<|al (ρ' :=[(24,_),(7,_),(15,_),(12,_),(6,_),(5,_),(4,_),(0,_),(1,_)]) ⟨rfl,rfl,rfl,rfl,rfl,rfl,rfl,rfl,rfl,trivial⟩<|ag<| ?_
   refine cD rfl (fun h1=> ?_) (fun h1=> ?_)
   ·have hf1:f.getD 1 0=1:=UInt8.toNat_inj.1 (by rw[show(1:UInt8).toNat=1 from rfl];omega)
    have hun:vF f k=j0 k (dG f) []:=if_pos hf1
    refine ah<|aj<|hy (fun _=>aa rfl)<|hy (fun _=>aa rfl)<| ?_
    refine hx (aq rfl Tryz.call217 (zU (show n-4-6≤c-6 by omega) (by omega) hbl.symm (show(k:Int)≤10000000 by omega) (l:=(dG f))) [] rfl [0] rfl ?_)
    rintro _ _ _ ⟨v,nn,rfl,rfl,rfl⟩
    refine aA (fun m=>(m.own 0 rfl).slice) ?_
    rintro⟨A_x,c_x,rfl,hc_x⟩
    refine aA (fun m=>(m.ord 0 rfl).2.1) fun hA_x=> ?_
    refine hx (aN oE (fun g8=> ?_))
    refine cL (aJ 0 rfl rfl rfl jE rfl j7 rfl ?_)
    refine ai<|al (ρ' :=[(8,_),(24,_),(7,_),(15,_),(12,_),(6,_),(5,_),(4,_),(0,_),(1,_)]) ⟨rfl,rfl,rfl,rfl,rfl,rfl,rfl,rfl,rfl,rfl,trivial⟩<|ak (X' :=[_,_]) (S' :=[_,_]) (fun _ m=>m)<|ag<|ah<|ah<|aj<|hy (fun _=>aK rfl Ck (by decide))<|hy (fun m=>ay rfl lP (aE (m.a6 0 rfl) (i:=2) rfl))<|hy (fun _=>db rfl rfl)<|ai<|al (ρ' :=[(30,_),(8,_),(24,_),(7,_),(15,_),(12,_),(6,_),(5,_),(4,_),(0,_),(1,_)]) ⟨rfl,rfl,rfl,rfl,rfl,rfl,rfl,rfl,rfl,rfl,rfl,trivial⟩<|ag<| ?_
    refine cD rfl (fun he=> ?_) (fun he=> ?_)
    ·have hz:dh f most=([],2):=by rw[hopen,zV (by rw[hun];exact he)]
     rw[hz]
     refine ah<|aj<|hy (fun _=>ab rfl)<|hy (fun _=>ab rfl)<|ai<|ag<|aX<|aw<|aw<| ?_
     refine ak (fun w m=>m.qv (r' :=dr 1 none 0 []) (.refl _ _) (Rd.nil _ _ _) (fun k hk=>absurd rfl hk.1)) ?_
     have hA_z:0<0→(none:Option Addr)≠none:=fun h=>absurd h (by decide)
     exact dF trivial rfl rfl rfl [] rfl [0] rfl ⟨none,0,rfl,rfl,rfl,(Nat.le_refl _)⟩
    ·have he:=Decidable.not_not.1 he
     have hun2:vF f k=((j0 k (dG f) []).1,0):=by rw[hun];exact Prod.ext rfl he
     refine bx (fun w m=>(m.perm (au [1] _ [_] _ rfl)).freeze) ?_
     refine bx (fun w m=>m.iW 0 rfl .own) ?_
     generalize(j0 k (dG f) []).1=u at hc_x hA_x hun2 ⊢
     refine aD<|ag<|aj<|hy (fun _=>aK rfl CA (by decide))<|hy (fun m=>ay rfl ek (aE (m.a6 0 rfl) (i:=0) rfl))<|hy (fun _=>ab rfl)<|ai<|al (ρ' :=[(7,_),(30,_),(8,_),(24,_),(15,_),(12,_),(6,_),(5,_),(4,_),(0,_),(1,_)]) ⟨rfl,rfl,rfl,rfl,rfl,rfl,rfl,rfl,rfl,rfl,rfl,trivial⟩<|ag<|ah<|ah<|aj<|hy (fun _=>aa rfl)<|hy (fun _=>aS rfl Tryz.underlying27)<|hy (fun _=>aa rfl)<|hy (fun _=>db rfl rfl)<|ai<|al (ρ' :=[(36,_),(7,_),(30,_),(8,_),(24,_),(15,_),(12,_),(6,_),(5,_),(4,_),(0,_),(1,_)]) ⟨rfl,rfl,rfl,rfl,rfl,rfl,rfl,rfl,rfl,rfl,rfl,rfl,trivial⟩<|ag<| ?_
     refine cD rfl (fun h36=> ?_) (fun h36=> ?_)
     ·have hz:dh f most=([],2):=by rw[hopen,my hun2];exact if_pos (by omega)
      rw[hz]
      refine ah<|aj<|hy (fun _=>ab rfl)<|hy (fun _=>ab rfl)<|ai<|ag<|aX<|aw<| ?_
      refine ak (fun w m=>m.qv (r' :=dr 1 none 0 []) (.refl _ _) (Rd.nil _ _ _) (fun k hk=>absurd rfl hk.1)) ?_
      have hA_z:0<0→(none:Option Addr)≠none:=fun h=>absurd h (by decide)
      exact dF trivial rfl rfl rfl [] rfl [0] rfl ⟨none,0,rfl,rfl,rfl,(Nat.le_refl _)⟩
     ·have hlu:(u).length=k:=by omega
      have hgo:dh f most=if gI (cZ u)≠f.drop (f.length-4)then([],7)else(u,0):=by rw[hopen,my hun2];exact if_neg (fun q=>q hlu)
      refine bx (fun w m=>m.iW 3 rfl (View.drop (n:=n) (c:=c) (k:=n-4) (by omega) (by omega))) ?_
      refine aY (fun m=>gY (m.rd 0 rfl)) ?_
      rintro⟨hl_e4,hA_e4⟩
      refine aD<|ag<|ah<|ah<|c5 [1,2] [(0,some 0),(3,some 2),(4,some 2),(5,some 2),(6,some 2),(7,some 2),(8,some 2),(1,none),(2,none),(9,some 2)] (by kernel_rfl) (by kernel_rfl) rfl 99<|an (aa rfl)<|an (aa rfl)<|an (aa rfl)<|an (aS rfl Tryz.underlying27)<|an (cn rfl rfl (bG (by omega) (by omega)))<|an (dM rfl rfl Tryz.underlying27 ea (show((n-4:Nat):Int)=_ by omega) (by omega))<|cr (fun m=>kB rfl Tryz.underlying27 Tryz.underlying5 Tryz.underlying9 (m.rd 0 rfl))<| ?_
      refine ew (aq rfl Tryz.call161 (vO hc_x (by omega) rfl (l:=u)) [] rfl [1] rfl ?_)
      rintro _ _ _ ⟨v2,rfl,rfl,rfl⟩
      refine⟨(fun _=>wk [1] [0,1,2,3,4] rfl rfl), ?_⟩
      refine cA (fun m=>(m.own 0 rfl).slice) ?_
      rintro⟨A_x2,c_x2,rfl,hc_x2⟩
      refine cA (fun m=>(m.ord 0 rfl).2.1) fun hA_x2=> ?_
      refine EN (fun _=>wk [1] [0,1,2,3,4] rfl rfl) (fun m=>kB rfl Tryz.underlying27 Tryz.underlying5 Tryz.underlying9 (m.ord 0 rfl))<|an (oy rfl rfl)<|bD<|al (ρ' :=[(46,_),(36,_),(7,_),(30,_),(8,_),(24,_),(15,_),(12,_),(6,_),(5,_),(4,_),(0,_),(1,_)]) ⟨rfl,rfl,rfl,rfl,rfl,rfl,rfl,rfl,rfl,rfl,rfl,rfl,rfl,trivial⟩<|ak (X' :=[_,_]) (S' :=[_,_,_,_,_]) (fun _ m=>m)<|ag<| ?_
      refine cD rfl (fun h46=> ?_) (fun h46=> ?_)
      ·have hz:dh f most=([],7):=by rw[hgo];exact if_pos (fun e=>h46 (by rw[e,hl]))
       rw[hz]
       refine ah<|aj<|hy (fun _=>ab rfl)<|hy (fun _=>ab rfl)<|ai<|ag<|aX<|aw<| ?_
       refine ak (fun w m=>m.qv (r' :=dr 1 none 0 []) (.refl _ _) (Rd.nil _ _ _) (fun k hk=>absurd rfl hk.1)) ?_
       have hA_z:0<0→(none:Option Addr)≠none:=fun h=>absurd h (by decide)
       exact dF trivial rfl rfl rfl [] rfl [0] rfl ⟨none,0,rfl,rfl,rfl,(Nat.le_refl _)⟩
      ·have h46:=cI.1 (Decidable.not_not.1 h46)
       have hz:dh f most=(u,0):=by rw[hgo];exact if_neg (fun q=>q (by rw[h46,hl]))
       rw[hz]
       refine aD<|ag<|ah<|aj<|hy (fun _=>aa rfl)<|hy (fun _=>ab rfl)<|hy (fun _=>ab rfl)<|ai<|al (ρ' :=[(5,_),(4,_),(46,_),(36,_),(7,_),(30,_),(8,_),(24,_),(15,_),(12,_),(6,_),(0,_),(1,_)]) ⟨rfl,rfl,rfl,rfl,rfl,rfl,rfl,rfl,rfl,rfl,rfl,rfl,rfl,trivial⟩<|ag<|aX<| ?_
       exact dF trivial rfl rfl rfl [] rfl [1] rfl ⟨_,_,rfl,rfl,rfl,hc_x⟩
   ·have hf1:¬f.getD 1 0=1:=fun q=>h1 (by rw[q];rfl)
    have hun:vF f k=(dG f,0):=if_neg hf1
    rw[hbl]
    refine aD<|ag<|ah<|ah<|aj<|hy (fun _=>aa rfl)<|hy (fun _=>aS rfl Tryz.underlying27)<|hy (fun _=>aa rfl)<|hy (fun _=>db rfl rfl)<|ai<|al (ρ' :=[(36,_),(24,_),(7,_),(15,_),(12,_),(6,_),(5,_),(4,_),(0,_),(1,_)]) ⟨rfl,rfl,rfl,rfl,rfl,rfl,rfl,rfl,rfl,rfl,trivial⟩<|ag<| ?_
    refine cD rfl (fun h36=> ?_) (fun h36=> ?_)
    ·have hz:dh f most=([],2):=by rw[hopen,my hun];exact if_pos (by omega)
     rw[hz]
     refine ah<|aj<|hy (fun _=>ab rfl)<|hy (fun _=>ab rfl)<|ai<|ag<|aX<|aw<| ?_
     refine ak (fun w m=>m.qv (r' :=dr 1 none 0 []) (.refl _ _) (Rd.nil _ _ _) (fun k hk=>absurd rfl hk.1)) ?_
     have hA_z:0<0→(none:Option Addr)≠none:=fun h=>absurd h (by decide)
     exact dF trivial rfl rfl rfl [] rfl [0] rfl ⟨none,0,rfl,rfl,rfl,(Nat.le_refl _)⟩
    ·have hlu:((dG f)).length=k:=by omega
     have hgo:dh f most=if gI (cZ (dG f))≠f.drop (f.length-4)then([],7)else((dG f),0):=by rw[hopen,my hun];exact if_neg (fun q=>q hlu)
     refine bx (fun w m=>m.iW 1 rfl (View.drop (n:=n) (c:=c) (k:=n-4) (by omega) (by omega))) ?_
     refine aY (fun m=>gY (m.rd 0 rfl)) ?_
     rintro⟨hl_e4,hA_e4⟩
     refine aD<|ag<|ah<|ah<|c5 [1,2] [(0,some 0),(3,some 2),(4,some 2),(5,some 2),(6,some 2),(7,some 2),(8,some 2),(1,none),(2,none),(9,some 2)] (by kernel_rfl) (by kernel_rfl) rfl 99<|an (aa rfl)<|an (aa rfl)<|an (aa rfl)<|an (aS rfl Tryz.underlying27)<|an (cn rfl rfl (bG (by omega) (by omega)))<|an (dM rfl rfl Tryz.underlying27 ea (show((n-4:Nat):Int)=_ by omega) (by omega))<|cr (fun m=>kB rfl Tryz.underlying27 Tryz.underlying5 Tryz.underlying9 (m.rd 0 rfl))<| ?_
     refine ew (aq rfl Tryz.call161 (vO (show(dG f).length≤c-6 by omega) (by omega) rfl (l:=(dG f))) [] rfl [1] rfl ?_)
     rintro _ _ _ ⟨v,rfl,rfl,rfl⟩
     refine⟨(fun _=>wk [] [0,1,2] rfl rfl), ?_⟩
     refine cA (fun m=>(m.own 0 rfl).slice) ?_
     rintro⟨A_x,c_x,rfl,hc_x⟩
     refine cA (fun m=>(m.ord 0 rfl).2.1) fun hA_x=> ?_
     refine EN (fun _=>wk [] [0,1,2] rfl rfl) (fun m=>kB rfl Tryz.underlying27 Tryz.underlying5 Tryz.underlying9 (m.ord 0 rfl))<|an (oy rfl rfl)<|bD<|al (ρ' :=[(46,_),(36,_),(24,_),(7,_),(15,_),(12,_),(6,_),(5,_),(4,_),(0,_),(1,_)]) ⟨rfl,rfl,rfl,rfl,rfl,rfl,rfl,rfl,rfl,rfl,rfl,trivial⟩<|ak (X' :=[_]) (S' :=[_,_,_]) (fun _ m=>m)<|ag<| ?_
     refine cD rfl (fun h46=> ?_) (fun h46=> ?_)
     ·have hz:dh f most=([],7):=by rw[hgo];exact if_pos (fun e=>h46 (by rw[e,hl]))
      rw[hz]
      refine ah<|aj<|hy (fun _=>ab rfl)<|hy (fun _=>ab rfl)<|ai<|ag<|aX<|aw<| ?_
      refine ak (fun w m=>m.qv (r' :=dr 1 none 0 []) (.refl _ _) (Rd.nil _ _ _) (fun k hk=>absurd rfl hk.1)) ?_
      have hA_z:0<0→(none:Option Addr)≠none:=fun h=>absurd h (by decide)
      exact dF trivial rfl rfl rfl [] rfl [0] rfl ⟨none,0,rfl,rfl,rfl,(Nat.le_refl _)⟩
     ·have h46:=cI.1 (Decidable.not_not.1 h46)
      have hz:dh f most=((dG f),0):=by rw[hgo];exact if_neg (fun q=>q (by rw[h46,hl]))
      rw[hz]
      refine aD<|ag<|ah<|aj<|hy (fun _=>aa rfl)<|hy (fun _=>ab rfl)<|hy (fun _=>ab rfl)<|ai<|al (ρ' :=[(5,_),(4,_),(46,_),(36,_),(24,_),(7,_),(15,_),(12,_),(6,_),(0,_),(1,_)]) ⟨rfl,rfl,rfl,rfl,rfl,rfl,rfl,rfl,rfl,rfl,rfl,trivial⟩<|ag<|aX<| ?_
      exact dF trivial rfl rfl rfl [] rfl [1] rfl ⟨_,_,rfl,rfl,rfl,(show(dG f).length≤c-6 by omega)⟩
end Go.Proofs.YtmibdabdlgmafaaGreatDoor
end
section
set_option maxRecDepth 20000
namespace Go.Proofs.YtmibdabdlgmafaaGreatDoor
open Go.Eng Go.Hx
theorem jr{x:UInt32}{n:Nat}(hn:n≤32):ck Tryz.prog 204 [Wd x,.int .i64 (n:Int)] [] [] (fun v_ X_ S_=>v_=(Wd (kT n x))∧X_=[]∧S_=[]):=by
 refine aP (N:=18) Tryz.func204 rfl rfl (by simp) fun b=> ?_
 refine ah<|aj<|hy (fun _=>ab rfl)<|ai<|ag<|ah<|ah<|aj<|hy (fun _=>ab rfl)<|ai<|ag<|aI<| ?_
 refine uZ (fun i y=>n-i) (fun i y=>[(0,Wd y),(5,.int .i64 (i:Nat))]) (fun i y=>[]) (fun i y=>[]) (fun i y=>i≤n∧y=kT i x) 0 x [(4,_),(1,_)] ⟨rfl,rfl,trivial⟩ [] rfl [] rfl (⟨Nat.zero_le _,(xS x).symm⟩) ⟨rfl,rfl,trivial⟩ (fun i y ⟨hin,hyv⟩=> ?_)
 refine ah<|ah<|aj<|hy (fun _=>aa rfl)<|hy (fun _=>aa rfl)<|hy (fun _=>bq rfl rfl)<|ai<|al (ρ' :=[(8,_),(0,_),(5,_),(4,_),(1,_)]) ⟨rfl,rfl,rfl,rfl,rfl,trivial⟩<|ag<| ?_
 refine cD rfl (fun h=> ?_) (fun h=> ?_)
 ·refine aD<|ag<|ah<|aI<|aj<|hy (fun _=>aa rfl)<|hy (fun _=>sQ (b:=2) (by decide) rfl rfl)<|hy (fun _=>aa rfl)<|hy (fun _=>zY (b:=2) (by decide) rfl rfl)<|hy (fun _=>s5 (b:=2147483648) rfl rfl)<|hy (fun _=>yV (dE rfl rfl) ((rfl:_=Wd (tQ y))))<|hy (fun _=>ab rfl)<|ai<|al (ρ' :=[(0,_),(8,_),(5,_),(4,_),(1,_)]) ⟨rfl,rfl,rfl,rfl,rfl,trivial⟩<|aQ<|ag<|aj<|hy (fun _=>aa rfl)<|hy (fun _=>aM rfl rfl (bG (by omega) (by omega)))<|hy (fun _=>ab rfl)<|ai<|al (ρ' :=[(5,_),(0,_),(8,_),(4,_),(1,_)]) ⟨rfl,rfl,rfl,rfl,rfl,trivial⟩<| ?_
  refine sw (i+1) (tQ y) ⟨rfl,rfl,rfl,rfl,trivial⟩ [] rfl [] rfl (⟨by omega,by rw[hyv,yf (by omega)]⟩) (by omega)
 ·obtain rfl:i=n:=by omega
  subst hyv
  refine bJ<|ao<|ao<|aB<|ag<|ah<|aj<|hy (fun _=>aa rfl)<|hy (fun _=>ab rfl)<|ai<|al (ρ' :=[(4,_),(8,_),(0,_),(5,_),(1,_)]) ⟨rfl,rfl,rfl,rfl,rfl,trivial⟩<|ag<|aX<| ?_
  exact bg trivial rfl rfl [] rfl [] rfl ⟨rfl,rfl,rfl⟩
theorem EE{A:Option Addr}{n c:Nat}{l:List UInt8}{i:Nat}(hi:i+4≤n)(hn:n≤1000000000000):ck Tryz.prog 203 [.slice A n c,.int .i64 (i:Int)] [] [dr 1 A n (aV l)] (fun v_ X_ S_=>v_=(Wd (k8 l i))∧X_=[]∧S_=[]):=by
 refine aP (N:=34) Tryz.func203 rfl rfl (by simp) fun b=> ?_
 refine aY (fun m=>gY (m.rd 0 rfl)) ?_
 rintro⟨hl_r,hA_r⟩
 have hl:l.length=n:=hl_r
 refine ah<|aj<|hy (fun _=>ab rfl)<|ai<|ag<|ah<|c5 [] [(0,some 0),(1,some 0),(2,some 0),(3,some 0),(4,some 0),(5,some 0),(6,some 0),(7,some 0),(8,some 0),(9,some 0),(10,some 0),(11,some 0),(12,some 0),(13,some 0),(14,some 0),(15,some 0),(16,some 0),(17,some 0),(18,some 0),(19,some 0),(20,some 0),(21,some 0),(22,some 0),(23,some 0),(24,some 0),(25,some 0),(26,some 0),(27,some 0),(28,some 0),(29,some 0)] (by kernel_rfl) (by kernel_rfl) rfl 99<|an (aa rfl)<|an (aa rfl)<|an (aT rfl rfl Tryz.underlying27 ea hA_r rfl (by omega))<|cr (fun m=>ay rfl iX ((m.rd 0 rfl).cell (bL (by omega))))<|an (za rfl Tryz.underlying5 Tryz.underlying166)<|an (s5 (b:=16777216) rfl rfl)<|an (aa rfl)<|an (aa rfl)<|an (aM rfl rfl (bG (by omega) (by omega)))<|an (aT rfl rfl Tryz.underlying27 ea hA_r (show((i+1:Nat):Int)=_ by omega) (by omega))<|cr (fun m=>ay rfl iX ((m.rd 0 rfl).cell (bL (by omega))))<|an (za rfl Tryz.underlying5 Tryz.underlying166)<|an (s5 (b:=65536) rfl rfl)<|an (dE rfl rfl)<|an (aa rfl)<|an (aa rfl)<|an (aM rfl rfl (bG (by omega) (by omega)))<|an (aT rfl rfl Tryz.underlying27 ea hA_r (show((i+2:Nat):Int)=_ by omega) (by omega))<|cr (fun m=>ay rfl iX ((m.rd 0 rfl).cell (bL (by omega))))<|an (za rfl Tryz.underlying5 Tryz.underlying166)<|an (s5 (b:=256) rfl rfl)<|an (dE rfl rfl)<|an (aa rfl)<|an (aa rfl)<|an (aM rfl rfl (bG (by omega) (by omega)))<|an (aT rfl rfl Tryz.underlying27 ea hA_r (show((i+3:Nat):Int)=_ by omega) (by omega))<|cr (fun m=>ay rfl iX ((m.rd 0 rfl).cell (bL (by omega))))<|an (za rfl Tryz.underlying5 Tryz.underlying166)<|an (yV (dE rfl rfl) ((show Wd ((l.getD i 0).toUInt32*16777216+(l.getD (i+1) 0).toUInt32*65536+(l.getD (i+2) 0).toUInt32*256+(l.getD (i+3) 0).toUInt32)=Wd (k8 l i) by rw[xI])))<|an (ab rfl)<|bD<|al (ρ' :=[(4,_),(0,_),(1,_)]) ⟨rfl,rfl,rfl,trivial⟩<|ag<|aX<| ?_
 exact bg trivial rfl rfl [] rfl [] rfl ⟨rfl,rfl,rfl⟩
theorem C7:ck Tryz.prog 202 [] [] [] (fun v_ X_ S_=>∃v,v_=v∧X_=[aG 166 1 v 64 (ei fM)]∧S_=[]):=by
 refine aP (N:=2) Tryz.func202 rfl rfl (by simp) fun b=> ?_
 refine ah<|aj<|hy (fun _=>ab rfl)<|ai<|ag<|ah<|aj<| ?_
 refine hx (b5 Tryz.underlying215 oI rfl rfl rfl (by decide) (by decide) (by decide) (fun g1=> ?_))
 have hA_b1:0<64→(some (⟨g1,0,none⟩:Addr))≠none:=fun _ h=>by cases h
 refine hy (fun _=>ab rfl)<|ai<|al (ρ' :=[(0,_)]) ⟨rfl,trivial⟩<|ak (X' :=[_]) (S' :=[]) (fun _ m=>m)<|ag<|aX<| ?_
 refine ak (fun w m=>m.bQ 0 rfl (show _=aG 166 1 (.slice (some ⟨g1,0,none⟩) 64 64) 64 (ei fM)from rfl)) ?_
 exact bg trivial rfl rfl [0] rfl [] rfl ⟨_,rfl,rfl,rfl⟩
theorem Cn{H:Option Addr}{hc:Nat}{A:Option Addr}{c:Nat}{l:List UInt8}{h:List UInt32}(hcc:64≤c)(hh:h.length=8):ck Tryz.prog 142 [.slice H 8 hc,.slice A 64 c] [] [dr 1 H 8 (ei h),dr 1 A 64 (aV l)] (fun v_ X_ S_=>∃u,v_=u∧X_=[aG 166 1 u 8 (ei (eC h l))]∧S_=[]):=by
 refine aP (N:=230) Tryz.func142 rfl rfl (by simp) fun b=> ?_
 refine aY (fun m=>gE (m.rd 0 rfl)) ?_
 rintro⟨hl_q,hA_q⟩
 refine aY (fun m=>gY (m.rd 1 rfl)) ?_
 rintro⟨hl_r,hA_r⟩
 have hl:l.length=64:=hl_r
 refine ah<|aj<|hy (fun _=>ab rfl)<|ai<|ag<|ah<|aj<| ?_
 refine hx (aq rfl Tryz.call202 (C7) [] rfl [] rfl ?_)
 rintro _ _ _ ⟨v,rfl,rfl,rfl⟩
 refine aA (fun m=>(m.own 0 rfl).slice) ?_
 rintro⟨A_x,c_x,rfl,hc_x⟩
 refine aA (fun m=>(m.ord 0 rfl).2.1) fun hA_x=> ?_
 refine hy (fun _=>ab rfl)<|ai<|al (ρ' :=[(5,_),(4,_),(0,_),(1,_)]) ⟨rfl,rfl,rfl,rfl,trivial⟩<|ak (X' :=[_]) (S' :=[_,_]) (fun _ m=>m)<|ag<|ah<|aj<|hy (fun _=>ab rfl)<|ai<|ag<|ah<|ah<|aj<|hy (fun _=>ab rfl)<|ai<|ag<|aI<| ?_
 refine bx (fun w m=>m.dm (r' :=aG 166 1 (.slice none 0 0) 0 []) (.refl _ _) (Own.nil _ _ _ _) (fun k hk=>hk.elim)) ?_
 refine bx (fun w m=>m.bQ 0 rfl (show _=aG 166 1 (.slice none 0 0) 0 (ei (wl l 0))from rfl)) ?_
 refine fH (fun i A1 c1=>16-i) (fun i A1 c1=>[(6,.slice A1 i c1),(7,.int .i64 (i:Nat))]) (fun i A1 c1=>[aG 166 1 (.slice A1 i c1) i (ei (wl l i))]) (fun i A1 c1=>[]) (fun i A1 c1=>i≤16) 0 none 0 [(5,_),(4,_),(0,_),(1,_)] ⟨rfl,rfl,rfl,rfl,trivial⟩ [0] rfl [] rfl (Nat.zero_le _) ⟨rfl,rfl,trivial⟩ (fun i A1 c1 hI=> ?_)
 refine ah<|ah<|aj<|hy (fun _=>aa rfl)<|hy (fun _=>bq rfl rfl)<|ai<|al (ρ' :=[(21,_),(6,_),(7,_),(5,_),(4,_),(0,_),(1,_)]) ⟨rfl,rfl,rfl,rfl,rfl,rfl,rfl,trivial⟩<|ag<| ?_
 refine cD rfl (fun hlt=> ?_) (fun hlt=> ?_)
 ·have hws:wl l (i+1)=wl l i++[k8 l (4*i)]:=by rw[wl,if_pos (by omega)]
  refine aD<|ag<|ah<|aI<|aj<|hy (fun _=>aa rfl)<|hy (fun _=>aa rfl)<|hy (fun _=>aa rfl)<|hy (fun _=>fB rfl rfl (bG (by omega) (by omega)))<| ?_
  rw[show(4:Int)*(i:Int)=((4*i:Nat):Int) by omega]
  refine hx (aq rfl Tryz.call203 (EE (by omega) (by omega) (i:=4*i)) [] rfl [1] rfl ?_)
  rintro _ _ _ ⟨rfl,rfl,rfl⟩
  refine hx (b5 Tryz.underlying215 oI rfl rfl rfl (by simp[Value.cells,B8]) (by decide) (by decide) (fun g29=> ?_))
  have hA_b29:0<1→(some (⟨g29,0,none⟩:Addr))≠none:=fun _ h=>by cases h
  refine aO (fun w m=>m.bQ 0 rfl (show _=aG 166 1 (.slice (some ⟨g29,0,none⟩) 1 1) 1 (ei [k8 l (4*i)])from rfl)) ?_
  refine hx (bu 1 rfl rfl rfl Tryz.underlying215 Tryz.underlying215 (by exact .inl rfl) oI rfl (fun m=>Src.bP (m.ord 0 rfl)) hC (by unfold maxLen;omega) (by omega) (fun u=> ?_))
  refine aA (fun m=>(m.own 0 rfl).slice) ?_
  rintro⟨A_o,c_o,rfl,hc_o⟩
  refine aA (fun m=>(m.ord 0 rfl).2.1) fun hA_o=> ?_
  refine aO (fun w m=>m.bQ 0 rfl (show _=aG 166 1 (.slice A_o (i+1) c_o) (i+1) (ei (wl l (i+1)))from by rw[hws,qB])) ?_
  refine hy (fun _=>ab rfl)<|ai<|al (ρ' :=[(6,_),(21,_),(7,_),(5,_),(4,_),(0,_),(1,_)]) ⟨rfl,rfl,rfl,rfl,rfl,rfl,rfl,trivial⟩<|ak (X' :=[_,_,_]) (S' :=[_,_]) (fun _ m=>m)<|aQ<|ag<|aj<|hy (fun _=>aa rfl)<|hy (fun _=>aM rfl rfl (bG (by omega) (by omega)))<|hy (fun _=>ab rfl)<|ai<|al (ρ' :=[(7,_),(6,_),(21,_),(5,_),(4,_),(0,_),(1,_)]) ⟨rfl,rfl,rfl,rfl,rfl,rfl,rfl,trivial⟩<| ?_
  refine fx (i+1) A_o c_o ⟨rfl,rfl,rfl,rfl,rfl,rfl,trivial⟩ [0,1] rfl [0,1] rfl (by omega) (by omega)
 ·obtain rfl:i=16:=by omega
  refine bJ<|ao<|ao<|aB<|ag<|ah<|ah<|aj<|hy (fun _=>ab rfl)<|ai<|ag<|aI<| ?_
  refine fH (fun i A1 c1=>64-i) (fun i A1 c1=>[(6,.slice A1 i c1),(8,.int .i64 (i:Nat))]) (fun i A1 c1=>[aG 166 1 (.slice A1 i c1) i (ei (wl l i))]) (fun i A1 c1=>[]) (fun i A1 c1=>16≤i∧i≤64) 16 A1 c1 [(21,_),(7,_),(5,_),(4,_),(0,_),(1,_)] ⟨rfl,rfl,rfl,rfl,rfl,rfl,trivial⟩ [0] rfl [] rfl (⟨Nat.le_refl _,by decide⟩) ⟨rfl,rfl,trivial⟩ (fun i A1 c1 ⟨hi16,hi64⟩=> ?_)
  have hwl:=fD l i
  refine aY (fun m=>(m.ord 0 rfl).2.1) fun hA_o=> ?_
  refine ah<|ah<|aj<|hy (fun _=>aa rfl)<|hy (fun _=>bq rfl rfl)<|ai<|al (ρ' :=[(32,_),(6,_),(8,_),(21,_),(7,_),(5,_),(4,_),(0,_),(1,_)]) ⟨rfl,rfl,rfl,rfl,rfl,rfl,rfl,rfl,rfl,trivial⟩<|ag<| ?_
  refine cD rfl (fun hlt=> ?_) (fun hlt=> ?_)
  ·have hws:wl l (i+1)=wl l i++[ny (wl l i) i]:=by rw[wl,if_neg (by omega)]
   refine aD<|ag<|ah<|aI<|ah<|c5 [5,11] [(0,some 0),(1,some 2),(2,some 0),(3,some 0),(4,some 0),(6,some 1),(7,some 1),(8,some 1),(9,some 1),(10,some 1),(13,some 2),(14,some 2),(15,some 2),(16,some 2),(17,some 2),(18,some 2),(5,none),(11,none),(12,some 2),(19,some 2),(20,some 2)] (by kernel_rfl) (by kernel_rfl) rfl 99<|an (aa rfl)<|an (aa rfl)<|an (cn rfl rfl (bG (by omega) (by omega)))<|an (aT rfl rfl Tryz.underlying215 bR hA_o (show((i-15:Nat):Int)=_ by omega) (by omega))<|cr (fun m=>ay rfl bZ ((m.ord 0 rfl).cell (j:=i-15) (bo (by omega))))<|an (aa rfl)<|an (aa rfl)<|an (cn rfl rfl (bG (by omega) (by omega)))<|an (aT rfl rfl Tryz.underlying215 bR hA_o (show((i-15:Nat):Int)=_ by omega) (by omega))<|cr (fun m=>ay rfl bZ ((m.ord 0 rfl).cell (j:=i-15) (bo (by omega))))<|an (aa rfl)<|an (aa rfl)<|an (cn rfl rfl (bG (by omega) (by omega)))<|an (aT rfl rfl Tryz.underlying215 bR hA_o (show((i-15:Nat):Int)=_ by omega) (by omega))<|cr (fun m=>ay rfl bZ ((m.ord 0 rfl).cell (j:=i-15) (bo (by omega))))<|an (sQ (b:=8) (by decide) rfl rfl)<| ?_
   refine ew (aq rfl Tryz.call204 (jr (by omega) (n:=7)) [] rfl [] rfl ?_)
   rintro _ _ _ ⟨rfl,rfl,rfl⟩
   refine⟨(fun _=>wk [0,0] [0,1] rfl rfl), ?_⟩
   refine ew (aq rfl Tryz.call204 (jr (by omega) (n:=18)) [] rfl [] rfl ?_)
   rintro _ _ _ ⟨rfl,rfl,rfl⟩
   refine⟨(fun _=>wk [0,0] [0,1] rfl rfl), ?_⟩
   refine an (er rfl rfl)<|an (er rfl rfl)<|an (ab rfl)<|bD<|al (ρ' :=[(9,_),(32,_),(6,_),(8,_),(21,_),(7,_),(5,_),(4,_),(0,_),(1,_)]) ⟨rfl,rfl,rfl,rfl,rfl,rfl,rfl,rfl,rfl,rfl,trivial⟩<|ak (X' :=[_,_]) (S' :=[_,_]) (fun _ m=>m)<|ag<|ah<|c5 [5,11] [(0,some 0),(1,some 2),(2,some 0),(3,some 0),(4,some 0),(6,some 1),(7,some 1),(8,some 1),(9,some 1),(10,some 1),(13,some 2),(14,some 2),(15,some 2),(16,some 2),(17,some 2),(18,some 2),(5,none),(11,none),(12,some 2),(19,some 2),(20,some 2)] (by kernel_rfl) (by kernel_rfl) rfl 99<|an (aa rfl)<|an (aa rfl)<|an (cn rfl rfl (bG (by omega) (by omega)))<|an (aT rfl rfl Tryz.underlying215 bR hA_o (show((i-2:Nat):Int)=_ by omega) (by omega))<|cr (fun m=>ay rfl bZ ((m.ord 0 rfl).cell (j:=i-2) (bo (by omega))))<|an (aa rfl)<|an (aa rfl)<|an (cn rfl rfl (bG (by omega) (by omega)))<|an (aT rfl rfl Tryz.underlying215 bR hA_o (show((i-2:Nat):Int)=_ by omega) (by omega))<|cr (fun m=>ay rfl bZ ((m.ord 0 rfl).cell (j:=i-2) (bo (by omega))))<|an (aa rfl)<|an (aa rfl)<|an (cn rfl rfl (bG (by omega) (by omega)))<|an (aT rfl rfl Tryz.underlying215 bR hA_o (show((i-2:Nat):Int)=_ by omega) (by omega))<|cr (fun m=>ay rfl bZ ((m.ord 0 rfl).cell (j:=i-2) (bo (by omega))))<|an (sQ (b:=1024) (by decide) rfl rfl)<| ?_
   refine ew (aq rfl Tryz.call204 (jr (by omega) (n:=17)) [] rfl [] rfl ?_)
   rintro _ _ _ ⟨rfl,rfl,rfl⟩
   refine⟨(fun _=>wk [0,0] [0,1] rfl rfl), ?_⟩
   refine ew (aq rfl Tryz.call204 (jr (by omega) (n:=19)) [] rfl [] rfl ?_)
   rintro _ _ _ ⟨rfl,rfl,rfl⟩
   refine⟨(fun _=>wk [0,0] [0,1] rfl rfl), ?_⟩
   refine an (er rfl rfl)<|an (er rfl rfl)<|an (ab rfl)<|bD<|al (ρ' :=[(10,_),(9,_),(32,_),(6,_),(8,_),(21,_),(7,_),(5,_),(4,_),(0,_),(1,_)]) ⟨rfl,rfl,rfl,rfl,rfl,rfl,rfl,rfl,rfl,rfl,rfl,trivial⟩<|ak (X' :=[_,_]) (S' :=[_,_]) (fun _ m=>m)<|ag<|c5 [5,16,17] [(0,some 2),(1,some 3),(2,some 3),(3,some 3),(4,some 3),(6,some 3),(8,some 3),(9,some 3),(10,some 3),(11,some 3),(12,some 1),(14,some 1),(5,none),(7,some 1),(13,some 1),(15,some 1),(16,none),(17,none),(18,some 3)] (by kernel_rfl) (by kernel_rfl) rfl 2<|an (aa rfl)<|an (aa rfl)<|an (aa rfl)<|an (cn rfl rfl (bG (by omega) (by omega)))<|an (aT rfl rfl Tryz.underlying215 bR hA_o (show((i-16:Nat):Int)=_ by omega) (by omega))<|an (aa rfl)<|an (aa rfl)<|an (aa rfl)<|an (cn rfl rfl (bG (by omega) (by omega)))<|an (aT rfl rfl Tryz.underlying215 bR hA_o (show((i-7:Nat):Int)=_ by omega) (by omega))<|cr (fun m=>ay rfl bZ ((m.ord 0 rfl).cell (j:=i-7) (bo (by omega))))<|an (aa rfl)<|EN (fun _=>wk [0,0] [0,1] rfl rfl) (fun m=>ay rfl bZ ((m.ord 0 rfl).cell (j:=i-16) (bo (by omega))))<|an (dE rfl rfl)<|an (dE rfl rfl)<|an (yV (dE rfl rfl) ((rfl:_=Wd (ny (wl l i) i))))<| ?_
   refine ew (b5 Tryz.underlying215 oI rfl rfl rfl (by exact tb (l:=[_])) (by decide) (by decide) (fun g91=>⟨(fun _=>wk [1,1] [0,1] rfl rfl), ?_⟩))
   have hA_b91:0<1→(some (⟨g91,0,none⟩:Addr))≠none:=fun _ h=>by cases h
   refine gP (fun w m=>m.bQ 0 rfl (show _=aG 166 1 (.slice (some ⟨g91,0,none⟩) 1 1) 1 (ei [ny (wl l i) i])from rfl)) ?_
   refine ew (bu 1 rfl rfl rfl Tryz.underlying215 Tryz.underlying215 (by exact .inl rfl) oI rfl (fun m=>Src.bP (m.ord 0 rfl)) hC (by unfold maxLen;omega) (by omega) (fun u=>⟨(fun h=>absurd h (by decide)), ?_⟩))
   refine cA (fun m=>(m.own 0 rfl).slice) ?_
   rintro⟨A_o,c_o,rfl,hc_o⟩
   refine cA (fun m=>(m.ord 0 rfl).2.1) fun hA_o=> ?_
   refine gP (fun w m=>m.bQ 0 rfl (show _=aG 166 1 (.slice A_o (i+1) c_o) (i+1) (ei (wl l (i+1)))from by rw[hws,qB])) ?_
   refine an (ab rfl)<|bD<|al (ρ' :=[(6,_),(10,_),(9,_),(32,_),(8,_),(21,_),(7,_),(5,_),(4,_),(0,_),(1,_)]) ⟨rfl,rfl,rfl,rfl,rfl,rfl,rfl,rfl,rfl,rfl,rfl,trivial⟩<|ak (X' :=[_,_,_]) (S' :=[_,_]) (fun _ m=>m)<|aQ<|ag<|aj<|hy (fun _=>aa rfl)<|hy (fun _=>aM rfl rfl (bG (by omega) (by omega)))<|hy (fun _=>ab rfl)<|ai<|al (ρ' :=[(8,_),(6,_),(10,_),(9,_),(32,_),(21,_),(7,_),(5,_),(4,_),(0,_),(1,_)]) ⟨rfl,rfl,rfl,rfl,rfl,rfl,rfl,rfl,rfl,rfl,rfl,trivial⟩<| ?_
   refine fx (i+1) A_o c_o ⟨rfl,rfl,rfl,rfl,rfl,rfl,rfl,rfl,trivial⟩ [0,1] rfl [0,1] rfl (⟨by omega,by omega⟩) (by omega)
  ·obtain rfl:i=64:=by omega
   obtain⟨W,hW⟩:∃W,wl l 64=W:=⟨_,rfl⟩
   have hw64:W.length=64:=by rw[←hW];exact fD l 64
   rw[hW]
   refine bJ<|ao<|ao<|aB<|ag<|ah<|aj<|hy (fun _=>ab rfl)<|ai<|ag<|ah<|aj<|hy (fun _=>aa rfl)<|hy (fun _=>aa rfl)<| ?_
   refine aO (fun w m=>m.dm (r' :=aG 166 1 (.slice none 0 0) 0 []) (.refl _ _) (Own.nil _ _ _ _) (fun k hk=>hk.elim)) ?_
   refine hx (bu 0 rfl rfl rfl Tryz.underlying215 Tryz.underlying215 (by exact .inl rfl) oI rfl (fun m=>Src.bP (m.rd 0 rfl)) hC (by unfold maxLen;omega) (by omega) (fun u=> ?_))
   refine aA (fun m=>(m.own 0 rfl).slice) ?_
   rintro⟨A_v,c_v,rfl,hc_v⟩
   refine aA (fun m=>(m.ord 0 rfl).2.1) fun hA_v=> ?_
   refine aO (fun w m=>m.bQ 0 rfl (show _=aG 166 1 (.slice A_v 8 c_v) 8 (ei (kM W h 0))from rfl)) ?_
   refine hy (fun _=>ab rfl)<|ai<|al (ρ' :=[(11,_),(32,_),(6,_),(8,_),(21,_),(7,_),(5,_),(4,_),(0,_),(1,_)]) ⟨rfl,rfl,rfl,rfl,rfl,rfl,rfl,rfl,rfl,rfl,trivial⟩<|ak (X' :=[_,_,_]) (S' :=[_,_]) (fun _ m=>m)<|ag<|ah<|ah<|aj<|hy (fun _=>ab rfl)<|ai<|ag<|aI<| ?_
   refine fH (fun i A2 c2=>64-i) (fun i A2 c2=>[(11,.slice A2 8 c2),(12,.int .i64 (i:Nat))]) (fun i A2 c2=>[aG 166 1 (.slice A2 8 c2) 8 (ei (kM W h i))]) (fun i A2 c2=>[]) (fun i A2 c2=>i≤64) 0 A_v c_v [(32,_),(6,_),(8,_),(21,_),(7,_),(5,_),(4,_),(0,_),(1,_)] ⟨rfl,rfl,rfl,rfl,rfl,rfl,rfl,rfl,rfl,trivial⟩ [0] rfl [] rfl (Nat.zero_le _) ⟨rfl,rfl,trivial⟩ (fun i A2 c2 hi64=> ?_)
   have hv:=kY (w:=W) hh i
   have hro:fM.length=64:=rfl
   refine aY (fun m=>(m.ord 0 rfl).2.1) fun hA_v=> ?_
   refine aY (fun m=>(m.ord 2 rfl).2.1) fun hA_x=> ?_
   refine aY (fun m=>(m.ord 1 rfl).2.1) fun hA_o=> ?_
   refine ah<|ah<|aj<|hy (fun _=>aa rfl)<|hy (fun _=>bq rfl rfl)<|ai<|al (ρ' :=[(97,_),(11,_),(12,_),(32,_),(6,_),(8,_),(21,_),(7,_),(5,_),(4,_),(0,_),(1,_)]) ⟨rfl,rfl,rfl,rfl,rfl,rfl,rfl,rfl,rfl,rfl,rfl,rfl,trivial⟩<|ag<| ?_
   refine cD rfl (fun hlt=> ?_) (fun hlt=> ?_)
   ·generalize hvd:kM W h i=v at hv ⊢
    refine aD<|ag<|ah<|aI<|ah<|c5 [3,7,12] [(0,some 3),(1,some 0),(2,some 0),(4,some 1),(5,some 1),(6,some 1),(9,some 2),(10,some 2),(11,some 2),(3,none),(7,none),(8,some 3),(12,none),(13,some 3),(14,some 3)] (by kernel_rfl) (by kernel_rfl) rfl 99<|an (aa rfl)<|an (aT rfl rfl Tryz.underlying215 bR hA_v (show((4:Nat):Int)=4 from rfl) (by omega))<|cr (fun m=>ay rfl bZ ((m.ord 0 rfl).cell (j:=4) (bo (by omega))))<|an (aa rfl)<|an (aT rfl rfl Tryz.underlying215 bR hA_v (show((4:Nat):Int)=4 from rfl) (by omega))<|cr (fun m=>ay rfl bZ ((m.ord 0 rfl).cell (j:=4) (bo (by omega))))<|an (aa rfl)<|an (aT rfl rfl Tryz.underlying215 bR hA_v (show((4:Nat):Int)=4 from rfl) (by omega))<|cr (fun m=>ay rfl bZ ((m.ord 0 rfl).cell (j:=4) (bo (by omega))))<| ?_
    refine ew (aq rfl Tryz.call204 (jr (by omega) (n:=6)) [] rfl [] rfl ?_)
    rintro _ _ _ ⟨rfl,rfl,rfl⟩
    refine⟨(fun _=>wk [0,0,0] [0,1] rfl rfl), ?_⟩
    refine ew (aq rfl Tryz.call204 (jr (by omega) (n:=11)) [] rfl [] rfl ?_)
    rintro _ _ _ ⟨rfl,rfl,rfl⟩
    refine⟨(fun _=>wk [0,0,0] [0,1] rfl rfl), ?_⟩
    refine an (er rfl rfl)<| ?_
    refine ew (aq rfl Tryz.call204 (jr (by omega) (n:=25)) [] rfl [] rfl ?_)
    rintro _ _ _ ⟨rfl,rfl,rfl⟩
    refine⟨(fun _=>wk [0,0,0] [0,1] rfl rfl), ?_⟩
    refine an (yV (er rfl rfl) ((rfl:_=Wd (turns 6 11 25 (v_ v 4)))))<|an (ab rfl)<|bD<|al (ρ' :=[(13,_),(97,_),(11,_),(12,_),(32,_),(6,_),(8,_),(21,_),(7,_),(5,_),(4,_),(0,_),(1,_)]) ⟨rfl,rfl,rfl,rfl,rfl,rfl,rfl,rfl,rfl,rfl,rfl,rfl,rfl,trivial⟩<|ak (X' :=[_,_,_]) (S' :=[_,_]) (fun _ m=>m)<|ag<|ah<|c5 [] [(0,some 0),(1,some 0),(2,some 0),(3,some 0),(4,some 0),(5,some 0),(6,some 0),(7,some 0),(8,some 0),(9,some 0),(10,some 0),(11,some 0),(12,some 0),(13,some 0),(14,some 0),(15,some 0),(16,some 0)] (by kernel_rfl) (by kernel_rfl) rfl 99<|an (aa rfl)<|an (aT rfl rfl Tryz.underlying215 bR hA_v (show((4:Nat):Int)=4 from rfl) (by omega))<|cr (fun m=>ay rfl bZ ((m.ord 0 rfl).cell (j:=4) (bo (by omega))))<|an (aa rfl)<|an (aT rfl rfl Tryz.underlying215 bR hA_v (show((5:Nat):Int)=5 from rfl) (by omega))<|cr (fun m=>ay rfl bZ ((m.ord 0 rfl).cell (j:=5) (bo (by omega))))<|an (jz rfl rfl)<|an (aa rfl)<|an (aT rfl rfl Tryz.underlying215 bR hA_v (show((4:Nat):Int)=4 from rfl) (by omega))<|cr (fun m=>ay rfl bZ ((m.ord 0 rfl).cell (j:=4) (bo (by omega))))<|an (BG rfl rfl)<|an (aa rfl)<|an (aT rfl rfl Tryz.underlying215 bR hA_v (show((6:Nat):Int)=6 from rfl) (by omega))<|cr (fun m=>ay rfl bZ ((m.ord 0 rfl).cell (j:=6) (bo (by omega))))<|an (jz rfl rfl)<|an (er rfl rfl)<|an (ab rfl)<|bD<|al (ρ' :=[(14,_),(13,_),(97,_),(11,_),(12,_),(32,_),(6,_),(8,_),(21,_),(7,_),(5,_),(4,_),(0,_),(1,_)]) ⟨rfl,rfl,rfl,rfl,rfl,rfl,rfl,rfl,rfl,rfl,rfl,rfl,rfl,rfl,trivial⟩<|ag<|ah<|c5 [] [(0,some 0),(1,some 0),(2,some 0),(3,some 0),(4,some 0),(5,some 0),(6,some 0),(7,some 0),(8,some 0),(9,some 0),(10,some 0),(11,some 0),(12,some 0),(13,some 0),(14,some 0),(15,some 0),(16,some 0),(17,some 0)] (by kernel_rfl) (by kernel_rfl) rfl 99<|an (aa rfl)<|an (aT rfl rfl Tryz.underlying215 bR hA_v (show((7:Nat):Int)=7 from rfl) (by omega))<|cr (fun m=>ay rfl bZ ((m.ord 0 rfl).cell (j:=7) (bo (by omega))))<|an (aa rfl)<|an (dE rfl rfl)<|an (aa rfl)<|an (dE rfl rfl)<|an (aa rfl)<|an (aa rfl)<|an (aT rfl rfl Tryz.underlying215 bR hA_x rfl (by omega))<|cr (fun m=>ay rfl bZ ((m.ord 2 rfl).cell (j:=i) (bo (by omega))))<| ?_
    generalize hk:fM.getD i 0=k
    refine an (dE rfl rfl)<|an (aa rfl)<|an (aa rfl)<|an (aT rfl rfl Tryz.underlying215 bR hA_o rfl (by omega))<|cr (fun m=>ay rfl bZ ((m.ord 1 rfl).cell (j:=i) (bo (by omega))))<|an (yV (dE rfl rfl) ((rfl:_=Wd (rt v k (W.getD i 0)))))<|an (ab rfl)<|bD<|al (ρ' :=[(15,_),(14,_),(13,_),(97,_),(11,_),(12,_),(32,_),(6,_),(8,_),(21,_),(7,_),(5,_),(4,_),(0,_),(1,_)]) ⟨rfl,rfl,rfl,rfl,rfl,rfl,rfl,rfl,rfl,rfl,rfl,rfl,rfl,rfl,rfl,trivial⟩<|ag<|ah<|c5 [3,7,12] [(0,some 3),(1,some 0),(2,some 0),(4,some 1),(5,some 1),(6,some 1),(9,some 2),(10,some 2),(11,some 2),(3,none),(7,none),(8,some 3),(12,none),(13,some 3),(14,some 3)] (by kernel_rfl) (by kernel_rfl) rfl 99<|an (aa rfl)<|an (aT rfl rfl Tryz.underlying215 bR hA_v (show((0:Nat):Int)=0 from rfl) (by omega))<|cr (fun m=>ay rfl bZ ((m.ord 0 rfl).cell (j:=0) (bo (by omega))))<|an (aa rfl)<|an (aT rfl rfl Tryz.underlying215 bR hA_v (show((0:Nat):Int)=0 from rfl) (by omega))<|cr (fun m=>ay rfl bZ ((m.ord 0 rfl).cell (j:=0) (bo (by omega))))<|an (aa rfl)<|an (aT rfl rfl Tryz.underlying215 bR hA_v (show((0:Nat):Int)=0 from rfl) (by omega))<|cr (fun m=>ay rfl bZ ((m.ord 0 rfl).cell (j:=0) (bo (by omega))))<| ?_
    refine ew (aq rfl Tryz.call204 (jr (by omega) (n:=2)) [] rfl [] rfl ?_)
    rintro _ _ _ ⟨rfl,rfl,rfl⟩
    refine⟨(fun _=>wk [0,0,0] [0,1] rfl rfl), ?_⟩
    refine ew (aq rfl Tryz.call204 (jr (by omega) (n:=13)) [] rfl [] rfl ?_)
    rintro _ _ _ ⟨rfl,rfl,rfl⟩
    refine⟨(fun _=>wk [0,0,0] [0,1] rfl rfl), ?_⟩
    refine an (er rfl rfl)<| ?_
    refine ew (aq rfl Tryz.call204 (jr (by omega) (n:=22)) [] rfl [] rfl ?_)
    rintro _ _ _ ⟨rfl,rfl,rfl⟩
    refine⟨(fun _=>wk [0,0,0] [0,1] rfl rfl), ?_⟩
    refine an (yV (er rfl rfl) ((rfl:_=Wd (turns 2 13 22 (v_ v 0)))))<|an (ab rfl)<|bD<|al (ρ' :=[(16,_),(15,_),(14,_),(13,_),(97,_),(11,_),(12,_),(32,_),(6,_),(8,_),(21,_),(7,_),(5,_),(4,_),(0,_),(1,_)]) ⟨rfl,rfl,rfl,rfl,rfl,rfl,rfl,rfl,rfl,rfl,rfl,rfl,rfl,rfl,rfl,rfl,trivial⟩<|ak (X' :=[_,_,_]) (S' :=[_,_]) (fun _ m=>m)<|ag<|ah<|c5 [] [(0,some 0),(1,some 0),(2,some 0),(3,some 0),(4,some 0),(5,some 0),(6,some 0),(7,some 0),(8,some 0),(9,some 0),(10,some 0),(11,some 0),(12,some 0),(13,some 0),(14,some 0),(15,some 0),(16,some 0),(17,some 0),(18,some 0),(19,some 0),(20,some 0),(21,some 0),(22,some 0),(23,some 0)] (by kernel_rfl) (by kernel_rfl) rfl 99<|an (aa rfl)<|an (aT rfl rfl Tryz.underlying215 bR hA_v (show((0:Nat):Int)=0 from rfl) (by omega))<|cr (fun m=>ay rfl bZ ((m.ord 0 rfl).cell (j:=0) (bo (by omega))))<|an (aa rfl)<|an (aT rfl rfl Tryz.underlying215 bR hA_v (show((1:Nat):Int)=1 from rfl) (by omega))<|cr (fun m=>ay rfl bZ ((m.ord 0 rfl).cell (j:=1) (bo (by omega))))<|an (jz rfl rfl)<|an (aa rfl)<|an (aT rfl rfl Tryz.underlying215 bR hA_v (show((0:Nat):Int)=0 from rfl) (by omega))<|cr (fun m=>ay rfl bZ ((m.ord 0 rfl).cell (j:=0) (bo (by omega))))<|an (aa rfl)<|an (aT rfl rfl Tryz.underlying215 bR hA_v (show((2:Nat):Int)=2 from rfl) (by omega))<|cr (fun m=>ay rfl bZ ((m.ord 0 rfl).cell (j:=2) (bo (by omega))))<|an (jz rfl rfl)<|an (er rfl rfl)<|an (aa rfl)<|an (aT rfl rfl Tryz.underlying215 bR hA_v (show((1:Nat):Int)=1 from rfl) (by omega))<|cr (fun m=>ay rfl bZ ((m.ord 0 rfl).cell (j:=1) (bo (by omega))))<|an (aa rfl)<|an (aT rfl rfl Tryz.underlying215 bR hA_v (show((2:Nat):Int)=2 from rfl) (by omega))<|cr (fun m=>ay rfl bZ ((m.ord 0 rfl).cell (j:=2) (bo (by omega))))<|an (jz rfl rfl)<|an (er rfl rfl)<|an (ab rfl)<|bD<|al (ρ' :=[(17,_),(16,_),(15,_),(14,_),(13,_),(97,_),(11,_),(12,_),(32,_),(6,_),(8,_),(21,_),(7,_),(5,_),(4,_),(0,_),(1,_)]) ⟨rfl,rfl,rfl,rfl,rfl,rfl,rfl,rfl,rfl,rfl,rfl,rfl,rfl,rfl,rfl,rfl,rfl,trivial⟩<|ag<|c5 [28] [(0,some 0),(1,some 0),(2,some 0),(3,some 0),(4,some 0),(5,some 0),(6,some 0),(7,some 0),(8,some 0),(9,some 0),(10,some 0),(11,some 0),(12,some 0),(13,some 0),(14,some 0),(15,some 0),(16,some 0),(17,some 0),(18,some 0),(19,some 0),(20,some 0),(21,some 0),(22,some 0),(23,some 0),(24,some 0),(25,some 0),(26,some 0),(27,some 0),(28,none),(29,some 1)] (by kernel_rfl) (by kernel_rfl) rfl 99<|an (aa rfl)<|an (aa rfl)<|an (dE rfl rfl)<|an (aa rfl)<|an (yV (dE rfl rfl) ((show Wd (rt v k (W.getD i 0)+turns 2 13 22 (v_ v 0)+((v_ v 0 &&& v_ v 1) ^^^ (v_ v 0 &&& v_ v 2) ^^^ (v_ v 1 &&& v_ v 2)))=Wd (rt v k (W.getD i 0)+ru v) by rw[UInt32.add_assoc];rfl)))<|an (aa rfl)<|an (aT rfl rfl Tryz.underlying215 bR hA_v (show((0:Nat):Int)=0 from rfl) (by omega))<|cr (fun m=>ay rfl bZ ((m.ord 0 rfl).cell (j:=0) (bo (by omega))))<|an (aa rfl)<|an (aT rfl rfl Tryz.underlying215 bR hA_v (show((1:Nat):Int)=1 from rfl) (by omega))<|cr (fun m=>ay rfl bZ ((m.ord 0 rfl).cell (j:=1) (bo (by omega))))<|an (aa rfl)<|an (aT rfl rfl Tryz.underlying215 bR hA_v (show((2:Nat):Int)=2 from rfl) (by omega))<|cr (fun m=>ay rfl bZ ((m.ord 0 rfl).cell (j:=2) (bo (by omega))))<|an (aa rfl)<|an (aT rfl rfl Tryz.underlying215 bR hA_v (show((3:Nat):Int)=3 from rfl) (by omega))<|cr (fun m=>ay rfl bZ ((m.ord 0 rfl).cell (j:=3) (bo (by omega))))<|an (aa rfl)<|an (dE rfl rfl)<|an (aa rfl)<|an (aT rfl rfl Tryz.underlying215 bR hA_v (show((4:Nat):Int)=4 from rfl) (by omega))<|cr (fun m=>ay rfl bZ ((m.ord 0 rfl).cell (j:=4) (bo (by omega))))<|an (aa rfl)<|an (aT rfl rfl Tryz.underlying215 bR hA_v (show((5:Nat):Int)=5 from rfl) (by omega))<|cr (fun m=>ay rfl bZ ((m.ord 0 rfl).cell (j:=5) (bo (by omega))))<|an (aa rfl)<|an (aT rfl rfl Tryz.underlying215 bR hA_v (show((6:Nat):Int)=6 from rfl) (by omega))<|cr (fun m=>ay rfl bZ ((m.ord 0 rfl).cell (j:=6) (bo (by omega))))<| ?_
    refine ew (b5 Tryz.underlying215 oI rfl rfl rfl (by exact tb (l:=[_,_,_,_,_,_,_,_])) (by decide) (by decide) (fun g212=>⟨(fun _=>wk [1,1,1] [0,1] rfl rfl), ?_⟩))
    have hA_b212:0<8→(some (⟨g212,0,none⟩:Addr))≠none:=fun _ h=>by cases h
    refine an (ab rfl)<|bD<|al (ρ' :=[(11,_),(17,_),(16,_),(15,_),(14,_),(13,_),(97,_),(12,_),(32,_),(6,_),(8,_),(21,_),(7,_),(5,_),(4,_),(0,_),(1,_)]) ⟨rfl,rfl,rfl,rfl,rfl,rfl,rfl,rfl,rfl,rfl,rfl,rfl,rfl,rfl,rfl,rfl,rfl,trivial⟩<|ak (X' :=[_,_,_,_]) (S' :=[_,_]) (fun _ m=>m)<|aQ<|ag<|aj<|hy (fun _=>aa rfl)<|hy (fun _=>aM rfl rfl (bG (by omega) (by omega)))<|hy (fun _=>ab rfl)<|ai<|al (ρ' :=[(12,_),(11,_),(17,_),(16,_),(15,_),(14,_),(13,_),(97,_),(32,_),(6,_),(8,_),(21,_),(7,_),(5,_),(4,_),(0,_),(1,_)]) ⟨rfl,rfl,rfl,rfl,rfl,rfl,rfl,rfl,rfl,rfl,rfl,rfl,rfl,rfl,rfl,rfl,rfl,trivial⟩<| ?_
    refine ak (fun w m=>m.bQ 0 rfl (show _=aG 166 1 (.slice (some ⟨g212,0,none⟩) 8 8) 8 (ei (kM W h (i+1)))from by rw[kM,hvd,hk];rfl)) ?_
    refine fx (i+1) (some ⟨g212,0,none⟩) 8 ⟨rfl,rfl,rfl,rfl,rfl,rfl,rfl,rfl,rfl,rfl,rfl,trivial⟩ [0,1,1] rfl [0,1] rfl (by omega) (by omega)
   ·obtain rfl:i=64:=by omega
    generalize hvv:kM W h 64=v at hv ⊢
    refine bx (fun w m=>m.bQ 0 rfl (show _=aG 166 1 (.slice A2 8 c2) 8 (ei (fT v h 0))from by rw[qZ])) ?_
    refine bJ<|ao<|ao<|aB<|ag<|ah<|ah<|aj<|hy (fun _=>ab rfl)<|ai<|ag<|aI<| ?_
    refine dx (fun j=>8-j) (fun j=>[(18,.int .i64 (j:Nat))]) (fun j=>[aG 166 1 (.slice A2 8 c2) 8 (ei (fT v h j))]) (fun j=>[]) (fun j=>j≤8) 0 [(97,_),(11,_),(12,_),(32,_),(6,_),(8,_),(21,_),(7,_),(5,_),(4,_),(0,_),(1,_)] ⟨rfl,rfl,rfl,rfl,rfl,rfl,rfl,rfl,rfl,rfl,rfl,rfl,trivial⟩ [0] rfl [] rfl (Nat.zero_le _) ⟨rfl,trivial⟩ (fun j hj8=> ?_)
    have hsl:(fT v h j).length=v.length:=by simp[fT]
    refine ah<|ah<|aj<|hy (fun _=>aa rfl)<|hy (fun _=>bq rfl rfl)<|ai<|al (ρ' :=[(214,_),(18,_),(97,_),(11,_),(12,_),(32,_),(6,_),(8,_),(21,_),(7,_),(5,_),(4,_),(0,_),(1,_)]) ⟨rfl,rfl,rfl,rfl,rfl,rfl,rfl,rfl,rfl,rfl,rfl,rfl,rfl,rfl,trivial⟩<|ag<| ?_
    refine cD rfl (fun hj=> ?_) (fun hj=> ?_)
    ·refine aD<|ag<|ah<|aI<|c5 [12] [(0,some 0),(1,some 0),(2,some 0),(3,some 0),(4,some 0),(5,some 0),(6,some 0),(7,some 0),(8,some 0),(9,some 0),(10,some 0),(11,some 0),(12,none)] (by kernel_rfl) (by kernel_rfl) rfl 0<|an (aa rfl)<|an (aa rfl)<|an (aa rfl)<|an (aa rfl)<|an (aT rfl rfl Tryz.underlying215 bR hA_v rfl (by omega))<|cr (fun m=>ay rfl bZ ((m.ord 0 rfl).cell (j:=j) (bo (by omega))))<|an (aa rfl)<|an (aa rfl)<|an (aT rfl rfl Tryz.underlying215 bR hA_q rfl (by omega))<|cr (fun m=>ay rfl bZ ((m.rd 0 rfl).cell (j:=j) (bo (by omega))))<|an (yV (dE rfl rfl) ((rfl:_=Wd (v_ (fT v h j) j+v_ h j))))<|an (aT rfl rfl Tryz.underlying215 bR hA_v rfl (by omega))<| ?_
     refine kE (Bf 0 rfl rfl rfl bR rfl (by omega) ⟨(fun h=>absurd h (by decide)), ?_⟩)
     refine bD<|al (ρ' :=[(214,_),(18,_),(97,_),(11,_),(12,_),(32,_),(6,_),(8,_),(21,_),(7,_),(5,_),(4,_),(0,_),(1,_)]) ⟨rfl,rfl,rfl,rfl,rfl,rfl,rfl,rfl,rfl,rfl,rfl,rfl,rfl,rfl,trivial⟩<|ak (X' :=[_,_,_]) (S' :=[_,_]) (fun _ m=>m)<|aQ<|ag<|aj<|hy (fun _=>aa rfl)<|hy (fun _=>aM rfl rfl (bG (by omega) (by omega)))<|hy (fun _=>ab rfl)<|ai<|al (ρ' :=[(18,_),(214,_),(97,_),(11,_),(12,_),(32,_),(6,_),(8,_),(21,_),(7,_),(5,_),(4,_),(0,_),(1,_)]) ⟨rfl,rfl,rfl,rfl,rfl,rfl,rfl,rfl,rfl,rfl,rfl,rfl,rfl,rfl,trivial⟩<| ?_
     refine ak (fun w m=>m.bQ 0 rfl (show _=aG 166 1 (.slice A2 8 c2) 8 (ei (fT v h (j+1)))from by rw[v8,q7 (by omega)])) ?_
     refine cR (j+1) ⟨rfl,rfl,rfl,rfl,rfl,rfl,rfl,rfl,rfl,rfl,rfl,rfl,rfl,trivial⟩ [0,0,0] rfl [0,1] rfl (by omega) (by omega)
    ·obtain rfl:j=8:=by omega
     have hB:fT v h 8=eC h l:=by rw[eC,hW,hvv]
     rw[hB]
     refine bJ<|ao<|ao<|aB<|ag<|ah<|aj<|hy (fun _=>aa rfl)<|hy (fun _=>ab rfl)<|ai<|al (ρ' :=[(4,_),(214,_),(18,_),(97,_),(11,_),(12,_),(32,_),(6,_),(8,_),(21,_),(7,_),(5,_),(0,_),(1,_)]) ⟨rfl,rfl,rfl,rfl,rfl,rfl,rfl,rfl,rfl,rfl,rfl,rfl,rfl,rfl,trivial⟩<|ag<|aX<| ?_
     exact bg trivial rfl rfl [0] rfl [] rfl ⟨_,rfl,rfl,rfl⟩
end Go.Proofs.YtmibdabdlgmafaaGreatDoor
end
section
set_option maxRecDepth 20000
namespace Go.Proofs.YtmibdabdlgmafaaGreatDoor
open Go.Eng Go.Hx
def mu(n:Nat):Nat→Nat
 |0=>n
 |i+1=>mu n i/256
theorem pJ(n:Nat):∀i,mu n i=n/256 ^ i
 |0=>by simp[mu]
 |i+1=>by rw[mu,pJ n i,Nat.div_div_eq_div_mul,Nat.pow_succ]
def pY(n i:Nat):List UInt8:=List.replicate (8-i) 0++(s9 n).drop (8-i)
theorem lp(n:Nat):(s9 n).length=8:=by simp[s9]
theorem yD(n i:Nat)(h:i≤8):(pY n i).length=8:=by
 rw[pY,List.length_append,List.length_replicate,List.length_drop,lp];omega
theorem yh{n i:Nat}(hi:i<8):(pY n i).set (7-i) (UInt8.ofNat (mu n i % 256))=pY n (i+1):=by
 have e:UInt8.ofNat (mu n i % 256)=UInt8.ofNat (n/256 ^ i):=by
  rw[pJ];apply UInt8.toNat_inj.1;simp
 rw[e]
 obtain⟨k,hk⟩:∃k,8-i=k+1:=⟨7-i,by omega⟩
 have h7:7-i=k:=by omega
 have hd:(s9 n).drop k=UInt8.ofNat (n/256 ^ i)::(s9 n).drop (k+1):=by
  rw[List.drop_eq_getElem_cons (by rw[lp];omega)]
  congr 1
  simp only[s9,List.getElem_map,List.getElem_range]
  congr 3;omega
 rw[pY,pY,hk,h7,show 8-(i+1)=k by omega,hd,List.replicate_succ',List.append_assoc,List.set_append_right _ _ (by simp)]
 simp
theorem B9{A:Option Addr}{n c:Nat}{l:List UInt8}(hn:n≤140737488351232):ck Tryz.prog 141 [.slice A n c] [] [dr 1 A n (aV l)] (fun v_ X_ S_=>∃v,v_=v∧X_=[aG 5 1 v (jx l).length (aV (jx l))]∧S_=[]):=by
 have hz64:iQ n<64:=Nat.mod_lt _ (by decide)
 have hzp:(n+(1+iQ n)) % 64=56:=by unfold iQ;omega
 have hzm:∀j,j<iQ n→(n+(1+j)) % 64≠56:=fun j hj=>by unfold iQ at hj;omega
 refine aP (N:=39) Tryz.func141 rfl rfl (by simp) fun b=> ?_
 refine aY (fun m=>gY (m.rd 0 rfl)) ?_
 rintro⟨hl_r,hA_r⟩
 have hl:l.length=n:=hl_r
 refine ah<|aj<|hy (fun _=>ab rfl)<|ai<|ag<|ah<|aj<|hy (fun _=>ab rfl)<|ai<|ag<|ah<|aj<|hy (fun _=>aa rfl)<|hy (fun _=>aa rfl)<| ?_
 refine aO (fun w m=>m.dm (r' :=aG 5 1 (.slice none 0 0) 0 []) (.refl _ _) (Own.nil _ _ _ _) (fun k hk=>hk.elim)) ?_
 refine hx (bu 0 rfl rfl rfl Tryz.underlying27 Tryz.underlying27 (by exact .inl rfl) fa rfl (fun m=>Src.bP (m.rd 0 rfl)) aZ (by unfold maxLen;omega) (by omega) (fun u=> ?_))
 refine aA (fun m=>(m.own 0 rfl).slice) ?_
 rintro⟨A_o,c_o,rfl,hc_o⟩
 refine aA (fun m=>(m.ord 0 rfl).2.1) fun hA_o=> ?_
 rw[Nat.zero_add]
 refine hy (fun _=>ab rfl)<|ai<|al (ρ' :=[(3,_),(2,_),(0,_)]) ⟨rfl,rfl,rfl,trivial⟩<|ak (X' :=[_]) (S' :=[_]) (fun _ m=>m)<|ag<|ah<|aj<|hy (fun _=>aa rfl)<| ?_
 refine hx (b5 Tryz.underlying27 fa rfl rfl rfl (by simp[Value.cells,B8]) (by decide) (by decide) (fun g11=> ?_))
 have hA_b11:0<1→(some (⟨g11,0,none⟩:Addr))≠none:=fun _ h=>by cases h
 refine aO (fun w m=>m.bQ 0 rfl (show _=aG 5 1 (.slice (some ⟨g11,0,none⟩) 1 1) 1 (aV [128])from rfl)) ?_
 refine hx (bu 1 rfl rfl rfl Tryz.underlying27 Tryz.underlying27 (by exact .inl rfl) fa rfl (fun m=>Src.bP (m.ord 0 rfl)) aZ (by unfold maxLen;omega) (by omega) (fun u2=> ?_))
 refine aA (fun m=>(m.own 0 rfl).slice) ?_
 rintro⟨A_o2,c_o2,rfl,hc_o⟩
 refine aA (fun m=>(m.ord 0 rfl).2.1) fun hA_o=> ?_
 refine aO (fun w m=>m.bQ 0 rfl (show _=aG 5 1 (.slice A_o2 (n+1+0) c_o2) (n+1+0) (aV (l++128::List.replicate 0 0))from by simp[aV])) ?_
 refine hy (fun _=>ab rfl)<|ai<|al (ρ' :=[(3,_),(2,_),(0,_)]) ⟨rfl,rfl,rfl,trivial⟩<|ak (X' :=[_,_]) (S' :=[_]) (fun _ m=>m)<|ag<|ah<|aI<| ?_
 refine fH (fun j A1 cc=>iQ n-j) (fun j A1 cc=>[(3,.slice A1 (n+1+j) cc)]) (fun j A1 cc=>[aG 5 1 (.slice A1 (n+1+j) cc) (n+1+j) (aV (l++128::List.replicate j 0))]) (fun j A1 cc=>[]) (fun j A1 cc=>j≤iQ n) 0 A_o2 c_o2 [(2,_),(0,_)] ⟨rfl,rfl,trivial⟩ [0] rfl [] rfl (Nat.zero_le _) ⟨rfl,trivial⟩ (fun j A1 cc hjz=> ?_)
 refine ah<|ah<|aj<|hy (fun _=>aa rfl)<|hy (fun _=>aS rfl Tryz.underlying27)<|hy (fun _=>gN rfl rfl (by omega) (by omega))<|hy (fun _=>db rfl rfl)<|ai<|al (ρ' :=[(16,_),(3,_),(2,_),(0,_)]) ⟨rfl,rfl,rfl,rfl,trivial⟩<|ag<| ?_
 refine cD rfl (fun hne=> ?_) (fun hne=> ?_)
 ·have hj:j<iQ n:=by
   rcases Nat.lt_or_eq_of_le hjz with h|h
   ·exact h
   ·rw[←h]at hzp;omega
  refine aD<|ag<|aI<|aj<|hy (fun _=>aa rfl)<| ?_
  refine hx (b5 Tryz.underlying27 fa rfl rfl rfl (by simp[Value.cells,B8]) (by decide) (by decide) (fun g18=> ?_))
  have hA_b18:0<1→(some (⟨g18,0,none⟩:Addr))≠none:=fun _ h=>by cases h
  refine aO (fun w m=>m.bQ 0 rfl (show _=aG 5 1 (.slice (some ⟨g18,0,none⟩) 1 1) 1 (aV [0])from rfl)) ?_
  refine hx (bu 1 rfl rfl rfl Tryz.underlying27 Tryz.underlying27 (by exact .inl rfl) fa rfl (fun m=>Src.bP (m.ord 0 rfl)) aZ (by unfold maxLen;omega) (by omega) (fun u3=> ?_))
  refine aA (fun m=>(m.own 0 rfl).slice) ?_
  rintro⟨A_o3,c_o3,rfl,hc_o⟩
  refine aA (fun m=>(m.ord 0 rfl).2.1) fun hA_o=> ?_
  refine hy (fun _=>ab rfl)<|ai<|al (ρ' :=[(3,_),(16,_),(2,_),(0,_)]) ⟨rfl,rfl,rfl,rfl,trivial⟩<|ak (X' :=[_,_,_]) (S' :=[_]) (fun _ m=>m)<|aQ<| ?_
  refine ak (fun w m=>m.bQ 0 rfl (show _=aG 5 1 (.slice A_o3 (n+1+(j+1)) c_o3) (n+1+(j+1)) (aV (l++128::List.replicate (j+1) 0))from by rw[List.replicate_succ'];simp[aV,Nat.add_assoc])) ?_
  refine fx (j+1) A_o3 c_o3 ⟨rfl,rfl,rfl,trivial⟩ [0,1] rfl [0] rfl (by omega) (by omega)
 ·have hj:j=iQ n:=by
   refine Decidable.byContradiction fun hn=> ?_
   have:=hzm j (by omega)
   omega
  subst hj
  refine bJ<|ao<|ao<|aB<|ag<|ah<|aj<|hy (fun _=>aa rfl)<|hy (fun _=>aS rfl Tryz.underlying27)<|hy (fun _=>yV (fB rfl rfl (bG (by omega) (by omega))) ((show Value.int .i64 (8*(n:Int))= .int .i64 ((mu (8*n) 0:Nat):Int) by rw[mu];congr 1)))<|hy (fun _=>ab rfl)<|ai<|al (ρ' :=[(4,_),(16,_),(3,_),(2,_),(0,_)]) ⟨rfl,rfl,rfl,rfl,rfl,trivial⟩<|ag<|ah<|aj<| ?_
  refine hx (BF (n:=8) Tryz.underlying27 fa rfl rfl rfl (by decide) (by decide) (fun g23=> ?_))
  have hA_b23:∀{n:Nat},0<n→(some (⟨g23,0,none⟩:Addr))≠none:=fun _ h=>by cases h
  refine hy (fun _=>ab rfl)<|ai<|al (ρ' :=[(5,_),(4,_),(16,_),(3,_),(2,_),(0,_)]) ⟨rfl,rfl,rfl,rfl,rfl,rfl,trivial⟩<|ak (X' :=[_,_,_]) (S' :=[_]) (fun _ m=>m)<|ag<|ah<|ah<|aj<| ?_
  refine aO (fun w m=>m.bQ 0 rfl (show _=aL g23 5 (aV (pY (8*n) 0))from by rw[pY,List.drop_of_length_le (by rw[lp];decide),List.append_nil];rfl)) ?_
  refine hy (fun _=>ab rfl)<|ai<|ag<|aI<| ?_
  refine dx (fun i=>8-i) (fun i=>[(4,.int .i64 ((mu (8*n) i:Nat):Int)),(6,.int .i64 (7-(i:Int)))]) (fun i=>[aL g23 5 (aV (pY (8*n) i))]) (fun i=>[]) (fun i=>i≤8) 0 [(5,_),(16,_),(3,_),(2,_),(0,_)] ⟨rfl,rfl,rfl,rfl,rfl,trivial⟩ [0] rfl [] rfl (Nat.zero_le _) ⟨rfl,rfl,trivial⟩ (fun i hi8=> ?_)
  have hq:mu (8*n) i≤8*n:=by rw[pJ];exact Nat.div_le_self ..
  have hbl:=yD (8*n) i hi8
  refine ah<|ah<|aj<|hy (fun _=>aa rfl)<|hy (fun _=>iP rfl rfl)<|ai<|al (ρ' :=[(25,_),(4,_),(6,_),(5,_),(16,_),(3,_),(2,_),(0,_)]) ⟨rfl,rfl,rfl,rfl,rfl,rfl,rfl,rfl,trivial⟩<|ag<| ?_
  refine cD rfl (fun hi=> ?_) (fun hi=> ?_)
  ·refine aD<|ag<|ah<|aI<|ah<|aj<|hy (fun _=>aa rfl)<|hy (fun _=>aa rfl)<|hy (fun _=>aa rfl)<|hy (fun _=>gN rfl rfl (by omega) (by omega))<|hy (fun _=>bX rfl Tryz.underlying3 Tryz.underlying5 (show IntKind.u8.wrap (((mu (8*n) i:Nat):Int) % 256)=((UInt8.ofNat (mu (8*n) i % 256)).toNat:Int)from gX (mu (8*n) i % 256)))<|hy (fun _=>aT rfl rfl Tryz.underlying27 ea hA_b23 (show((7-i:Nat):Int)=_ by omega) (by omega))<| ?_
   refine cL (cG 0 rfl rfl rfl ea rfl (by rw[az,hbl];omega) ?_)
   refine ai<|al (ρ' :=[(25,_),(4,_),(6,_),(5,_),(16,_),(3,_),(2,_),(0,_)]) ⟨rfl,rfl,rfl,rfl,rfl,rfl,rfl,rfl,trivial⟩<|ak (X' :=[_,_,_]) (S' :=[_]) (fun _ m=>m)<|ag<|aj<|hy (fun _=>aa rfl)<|hy (fun _=>yV (ky rfl rfl (by omega) (by omega) (bG (by omega) (by omega))) ((show Value.int .i64 (((mu (8*n) i:Nat):Int)/256)= .int .i64 ((mu (8*n) (i+1):Nat):Int)from rfl)))<|hy (fun _=>ab rfl)<|ai<|al (ρ' :=[(4,_),(25,_),(6,_),(5,_),(16,_),(3,_),(2,_),(0,_)]) ⟨rfl,rfl,rfl,rfl,rfl,rfl,rfl,rfl,trivial⟩<|aQ<|ag<|aj<|hy (fun _=>aa rfl)<|hy (fun _=>yV (cn rfl rfl (bG (by omega) (by omega))) ((show Value.int .i64 (7-(i:Int)-1)= .int .i64 (7-((i+1:Nat):Int))from congrArg (Value.int .i64) (by omega))))<|hy (fun _=>ab rfl)<|ai<|al (ρ' :=[(6,_),(4,_),(25,_),(5,_),(16,_),(3,_),(2,_),(0,_)]) ⟨rfl,rfl,rfl,rfl,rfl,rfl,rfl,rfl,trivial⟩<| ?_
   refine ak (fun w m=>m.bQ 0 rfl (show _=aL g23 5 (aV (pY (8*n) (i+1)))from by rw[Nat.zero_add,←yh (by omega),vJ];rfl)) ?_
   refine cR (i+1) ⟨rfl,rfl,rfl,rfl,rfl,rfl,rfl,trivial⟩ [0,0,0] rfl [0] rfl (by omega) (by omega)
  ·obtain rfl:i=8:=by omega
   have hpl:(jx l).length=n+1+iQ n+8:=by
    simp only[jx,List.length_append,List.length_cons,List.length_replicate,lp,hl];omega
   refine bx (fun w m=>m.bQ 0 rfl (show _=aL g23 5 (aV (s9 (8*n)))from by simp[pY])) ?_
   refine bJ<|ao<|ao<|aB<|ag<|ah<|aj<|hy (fun _=>aa rfl)<|hy (fun _=>aa rfl)<| ?_
   refine hx (bu 1 rfl rfl rfl Tryz.underlying27 Tryz.underlying27 (by exact .inl rfl) fa rfl (fun m=>Src.bP (Rd.gi (m.a6 0 rfl) (by rw[az,lp]))) aZ (by unfold maxLen;omega) (by omega) (fun u3=> ?_))
   refine aA (fun m=>(m.own 0 rfl).slice) ?_
   rintro⟨A_o3,c_o3,rfl,hc_o⟩
   refine aA (fun m=>(m.ord 0 rfl).2.1) fun hA_o=> ?_
   refine aO (fun w m=>m.bQ 0 rfl (show _=aG 5 1 (.slice A_o3 (jx l).length c_o3) (jx l).length (aV (jx l))from by rw[hpl,jx,hl];simp[aV])) ?_
   refine hy (fun _=>ab rfl)<|ai<|al (ρ' :=[(2,_),(25,_),(4,_),(6,_),(5,_),(16,_),(3,_),(0,_)]) ⟨rfl,rfl,rfl,rfl,rfl,rfl,rfl,rfl,trivial⟩<|ak (X' :=[_,_,_]) (S' :=[_]) (fun _ m=>m)<|ag<|aX<| ?_
   exact bg trivial rfl rfl [0] rfl [] rfl ⟨_,(by rw[hpl]),rfl,rfl⟩
theorem Bc{p r:List UInt8}{k:Nat}{a x:UInt8}(hp:p.length=k):(aV (p++x::r)).set k (B8 a)=aV (p++[a]++r):=by
 subst hp
 simp[aV,List.set_append]
def qw(x:UInt32):Nat→UInt32
 |0=>x
 |j+1=>qw x j/256
theorem uJ(x:UInt32):∀j,(qw x j).toNat=x.toNat/256 ^ j
 |0=>by simp[qw]
 |j+1=>by
  rw[qw,UInt32.toNat_div,uJ x j,Nat.pow_succ,←Nat.div_div_eq_div_mul];rfl
theorem Fb(x:UInt32){r:Nat}(hr:r<4):(Bp x)[r]? =some (UInt8.ofNat (qw x (3-r) % 256).toNat):=by
 have h256:(256:UInt32).toNat=256:=rfl
 have e:∀k,UInt8.ofNat ((qw x k % 256).toNat)=UInt8.ofNat (x.toNat/256 ^ k):=fun k=>by
  rw[UInt32.toNat_mod,uJ,h256]
  apply UInt8.toNat_inj.1;simp
 rw[e]
 match r,hr with
 |0,_=>simp[Bp,UInt32.toNat_div]
 |1,_=>simp[Bp,UInt32.toNat_div]
 |2,_=>simp[Bp,UInt32.toNat_div]
 |3,_=>simp[Bp]
theorem rI:∀(h:List UInt32) (q r:Nat),q<h.length→r<4→(eU h)[4*q+r]? =(Bp (h.getD q 0))[r]?
 |a::t,0,r,hq,hr=>by
  rw[eU,List.flatMap_cons,List.getElem?_append_left (by show 4*0+r<4;omega)]
  simp
 |a::t,q+1,r,hq,hr=>by
  rw[eU,List.flatMap_cons,List.getElem?_append_right (by show 4≤_;omega),show 4*(q+1)+r-(Bp a).length=4*q+r by show 4*(q+1)+r-4=_;omega]
  have:=rI t q r (by simpa using hq) hr
  simpa[eU]using this
theorem qI{A:Option Addr}{n c:Nat}{l:List UInt8}(hn:n≤140737488351232):ck Tryz.prog 56 [.slice A n c] [] [dr 1 A n (aV l)] (fun v_ X_ S_=>v_=(.agg (aV (bk l)).toArray)∧X_=[]∧S_=[]):=by
 refine aP (N:=49) Tryz.func56 rfl rfl (by simp) fun b=> ?_
 refine aY (fun m=>gY (m.rd 0 rfl)) ?_
 rintro⟨hl_r,hA_r⟩
 refine ah<|aj<| ?_
 refine hx (aN cS (fun g2=> ?_))
 refine ai<|ak (X' :=[_]) (S' :=[_]) (fun _ m=>m)<|ag<|ah<|aj<| ?_
 refine hx (b5 Tryz.underlying215 oI rfl rfl rfl (by decide) (by decide) (by decide) (fun g10=> ?_))
 have hA_b10:0<8→(some (⟨g10,0,none⟩:Addr))≠none:=fun _ h=>by cases h
 refine aO (fun w m=>m.bQ 0 rfl (show _=aG 166 1 (.slice (some ⟨g10,0,none⟩) 8 8) 8 (ei (fz mw ((jx l).take (64*0))))from by rw[Nat.mul_zero,List.take_zero];rfl)) ?_
 refine hy (fun _=>ab rfl)<|ai<|al (ρ' :=[(3,_),(2,_),(0,_)]) ⟨rfl,rfl,rfl,trivial⟩<|ak (X' :=[_,_]) (S' :=[_]) (fun _ m=>m)<|ag<|ah<|aj<|hy (fun _=>aa rfl)<| ?_
 refine hx (aq rfl Tryz.call141 (B9 (by omega)) [] rfl [0] rfl ?_)
 rintro _ _ _ ⟨v,rfl,rfl,rfl⟩
 refine aA (fun m=>(m.own 0 rfl).slice) ?_
 rintro⟨A_x,c_x,rfl,hc_x⟩
 refine aA (fun m=>(m.ord 0 rfl).2.1) fun hA_x=> ?_
 refine hy (fun _=>ab rfl)<|ai<|al (ρ' :=[(4,_),(3,_),(2,_),(0,_)]) ⟨rfl,rfl,rfl,rfl,trivial⟩<|ak (X' :=[_,_,_]) (S' :=[_]) (fun _ m=>m)<|ag<|ah<|ah<|aj<|hy (fun _=>ab rfl)<|ai<|ag<|aI<| ?_
 have hpl:=oe l
 have hpb:(jx l).length≤140737488352000:=by
  have:l.length=n:=hl_r
  have hz:iQ l.length<64:=Nat.mod_lt _ (by decide)
  simp only[jx,List.length_append,List.length_cons,List.length_replicate,lp];omega
 obtain⟨K,hK⟩:∃K,(jx l).length=64*K:=⟨(jx l).length/64,by omega⟩
 generalize hP:jx l=P at hpl hpb hK hc_x hA_x ⊢
 refine bx (fun w m=>(m.perm (au [0] _ [_] _ rfl)).freeze) ?_
 refine bx (fun w m=>m.iW 0 rfl .own) ?_
 refine aY (fun m=>gY (m.rd 0 rfl)) ?_
 rintro⟨hl_xr,hA_xr⟩
 refine fH (fun k H hc=>K-k) (fun k H hc=>[(3,.slice H 8 hc),(5,.int .i64 ((64*k:Nat):Int))]) (fun k H hc=>[aG 166 1 (.slice H 8 hc) 8 (ei (fz mw (P.take (64*k))))]) (fun k H hc=>[]) (fun k H hc=>k≤K) 0 (some ⟨g10,0,none⟩) 8 [(4,_),(2,_),(0,_)] ⟨rfl,rfl,rfl,trivial⟩ [0] rfl [] rfl (Nat.zero_le _) ⟨rfl,rfl,trivial⟩ (fun k H hc hkK=> ?_)
 have hh:=mV (h:=mw) (P.take (64*k)) rfl
 refine ah<|ah<|aj<|hy (fun _=>aa rfl)<|hy (fun _=>aa rfl)<|hy (fun _=>aS rfl Tryz.underlying27)<|hy (fun _=>bq rfl rfl)<|ai<|al (ρ' :=[(16,_),(3,_),(5,_),(4,_),(2,_),(0,_)]) ⟨rfl,rfl,rfl,rfl,rfl,rfl,trivial⟩<|ag<| ?_
 refine cD rfl (fun hlt=> ?_) (fun hlt=> ?_)
 ·have hk:k<K:=by omega
  refine bx (fun w m=>m.iW 0 rfl (View.sub (k:=64*k) (m:=64) hc_x (by omega))) ?_
  refine aY (fun m=>gY (m.rd 0 rfl)) ?_
  rintro⟨hl_r64,hA_r64⟩
  refine aD<|ag<|ah<|aI<|aj<|hy (fun _=>aa rfl)<|hy (fun _=>aa rfl)<|hy (fun _=>aa rfl)<|hy (fun _=>aa rfl)<|hy (fun _=>aM rfl rfl (bG (by omega) (by omega)))<|hy (fun _=>yV (eS rfl rfl rfl Tryz.underlying27 ea (show((64*k:Nat):Int)=_ by omega) (show((64*k+64:Nat):Int)=_ by omega) (by omega) (by omega)) ((show Value.slice (if c_x=64*k then A_x else A_x.map (·.add (64*k*1))) (64*k+64-64*k) (c_x-64*k)= .slice (if c_x=64*k then A_x else A_x.map (·.add (64*k*1))) 64 (c_x-64*k) by rw[Nat.add_sub_cancel_left])))<| ?_
  refine hx (cM rfl Tryz.call142 (Cn (by omega) hh (h:=(fz mw (P.take (64*k))))) [] rfl (.x 0 rfl .own (.s 0 rfl .nil)) ?_)
  rintro _ _ _ ⟨u,rfl,rfl,rfl⟩
  refine⟨rfl, ?_⟩
  refine aA (fun m=>(m.own 0 rfl).slice) ?_
  rintro⟨A_y,c_y,rfl,hc_y⟩
  refine aA (fun m=>(m.ord 0 rfl).2.1) fun hA_y=> ?_
  refine hy (fun _=>ab rfl)<|ai<|al (ρ' :=[(3,_),(16,_),(5,_),(4,_),(2,_),(0,_)]) ⟨rfl,rfl,rfl,rfl,rfl,rfl,trivial⟩<|ak (X' :=[_,_,_]) (S' :=[_,_,_,_]) (fun _ m=>m)<|aQ<|ag<|aj<|hy (fun _=>aa rfl)<|hy (fun _=>yV (aM rfl rfl (bG (by omega) (by omega))) ((show Value.int .i64 (((64*k:Nat):Int)+64)= .int .i64 ((64*(k+1):Nat):Int)from congrArg (Value.int .i64) (by omega))))<|hy (fun _=>ab rfl)<|ai<|al (ρ' :=[(5,_),(3,_),(16,_),(4,_),(2,_),(0,_)]) ⟨rfl,rfl,rfl,rfl,rfl,rfl,trivial⟩<| ?_
  have hfs:eC (fz mw (P.take (64*k))) ((P.drop (64*k)).take 64)=fz mw (P.take (64*(k+1))):=by
   rw[←pF (by rw[List.length_take];omega) (by rw[List.length_take,List.length_drop];omega),←List.take_add]
   rfl
  rw[hfs]
  refine fx (k+1) A_y c_y ⟨rfl,rfl,rfl,rfl,rfl,trivial⟩ [0,1] rfl [1,2,3] rfl (by omega) (by omega)
 ·obtain rfl:k=K:=by omega
  have hfl:fz mw (P.take (64*k))=fz mw P:=by rw[List.take_of_length_le (by omega)]
  rw[hfl]at hh ⊢
  have hsha:bk l=eU (fz mw P):=by rw[bk,hP]
  have hdl:=mH hh
  generalize fz mw P=F at hh hsha hdl ⊢
  refine aY (fun m=>(m.ord 0 rfl).2.1) fun hA_b10=> ?_
  refine bJ<|ao<|ao<|aB<|ag<|ah<|aj<| ?_
  refine hx (aN cS (fun g6=> ?_))
  refine ai<|ak (X' :=[_,_,_]) (S' :=[_,_,_]) (fun _ m=>m)<|ag<|ah<|ah<|aj<|hy (fun _=>ab rfl)<|ai<|ag<|aI<| ?_
  refine bx (fun w m=>m.bQ 0 rfl (show _=aL g6 53 (aV ((eU F).take 0++List.replicate (32-0) 0))from rfl)) ?_
  refine dx (fun i=>32-i) (fun i=>[(7,.int .i64 (i:Nat))]) (fun i=>[aL g6 53 (aV ((eU F).take i++List.replicate (32-i) 0))]) (fun i=>[]) (fun i=>i≤32) 0 [(6,_),(16,_),(3,_),(5,_),(4,_),(2,_),(0,_)] ⟨rfl,rfl,rfl,rfl,rfl,rfl,rfl,trivial⟩ [0] rfl [] rfl (Nat.zero_le _) ⟨rfl,trivial⟩ (fun i hi32=> ?_)
  refine ah<|ah<|aj<|hy (fun _=>aa rfl)<|hy (fun _=>bq rfl rfl)<|ai<|al (ρ' :=[(27,_),(7,_),(6,_),(16,_),(3,_),(5,_),(4,_),(2,_),(0,_)]) ⟨rfl,rfl,rfl,rfl,rfl,rfl,rfl,rfl,rfl,trivial⟩<|ag<| ?_
  refine cD rfl (fun hi=> ?_) (fun hi=> ?_)
  ·refine aD<|ag<|ah<|aI<|ah<|aj<|hy (fun _=>aa rfl)<|hy (fun _=>aa rfl)<|hy (fun _=>ky rfl rfl (by omega) (by omega) (bG (by omega) (by omega)))<|hy (fun _=>aT rfl rfl Tryz.underlying215 bR hA_b10 (show((i/4:Nat):Int)=_ by omega) (by omega))<|hy (fun m=>yV (ay rfl bZ ((m.ord 1 rfl).cell (j:=i/4) (bo (by omega)))) ((rfl:_=Wd (qw (F.getD (i/4) 0) 0))))<|hy (fun _=>ab rfl)<|ai<|al (ρ' :=[(8,_),(27,_),(7,_),(6,_),(16,_),(3,_),(5,_),(4,_),(2,_),(0,_)]) ⟨rfl,rfl,rfl,rfl,rfl,rfl,rfl,rfl,rfl,rfl,trivial⟩<|ag<|ah<|ah<|aj<|hy (fun _=>aa rfl)<|hy (fun _=>yV (gN rfl rfl (by omega) (by omega)) ((show Value.int .i64 ((i:Int) % 4)= .int .i64 (((i % 4+0:Nat)):Int)from congrArg (Value.int .i64) (by omega))))<|hy (fun _=>ab rfl)<|ai<|al (ρ' :=[(9,_),(8,_),(27,_),(7,_),(6,_),(16,_),(3,_),(5,_),(4,_),(2,_),(0,_)]) ⟨rfl,rfl,rfl,rfl,rfl,rfl,rfl,rfl,rfl,rfl,rfl,trivial⟩<|ag<|aI<| ?_
   refine dx (fun j=>3-j) (fun j=>[(8,Wd (qw (F.getD (i/4) 0) j)),(9,.int .i64 ((i % 4+j:Nat):Int))]) (fun j=>[]) (fun j=>[]) (fun j=>i % 4+j≤3) 0 [(27,_),(7,_),(6,_),(16,_),(3,_),(5,_),(4,_),(2,_),(0,_)] ⟨rfl,rfl,rfl,rfl,rfl,rfl,rfl,rfl,rfl,trivial⟩ [] rfl [] rfl ((by omega)) ⟨rfl,rfl,trivial⟩ (fun j hj3=> ?_)
   refine ah<|ah<|aj<|hy (fun _=>aa rfl)<|hy (fun _=>bq rfl rfl)<|ai<|al (ρ' :=[(38,_),(8,_),(9,_),(27,_),(7,_),(6,_),(16,_),(3,_),(5,_),(4,_),(2,_),(0,_)]) ⟨rfl,rfl,rfl,rfl,rfl,rfl,rfl,rfl,rfl,rfl,rfl,rfl,trivial⟩<|ag<| ?_
   refine cD rfl (fun hj=> ?_) (fun hj=> ?_)
   ·refine aD<|ag<|ah<|aI<|aj<|hy (fun _=>aa rfl)<|hy (fun _=>yV (sQ (b:=256) (by decide) rfl rfl) ((rfl:_=Wd (qw (F.getD (i/4) 0) (j+1)))))<|hy (fun _=>ab rfl)<|ai<|al (ρ' :=[(8,_),(38,_),(9,_),(27,_),(7,_),(6,_),(16,_),(3,_),(5,_),(4,_),(2,_),(0,_)]) ⟨rfl,rfl,rfl,rfl,rfl,rfl,rfl,rfl,rfl,rfl,rfl,rfl,trivial⟩<|aQ<|ag<|aj<|hy (fun _=>aa rfl)<|hy (fun _=>yV (aM rfl rfl (bG (by omega) (by omega))) ((show Value.int .i64 (((i % 4+j:Nat):Int)+1)= .int .i64 ((i % 4+(j+1):Nat):Int)from congrArg (Value.int .i64) (by omega))))<|hy (fun _=>ab rfl)<|ai<|al (ρ' :=[(9,_),(8,_),(38,_),(27,_),(7,_),(6,_),(16,_),(3,_),(5,_),(4,_),(2,_),(0,_)]) ⟨rfl,rfl,rfl,rfl,rfl,rfl,rfl,rfl,rfl,rfl,rfl,rfl,trivial⟩<| ?_
    refine cR (j+1) ⟨rfl,rfl,rfl,rfl,rfl,rfl,rfl,rfl,rfl,rfl,rfl,trivial⟩ [0,0,0] rfl [0,1,2] rfl (by omega) (by omega)
   ·have hj:j=3-i % 4:=by omega
    subst hj
    have hbyte:(eU F)[i]? =some (UInt8.ofNat (qw (F.getD (i/4) 0) (3-i % 4) % 256).toNat):=by
     rw[←Fb _ (by omega),←rI F (i/4) (i % 4) (by omega) (by omega)]
     congr 1;omega
    have hri:List.replicate (32-i) (0:UInt8)=0::List.replicate (32-(i+1)) 0:=by rw[show 32-i=(32-(i+1))+1 by omega];rfl
    have hti:(eU F).take (i+1)=(eU F).take i++[UInt8.ofNat (qw (F.getD (i/4) 0) (3-i % 4) % 256).toNat]:=by
     rw[List.take_add_one,hbyte];rfl
    refine bJ<|ao<|ao<|aB<|ag<|aj<|hy (fun _=>aa rfl)<|hy (fun _=>aa rfl)<|hy (fun _=>zY (b:=256) (by decide) rfl rfl)<|hy (fun _=>z6 rfl Tryz.underlying166 Tryz.underlying5)<|hy (fun _=>b6 rfl rfl Tryz.underlying53 ea rfl (by omega))<| ?_
    refine cL (cG 0 rfl rfl rfl ea rfl (by rw[az,List.length_append,List.length_take,List.length_replicate];omega) ?_)
    refine ai<|al (ρ' :=[(38,_),(8,_),(9,_),(27,_),(7,_),(6,_),(16,_),(3,_),(5,_),(4,_),(2,_),(0,_)]) ⟨rfl,rfl,rfl,rfl,rfl,rfl,rfl,rfl,rfl,rfl,rfl,rfl,trivial⟩<|ak (X' :=[_,_,_]) (S' :=[_,_,_]) (fun _ m=>m)<|aQ<|ag<|aj<|hy (fun _=>aa rfl)<|hy (fun _=>aM rfl rfl (bG (by omega) (by omega)))<|hy (fun _=>ab rfl)<|ai<|al (ρ' :=[(7,_),(38,_),(8,_),(9,_),(27,_),(6,_),(16,_),(3,_),(5,_),(4,_),(2,_),(0,_)]) ⟨rfl,rfl,rfl,rfl,rfl,rfl,rfl,rfl,rfl,rfl,rfl,rfl,trivial⟩<| ?_
    refine ak (fun w m=>m.bQ 0 rfl (show _=aL g6 53 (aV ((eU F).take (i+1)++List.replicate (32-(i+1)) 0))from by rw[hri,Nat.zero_add,hti];exact congrArg (aL _ _) (Bc (by rw[List.length_take];omega)))) ?_
    refine cR (i+1) ⟨rfl,rfl,rfl,rfl,rfl,rfl,rfl,rfl,trivial⟩ [0,0,0] rfl [0,1,2] rfl (by omega) (by omega)
  ·obtain rfl:i=32:=by omega
   refine bx (fun w m=>m.bQ 0 rfl (show _=aL g6 53 (aV (bk l))from by rw[List.take_of_length_le (by omega),←hsha];simp)) ?_
   refine bJ<|ao<|ao<|aB<|ag<|ah<|aj<|hy (fun m=>yV (aU rfl b9 bf (by rw[az,br]) ((m.a6 0 rfl).ax)) ((rfl:_=Value.agg (aV (bk l)).toArray)))<| ?_
   refine cL (aJ 2 rfl rfl rfl bf (by rw[az,br]) aZ rfl ?_)
   refine ai<|al (ρ' :=[(27,_),(7,_),(6,_),(16,_),(3,_),(5,_),(4,_),(2,_),(0,_)]) ⟨rfl,rfl,rfl,rfl,rfl,rfl,rfl,rfl,rfl,trivial⟩<|ak (X' :=[_,_,_]) (S' :=[_,_,_]) (fun _ m=>m)<|ag<|aX<| ?_
   exact fl trivial rfl rfl b9 bf (by rw[az,br]) (fun m=>(m.a6 0 rfl).ax) [] rfl [] rfl ⟨rfl,rfl,rfl⟩
end Go.Proofs.YtmibdabdlgmafaaGreatDoor
end
section
set_option maxRecDepth 20000
set_option maxHeartbeats 4000000
namespace Go.Proofs.YtmibdabdlgmafaaGreatDoor
open Go.Eng Go.Hx
theorem wJ{nm:List UInt8}(hm:nm.length=32):ck Tryz.prog 98 [.agg (aV nm).toArray] [] [] (fun v_ X_ S_=>v_=(.string (strOf (bT nm)))∧X_=[]∧S_=[]):=by
 have hhl:(cf nm).length=64:=by rw[dQ,hm]
 refine aP (N:=6) Tryz.func98 rfl rfl (by simp) fun b=> ?_
 refine ah<|aj<| ?_
 refine hx (cw rfl (fun g1=> ?_))
 refine aO (fun w m=>m.bQ 0 rfl (show _=aL g1 53 (aV nm)from congrArg (aL _ _) (bp _))) ?_
 refine hy (fun _=>ab rfl)<|ai<|ak (X' :=[_]) (S' :=[]) (fun _ m=>m)<|ag<|ah<|aj<|hy (fun m=>aU rfl b9 bf (by rw[az];exact hm) ((m.a6 0 rfl).ax))<| ?_
 refine hx (aq rfl Tryz.call111 (wQ hm) [] rfl [] rfl ?_)
 rintro _ _ _ ⟨rfl,rfl,rfl⟩
 refine hy (fun _=>yV (jA rfl rfl (ja (a:=[116,47]) (b:=cf nm) (by simp[hhl]))) ((show Value.string (strOf [116,47]++strOf (cf nm))= .string (strOf (bT nm))from congrArg Value.string (dA _ _))))<|hy (fun _=>ab rfl)<|ai<|al (ρ' :=[(2,_),(1,_),(0,_)]) ⟨rfl,rfl,rfl,trivial⟩<|ak (X' :=[_]) (S' :=[]) (fun _ m=>m)<|ag<|aX<| ?_
 exact bg trivial rfl rfl [] rfl [] rfl ⟨rfl,rfl,rfl⟩
theorem Gu{x:RX}{kk:Nat}{nm:List UInt8}(ok:yi x.d kk)(hkk:kk≤100000)(hm:nm.length=32)(hrd:(x.d.cF (aH nm)).length≤10000000):ck Tryz.prog 74 [.agg x.cs.toArray,.agg (aV nm).toArray] [] [cX x,fh] (fun v_ X_ S_=>v_=(.tuple #[.string (strOf (x.d.pM nm)),.int .i64 (x.d.fg nm)])∧X_=[]∧S_=[]):=by
 have h32:(aV nm).length=32:=by rw[az,hm]
 refine aP (N:=34) Tryz.func74 rfl rfl (by simp) fun b=> ?_
 refine ah<|aj<| ?_
 refine hx (cw rfl (fun g2=> ?_))
 refine aO (fun w m=>m.bQ 0 rfl (show _=aL g2 39 x.cs from congrArg (aL _ _) (bp _))) ?_
 refine hx (cw rfl (fun g3=> ?_))
 refine aO (fun w m=>m.bQ 0 rfl (show _=aL g3 53 (aV nm)from congrArg (aL _ _) (bp _))) ?_
 refine hy (fun _=>ab rfl)<|hy (fun _=>ab rfl)<|ai<|ak (X' :=[_,_]) (S' :=[_,_]) (fun _ m=>m)<|ag<|ah<|c5 [2,3] [(0,some 1),(1,some 0),(2,none),(3,none),(4,some 2),(5,some 2),(6,some 2),(7,some 2),(8,some 2)] (by kernel_rfl) (by kernel_rfl) rfl 99<|cr (fun m=>yV (aU rfl cd bh rfl ((m.a6 1 rfl).ax)) ((rfl:_=Value.agg x.cs.toArray)))<|cr (fun m=>aU rfl b9 bf h32 ((m.a6 0 rfl).ax))<| ?_
 refine ew (aq rfl Tryz.call29 (lj hm) [] rfl [] rfl ?_)
 rintro _ _ _ ⟨rfl,rfl,rfl⟩
 refine⟨(fun _=>wk [0,0] [0,1] rfl rfl), ?_⟩
 refine ew (aq rfl Tryz.call91 (uS ok hkk (p:=(aH nm))) [] rfl [0] rfl ?_)
 rintro _ _ _ ⟨rfl,rfl,rfl⟩
 refine⟨(fun _=>wk [0,0] [0,1] rfl rfl), ?_⟩
 refine an (aa rfl)<|an (ar rfl rfl)<|an (ar rfl rfl)<|an (ab rfl)<|an (ab rfl)<|bD<|al (ρ' :=[(7,_),(6,_),(5,_),(4,_),(3,_),(2,_),(0,_),(1,_)]) ⟨rfl,rfl,rfl,rfl,rfl,rfl,rfl,rfl,trivial⟩<|ak (X' :=[_,_]) (S' :=[_,_]) (fun _ m=>m)<|ag<|ah<|ah<|aj<|hy (fun _=>aa rfl)<|hy (fun _=>db rfl rfl)<|ai<|al (ρ' :=[(18,_),(7,_),(6,_),(5,_),(4,_),(3,_),(2,_),(0,_),(1,_)]) ⟨rfl,rfl,rfl,rfl,rfl,rfl,rfl,rfl,rfl,trivial⟩<|ag<| ?_
 refine cD rfl (fun h=> ?_) (fun h=> ?_)
 ·rw[jV h,lq (by rw[jV h];exact h)]
  refine ah<|aj<|hy (fun _=>aa rfl)<|hy (fun _=>ab rfl)<|hy (fun _=>ab rfl)<|ai<|al (ρ' :=[(5,_),(4,_),(18,_),(7,_),(6,_),(3,_),(2,_),(0,_),(1,_)]) ⟨rfl,rfl,rfl,rfl,rfl,rfl,rfl,rfl,rfl,trivial⟩<|ag<|aX<|aw<| ?_
  exact dF trivial rfl rfl rfl [] rfl [] rfl ⟨rfl,rfl,rfl⟩
 ·have h1:=Decidable.not_not.1 h
  have hbs:(bytesOf (strOf (x.d.cF (aH nm)))).length=(x.d.cF (aH nm)).length:=rfl
  have hol:=rP (f:=x.d.cF (aH nm)) (most:=4096) (by decide)
  refine aD<|ag<|ah<|aj<|hy (fun _=>aa rfl)<| ?_
  refine hx (Ej rfl Tryz.underlying9 Tryz.underlying27 Tryz.underlying5 (show(x.d.cF (aH nm)).length≤maxLen by unfold maxLen;omega) (fun v22=> ?_))
  refine aA (fun m=>(m.own 0 rfl).slice) ?_
  rintro⟨A_b22,c_b22,rfl,hc_b22⟩
  refine aA (fun m=>(m.ord 0 rfl).2.1) fun hA_b22=> ?_
  refine aO (fun w m=>m.bQ 0 rfl (show _=aG 5 1 (.slice A_b22 (x.d.cF (aH nm)).length c_b22) (x.d.cF (aH nm)).length (aV (x.d.cF (aH nm)))from rfl)) ?_
  refine aO (fun w m=>(m.perm (au [0] _ [_] _ rfl)).freeze) ?_
  refine aO (fun w m=>m.iW 0 rfl .own) ?_
  refine hx (aq rfl Tryz.call156 (EH hc_b22 rfl hrd (show(4096:Int)≤1000000 by decide) (f:=(x.d.cF (aH nm)))) [] rfl [0] rfl ?_)
  rintro _ _ _ ⟨A1,c1,rfl,rfl,rfl,hp⟩
  refine aA (fun m=>gY (m.rd 0 rfl)) ?_
  rintro⟨hl_q,hA_q⟩
  refine hy (fun _=>aa rfl)<|hy (fun _=>ar rfl rfl)<|hy (fun _=>ar rfl rfl)<|hy (fun _=>ab rfl)<|hy (fun _=>ab rfl)<|ai<|al (ρ' :=[(9,_),(8,_),(18,_),(7,_),(6,_),(5,_),(4,_),(3,_),(2,_),(0,_),(1,_)]) ⟨rfl,rfl,rfl,rfl,rfl,rfl,rfl,rfl,rfl,rfl,rfl,trivial⟩<|ak (X' :=[_,_]) (S' :=[_,_,_,_,_]) (fun _ m=>m)<|ag<|ah<|ah<|aj<|hy (fun _=>aa rfl)<|hy (fun _=>db rfl rfl)<|ai<|al (ρ' :=[(27,_),(9,_),(8,_),(18,_),(7,_),(6,_),(5,_),(4,_),(3,_),(2,_),(0,_),(1,_)]) ⟨rfl,rfl,rfl,rfl,rfl,rfl,rfl,rfl,rfl,rfl,rfl,rfl,trivial⟩<|ag<| ?_
  refine cD rfl (fun h2=> ?_) (fun h2=> ?_)
  ·have hE:=nf (d:=x.d) (nm:=nm) h1 (.inl h2)
   rw[hE,lq (by rw[hE];decide)]
   refine ah<|aj<|hy (fun _=>ab rfl)<|hy (fun _=>ab rfl)<|ai<|ag<|aX<|aw<| ?_
   exact dF trivial rfl rfl rfl [] rfl [] rfl ⟨rfl,rfl,rfl⟩
  ·have h2:=Decidable.not_not.1 h2
   refine aD<|ag<|ah<|ah<|c5 [1] [(0,some 0),(2,some 1),(1,none),(3,some 1)] (by kernel_rfl) (by kernel_rfl) rfl 99<|an (aa rfl)<|cr (fun m=>aU rfl b9 bf h32 ((m.a6 0 rfl).ax))<| ?_
   refine ew (aq rfl Tryz.call56 (qI (by omega)) [] rfl [0] rfl ?_)
   rintro _ _ _ ⟨rfl,rfl,rfl⟩
   refine⟨(fun _=>wk [0,0] [0,1,2,3,4] rfl rfl), ?_⟩
   refine an (o1 rfl rfl (br _) hm)<|bD<|al (ρ' :=[(31,_),(27,_),(9,_),(8,_),(18,_),(7,_),(6,_),(5,_),(4,_),(3,_),(2,_),(0,_),(1,_)]) ⟨rfl,rfl,rfl,rfl,rfl,rfl,rfl,rfl,rfl,rfl,rfl,rfl,rfl,trivial⟩<|ak (X' :=[_,_]) (S' :=[_,_,_,_,_]) (fun _ m=>m)<|ag<| ?_
   refine cD rfl (fun h3=> ?_) (fun h3=> ?_)
   ·have hE:=nf (d:=x.d) (nm:=nm) h1 (.inr h3)
    rw[hE,lq (by rw[hE];decide)]
    refine ah<|aj<|hy (fun _=>ab rfl)<|hy (fun _=>ab rfl)<|ai<|ag<|aX<|aw<| ?_
    exact dF trivial rfl rfl rfl [] rfl [] rfl ⟨rfl,rfl,rfl⟩
   ·have hE:=sk (d:=x.d) (nm:=nm) h1 (fun q=>q.elim (fun q=>q h2) h3)
    rw[hE,r7 hE]
    refine aD<|ag<|ah<|aj<|hy (fun _=>aa rfl)<|hy (fun m=>kB rfl Tryz.underlying27 Tryz.underlying5 Tryz.underlying9 (m.rd 0 rfl))<|hy (fun _=>ab rfl)<|hy (fun _=>ab rfl)<|ai<|al (ρ' :=[(5,_),(4,_),(31,_),(27,_),(9,_),(8,_),(18,_),(7,_),(6,_),(3,_),(2,_),(0,_),(1,_)]) ⟨rfl,rfl,rfl,rfl,rfl,rfl,rfl,rfl,rfl,rfl,rfl,rfl,rfl,trivial⟩<|ag<|aX<| ?_
    exact dF trivial rfl rfl rfl [] rfl [] rfl ⟨rfl,rfl,rfl⟩
theorem D7{d:RD}{bb:List UInt8}(h:d.bO (bT (bk bb)) (bK bb)≠0):d.iY bb=(d.write (bT (bk bb)) (bK bb),d.bO (bT (bk bb)) (bK bb)):=by
 unfold RD.iY
 rw[cB]
 exact if_pos h
theorem D8{d:RD}{bb:List UInt8}(h:d.bO (bT (bk bb)) (bK bb)=0)(h2:(d.write (bT (bk bb)) (bK bb)).dp≠0):d.iY bb=((d.write (bT (bk bb)) (bK bb)).sync,(d.write (bT (bk bb)) (bK bb)).dp):=by
 unfold RD.iY
 rw[cB,if_neg (by show¬d.bO _ _≠0;rw[h];decide),cB]
 exact if_pos h2
theorem E8{d:RD}{bb:List UInt8}(h:d.bO (bT (bk bb)) (bK bb)=0)(h2:(d.write (bT (bk bb)) (bK bb)).dp=0)(h3:(d.write (bT (bk bb)) (bK bb)).sync.b7 (bT (bk bb)) (aH (bk bb))≠0):d.iY bb=((d.write (bT (bk bb)) (bK bb)).sync.rename (bT (bk bb)) (aH (bk bb)),(d.write (bT (bk bb)) (bK bb)).sync.b7 (bT (bk bb)) (aH (bk bb))):=by
 unfold RD.iY
 rw[cB,if_neg (by show¬d.bO _ _≠0;rw[h];decide),cB,if_neg (by show¬(d.write _ _).dp≠0;rw[h2];decide),cB]
 exact if_pos h3
theorem EL{d:RD}{bb:List UInt8}(h:d.bO (bT (bk bb)) (bK bb)=0)(h2:(d.write (bT (bk bb)) (bK bb)).dp=0)(h3:(d.write (bT (bk bb)) (bK bb)).sync.b7 (bT (bk bb)) (aH (bk bb))=0):d.iY bb=(((d.write (bT (bk bb)) (bK bb)).sync.rename (bT (bk bb)) (aH (bk bb))).sync,((d.write (bT (bk bb)) (bK bb)).sync.rename (bT (bk bb)) (aH (bk bb))).dp):=by
 unfold RD.iY
 rw[cB,if_neg (by show¬d.bO _ _≠0;rw[h];decide),cB,if_neg (by show¬(d.write _ _).dp≠0;rw[h2];decide),cB,if_neg (by show¬((d.write _ _).sync).b7 _ _≠0;rw[h3];decide),cB]
 by_cases h4:(cH (sG (bT (bk bb)) (aH (bk bb)) (cH (sS (bT (bk bb)) (bK bb) d).1).1).1).2=0
 ·rw[if_neg (fun q=>q h4)]
  exact Prod.ext rfl h4.symm
 ·rw[if_pos h4];rfl
theorem mR{d:RD}{bb:List UInt8}(hn:¬4096<bb.length)(h6:d.fg (bk bb)≠6)(h0:d.fg (bk bb)≠0){d' :RD}{e:Int}(h:d.iY bb=(d',e)):d.put bb=(d',if e=0 then bk bb else ec,e):=by
 unfold RD.put;rw[if_neg hn,if_neg h6,if_neg h0,h]
theorem k0{x:RX}{kk:Nat}{A:Option Addr}{n c:Nat}{bb:List UInt8}(hD:x.d.ok kk)(hkk:kk≤90000)(hc:n≤c)(hl:bb.length=n)(hn:n≤100000):ck Tryz.prog 26 [.agg x.cs.toArray,.slice A n c] [] [cX x,dr 1 A n (aV bb),fh] (fun v_ X_ S_=>∃y,v_=(.tuple #[.agg y.cs.toArray,.agg (aV (x.d.put bb).2.1).toArray,.int .i64 (x.d.put bb).2.2])∧X_=[]∧S_=[cX y]∧(y.d=(x.d.put bb).1)):=by
 have hm:=br bb
 have h32:(aV (bk bb)).length=32:=by rw[az,hm]
 have z32:(aV ec).length=32:=by rw[az,fm]
 obtain⟨s0,s1⟩:=lg bb
 have hrd:(x.d.cF (aH (bk bb))).length≤10000000:=by
  obtain⟨st,hst⟩:=hD
  have:=hst.AS (aH (bk bb))
  omega
 have ok1:=hD.write (p:=bT (bk bb)) (l:=bK bb) (by omega)
 have okr:=hD.qM
 have okr1:=ok1.qM
 have okr2:=ok1.sync.qM
 have okr3:=ok1.sync.rename (a:=bT (bk bb)) (c:=aH (bk bb))|>.qM
 refine aP (N:=74) Tryz.func26 rfl rfl (by simp) fun b=> ?_
 refine aY (fun m=>gY (m.rd 1 rfl)) ?_
 rintro⟨hl_rb,hA_rb⟩
 refine ah<|aj<| ?_
 refine hx (cw rfl (fun g2=> ?_))
 refine aO (fun w m=>m.bQ 0 rfl (show _=aL g2 39 x.cs from congrArg (aL _ _) (bp _))) ?_
 refine hx (aN fG (fun g4=> ?_))
 refine hx (aN cS (fun g5=> ?_))
 refine hy (fun _=>ab rfl)<|ai<|ak (X' :=[_,_,_]) (S' :=[_,_,_]) (fun _ m=>m)<|ag<|ah<|ah<|aj<|hy (fun _=>aa rfl)<|hy (fun _=>aS rfl Tryz.underlying27)<|hy (fun _=>da rfl rfl)<|ai<|al (ρ' :=[(12,_),(6,_),(5,_),(4,_),(2,_),(0,_),(1,_)]) ⟨rfl,rfl,rfl,rfl,rfl,rfl,rfl,trivial⟩<|ag<| ?_
 refine cD rfl (fun hbig=> ?_) (fun hbig=> ?_)
 ·have e0:x.d.put bb=(x.d,ec,3):=v7 (by omega)
  rw[e0]
  refine ah<|aj<|hy (fun m=>yV (aU rfl cd bh rfl ((m.a6 2 rfl).ax)) ((rfl:_=Value.agg x.cs.toArray)))<|hy (fun _=>yV (ep cS rfl (by kernel_rfl)) ((rfl:_=Value.agg (aV ec).toArray)))<| ?_
  refine cL (aJ 1 rfl rfl rfl bh rfl bz rfl ?_)
  refine cL (aJ 1 rfl rfl rfl bf z32 aZ rfl ?_)
  refine hy (fun _=>ab rfl)<|ai<|al (ρ' :=[(6,_),(12,_),(5,_),(4,_),(2,_),(0,_),(1,_)]) ⟨rfl,rfl,rfl,rfl,rfl,rfl,rfl,trivial⟩<|ak (X' :=[_,_,_]) (S' :=[_,_,_]) (fun _ m=>m)<|ag<|aX<|aw<| ?_
  exact fo trivial rfl rfl rfl rfl cd bh rfl (fun m=>(m.a6 1 rfl).ax) b9 bf z32 (fun m=>(m.a6 0 rfl).ax) [] rfl [0] rfl ⟨x,rfl,rfl,rfl,rfl⟩
 ·have hbg:¬4096<bb.length:=by omega
  refine aD<|ag<|ah<|aj<|hy (fun _=>aa rfl)<| ?_
  refine hx (aq rfl Tryz.call56 (qI (by omega)) [] rfl [1] rfl ?_)
  rintro _ _ _ ⟨rfl,rfl,rfl⟩
  refine hx (aN cS (fun g7=> ?_))
  refine cL (aJ 0 rfl rfl rfl bf h32 aZ rfl ?_)
  refine ai<|al (ρ' :=[(7,_),(12,_),(6,_),(5,_),(4,_),(2,_),(0,_),(1,_)]) ⟨rfl,rfl,rfl,rfl,rfl,rfl,rfl,rfl,trivial⟩<|ak (X' :=[_,_,_,_]) (S' :=[_,_,_]) (fun _ m=>m)<|ag<|ah<|aj<|hy (fun m=>yV (aU rfl cd bh rfl ((m.a6 3 rfl).ax)) ((rfl:_=Value.agg x.cs.toArray)))<|hy (fun m=>aU rfl b9 bf h32 ((m.a6 0 rfl).ax))<| ?_
  refine hx (aq rfl Tryz.call74 (Gu okr (by omega) hm hrd) [] rfl [0,2] rfl ?_)
  rintro _ _ _ ⟨rfl,rfl,rfl⟩
  refine hy (fun _=>aa rfl)<|hy (fun _=>ar rfl rfl)<|hy (fun _=>ar rfl rfl)<|hy (fun _=>ab rfl)<|hy (fun _=>ab rfl)<|ai<|al (ρ' :=[(9,_),(7,_),(12,_),(6,_),(5,_),(4,_),(2,_),(0,_),(1,_)]) ⟨rfl,rfl,rfl,rfl,rfl,rfl,rfl,rfl,rfl,trivial⟩<|ak (X' :=[_,_,_,_]) (S' :=[_,_,_]) (fun _ m=>m)<|ag<|ah<|ah<|aj<|hy (fun _=>aa rfl)<|hy (fun _=>cJ rfl rfl)<|ai<|al (ρ' :=[(24,_),(9,_),(7,_),(12,_),(6,_),(5,_),(4,_),(2,_),(0,_),(1,_)]) ⟨rfl,rfl,rfl,rfl,rfl,rfl,rfl,rfl,rfl,rfl,trivial⟩<|ag<| ?_
  refine cD rfl (fun h0=> ?_) (fun h0=> ?_)
  ·have e0:x.d.put bb=(x.d,bk bb,0):=by unfold RD.put;rw[if_neg hbg,if_neg (by rw[h0];decide),if_pos h0]
   rw[e0]
   refine ah<|tw [0,1,2,3] (.alt 0 (.alt 1 (.alt 2 (.alt 3 (.take 4 4<|.done) (.stop)) (.stop)) (.alt 2 (.alt 1 (.alt 3 (.take 4 4<|.done) (.stop)) (.stop)) (.stop))) (.alt 1 (.alt 0 (.alt 2 (.alt 3 (.take 4 4<|.done) (.stop)) (.stop)) (.stop)) (.stop))) (by kernel_rfl) (by kernel_rfl) rfl 1<| ?_
   refine ej ?_ ?_
   ·refine fj<|mD (fun m=>yV (aU rfl cd bh rfl ((m.a6 3 rfl).ax)) ((rfl:_=Value.agg x.cs.toArray)))<|And.intro (fun _=>wk [0,0,0,0] [0,1,2] rfl rfl)<| ?_
    refine ej ?_ ?_
    ·refine fj<|mD (fun m=>aU rfl b9 bf h32 ((m.a6 0 rfl).ax))<|And.intro (fun h=>absurd h (by decide))<| ?_
     refine eb (aJ 2 rfl rfl rfl bh rfl bz rfl ⟨(fun h=>absurd h (by decide)), ?_⟩)
     refine eb (aJ 2 rfl rfl rfl bf h32 aZ rfl ⟨(fun h=>absurd h (by decide)), ?_⟩)
     refine bU (ab rfl)<|eF<|al (ρ' :=[(6,_),(24,_),(9,_),(7,_),(12,_),(5,_),(4,_),(2,_),(0,_),(1,_)]) ⟨rfl,rfl,rfl,rfl,rfl,rfl,rfl,rfl,rfl,rfl,trivial⟩<|ak (X' :=[_,_,_,_]) (S' :=[_,_,_]) (fun _ m=>m)<|ag<|aX<|aw<| ?_
     exact fo trivial rfl rfl rfl rfl cd bh rfl (fun m=>(m.a6 1 rfl).ax) b9 bf h32 (fun m=>(m.a6 0 rfl).ax) [] rfl [0] rfl ⟨x,rfl,rfl,rfl,rfl⟩
    ·refine eb (aJ 2 rfl rfl rfl bh rfl bz rfl ⟨(fun h=>absurd h (by decide)), ?_⟩)
     refine fj<|mD (fun m=>aU rfl b9 bf h32 ((m.a6 1 rfl).ax))<|And.intro (fun h=>absurd h (by decide))<| ?_
     refine eb (aJ 2 rfl rfl rfl bf h32 aZ rfl ⟨(fun h=>absurd h (by decide)), ?_⟩)
     refine bU (ab rfl)<|eF<|al (ρ' :=[(6,_),(24,_),(9,_),(7,_),(12,_),(5,_),(4,_),(2,_),(0,_),(1,_)]) ⟨rfl,rfl,rfl,rfl,rfl,rfl,rfl,rfl,rfl,rfl,trivial⟩<|ak (X' :=[_,_,_,_]) (S' :=[_,_,_]) (fun _ m=>m)<|ag<|aX<|aw<| ?_
     exact fo trivial rfl rfl rfl rfl cd bh rfl (fun m=>(m.a6 1 rfl).ax) b9 bf h32 (fun m=>(m.a6 0 rfl).ax) [] rfl [0] rfl ⟨x,rfl,rfl,rfl,rfl⟩
   ·refine fj<|mD (fun m=>aU rfl b9 bf h32 ((m.a6 0 rfl).ax))<|And.intro (fun _=>wk [0,0,0,0] [0,1,2] rfl rfl)<|fj<|mD (fun m=>yV (aU rfl cd bh rfl ((m.a6 3 rfl).ax)) ((rfl:_=Value.agg x.cs.toArray)))<|And.intro (fun h=>absurd h (by decide))<| ?_
    refine eb (aJ 2 rfl rfl rfl bh rfl bz rfl ⟨(fun h=>absurd h (by decide)), ?_⟩)
    refine eb (aJ 2 rfl rfl rfl bf h32 aZ rfl ⟨(fun h=>absurd h (by decide)), ?_⟩)
    refine bU (ab rfl)<|eF<|al (ρ' :=[(6,_),(24,_),(9,_),(7,_),(12,_),(5,_),(4,_),(2,_),(0,_),(1,_)]) ⟨rfl,rfl,rfl,rfl,rfl,rfl,rfl,rfl,rfl,rfl,trivial⟩<|ak (X' :=[_,_,_,_]) (S' :=[_,_,_]) (fun _ m=>m)<|ag<|aX<|aw<| ?_
    exact fo trivial rfl rfl rfl rfl cd bh rfl (fun m=>(m.a6 1 rfl).ax) b9 bf h32 (fun m=>(m.a6 0 rfl).ax) [] rfl [0] rfl ⟨x,rfl,rfl,rfl,rfl⟩
  ·refine aD<|ag<|ah<|ah<|aj<|hy (fun _=>aa rfl)<|hy (fun _=>cJ rfl rfl)<|ai<|al (ρ' :=[(28,_),(24,_),(9,_),(7,_),(12,_),(6,_),(5,_),(4,_),(2,_),(0,_),(1,_)]) ⟨rfl,rfl,rfl,rfl,rfl,rfl,rfl,rfl,rfl,rfl,rfl,trivial⟩<|ag<| ?_
   refine cD rfl (fun h6=> ?_) (fun h6=> ?_)
   ·have e0:x.d.put bb=(x.d,ec,6):=by unfold RD.put;rw[if_neg hbg,if_pos h6]
    rw[e0,h6]
    refine ah<|aj<|hy (fun m=>yV (aU rfl cd bh rfl ((m.a6 3 rfl).ax)) ((rfl:_=Value.agg x.cs.toArray)))<|hy (fun _=>yV (ep cS rfl (by kernel_rfl)) ((rfl:_=Value.agg (aV ec).toArray)))<|hy (fun _=>aa rfl)<| ?_
    refine cL (aJ 2 rfl rfl rfl bh rfl bz rfl ?_)
    refine cL (aJ 2 rfl rfl rfl bf z32 aZ rfl ?_)
    refine hy (fun _=>ab rfl)<|ai<|al (ρ' :=[(6,_),(28,_),(24,_),(9,_),(7,_),(12,_),(5,_),(4,_),(2,_),(0,_),(1,_)]) ⟨rfl,rfl,rfl,rfl,rfl,rfl,rfl,rfl,rfl,rfl,rfl,trivial⟩<|ak (X' :=[_,_,_,_]) (S' :=[_,_,_]) (fun _ m=>m)<|ag<|aX<|aw<| ?_
    exact fo trivial rfl rfl rfl rfl cd bh rfl (fun m=>(m.a6 1 rfl).ax) b9 bf z32 (fun m=>(m.a6 0 rfl).ax) [] rfl [0] rfl ⟨x,rfl,rfl,rfl,rfl⟩
   ·refine aD<|ag<|ah<|c5 [2,4,5,6,10] [(0,some 3),(1,some 0),(3,some 1),(2,none),(4,none),(5,none),(6,none),(7,some 4),(8,some 4),(9,some 5),(10,none),(11,some 5)] (by kernel_rfl) (by kernel_rfl) rfl 4<|cr (fun m=>yV (aU rfl cd bh rfl ((m.a6 3 rfl).ax)) ((rfl:_=Value.agg x.cs.toArray)))<|cr (fun m=>aU rfl b9 bf h32 ((m.a6 0 rfl).ax))<|an (aa rfl)<| ?_
    refine ew (aq rfl Tryz.call98 (wJ hm) [] rfl [] rfl ?_)
    rintro _ _ _ ⟨rfl,rfl,rfl⟩
    refine⟨(fun _=>wk [0,0,0,0] [0,1,2] rfl rfl), ?_⟩
    refine ew (aq rfl Tryz.call81 (E7 hc (by omega) hl) [] rfl [1] rfl ?_)
    rintro _ _ _ ⟨v,rfl,rfl,rfl⟩
    refine⟨(fun _=>wk [1,1,1,1] [0,1,2] rfl rfl), ?_⟩
    refine cA (fun m=>(m.own 0 rfl).slice) ?_
    rintro⟨A_x,c_x,rfl,hc_x⟩
    refine cA (fun m=>(m.ord 0 rfl).2.1) fun hA_x=> ?_
    refine EN (fun _=>wk [1,1,1,1] [0,1,2] rfl rfl) (fun m=>kB rfl Tryz.underlying27 Tryz.underlying5 Tryz.underlying9 (m.ord 0 rfl))<| ?_
    refine ew (aq rfl Tryz.call31 (mS okr (by omega) (by rw[jq hm];decide) (by omega) (p:=(bT (bk bb))) (bb:=(bK bb))) [] rfl [0] rfl ?_)
    rintro _ _ _ ⟨y,rfl,rfl,rfl,hd1⟩
    refine⟨(fun _=>wk [1,1,1,1] [1,2,3] rfl rfl), ?_⟩
    refine an (aa rfl)<|an (ar rfl rfl)<|an (ar rfl rfl)<| ?_
    refine kE (aJ 4 rfl rfl rfl bh rfl bz rfl ⟨(fun h=>absurd h (by decide)), ?_⟩)
    refine an (ab rfl)<|bD<|al (ρ' :=[(9,_),(28,_),(24,_),(7,_),(12,_),(6,_),(5,_),(4,_),(2,_),(0,_),(1,_)]) ⟨rfl,rfl,rfl,rfl,rfl,rfl,rfl,rfl,rfl,rfl,rfl,trivial⟩<|ak (X' :=[_,_,_,_,_]) (S' :=[_,_,_,_]) (fun _ m=>m)<|ag<|ah<|ah<|aj<|hy (fun _=>aa rfl)<|hy (fun _=>cJ rfl rfl)<|ai<|al (ρ' :=[(43,_),(9,_),(28,_),(24,_),(7,_),(12,_),(6,_),(5,_),(4,_),(2,_),(0,_),(1,_)]) ⟨rfl,rfl,rfl,rfl,rfl,rfl,rfl,rfl,rfl,rfl,rfl,rfl,trivial⟩<|ag<| ?_
    refine cD rfl (fun h1=> ?_) (fun h1=> ?_)
    ·refine aj<|hy (fun m=>yV (aU rfl cd bh rfl ((m.a6 0 rfl).ax)) ((rfl:_=Value.agg y.cs.toArray)))<| ?_
     refine hx (aq rfl Tryz.call99 (sF (by rw[hd1];exact okr1)) [] rfl [0] rfl ?_)
     rintro _ _ _ ⟨y2,rfl,rfl,rfl,hd2⟩
     refine hy (fun _=>aa rfl)<|hy (fun _=>ar rfl rfl)<|hy (fun _=>ar rfl rfl)<| ?_
     refine cL (aJ 0 rfl rfl rfl bh rfl bz rfl ?_)
     refine hy (fun _=>ab rfl)<|ai<|al (ρ' :=[(9,_),(43,_),(28,_),(24,_),(7,_),(12,_),(6,_),(5,_),(4,_),(2,_),(0,_),(1,_)]) ⟨rfl,rfl,rfl,rfl,rfl,rfl,rfl,rfl,rfl,rfl,rfl,rfl,trivial⟩<|ak (X' :=[_,_,_,_,_]) (S' :=[_,_,_,_,_]) (fun _ m=>m)<|ag<|ah<|ah<|aj<|hy (fun _=>aa rfl)<|hy (fun _=>cJ rfl rfl)<|ai<|al (ρ' :=[(50,_),(9,_),(43,_),(28,_),(24,_),(7,_),(12,_),(6,_),(5,_),(4,_),(2,_),(0,_),(1,_)]) ⟨rfl,rfl,rfl,rfl,rfl,rfl,rfl,rfl,rfl,rfl,rfl,rfl,rfl,trivial⟩<|ag<| ?_
     refine cD rfl (fun h2=> ?_) (fun h2=> ?_)
     ·refine c5 [2,4,5,9] [(0,some 2),(1,some 0),(3,some 1),(2,none),(4,none),(5,none),(6,some 3),(7,some 3),(8,some 4),(9,none),(10,some 4)] (by kernel_rfl) (by kernel_rfl) rfl 3<|cr (fun m=>yV (aU rfl cd bh rfl ((m.a6 0 rfl).ax)) ((rfl:_=Value.agg y2.cs.toArray)))<|cr (fun m=>aU rfl b9 bf h32 ((m.a6 2 rfl).ax))<|cr (fun m=>aU rfl b9 bf h32 ((m.a6 2 rfl).ax))<| ?_
      refine ew (aq rfl Tryz.call98 (wJ hm) [] rfl [] rfl ?_)
      rintro _ _ _ ⟨rfl,rfl,rfl⟩
      refine⟨(fun _=>wk [0,0,0,0,0] [0,1,2,3,4] rfl rfl), ?_⟩
      refine ew (aq rfl Tryz.call29 (lj hm) [] rfl [] rfl ?_)
      rintro _ _ _ ⟨rfl,rfl,rfl⟩
      refine⟨(fun _=>wk [0,0,0,0,0] [0,1,2,3,4] rfl rfl), ?_⟩
      refine ew (aq rfl Tryz.call100 (zO (by rw[hd2,hd1];exact okr2) (show kk+1≤100000 by omega) (by rw[ee hm];decide) (a:=(bT (bk bb))) (c:=(aH (bk bb)))) [] rfl [0] rfl ?_)
      rintro _ _ _ ⟨y3,rfl,rfl,rfl,hd3⟩
      refine⟨(fun _=>wk [0,0,0,0,0] [1,2,3,4,5] rfl rfl), ?_⟩
      refine an (aa rfl)<|an (ar rfl rfl)<|an (ar rfl rfl)<| ?_
      refine kE (aJ 0 rfl rfl rfl bh rfl bz rfl ⟨(fun h=>absurd h (by decide)), ?_⟩)
      refine an (ab rfl)<|bD<|al (ρ' :=[(9,_),(50,_),(43,_),(28,_),(24,_),(7,_),(12,_),(6,_),(5,_),(4,_),(2,_),(0,_),(1,_)]) ⟨rfl,rfl,rfl,rfl,rfl,rfl,rfl,rfl,rfl,rfl,rfl,rfl,rfl,trivial⟩<|ak (X' :=[_,_,_,_,_]) (S' :=[_,_,_,_,_,_]) (fun _ m=>m)<|ag<|ah<|ah<|aj<|hy (fun _=>aa rfl)<|hy (fun _=>cJ rfl rfl)<|ai<|al (ρ' :=[(61,_),(9,_),(50,_),(43,_),(28,_),(24,_),(7,_),(12,_),(6,_),(5,_),(4,_),(2,_),(0,_),(1,_)]) ⟨rfl,rfl,rfl,rfl,rfl,rfl,rfl,rfl,rfl,rfl,rfl,rfl,rfl,rfl,trivial⟩<|ag<| ?_
      refine cD rfl (fun h3=> ?_) (fun h3=> ?_)
      ·have hP:=EL (d:=x.d) (bb:=bb) h1 (by rw[←hd1];exact h2) (by rw[←hd1,←hd2];exact h3)
       rw[←hd1,←hd2,←hd3]at hP
       have e0:=mR hbg h6 h0 hP
       refine aj<|hy (fun m=>yV (aU rfl cd bh rfl ((m.a6 0 rfl).ax)) ((rfl:_=Value.agg y3.cs.toArray)))<| ?_
       refine hx (aq rfl Tryz.call99 (sF (by rw[hd3,hd2,hd1];exact okr3)) [] rfl [0] rfl ?_)
       rintro _ _ _ ⟨y4,rfl,rfl,rfl,hd4⟩
       refine hy (fun _=>aa rfl)<|hy (fun _=>ar rfl rfl)<|hy (fun _=>ar rfl rfl)<| ?_
       refine cL (aJ 0 rfl rfl rfl bh rfl bz rfl ?_)
       refine hy (fun _=>ab rfl)<|ai<|al (ρ' :=[(9,_),(61,_),(50,_),(43,_),(28,_),(24,_),(7,_),(12,_),(6,_),(5,_),(4,_),(2,_),(0,_),(1,_)]) ⟨rfl,rfl,rfl,rfl,rfl,rfl,rfl,rfl,rfl,rfl,rfl,rfl,rfl,rfl,trivial⟩<|ak (X' :=[_,_,_,_,_]) (S' :=[_,_,_,_,_,_,_]) (fun _ m=>m)<|ag<|ah<|ah<|aj<|hy (fun _=>aa rfl)<|hy (fun _=>db rfl rfl)<|ai<|al (ρ' :=[(68,_),(9,_),(61,_),(50,_),(43,_),(28,_),(24,_),(7,_),(12,_),(6,_),(5,_),(4,_),(2,_),(0,_),(1,_)]) ⟨rfl,rfl,rfl,rfl,rfl,rfl,rfl,rfl,rfl,rfl,rfl,rfl,rfl,rfl,rfl,trivial⟩<|ag<| ?_
       rw[←hd4]at e0
       refine cD rfl (fun h4=> ?_) (fun h4=> ?_)
       ·rw[if_neg h4]at e0
        rw[e0]
        refine ah<|aj<|hy (fun m=>yV (aU rfl cd bh rfl ((m.a6 0 rfl).ax)) ((rfl:_=Value.agg y4.cs.toArray)))<|hy (fun _=>yV (ep cS rfl (by kernel_rfl)) ((rfl:_=Value.agg (aV ec).toArray)))<|hy (fun _=>aa rfl)<| ?_
        refine cL (aJ 4 rfl rfl rfl bh rfl bz rfl ?_)
        refine cL (aJ 4 rfl rfl rfl bf z32 aZ rfl ?_)
        refine hy (fun _=>ab rfl)<|ai<|al (ρ' :=[(6,_),(68,_),(9,_),(61,_),(50,_),(43,_),(28,_),(24,_),(7,_),(12,_),(5,_),(4,_),(2,_),(0,_),(1,_)]) ⟨rfl,rfl,rfl,rfl,rfl,rfl,rfl,rfl,rfl,rfl,rfl,rfl,rfl,rfl,rfl,trivial⟩<|ak (X' :=[_,_,_,_,_]) (S' :=[_,_,_,_,_,_,_]) (fun _ m=>m)<|ag<|aX<|aw<| ?_
        exact fo trivial rfl rfl rfl rfl cd bh rfl (fun m=>(m.a6 1 rfl).ax) b9 bf z32 (fun m=>(m.a6 0 rfl).ax) [] rfl [0] rfl ⟨y4,rfl,rfl,rfl,rfl⟩
       ·have h4:=Decidable.not_not.1 h4
        rw[if_pos h4,h4]at e0
        rw[e0]
        refine aD<|ag<|ah<|tw [0,1,2,3] (.alt 0 (.alt 1 (.alt 2 (.alt 3 (.take 4 4<|.done) (.stop)) (.stop)) (.alt 2 (.alt 1 (.alt 3 (.take 4 4<|.done) (.stop)) (.stop)) (.stop))) (.alt 1 (.alt 0 (.alt 2 (.alt 3 (.take 4 4<|.done) (.stop)) (.stop)) (.stop)) (.stop))) (by kernel_rfl) (by kernel_rfl) rfl 1<| ?_
        refine ej ?_ ?_
        ·refine fj<|mD (fun m=>yV (aU rfl cd bh rfl ((m.a6 0 rfl).ax)) ((rfl:_=Value.agg y4.cs.toArray)))<|And.intro (fun _=>wk [0,0,0,0,0] [0,1,2,3,4,5,6] rfl rfl)<| ?_
         refine ej ?_ ?_
         ·refine fj<|mD (fun m=>aU rfl b9 bf h32 ((m.a6 2 rfl).ax))<|And.intro (fun h=>absurd h (by decide))<| ?_
          refine eb (aJ 4 rfl rfl rfl bh rfl bz rfl ⟨(fun h=>absurd h (by decide)), ?_⟩)
          refine eb (aJ 4 rfl rfl rfl bf h32 aZ rfl ⟨(fun h=>absurd h (by decide)), ?_⟩)
          refine bU (ab rfl)<|eF<|al (ρ' :=[(6,_),(68,_),(9,_),(61,_),(50,_),(43,_),(28,_),(24,_),(7,_),(12,_),(5,_),(4,_),(2,_),(0,_),(1,_)]) ⟨rfl,rfl,rfl,rfl,rfl,rfl,rfl,rfl,rfl,rfl,rfl,rfl,rfl,rfl,rfl,trivial⟩<|ak (X' :=[_,_,_,_,_]) (S' :=[_,_,_,_,_,_,_]) (fun _ m=>m)<|ag<|aX<| ?_
          exact fo trivial rfl rfl rfl rfl cd bh rfl (fun m=>(m.a6 1 rfl).ax) b9 bf h32 (fun m=>(m.a6 0 rfl).ax) [] rfl [0] rfl ⟨y4,rfl,rfl,rfl,rfl⟩
         ·refine eb (aJ 4 rfl rfl rfl bh rfl bz rfl ⟨(fun h=>absurd h (by decide)), ?_⟩)
          refine fj<|mD (fun m=>aU rfl b9 bf h32 ((m.a6 3 rfl).ax))<|And.intro (fun h=>absurd h (by decide))<| ?_
          refine eb (aJ 4 rfl rfl rfl bf h32 aZ rfl ⟨(fun h=>absurd h (by decide)), ?_⟩)
          refine bU (ab rfl)<|eF<|al (ρ' :=[(6,_),(68,_),(9,_),(61,_),(50,_),(43,_),(28,_),(24,_),(7,_),(12,_),(5,_),(4,_),(2,_),(0,_),(1,_)]) ⟨rfl,rfl,rfl,rfl,rfl,rfl,rfl,rfl,rfl,rfl,rfl,rfl,rfl,rfl,rfl,trivial⟩<|ak (X' :=[_,_,_,_,_]) (S' :=[_,_,_,_,_,_,_]) (fun _ m=>m)<|ag<|aX<| ?_
          exact fo trivial rfl rfl rfl rfl cd bh rfl (fun m=>(m.a6 1 rfl).ax) b9 bf h32 (fun m=>(m.a6 0 rfl).ax) [] rfl [0] rfl ⟨y4,rfl,rfl,rfl,rfl⟩
        ·refine fj<|mD (fun m=>aU rfl b9 bf h32 ((m.a6 2 rfl).ax))<|And.intro (fun _=>wk [0,0,0,0,0] [0,1,2,3,4,5,6] rfl rfl)<|fj<|mD (fun m=>yV (aU rfl cd bh rfl ((m.a6 0 rfl).ax)) ((rfl:_=Value.agg y4.cs.toArray)))<|And.intro (fun h=>absurd h (by decide))<| ?_
         refine eb (aJ 4 rfl rfl rfl bh rfl bz rfl ⟨(fun h=>absurd h (by decide)), ?_⟩)
         refine eb (aJ 4 rfl rfl rfl bf h32 aZ rfl ⟨(fun h=>absurd h (by decide)), ?_⟩)
         refine bU (ab rfl)<|eF<|al (ρ' :=[(6,_),(68,_),(9,_),(61,_),(50,_),(43,_),(28,_),(24,_),(7,_),(12,_),(5,_),(4,_),(2,_),(0,_),(1,_)]) ⟨rfl,rfl,rfl,rfl,rfl,rfl,rfl,rfl,rfl,rfl,rfl,rfl,rfl,rfl,rfl,trivial⟩<|ak (X' :=[_,_,_,_,_]) (S' :=[_,_,_,_,_,_,_]) (fun _ m=>m)<|ag<|aX<| ?_
         exact fo trivial rfl rfl rfl rfl cd bh rfl (fun m=>(m.a6 1 rfl).ax) b9 bf h32 (fun m=>(m.a6 0 rfl).ax) [] rfl [0] rfl ⟨y4,rfl,rfl,rfl,rfl⟩
      ·have hP:=E8 (d:=x.d) (bb:=bb) h1 (by rw[←hd1];exact h2) (by rw[←hd1,←hd2];exact h3)
       rw[←hd1,←hd2,←hd3]at hP
       have e0:=mR hbg h6 h0 hP
       rw[if_neg h3]at e0
       rw[e0]
       refine aD<|ag<|ah<|ah<|aj<|hy (fun _=>aa rfl)<|hy (fun _=>db rfl rfl)<|ai<|al (ρ' :=[(68,_),(61,_),(9,_),(50,_),(43,_),(28,_),(24,_),(7,_),(12,_),(6,_),(5,_),(4,_),(2,_),(0,_),(1,_)]) ⟨rfl,rfl,rfl,rfl,rfl,rfl,rfl,rfl,rfl,rfl,rfl,rfl,rfl,rfl,rfl,trivial⟩<|ag<| ?_
       refine ia rfl ((decide_eq_true h3)) ?_
       refine ah<|aj<|hy (fun m=>yV (aU rfl cd bh rfl ((m.a6 0 rfl).ax)) ((rfl:_=Value.agg y3.cs.toArray)))<|hy (fun _=>yV (ep cS rfl (by kernel_rfl)) ((rfl:_=Value.agg (aV ec).toArray)))<|hy (fun _=>aa rfl)<| ?_
       refine cL (aJ 4 rfl rfl rfl bh rfl bz rfl ?_)
       refine cL (aJ 4 rfl rfl rfl bf z32 aZ rfl ?_)
       refine hy (fun _=>ab rfl)<|ai<|al (ρ' :=[(6,_),(68,_),(61,_),(9,_),(50,_),(43,_),(28,_),(24,_),(7,_),(12,_),(5,_),(4,_),(2,_),(0,_),(1,_)]) ⟨rfl,rfl,rfl,rfl,rfl,rfl,rfl,rfl,rfl,rfl,rfl,rfl,rfl,rfl,rfl,trivial⟩<|ak (X' :=[_,_,_,_,_]) (S' :=[_,_,_,_,_,_]) (fun _ m=>m)<|ag<|aX<|aw<| ?_
       exact fo trivial rfl rfl rfl rfl cd bh rfl (fun m=>(m.a6 1 rfl).ax) b9 bf z32 (fun m=>(m.a6 0 rfl).ax) [] rfl [0] rfl ⟨y3,rfl,rfl,rfl,rfl⟩
     ·have hP:=D8 (d:=x.d) (bb:=bb) h1 (by rw[←hd1];exact h2)
      rw[←hd1,←hd2]at hP
      have e0:=mR hbg h6 h0 hP
      rw[if_neg h2]at e0
      rw[e0]
      refine aD<|ag<|ah<|ah<|aj<|hy (fun _=>aa rfl)<|hy (fun _=>cJ rfl rfl)<|ai<|al (ρ' :=[(61,_),(50,_),(9,_),(43,_),(28,_),(24,_),(7,_),(12,_),(6,_),(5,_),(4,_),(2,_),(0,_),(1,_)]) ⟨rfl,rfl,rfl,rfl,rfl,rfl,rfl,rfl,rfl,rfl,rfl,rfl,rfl,rfl,trivial⟩<|ag<| ?_
      refine dB rfl ((decide_eq_false h2)) ?_
      refine aD<|ag<|ah<|ah<|aj<|hy (fun _=>aa rfl)<|hy (fun _=>db rfl rfl)<|ai<|al (ρ' :=[(68,_),(61,_),(50,_),(9,_),(43,_),(28,_),(24,_),(7,_),(12,_),(6,_),(5,_),(4,_),(2,_),(0,_),(1,_)]) ⟨rfl,rfl,rfl,rfl,rfl,rfl,rfl,rfl,rfl,rfl,rfl,rfl,rfl,rfl,rfl,trivial⟩<|ag<| ?_
      refine ia rfl ((decide_eq_true h2)) ?_
      refine ah<|aj<|hy (fun m=>yV (aU rfl cd bh rfl ((m.a6 0 rfl).ax)) ((rfl:_=Value.agg y2.cs.toArray)))<|hy (fun _=>yV (ep cS rfl (by kernel_rfl)) ((rfl:_=Value.agg (aV ec).toArray)))<|hy (fun _=>aa rfl)<| ?_
      refine cL (aJ 4 rfl rfl rfl bh rfl bz rfl ?_)
      refine cL (aJ 4 rfl rfl rfl bf z32 aZ rfl ?_)
      refine hy (fun _=>ab rfl)<|ai<|al (ρ' :=[(6,_),(68,_),(61,_),(50,_),(9,_),(43,_),(28,_),(24,_),(7,_),(12,_),(5,_),(4,_),(2,_),(0,_),(1,_)]) ⟨rfl,rfl,rfl,rfl,rfl,rfl,rfl,rfl,rfl,rfl,rfl,rfl,rfl,rfl,rfl,trivial⟩<|ak (X' :=[_,_,_,_,_]) (S' :=[_,_,_,_,_]) (fun _ m=>m)<|ag<|aX<|aw<| ?_
      exact fo trivial rfl rfl rfl rfl cd bh rfl (fun m=>(m.a6 1 rfl).ax) b9 bf z32 (fun m=>(m.a6 0 rfl).ax) [] rfl [0] rfl ⟨y2,rfl,rfl,rfl,rfl⟩
    ·have hP:=D7 (d:=x.d) (bb:=bb) h1
     have e0:=mR hbg h6 h0 hP
     rw[if_neg h1]at e0
     rw[e0,←hd1]
     refine aD<|ag<|ah<|ah<|aj<|hy (fun _=>aa rfl)<|hy (fun _=>cJ rfl rfl)<|ai<|al (ρ' :=[(50,_),(43,_),(9,_),(28,_),(24,_),(7,_),(12,_),(6,_),(5,_),(4,_),(2,_),(0,_),(1,_)]) ⟨rfl,rfl,rfl,rfl,rfl,rfl,rfl,rfl,rfl,rfl,rfl,rfl,rfl,trivial⟩<|ag<| ?_
     refine dB rfl ((decide_eq_false h1)) ?_
     refine aD<|ag<|ah<|ah<|aj<|hy (fun _=>aa rfl)<|hy (fun _=>cJ rfl rfl)<|ai<|al (ρ' :=[(61,_),(50,_),(43,_),(9,_),(28,_),(24,_),(7,_),(12,_),(6,_),(5,_),(4,_),(2,_),(0,_),(1,_)]) ⟨rfl,rfl,rfl,rfl,rfl,rfl,rfl,rfl,rfl,rfl,rfl,rfl,rfl,rfl,trivial⟩<|ag<| ?_
     refine dB rfl ((decide_eq_false h1)) ?_
     refine aD<|ag<|ah<|ah<|aj<|hy (fun _=>aa rfl)<|hy (fun _=>db rfl rfl)<|ai<|al (ρ' :=[(68,_),(61,_),(50,_),(43,_),(9,_),(28,_),(24,_),(7,_),(12,_),(6,_),(5,_),(4,_),(2,_),(0,_),(1,_)]) ⟨rfl,rfl,rfl,rfl,rfl,rfl,rfl,rfl,rfl,rfl,rfl,rfl,rfl,rfl,rfl,trivial⟩<|ag<| ?_
     refine ia rfl ((decide_eq_true h1)) ?_
     refine ah<|aj<|hy (fun m=>yV (aU rfl cd bh rfl ((m.a6 0 rfl).ax)) ((rfl:_=Value.agg y.cs.toArray)))<|hy (fun _=>yV (ep cS rfl (by kernel_rfl)) ((rfl:_=Value.agg (aV ec).toArray)))<|hy (fun _=>aa rfl)<| ?_
     refine cL (aJ 4 rfl rfl rfl bh rfl bz rfl ?_)
     refine cL (aJ 4 rfl rfl rfl bf z32 aZ rfl ?_)
     refine hy (fun _=>ab rfl)<|ai<|al (ρ' :=[(6,_),(68,_),(61,_),(50,_),(43,_),(9,_),(28,_),(24,_),(7,_),(12,_),(5,_),(4,_),(2,_),(0,_),(1,_)]) ⟨rfl,rfl,rfl,rfl,rfl,rfl,rfl,rfl,rfl,rfl,rfl,rfl,rfl,rfl,rfl,trivial⟩<|ak (X' :=[_,_,_,_,_]) (S' :=[_,_,_,_]) (fun _ m=>m)<|ag<|aX<|aw<| ?_
     exact fo trivial rfl rfl rfl rfl cd bh rfl (fun m=>(m.a6 1 rfl).ax) b9 bf z32 (fun m=>(m.a6 0 rfl).ax) [] rfl [0] rfl ⟨y,rfl,rfl,rfl,rfl⟩
end Go.Proofs.YtmibdabdlgmafaaGreatDoor
end
section
set_option maxRecDepth 20000
set_option maxHeartbeats 4000000
namespace Go.Proofs.YtmibdabdlgmafaaGreatDoor
open Go.Eng Go.Hx
def jQ(acc:List (List UInt8))(p:List UInt8):List (List UInt8):=match jF p with|some nm=>dz acc nm|none=>acc
def cU(d:RD)(i:Nat):List (List UInt8):=((d.seen.take i).map (·.1)).foldl jQ []
theorem mC{d:RD}{i:Nat}{x:FP}(h:d.seen[i]? =some x):cU d (i+1)=jQ (cU d i) x.1:=by
 unfold cU
 rw[List.take_add_one,h,List.map_append,List.foldl_append]
 rfl
theorem ze{acc:List (List UInt8)}{p:List UInt8}(h:j8 acc):j8 (jQ acc p):=by
 unfold jQ
 cases hq:jF p with
 |none=>exact h
 |some nm=>
  have hm:nm.length=32:=by
   rw[←jI]at hq
   exact(ez hq).1
  exact uu h hm
theorem kX(d:RD):∀i,j8 (cU d i)
 |0=>fun x h=>(List.not_mem_nil h).elim
 |i+1=>by
  rcases Nat.lt_or_ge i d.seen.length with h|h
  ·rw[mC (List.getElem?_eq_getElem h)]
   exact ze (kX d i)
  ·have:cU d (i+1)=cU d i:=by unfold cU;rw[List.take_of_length_le (by omega),List.take_of_length_le h]
   rw[this];exact kX d i
theorem yL{A:Option Addr}{n c:Nat}{ds:List (List UInt8)}{d:List UInt8}(hD:j8 ds)(hd:d.length=32)(hn:n≤1000000):ck Tryz.prog 96 [.slice A n c,.agg (aV d).toArray] [aG 53 32 (.slice A n c) n (dc ds)] [] (fun v_ X_ S_=>∃A1 n1 c1,v_=(.slice A1 n1 c1)∧X_=[aG 53 32 (.slice A1 n1 c1) n1 (dc (dz ds d))]∧S_=[]∧(n1=(dz ds d).length)):=by
 have h32:(aV d).length=32:=by rw[az,hd]
 refine aP (N:=53) Tryz.func96 rfl rfl (by simp) fun b=> ?_
 refine aY (fun m=>A8 (m.ord 0 rfl) hD) fun hln=> ?_
 refine aY (fun m=>(Own.rd (m.own 0 rfl)).2.1) fun hco=> ?_
 refine aY (fun m=>(m.ord 0 rfl).2.1) fun hA_o=> ?_
 refine ah<|aj<| ?_
 refine hx (cw rfl (fun g3=> ?_))
 refine aO (fun w m=>m.bQ 0 rfl (show _=aL g3 53 (aV d)from congrArg (aL _ _) (bp _))) ?_
 refine hy (fun _=>ab rfl)<|ai<|ak (X' :=[_,_]) (S' :=[]) (fun _ m=>m)<|ag<|ah<|aj<|hy (fun _=>ab rfl)<|ai<|ag<|ah<|aI<| ?_
 refine dx (fun k=>n-k) (fun k=>[(5,.int .i64 (k:Nat))]) (fun k=>[]) (fun k=>[]) (fun k=>k≤n∧∀i,i<k→cb (ds.getD i []) d<0) 0 [(4,_),(3,_),(0,_),(1,_)] ⟨rfl,rfl,rfl,rfl,trivial⟩ [] rfl [] rfl (⟨Nat.zero_le _,fun i hi=>absurd hi (Nat.not_lt_zero _)⟩) ⟨rfl,trivial⟩ (fun k ⟨hkn,hlt⟩=> ?_)
 refine ah<|ah<|c5 [10] [(0,some 0),(1,some 0),(2,some 0),(3,some 0),(4,some 0),(5,some 0),(6,some 0),(7,some 0),(8,some 0),(9,some 0),(10,none),(11,some 1),(12,some 1)] (by kernel_rfl) (by kernel_rfl) rfl 99<|an (aa rfl)<|an (aa rfl)<|an (aS rfl Tryz.underlying33)<|an (bq rfl rfl)<|an (aa rfl)<| ?_
 refine hZ 11 rfl (fun h1=> ?_) (fun h1=> ?_)
 ·have hkl:k<ds.length:=by omega
  have hdk:=eL hD hkl
  refine bj (o:=_) rfl rfl rfl (aa rfl)<|bj (o:=_) rfl rfl rfl (aa rfl)<|bj (o:=_) rfl rfl rfl (cq rfl rfl Tryz.underlying33 bf hA_o rfl (by omega))<|iS (o:=_) rfl rfl rfl (fun m=>aU rfl b9 bf (by rw[az];exact hdk) ((m.ord 1 rfl).im hD hkl))<|iS (o:=_) rfl rfl rfl (fun m=>aU rfl b9 bf h32 ((m.a6 0 rfl).ax))<| ?_
  refine tr (o:=_) rfl rfl rfl (aq rfl Tryz.call171 (ye hdk hd) [] rfl [] rfl ?_)
  rintro _ _ _ ⟨rfl,rfl,rfl⟩
  refine⟨(fun _=>wk [0,0] [] rfl rfl), ?_⟩
  refine bj (o:=_) rfl rfl rfl (bq rfl rfl)<|an (bM rfl rfl)<|bD<|al (ρ' :=[(19,_),(5,_),(4,_),(3,_),(0,_),(1,_)]) ⟨rfl,rfl,rfl,rfl,rfl,rfl,trivial⟩<|ak (X' :=[_,_]) (S' :=[]) (fun _ m=>m)<|ag<| ?_
  refine cD rfl (fun h2=> ?_) (fun h2=> ?_)
  ·have hlt2:∀i,i<k+1→cb (ds.getD i []) d<0:=fun i hi=>by
    rcases Nat.lt_or_ge i k with h|h
    ·exact hlt i h
    ·rw[show i=k by omega];exact h2
   refine aD<|ag<|aI<|aj<|hy (fun _=>aa rfl)<|hy (fun _=>aM rfl rfl (bG (by omega) (by omega)))<|hy (fun _=>ab rfl)<|ai<|al (ρ' :=[(5,_),(19,_),(4,_),(3,_),(0,_),(1,_)]) ⟨rfl,rfl,rfl,rfl,rfl,rfl,trivial⟩<|aQ<| ?_
   refine cR (k+1) ⟨rfl,rfl,rfl,rfl,rfl,trivial⟩ [0,0] rfl [] rfl (⟨by omega,hlt2⟩) (by omega)
  ·have heq:=o4 ds d k (by omega) hlt (fun h=>h2)
   refine bJ<|ao<|ao<|aB<|ag<|ah<|ah<|c5 [] [(0,some 0),(1,some 0),(2,some 0),(3,some 0),(4,some 0),(5,some 0),(6,some 0),(7,some 0),(8,some 0),(9,some 0),(10,some 0),(11,some 0),(12,some 0),(13,some 0),(14,some 0),(15,some 0)] (by kernel_rfl) (by kernel_rfl) rfl 99<|an (aa rfl)<|an (aa rfl)<|an (aS rfl Tryz.underlying33)<|an (bq rfl rfl)<|an (aa rfl)<| ?_
   refine hZ 26 rfl (fun h3=> ?_) (fun h3=> ?_)
   ·have hkl3:k<ds.length:=by omega
    have hdk3:=eL hD hkl3
    refine bj (o:=_) rfl rfl rfl (aa rfl)<|bj (o:=_) rfl rfl rfl (aa rfl)<|bj (o:=_) rfl rfl rfl (aa rfl)<|bj (o:=_) rfl rfl rfl (aS rfl Tryz.underlying33)<|bj (o:=_) rfl rfl rfl (cn rfl rfl (bG (by omega) (by omega)))<|bj (o:=_) rfl rfl rfl (uB rfl rfl)<|bj (o:=_) rfl rfl rfl (cq rfl rfl Tryz.underlying33 bf hA_o (show((k:Nat):Int)=min (k:Int) ((n:Int)-1) by omega) (by omega))<|iS (o:=_) rfl rfl rfl (fun m=>aU rfl b9 bf (by rw[az];exact hdk3) ((m.ord 1 rfl).im hD hkl3))<|iS (o:=_) rfl rfl rfl (fun m=>aU rfl b9 bf h32 ((m.a6 0 rfl).ax))<|bj (o:=_) rfl rfl rfl (oZ rfl rfl hdk3 hd)<|an (bM rfl rfl)<|bD<|al (ρ' :=[(37,_),(19,_),(5,_),(4,_),(3,_),(0,_),(1,_)]) ⟨rfl,rfl,rfl,rfl,rfl,rfl,rfl,trivial⟩<|ag<| ?_
    refine cD rfl (fun h4=> ?_) (fun h4=> ?_)
    ·rw[if_pos ⟨hkl3,h4⟩]at heq
     rw[heq]
     refine ah<|aj<|hy (fun _=>aa rfl)<|hy (fun _=>ab rfl)<|ai<|al (ρ' :=[(4,_),(37,_),(19,_),(5,_),(3,_),(0,_),(1,_)]) ⟨rfl,rfl,rfl,rfl,rfl,rfl,rfl,trivial⟩<|ag<|aX<|aw<| ?_
     exact bg trivial rfl rfl [1] rfl [] rfl ⟨_,_,_,rfl,rfl,rfl,hln.symm⟩
    ·have hne:¬(k<ds.length∧ds.getD k []=d):=fun h=>h4 h.2
     rw[if_neg hne]at heq
     rw[heq]
     refine aD<|ag<|ah<|aj<|hy (fun _=>ab rfl)<|ai<|ag<|ah<|aj<|hy (fun _=>aa rfl)<|hy (fun _=>aa rfl)<|hy (fun _=>aa rfl)<|hy (fun _=>kZ rfl rfl Tryz.underlying33 bf (show((k:Nat):Int)=_ by omega) (by omega))<| ?_
     refine aO (fun w m=>m.dm (r' :=aG 53 32 (.slice none 0 0) 0 []) (.refl _ _) (Own.nil _ _ _ _) (fun k hk=>hk.elim)) ?_
     refine hx (bu 0 rfl rfl rfl Tryz.underlying33 Tryz.underlying33 (by exact .inl rfl) cS rfl (fun m=>Src.bP ((m.ord 2 rfl).oY hD (show k≤n by omega))) cP (by unfold maxLen;omega) (by omega) (fun u=> ?_))
     refine aA (fun m=>(m.own 0 rfl).slice) ?_
     rintro⟨A_z,c_z,rfl,hc_z⟩
     refine aA (fun m=>(m.ord 0 rfl).2.1) fun hA_z=> ?_
     refine hy (fun _=>ab rfl)<|ai<|al (ρ' :=[(6,_),(37,_),(19,_),(5,_),(4,_),(3,_),(0,_),(1,_)]) ⟨rfl,rfl,rfl,rfl,rfl,rfl,rfl,rfl,trivial⟩<|ak (X' :=[_,_,_]) (S' :=[]) (fun _ m=>m)<|ag<|ah<|aj<|hy (fun _=>aa rfl)<|hy (fun m=>aU rfl b9 bf h32 ((m.a6 1 rfl).ax))<| ?_
     refine hx (b5 Tryz.underlying33 cS rfl rfl rfl (by simpa[Value.cells,B8]using h32) (by decide) (by decide) (fun g46=> ?_))
     have hA_b46:0<1→(some (⟨g46,0,none⟩:Addr))≠none:=fun _ h=>by cases h
     refine aO (fun w m=>m.bQ 0 rfl (show _=aG 53 32 (.slice (some ⟨g46,0,none⟩) 1 1) 1 (dc [d])from rfl)) ?_
     refine hx (bu 1 rfl rfl rfl Tryz.underlying33 Tryz.underlying33 (by exact .inl rfl) cS rfl (fun m=>Src.bP (m.ord 0 rfl)) cP (by unfold maxLen;omega) (by omega) (fun u2=> ?_))
     refine aA (fun m=>(m.own 0 rfl).slice) ?_
     rintro⟨A_z2,c_z2,rfl,hc_z⟩
     refine aA (fun m=>(m.ord 0 rfl).2.1) fun hA_z=> ?_
     refine hy (fun _=>ab rfl)<|ai<|al (ρ' :=[(6,_),(37,_),(19,_),(5,_),(4,_),(3,_),(0,_),(1,_)]) ⟨rfl,rfl,rfl,rfl,rfl,rfl,rfl,rfl,trivial⟩<|ak (X' :=[_,_,_,_]) (S' :=[]) (fun _ m=>m)<|ag<|ah<|aj<|hy (fun _=>aa rfl)<|hy (fun _=>aa rfl)<|hy (fun _=>aa rfl)<|hy (fun _=>dM rfl rfl Tryz.underlying33 bf (show((k:Nat):Int)=_ by omega) (by omega))<| ?_
     refine hx (bu 0 rfl rfl rfl Tryz.underlying33 Tryz.underlying33 (by exact .inl rfl) cS rfl (fun m=>Src.bP ((m.ord 3 rfl).sr hD hco (show k≤n by omega))) cP (by unfold maxLen;omega) (by omega) (fun u3=> ?_))
     refine aA (fun m=>(m.own 0 rfl).slice) ?_
     rintro⟨A_z3,c_z3,rfl,hc_z⟩
     refine aA (fun m=>(m.ord 0 rfl).2.1) fun hA_z=> ?_
     refine hy (fun _=>ab rfl)<|ai<|al (ρ' :=[(4,_),(6,_),(37,_),(19,_),(5,_),(3,_),(0,_),(1,_)]) ⟨rfl,rfl,rfl,rfl,rfl,rfl,rfl,rfl,trivial⟩<|ak (X' :=[_,_,_,_]) (S' :=[]) (fun _ m=>m)<|ag<|aX<| ?_
     refine ak (fun w m=>m.bQ 0 rfl (show _=aG 53 32 (.slice A_z3 (0+k+1+(n-k)) c_z3) (0+k+1+(n-k)) (dc (ds.take k++[d]++ds.drop k))from congrArg (aG _ _ _ _) (by rw[dj,dj,List.nil_append]))) ?_
     exact bg trivial rfl rfl [0] rfl [] rfl ⟨_,_,_,rfl,rfl,rfl,(by rw[List.length_append,List.length_append,List.length_take,List.length_drop,List.length_singleton];omega)⟩
   ·have hne:¬(k<ds.length∧ds.getD k []=d):=fun h=>h3 (by omega)
    refine aR rfl rfl rfl (by decide)<|aR rfl rfl rfl (by decide)<|aR rfl rfl rfl (by decide)<|aR rfl rfl rfl (by decide)<|aR rfl rfl rfl (by decide)<|aR rfl rfl rfl (by decide)<|aR rfl rfl rfl (by decide)<|aR rfl rfl rfl (by decide)<|aR rfl rfl rfl (by decide)<|aR rfl rfl rfl (by decide)<|an (bC rfl rfl)<|bD<|al (ρ' :=[(37,_),(19,_),(5,_),(4,_),(3,_),(0,_),(1,_)]) ⟨rfl,rfl,rfl,rfl,rfl,rfl,rfl,trivial⟩<|ag<| ?_
    refine dB rfl (rfl) ?_
    rw[if_neg hne]at heq
    rw[heq]
    refine aD<|ag<|ah<|aj<|hy (fun _=>ab rfl)<|ai<|ag<|ah<|aj<|hy (fun _=>aa rfl)<|hy (fun _=>aa rfl)<|hy (fun _=>aa rfl)<|hy (fun _=>kZ rfl rfl Tryz.underlying33 bf (show((k:Nat):Int)=_ by omega) (by omega))<| ?_
    refine aO (fun w m=>m.dm (r' :=aG 53 32 (.slice none 0 0) 0 []) (.refl _ _) (Own.nil _ _ _ _) (fun k hk=>hk.elim)) ?_
    refine hx (bu 0 rfl rfl rfl Tryz.underlying33 Tryz.underlying33 (by exact .inl rfl) cS rfl (fun m=>Src.bP ((m.ord 2 rfl).oY hD (show k≤n by omega))) cP (by unfold maxLen;omega) (by omega) (fun u=> ?_))
    refine aA (fun m=>(m.own 0 rfl).slice) ?_
    rintro⟨A_z,c_z,rfl,hc_z⟩
    refine aA (fun m=>(m.ord 0 rfl).2.1) fun hA_z=> ?_
    refine hy (fun _=>ab rfl)<|ai<|al (ρ' :=[(6,_),(37,_),(19,_),(5,_),(4,_),(3,_),(0,_),(1,_)]) ⟨rfl,rfl,rfl,rfl,rfl,rfl,rfl,rfl,trivial⟩<|ak (X' :=[_,_,_]) (S' :=[]) (fun _ m=>m)<|ag<|ah<|aj<|hy (fun _=>aa rfl)<|hy (fun m=>aU rfl b9 bf h32 ((m.a6 1 rfl).ax))<| ?_
    refine hx (b5 Tryz.underlying33 cS rfl rfl rfl (by simpa[Value.cells,B8]using h32) (by decide) (by decide) (fun g46=> ?_))
    have hA_b46:0<1→(some (⟨g46,0,none⟩:Addr))≠none:=fun _ h=>by cases h
    refine aO (fun w m=>m.bQ 0 rfl (show _=aG 53 32 (.slice (some ⟨g46,0,none⟩) 1 1) 1 (dc [d])from rfl)) ?_
    refine hx (bu 1 rfl rfl rfl Tryz.underlying33 Tryz.underlying33 (by exact .inl rfl) cS rfl (fun m=>Src.bP (m.ord 0 rfl)) cP (by unfold maxLen;omega) (by omega) (fun u2=> ?_))
    refine aA (fun m=>(m.own 0 rfl).slice) ?_
    rintro⟨A_z2,c_z2,rfl,hc_z⟩
    refine aA (fun m=>(m.ord 0 rfl).2.1) fun hA_z=> ?_
    refine hy (fun _=>ab rfl)<|ai<|al (ρ' :=[(6,_),(37,_),(19,_),(5,_),(4,_),(3,_),(0,_),(1,_)]) ⟨rfl,rfl,rfl,rfl,rfl,rfl,rfl,rfl,trivial⟩<|ak (X' :=[_,_,_,_]) (S' :=[]) (fun _ m=>m)<|ag<|ah<|aj<|hy (fun _=>aa rfl)<|hy (fun _=>aa rfl)<|hy (fun _=>aa rfl)<|hy (fun _=>dM rfl rfl Tryz.underlying33 bf (show((k:Nat):Int)=_ by omega) (by omega))<| ?_
    refine hx (bu 0 rfl rfl rfl Tryz.underlying33 Tryz.underlying33 (by exact .inl rfl) cS rfl (fun m=>Src.bP ((m.ord 3 rfl).sr hD hco (show k≤n by omega))) cP (by unfold maxLen;omega) (by omega) (fun u3=> ?_))
    refine aA (fun m=>(m.own 0 rfl).slice) ?_
    rintro⟨A_z3,c_z3,rfl,hc_z⟩
    refine aA (fun m=>(m.ord 0 rfl).2.1) fun hA_z=> ?_
    refine hy (fun _=>ab rfl)<|ai<|al (ρ' :=[(4,_),(6,_),(37,_),(19,_),(5,_),(3,_),(0,_),(1,_)]) ⟨rfl,rfl,rfl,rfl,rfl,rfl,rfl,rfl,trivial⟩<|ak (X' :=[_,_,_,_]) (S' :=[]) (fun _ m=>m)<|ag<|aX<| ?_
    refine ak (fun w m=>m.bQ 0 rfl (show _=aG 53 32 (.slice A_z3 (0+k+1+(n-k)) c_z3) (0+k+1+(n-k)) (dc (ds.take k++[d]++ds.drop k))from congrArg (aG _ _ _ _) (by rw[dj,dj,List.nil_append]))) ?_
    exact bg trivial rfl rfl [0] rfl [] rfl ⟨_,_,_,rfl,rfl,rfl,(by rw[List.length_append,List.length_append,List.length_take,List.length_drop,List.length_singleton];omega)⟩
 ·refine aR rfl rfl rfl (by decide)<|aR rfl rfl rfl (by decide)<|aR rfl rfl rfl (by decide)<|aR rfl rfl rfl (by decide)<|aR rfl rfl rfl (by decide)<|xc rfl rfl rfl (by decide) (fun _=>wk [0,0] [] rfl rfl)<|aR rfl rfl rfl (by decide)<|an (bC rfl rfl)<|bD<|al (ρ' :=[(19,_),(5,_),(4,_),(3,_),(0,_),(1,_)]) ⟨rfl,rfl,rfl,rfl,rfl,rfl,trivial⟩<|ag<| ?_
  refine dB rfl (rfl) ?_
  have heq:=o4 ds d k (by omega) hlt (fun h=>absurd h (by omega))
  refine bJ<|ao<|ao<|aB<|ag<|ah<|ah<|c5 [] [(0,some 0),(1,some 0),(2,some 0),(3,some 0),(4,some 0),(5,some 0),(6,some 0),(7,some 0),(8,some 0),(9,some 0),(10,some 0),(11,some 0),(12,some 0),(13,some 0),(14,some 0),(15,some 0)] (by kernel_rfl) (by kernel_rfl) rfl 99<|an (aa rfl)<|an (aa rfl)<|an (aS rfl Tryz.underlying33)<|an (bq rfl rfl)<|an (aa rfl)<| ?_
  refine hZ 26 rfl (fun h3=> ?_) (fun h3=> ?_)
  ·have hkl3:k<ds.length:=by omega
   have hdk3:=eL hD hkl3
   refine bj (o:=_) rfl rfl rfl (aa rfl)<|bj (o:=_) rfl rfl rfl (aa rfl)<|bj (o:=_) rfl rfl rfl (aa rfl)<|bj (o:=_) rfl rfl rfl (aS rfl Tryz.underlying33)<|bj (o:=_) rfl rfl rfl (cn rfl rfl (bG (by omega) (by omega)))<|bj (o:=_) rfl rfl rfl (uB rfl rfl)<|bj (o:=_) rfl rfl rfl (cq rfl rfl Tryz.underlying33 bf hA_o (show((k:Nat):Int)=min (k:Int) ((n:Int)-1) by omega) (by omega))<|iS (o:=_) rfl rfl rfl (fun m=>aU rfl b9 bf (by rw[az];exact hdk3) ((m.ord 1 rfl).im hD hkl3))<|iS (o:=_) rfl rfl rfl (fun m=>aU rfl b9 bf h32 ((m.a6 0 rfl).ax))<|bj (o:=_) rfl rfl rfl (oZ rfl rfl hdk3 hd)<|an (bM rfl rfl)<|bD<|al (ρ' :=[(37,_),(19,_),(5,_),(4,_),(3,_),(0,_),(1,_)]) ⟨rfl,rfl,rfl,rfl,rfl,rfl,rfl,trivial⟩<|ag<| ?_
   refine cD rfl (fun h4=> ?_) (fun h4=> ?_)
   ·rw[if_pos ⟨hkl3,h4⟩]at heq
    rw[heq]
    refine ah<|aj<|hy (fun _=>aa rfl)<|hy (fun _=>ab rfl)<|ai<|al (ρ' :=[(4,_),(37,_),(19,_),(5,_),(3,_),(0,_),(1,_)]) ⟨rfl,rfl,rfl,rfl,rfl,rfl,rfl,trivial⟩<|ag<|aX<|aw<| ?_
    exact bg trivial rfl rfl [1] rfl [] rfl ⟨_,_,_,rfl,rfl,rfl,hln.symm⟩
   ·have hne:¬(k<ds.length∧ds.getD k []=d):=fun h=>h4 h.2
    rw[if_neg hne]at heq
    rw[heq]
    refine aD<|ag<|ah<|aj<|hy (fun _=>ab rfl)<|ai<|ag<|ah<|aj<|hy (fun _=>aa rfl)<|hy (fun _=>aa rfl)<|hy (fun _=>aa rfl)<|hy (fun _=>kZ rfl rfl Tryz.underlying33 bf (show((k:Nat):Int)=_ by omega) (by omega))<| ?_
    refine aO (fun w m=>m.dm (r' :=aG 53 32 (.slice none 0 0) 0 []) (.refl _ _) (Own.nil _ _ _ _) (fun k hk=>hk.elim)) ?_
    refine hx (bu 0 rfl rfl rfl Tryz.underlying33 Tryz.underlying33 (by exact .inl rfl) cS rfl (fun m=>Src.bP ((m.ord 2 rfl).oY hD (show k≤n by omega))) cP (by unfold maxLen;omega) (by omega) (fun u=> ?_))
    refine aA (fun m=>(m.own 0 rfl).slice) ?_
    rintro⟨A_z,c_z,rfl,hc_z⟩
    refine aA (fun m=>(m.ord 0 rfl).2.1) fun hA_z=> ?_
    refine hy (fun _=>ab rfl)<|ai<|al (ρ' :=[(6,_),(37,_),(19,_),(5,_),(4,_),(3,_),(0,_),(1,_)]) ⟨rfl,rfl,rfl,rfl,rfl,rfl,rfl,rfl,trivial⟩<|ak (X' :=[_,_,_]) (S' :=[]) (fun _ m=>m)<|ag<|ah<|aj<|hy (fun _=>aa rfl)<|hy (fun m=>aU rfl b9 bf h32 ((m.a6 1 rfl).ax))<| ?_
    refine hx (b5 Tryz.underlying33 cS rfl rfl rfl (by simpa[Value.cells,B8]using h32) (by decide) (by decide) (fun g46=> ?_))
    have hA_b46:0<1→(some (⟨g46,0,none⟩:Addr))≠none:=fun _ h=>by cases h
    refine aO (fun w m=>m.bQ 0 rfl (show _=aG 53 32 (.slice (some ⟨g46,0,none⟩) 1 1) 1 (dc [d])from rfl)) ?_
    refine hx (bu 1 rfl rfl rfl Tryz.underlying33 Tryz.underlying33 (by exact .inl rfl) cS rfl (fun m=>Src.bP (m.ord 0 rfl)) cP (by unfold maxLen;omega) (by omega) (fun u2=> ?_))
    refine aA (fun m=>(m.own 0 rfl).slice) ?_
    rintro⟨A_z2,c_z2,rfl,hc_z⟩
    refine aA (fun m=>(m.ord 0 rfl).2.1) fun hA_z=> ?_
    refine hy (fun _=>ab rfl)<|ai<|al (ρ' :=[(6,_),(37,_),(19,_),(5,_),(4,_),(3,_),(0,_),(1,_)]) ⟨rfl,rfl,rfl,rfl,rfl,rfl,rfl,rfl,trivial⟩<|ak (X' :=[_,_,_,_]) (S' :=[]) (fun _ m=>m)<|ag<|ah<|aj<|hy (fun _=>aa rfl)<|hy (fun _=>aa rfl)<|hy (fun _=>aa rfl)<|hy (fun _=>dM rfl rfl Tryz.underlying33 bf (show((k:Nat):Int)=_ by omega) (by omega))<| ?_
    refine hx (bu 0 rfl rfl rfl Tryz.underlying33 Tryz.underlying33 (by exact .inl rfl) cS rfl (fun m=>Src.bP ((m.ord 3 rfl).sr hD hco (show k≤n by omega))) cP (by unfold maxLen;omega) (by omega) (fun u3=> ?_))
    refine aA (fun m=>(m.own 0 rfl).slice) ?_
    rintro⟨A_z3,c_z3,rfl,hc_z⟩
    refine aA (fun m=>(m.ord 0 rfl).2.1) fun hA_z=> ?_
    refine hy (fun _=>ab rfl)<|ai<|al (ρ' :=[(4,_),(6,_),(37,_),(19,_),(5,_),(3,_),(0,_),(1,_)]) ⟨rfl,rfl,rfl,rfl,rfl,rfl,rfl,rfl,trivial⟩<|ak (X' :=[_,_,_,_]) (S' :=[]) (fun _ m=>m)<|ag<|aX<| ?_
    refine ak (fun w m=>m.bQ 0 rfl (show _=aG 53 32 (.slice A_z3 (0+k+1+(n-k)) c_z3) (0+k+1+(n-k)) (dc (ds.take k++[d]++ds.drop k))from congrArg (aG _ _ _ _) (by rw[dj,dj,List.nil_append]))) ?_
    exact bg trivial rfl rfl [0] rfl [] rfl ⟨_,_,_,rfl,rfl,rfl,(by rw[List.length_append,List.length_append,List.length_take,List.length_drop,List.length_singleton];omega)⟩
  ·have hne:¬(k<ds.length∧ds.getD k []=d):=fun h=>h3 (by omega)
   refine aR rfl rfl rfl (by decide)<|aR rfl rfl rfl (by decide)<|aR rfl rfl rfl (by decide)<|aR rfl rfl rfl (by decide)<|aR rfl rfl rfl (by decide)<|aR rfl rfl rfl (by decide)<|aR rfl rfl rfl (by decide)<|aR rfl rfl rfl (by decide)<|aR rfl rfl rfl (by decide)<|aR rfl rfl rfl (by decide)<|an (bC rfl rfl)<|bD<|al (ρ' :=[(37,_),(19,_),(5,_),(4,_),(3,_),(0,_),(1,_)]) ⟨rfl,rfl,rfl,rfl,rfl,rfl,rfl,trivial⟩<|ag<| ?_
   refine dB rfl (rfl) ?_
   rw[if_neg hne]at heq
   rw[heq]
   refine aD<|ag<|ah<|aj<|hy (fun _=>ab rfl)<|ai<|ag<|ah<|aj<|hy (fun _=>aa rfl)<|hy (fun _=>aa rfl)<|hy (fun _=>aa rfl)<|hy (fun _=>kZ rfl rfl Tryz.underlying33 bf (show((k:Nat):Int)=_ by omega) (by omega))<| ?_
   refine aO (fun w m=>m.dm (r' :=aG 53 32 (.slice none 0 0) 0 []) (.refl _ _) (Own.nil _ _ _ _) (fun k hk=>hk.elim)) ?_
   refine hx (bu 0 rfl rfl rfl Tryz.underlying33 Tryz.underlying33 (by exact .inl rfl) cS rfl (fun m=>Src.bP ((m.ord 2 rfl).oY hD (show k≤n by omega))) cP (by unfold maxLen;omega) (by omega) (fun u=> ?_))
   refine aA (fun m=>(m.own 0 rfl).slice) ?_
   rintro⟨A_z,c_z,rfl,hc_z⟩
   refine aA (fun m=>(m.ord 0 rfl).2.1) fun hA_z=> ?_
   refine hy (fun _=>ab rfl)<|ai<|al (ρ' :=[(6,_),(37,_),(19,_),(5,_),(4,_),(3,_),(0,_),(1,_)]) ⟨rfl,rfl,rfl,rfl,rfl,rfl,rfl,rfl,trivial⟩<|ak (X' :=[_,_,_]) (S' :=[]) (fun _ m=>m)<|ag<|ah<|aj<|hy (fun _=>aa rfl)<|hy (fun m=>aU rfl b9 bf h32 ((m.a6 1 rfl).ax))<| ?_
   refine hx (b5 Tryz.underlying33 cS rfl rfl rfl (by simpa[Value.cells,B8]using h32) (by decide) (by decide) (fun g46=> ?_))
   have hA_b46:0<1→(some (⟨g46,0,none⟩:Addr))≠none:=fun _ h=>by cases h
   refine aO (fun w m=>m.bQ 0 rfl (show _=aG 53 32 (.slice (some ⟨g46,0,none⟩) 1 1) 1 (dc [d])from rfl)) ?_
   refine hx (bu 1 rfl rfl rfl Tryz.underlying33 Tryz.underlying33 (by exact .inl rfl) cS rfl (fun m=>Src.bP (m.ord 0 rfl)) cP (by unfold maxLen;omega) (by omega) (fun u2=> ?_))
   refine aA (fun m=>(m.own 0 rfl).slice) ?_
   rintro⟨A_z2,c_z2,rfl,hc_z⟩
   refine aA (fun m=>(m.ord 0 rfl).2.1) fun hA_z=> ?_
   refine hy (fun _=>ab rfl)<|ai<|al (ρ' :=[(6,_),(37,_),(19,_),(5,_),(4,_),(3,_),(0,_),(1,_)]) ⟨rfl,rfl,rfl,rfl,rfl,rfl,rfl,rfl,trivial⟩<|ak (X' :=[_,_,_,_]) (S' :=[]) (fun _ m=>m)<|ag<|ah<|aj<|hy (fun _=>aa rfl)<|hy (fun _=>aa rfl)<|hy (fun _=>aa rfl)<|hy (fun _=>dM rfl rfl Tryz.underlying33 bf (show((k:Nat):Int)=_ by omega) (by omega))<| ?_
   refine hx (bu 0 rfl rfl rfl Tryz.underlying33 Tryz.underlying33 (by exact .inl rfl) cS rfl (fun m=>Src.bP ((m.ord 3 rfl).sr hD hco (show k≤n by omega))) cP (by unfold maxLen;omega) (by omega) (fun u3=> ?_))
   refine aA (fun m=>(m.own 0 rfl).slice) ?_
   rintro⟨A_z3,c_z3,rfl,hc_z⟩
   refine aA (fun m=>(m.ord 0 rfl).2.1) fun hA_z=> ?_
   refine hy (fun _=>ab rfl)<|ai<|al (ρ' :=[(4,_),(6,_),(37,_),(19,_),(5,_),(3,_),(0,_),(1,_)]) ⟨rfl,rfl,rfl,rfl,rfl,rfl,rfl,rfl,trivial⟩<|ak (X' :=[_,_,_,_]) (S' :=[]) (fun _ m=>m)<|ag<|aX<| ?_
   refine ak (fun w m=>m.bQ 0 rfl (show _=aG 53 32 (.slice A_z3 (0+k+1+(n-k)) c_z3) (0+k+1+(n-k)) (dc (ds.take k++[d]++ds.drop k))from congrArg (aG _ _ _ _) (by rw[dj,dj,List.nil_append]))) ?_
   exact bg trivial rfl rfl [0] rfl [] rfl ⟨_,_,_,rfl,rfl,rfl,(by rw[List.length_append,List.length_append,List.length_take,List.length_drop,List.length_singleton];omega)⟩
theorem zD{x:RX}{kk:Nat}(ok:yi x.d kk)(hkk:kk≤100000)(hnl:∀y∈x.d.seen,y.1.length≤1000000):ck Tryz.prog 21 [.agg x.cs.toArray] [] [cX x] (fun v_ X_ S_=>∃A1 k c1,v_=(.slice A1 k c1)∧X_=[aG 53 32 (.slice A1 k c1) k (dc (cU x.d x.d.seen.length))]∧S_=[]∧(k=(cU x.d x.d.seen.length).length)):=by
 have hsn:=ok.seen
 refine aP (N:=42) Tryz.func21 rfl rfl (by simp) fun b=> ?_
 refine ah<|aj<| ?_
 refine hx (cw rfl (fun g1=> ?_))
 refine aO (fun w m=>m.bQ 0 rfl (show _=aL g1 39 x.cs from congrArg (aL _ _) (bp _))) ?_
 refine aO (fun w m=>m.iW 0 rfl View.xv) ?_
 refine aA (fun m=>gE (m.rd 0 rfl)) ?_
 rintro⟨hl_r0,hA_r0⟩
 refine hy (fun _=>ab rfl)<|ai<|ak (X' :=[_]) (S' :=[_,_]) (fun _ m=>m)<|ag<|ah<|aj<|hy (fun _=>ab rfl)<|ai<|ag<|ah<|ah<|aj<|hy (fun _=>ab rfl)<|ai<|ag<|aI<| ?_
 refine bx (fun w m=>m.dm (r' :=aG 53 32 (.slice none 0 0) 0 []) (.refl _ _) (Own.nil _ _ _ _) (fun k hk=>hk.elim)) ?_
 refine iG (fun i k A1 c1=>x.d.seen.length-i) (fun i k A1 c1=>[(3,.slice A1 k c1),(4,.int .i64 (i:Nat))]) (fun i k A1 c1=>[aG 53 32 (.slice A1 k c1) k (dc (cU x.d i))]) (fun i k A1 c1=>[]) (fun i k A1 c1=>i≤x.d.seen.length∧k=(cU x.d i).length∧k≤i) 0 0 none 0 [(2,_),(1,_),(0,_)] ⟨rfl,rfl,rfl,trivial⟩ [0] rfl [] rfl (⟨Nat.zero_le _,rfl,Nat.le_refl _⟩) ⟨rfl,rfl,trivial⟩ (fun i k A1 c1 ⟨hin,hk,hki⟩=> ?_)
 refine ah<|ah<|aj<|hy (fun _=>aa rfl)<|hy (fun _=>aK rfl gr (by decide))<|hy (fun m=>ay rfl oO (aE (m.a6 1 rfl) (i:=1) rfl))<|hy (fun _=>aS rfl Tryz.underlying36)<|hy (fun _=>bq rfl rfl)<|ai<|al (ρ' :=[(12,_),(3,_),(4,_),(2,_),(1,_),(0,_)]) ⟨rfl,rfl,rfl,rfl,rfl,rfl,trivial⟩<|ag<| ?_
 refine cD rfl (fun hlt=> ?_) (fun hlt=> ?_)
 ·have hi2:i<x.d.seen.length:=by omega
  obtain⟨y,hyi⟩:∃y,x.d.seen[i]? =some y:=⟨_,List.getElem?_eq_getElem hi2⟩
  have hpl:=hnl y (List.mem_of_getElem? hyi)
  have hsc:=mC hyi
  have hg:=iK x.d.seen i y hyi
  generalize y.1=p at hpl hsc hg
  refine aD<|ag<|ah<|aI<|ah<|aj<|hy (fun _=>aK rfl gr (by decide))<|hy (fun m=>ay rfl oO (aE (m.a6 1 rfl) (i:=1) rfl))<|hy (fun _=>aa rfl)<|hy (fun _=>cq rfl rfl Tryz.underlying36 eQ hA_r0 rfl (by omega))<|hy (fun _=>aK rfl eM (by decide))<|hy (fun m=>ay rfl lF (fb (m.rd 0 rfl) hg.1))<|hy (fun _=>ab rfl)<|ai<|al (ρ' :=[(5,_),(12,_),(3,_),(4,_),(2,_),(1,_),(0,_)]) ⟨rfl,rfl,rfl,rfl,rfl,rfl,rfl,trivial⟩<|ag<|ah<|ah<|aj<|hy (fun _=>aa rfl)<|hy (fun _=>cV rfl Tryz.underlying9)<|hy (fun _=>db rfl rfl)<|ai<|al (ρ' :=[(23,_),(5,_),(12,_),(3,_),(4,_),(2,_),(1,_),(0,_)]) ⟨rfl,rfl,rfl,rfl,rfl,rfl,rfl,rfl,trivial⟩<|ag<| ?_
  have hpz:=cY p
  refine cD rfl (fun h69=> ?_) (fun h69=> ?_)
  ·have hno:jF p=none:=by unfold jF;exact if_neg (fun h=>h69 (by omega))
   have hl2:jQ (cU x.d i) p=cU x.d i:=by unfold jQ;rw[hno]
   rw[hl2]at hsc
   refine bx (fun w m=>m.bQ 0 rfl (show _=aG 53 32 (.slice A1 k c1) k (dc (cU x.d (i+1)))from by rw[hsc])) ?_
   refine bJ<|ao<|aB<|ag<|aj<|hy (fun _=>aa rfl)<|hy (fun _=>aM rfl rfl (bG (by omega) (by omega)))<|hy (fun _=>ab rfl)<|ai<|al (ρ' :=[(4,_),(23,_),(5,_),(12,_),(3,_),(2,_),(1,_),(0,_)]) ⟨rfl,rfl,rfl,rfl,rfl,rfl,rfl,rfl,trivial⟩<| ?_
   refine eJ (i+1) k A1 c1 ⟨rfl,rfl,rfl,rfl,rfl,trivial⟩ [0,0] rfl [0,1] rfl (⟨by omega,by rw[hsc,hk],by omega⟩) (by omega)
  ·have h69:p.length=69:=by omega
   have ho0:jF p=kF p (p.drop 5):=by unfold jF;exact if_pos h69
   have hdl:=gT (p.drop 5)
   have h32:(aV (b8 (p.drop 5)).1).length=32:=by rw[az,hdl]
   have hql:(p.drop 5).length≤1000000:=by rw[List.length_drop];omega
   have ho1:jF p=if(b8 (p.drop 5)).2=0∧aH (b8 (p.drop 5)).1=p then some (b8 (p.drop 5)).1 else none:=ho0
   refine aD<|ag<|ah<|aj<|hy (fun _=>aa rfl)<|hy (fun _=>rF rfl rfl Tryz.underlying9 (show((5:Nat):Int)=5 from rfl) (show 5≤p.length by omega))<| ?_
   refine hx (aq rfl Tryz.call95 (yd hql (s:=(p.drop 5))) [] rfl [] rfl ?_)
   rintro _ _ _ ⟨rfl,rfl,rfl⟩
   refine hy (fun _=>aa rfl)<|hy (fun _=>ar rfl rfl)<|hy (fun _=>ar rfl rfl)<| ?_
   refine hx (aN cS (fun g6=> ?_))
   refine cL (aJ 0 rfl rfl rfl bf h32 aZ rfl ?_)
   generalize hdo:b8 (p.drop 5)=dq at hdl h32 ho1 ⊢
   by_cases hE:dq.2=0
   ·refine hy (fun _=>ab rfl)<|ai<|al (ρ' :=[(7,_),(6,_),(23,_),(5,_),(12,_),(3,_),(4,_),(2,_),(1,_),(0,_)]) ⟨rfl,rfl,rfl,rfl,rfl,rfl,rfl,rfl,rfl,rfl,trivial⟩<|ak (X' :=[_,_,_]) (S' :=[_,_]) (fun _ m=>m)<|ag<|ah<|aj<|hy (fun _=>aa rfl)<|hy (fun _=>yT (cJ rfl rfl) ((decide_eq_true hE)))<|hy (fun _=>aa rfl)<|dU (o:=_) rfl rfl rfl (fun m=>aU rfl b9 bf h32 ((m.a6 0 rfl).ax))<| ?_
    refine F0 (o:=_) rfl rfl rfl (aq rfl Tryz.call29 (lj hdl) [] rfl [] rfl ?_)
    rintro _ _ _ ⟨rfl,rfl,rfl⟩
    refine dU (o:=_) rfl rfl rfl (fun _=>aa rfl)<|dU (o:=_) rfl rfl rfl (fun _=>rj rfl rfl)<|hy (fun _=>bM rfl rfl)<|ai<|al (ρ' :=[(37,_),(7,_),(6,_),(23,_),(5,_),(12,_),(3,_),(4,_),(2,_),(1,_),(0,_)]) ⟨rfl,rfl,rfl,rfl,rfl,rfl,rfl,rfl,rfl,rfl,rfl,trivial⟩<|ak (X' :=[_,_,_]) (S' :=[_,_]) (fun _ m=>m)<|ag<| ?_
    refine AH rfl (fun hp=> ?_) (fun hp=> ?_)
    ·have hp:=cI.1 (of_decide_eq_true hp)
     rw[if_pos ⟨hE,hp⟩]at ho1
     have hl2:jQ (cU x.d i) p=dz (cU x.d i) dq.1:=by unfold jQ;rw[ho1]
     rw[hl2]at hsc
     have hdln:=ow (cU x.d i) dq.1
     refine aj<|hy (fun _=>aa rfl)<|hy (fun m=>aU rfl b9 bf h32 ((m.a6 0 rfl).ax))<| ?_
     refine hx (aq rfl Tryz.call96 (yL (kX _ _) hdl (by omega)) [1] rfl [] rfl ?_)
     rintro _ _ _ ⟨A12,n1,c12,rfl,rfl,rfl,hn1⟩
     refine hy (fun _=>ab rfl)<|ai<|al (ρ' :=[(3,_),(37,_),(7,_),(6,_),(23,_),(5,_),(12,_),(4,_),(2,_),(1,_),(0,_)]) ⟨rfl,rfl,rfl,rfl,rfl,rfl,rfl,rfl,rfl,rfl,rfl,trivial⟩<|ak (X' :=[_,_,_]) (S' :=[_,_]) (fun _ m=>m)<|aQ<|ag<|aj<|hy (fun _=>aa rfl)<|hy (fun _=>aM rfl rfl (bG (by omega) (by omega)))<|hy (fun _=>ab rfl)<|ai<|al (ρ' :=[(4,_),(3,_),(37,_),(7,_),(6,_),(23,_),(5,_),(12,_),(2,_),(1,_),(0,_)]) ⟨rfl,rfl,rfl,rfl,rfl,rfl,rfl,rfl,rfl,rfl,rfl,trivial⟩<| ?_
     rw[←hsc]at hn1
     refine ak (fun w m=>m.bQ 0 rfl (show _=aG 53 32 (.slice A12 n1 c12) n1 (dc (cU x.d (i+1)))from by rw[hsc])) ?_
     refine eJ (i+1) n1 A12 c12 ⟨rfl,rfl,rfl,rfl,rfl,trivial⟩ [0,1] rfl [0,1] rfl (⟨by omega,hn1,by rw[hn1,hsc];omega⟩) (by omega)
    ·have hp:=of_decide_eq_false hp
     rw[if_neg (fun h=>hp (by rw[h.2]))]at ho1
     have hl2:jQ (cU x.d i) p=cU x.d i:=by unfold jQ;rw[ho1]
     rw[hl2]at hsc
     refine bx (fun w m=>m.bQ 1 rfl (show _=aG 53 32 (.slice A1 k c1) k (dc (cU x.d (i+1)))from by rw[hsc])) ?_
     refine aD<|aQ<|ag<|aj<|hy (fun _=>aa rfl)<|hy (fun _=>aM rfl rfl (bG (by omega) (by omega)))<|hy (fun _=>ab rfl)<|ai<|al (ρ' :=[(4,_),(37,_),(7,_),(6,_),(23,_),(5,_),(12,_),(3,_),(2,_),(1,_),(0,_)]) ⟨rfl,rfl,rfl,rfl,rfl,rfl,rfl,rfl,rfl,rfl,rfl,trivial⟩<| ?_
     refine eJ (i+1) k A1 c1 ⟨rfl,rfl,rfl,rfl,rfl,trivial⟩ [0,1] rfl [0,1] rfl (⟨by omega,by rw[hsc,hk],by omega⟩) (by omega)
   ·refine hy (fun _=>ab rfl)<|ai<|al (ρ' :=[(7,_),(6,_),(23,_),(5,_),(12,_),(3,_),(4,_),(2,_),(1,_),(0,_)]) ⟨rfl,rfl,rfl,rfl,rfl,rfl,rfl,rfl,rfl,rfl,trivial⟩<|ag<|ah<|aj<|hy (fun _=>aa rfl)<|hy (fun _=>yF (cJ rfl rfl) ((decide_eq_false hE)))<|hy (fun _=>aa rfl)<|bE rfl rfl rfl (by decide)<|bE rfl rfl rfl (by decide)<|bE rfl rfl rfl (by decide)<|bE rfl rfl rfl (by decide)<|hy (fun _=>bC rfl rfl)<|ai<|al (ρ' :=[(37,_),(7,_),(6,_),(23,_),(5,_),(12,_),(3,_),(4,_),(2,_),(1,_),(0,_)]) ⟨rfl,rfl,rfl,rfl,rfl,rfl,rfl,rfl,rfl,rfl,rfl,trivial⟩<|ag<| ?_
    refine dB rfl (rfl) ?_
    rw[if_neg (fun h=>hE h.1)]at ho1
    have hl2:jQ (cU x.d i) p=cU x.d i:=by unfold jQ;rw[ho1]
    rw[hl2]at hsc
    refine bx (fun w m=>m.bQ 1 rfl (show _=aG 53 32 (.slice A1 k c1) k (dc (cU x.d (i+1)))from by rw[hsc])) ?_
    refine aD<|aQ<|ag<|aj<|hy (fun _=>aa rfl)<|hy (fun _=>aM rfl rfl (bG (by omega) (by omega)))<|hy (fun _=>ab rfl)<|ai<|al (ρ' :=[(4,_),(37,_),(7,_),(6,_),(23,_),(5,_),(12,_),(3,_),(2,_),(1,_),(0,_)]) ⟨rfl,rfl,rfl,rfl,rfl,rfl,rfl,rfl,rfl,rfl,rfl,trivial⟩<| ?_
    refine eJ (i+1) k A1 c1 ⟨rfl,rfl,rfl,rfl,rfl,trivial⟩ [0,1] rfl [0,1] rfl (⟨by omega,by rw[hsc,hk],by omega⟩) (by omega)
 ·obtain rfl:i=x.d.seen.length:=by omega
  refine bJ<|ao<|ao<|aB<|ag<|ah<|aj<|hy (fun _=>aa rfl)<|hy (fun _=>ab rfl)<|ai<|al (ρ' :=[(2,_),(12,_),(3,_),(4,_),(1,_),(0,_)]) ⟨rfl,rfl,rfl,rfl,rfl,rfl,trivial⟩<|ag<|aX<| ?_
  exact bg trivial rfl rfl [0] rfl [] rfl ⟨_,_,_,rfl,rfl,rfl,hk⟩
end Go.Proofs.YtmibdabdlgmafaaGreatDoor
end
