/- Part. -/
import Derived.Test.YtmibdabdlgmafaaGreatDoorPLS5
import Derived.OrdersIn
import Derived.Sort.Grow
import Derived.Shelf.SlSortCmp.NoneTotal
import Derived.Ground.SlsfProg
import Derived.Test.YtmibdabdlgmafaaGreatDoorProg
set_option linter.all false
section
set_option maxRecDepth 20000
namespace Go.Proofs.YtmibdabdlgmafaaGreatDoor
open Go.Eng Go.Hx
def oY(w:List UInt32)(b:List UInt8)(q:Pn)(k:Nat):Prop:=k=q.m∨eH w (b.take k) % UInt32.ofNat (j6 q.b)=0
instance(w:List UInt32)(b:List UInt8)(q:Pn)(k:Nat):Decidable (oY w b q k):=by unfold oY;infer_instance
def fk(w:List UInt32)(b:List UInt8)(q:Pn):Nat→Nat→Nat
 |_,0=>b.length
 |k,f+1=>if k<b.length then(if oY w b q k then k else fk w b q (k+1) f)else b.length
def iL(w:List UInt32)(b:List UInt8)(q:Pn):Nat:=fk w b q q.a (b.length+1)
theorem r6(w:List UInt32)(b:List UInt8)(q:Pn):∀(f k:Nat),fk w b q k f≤b.length
 |0,_=>Nat.le_refl _
 |f+1,k=>by
  rw[fk]
  split
  ·split
   ·omega
   ·exact r6 w b q f (k+1)
  ·exact Nat.le_refl _
theorem ri{w:List UInt32}{b:List UInt8}{q:Pn}:∀(f k:Nat),1≤k→1≤b.length→1≤fk w b q k f
 |0,_,_,h=>h
 |f+1,k,hk,h=>by
  rw[fk]
  split
  ·split
   ·exact hk
   ·exact ri f (k+1) (by omega) h
  ·exact h
theorem su(w:List UInt32)(b:List UInt8)(q:Pn):iL w b q≤b.length:=r6 ..
theorem ke{w:List UInt32}{b:List UInt8}{q:Pn}(hq:q.ok)(h:1≤b.length):1≤iL w b q:=ri _ _ hq.h1 h
theorem D7(n:Nat):Value.int .u32 (IntKind.u32.wrap (n:Int))=Wd (UInt32.ofNat n):=by
 rw[wrap32];rfl
theorem Hv{A B:Option Addr}{c n k:Nat}{w:List UInt32}{l:List UInt8}{q:Pn}(hq:q.ok)(hw:w.length=256)(hl:l.length=n)(hn:n≤1000000)(hk:n≤k):b7 Tryz.prog 137 [.slice A 256 c,.slice B n k,.agg q.p.cs.toArray] [] [cL 1 A 256 (ee w),cL 1 B n (aW l)] (fun v_ X_ S_=>v_=(.int .i64 (iL w l q:Nat))∧X_=[]∧S_=[]):=by
 have q1:=hq.h1
 have q2:=hq.h2
 have q3:=hq.h3
 have q4:=hq.h4
 refine aM (N:=38) Tryz.func137 rfl rfl (by simp) fun b=> ?_
 refine a6 (fun m=>fH (m.rd 0 rfl)) ?_
 rintro⟨hl_rw,hA_rw⟩
 refine a6 (fun m=>eG (m.rd 1 rfl)) ?_
 rintro⟨hl_rb,hA_rb⟩
 refine ae<|ai<| ?_
 refine hx (bu rfl (fun g5=> ?_))
 refine aJ (fun w m=>m.bz 0 rfl (show _=aH g5 75 q.p.cs from congrArg (aH _ _) (aT _))) ?_
 refine aG rfl<|ag<|aj (X' :=[_]) (S' :=[_,_]) (fun _ m=>m)<|ab<|ae<|ai<|hy (fun _=>aF rfl kY (by decide))<|hy (fun m=>ao rfl dD (aA (m.aU 0 rfl) (i:=1) (show q.p.cs[1]? =some (Value.int .i64 (q.b:Nat))from rfl)))<| ?_
 refine hx (aq rfl Tryz.call200 (y6 (by omega) (by omega) (n:=q.b)) [] rfl [] rfl ?_)
 rintro _ _ _ ⟨rfl,rfl,rfl⟩
 refine hy (fun _=>yV (bY rfl Tryz.underlying3 Tryz.underlying166 rfl) ((D7 (j6 q.b))))<|aG rfl<|ag<|aB [7,6,5,0,1,2] rfl<|aj (X' :=[_]) (S' :=[_,_]) (fun _ m=>m)<|ab<|ae<|ae<|ai<|hy (fun _=>aF rfl iM (by decide))<|hy (fun m=>ao rfl dD (aA (m.aU 0 rfl) (i:=0) (show q.p.cs[0]? =some (Value.int .i64 (q.a:Nat))from rfl)))<|aG rfl<|ag<|aB [8,7,6,5,0,1,2] rfl<|ab<|aN<| ?_
 have hm0:(UInt32.ofNat (j6 q.b)).toNat≠0:=by
  have h1:=uD q.b
  have h2:j6 q.b≤q.b:=Nat.log2_self_le (by omega)
  rw[UInt32.toNat_ofNat',Nat.mod_eq_of_lt (by omega)]
  omega
 refine mq (fun k2 f=>n-k2) (fun k2 f=>[(8,.int .i64 (k2:Nat))]) (fun k2 f=>[]) (fun k2 f=>[]) (fun k2 f=>fk w l q k2 f=iL w l q∧n<k2+f) q.a (l.length+1) [(7,_),(5,_),(0,_),(1,_),(2,_)] ⟨rfl,rfl,rfl,rfl,rfl,trivial⟩ [] rfl [] rfl (⟨rfl,by omega⟩) ⟨rfl,trivial⟩ (fun k2 f ⟨hf,hnf⟩=> ?_)
 refine ae<|ae<|ai<|aw rfl<|aw rfl<|hy (fun _=>aY rfl Tryz.underlying27)<|hy (fun _=>bw rfl rfl)<|ag<|aB [18,8,7,5,0,1,2] rfl<|ab<| ?_
 refine cB rfl (fun hlt=> ?_) (fun hlt=> ?_)
 ·obtain⟨f,rfl⟩:∃f',f=f' +1:=⟨f-1,by omega⟩
  rw[fk,if_pos (by omega)]at hf
  by_cases h1:k2=q.m
  ·rw[if_pos (.inl h1)]at hf
   rw[←hf]
   refine aC<|ab<|ae<|aN<|ae<|ai<|aw rfl<|hy (fun _=>aF rfl km (by decide))<|hy (fun m=>ao rfl dD (aA (m.aU 0 rfl) (i:=2) (show q.p.cs[2]? =some (Value.int .i64 (q.m:Nat))from rfl)))<|hy (fun _=>yT (cx rfl rfl) ((decide_eq_true (by rw[h1]))))<|aw rfl<|bg rfl rfl rfl (by decide)<|bg rfl rfl rfl (by decide)<|bg rfl rfl rfl (by decide)<|bg rfl rfl rfl (by decide)<|bg rfl rfl rfl (by decide)<|bg rfl rfl rfl (by decide)<|bg rfl rfl rfl (by decide)<|bg rfl rfl rfl (by decide)<|hy (fun _=>bC rfl rfl)<|ag<|aB [34,18,8,7,5,0,1,2] rfl<|ab<| ?_
   refine fq rfl (rfl) ?_
   refine ae<|ai<|aw rfl<|aG rfl<|ag<|aB [6,34,18,8,7,5,0,1,2] rfl<|ab<|aV<|a7<|ay<|ay<|a7<|ay<| ?_
   exact bc trivial rfl rfl [] rfl [] rfl ⟨rfl,rfl,rfl⟩
  ·refine bk (fun w m=>m.fA 1 rfl (View.take (k:=k2) (by omega))) ?_
   refine a6 (fun m=>eG (m.rd 0 rfl)) ?_
   rintro⟨hl_rt,hA_rt⟩
   refine aC<|ab<|ae<|aN<|ae<|ai<|aw rfl<|hy (fun _=>aF rfl km (by decide))<|hy (fun m=>ao rfl dD (aA (m.aU 0 rfl) (i:=2) (show q.p.cs[2]? =some (Value.int .i64 (q.m:Nat))from rfl)))<|hy (fun _=>yF (cx rfl rfl) ((decide_eq_false (by omega))))<|aw rfl<|cy (o:=_) rfl rfl rfl (fun _=>ah rfl)<|cy (o:=_) rfl rfl rfl (fun _=>ah rfl)<|cy (o:=_) rfl rfl rfl (fun _=>ah rfl)<|cy (o:=_) rfl rfl rfl (fun _=>kq rfl rfl Tryz.underlying27 dU rfl (by omega))<| ?_
   refine HV (o:=_) rfl rfl rfl (aq rfl Tryz.call201 (ze hw (by rw[List.length_take];omega) (by omega)) [] rfl [1,0] rfl ?_)
   rintro _ _ _ ⟨rfl,rfl,rfl⟩
   refine cy (o:=_) rfl rfl rfl (fun _=>ah rfl)<| ?_
   refine cy (o:=_) rfl rfl rfl (fun m=>wj hm0 rfl rfl) ?_
   refine cy (o:=_) rfl rfl rfl (fun _=>cx rfl rfl)<|hy (fun _=>bo rfl rfl)<|ag<|aB [34,18,8,7,5,0,1,2] rfl<|aj (X' :=[_]) (S' :=[_,_,_]) (fun _ m=>m)<|ab<| ?_
   refine cB rfl (fun hz=> ?_) (fun hz=> ?_)
   ·have hz2:eH w (l.take k2) % UInt32.ofNat (j6 q.b)=0:=UInt32.toNat_inj.1 (by show _=0;have:=hz;omega)
    rw[if_pos (.inr hz2)]at hf
    rw[←hf]
    refine ae<|ai<|aw rfl<|aG rfl<|ag<|aB [6,34,18,8,7,5,0,1,2] rfl<|ab<|aV<|a7<|ay<|ay<|a7<|ay<| ?_
    exact bc trivial rfl rfl [] rfl [] rfl ⟨rfl,rfl,rfl⟩
   ·have hz2:¬oY w l q k2:=fun h=>h.elim h1 (fun h=>hz (by rw[h];rfl))
    rw[if_neg hz2]at hf
    refine aC<|aS<|ab<|ai<|aw rfl<|hy (fun _=>aP rfl rfl (bA (by omega) (by omega)))<|aG rfl<|ag<|aB [8,34,18,7,5,0,1,2] rfl<| ?_
    refine jt (k2+1) f ⟨rfl,rfl,rfl,rfl,rfl,rfl,trivial⟩ [0] rfl [1,2] rfl (⟨hf,by omega⟩) (by omega)
 ·have hf:l.length=iL w l q:=by
   rw[←hf]
   cases f with
   |zero=>rfl
   |succ f=>rw[fk,if_neg (by omega)]
  rw[hl]at hf
  rw[←hf]
  refine bG<|an<|an<|aE<|ab<|ae<|ai<|aw rfl<|hy (fun _=>aY rfl Tryz.underlying27)<|aG rfl<|ag<|aB [6,18,8,7,5,0,1,2] rfl<|ab<|aV<| ?_
  exact bc trivial rfl rfl [] rfl [] rfl ⟨rfl,rfl,rfl⟩
end Go.Proofs.YtmibdabdlgmafaaGreatDoor
end
section
set_option maxRecDepth 20000
set_option maxHeartbeats 2000000
namespace Go.Proofs.YtmibdabdlgmafaaGreatDoor
open Go.Eng Go.Hx
def jE(w:List UInt32)(q:Pn):Nat→List UInt8→List (List UInt8)
 |0,_=>[]
 |f+1,b=>if b=[]then []else b.take (iL w b q)::jE w q f (b.drop (iL w b q))
def e7(b:List UInt8)(q:Pn):List (List UInt8):=jE bE q b.length b
theorem ui{w:List UInt32}{q:Pn}:∀{f:Nat},jE w q f []=[]
 |0=>rfl
 |f+1=>by rw[jE,if_pos rfl]
theorem View.CJ:View (gE []) (dH []):=.of (fun w h r hr=>absurd hr List.not_mem_nil) (fun k hk=>by obtain⟨r,hr,_⟩:=hk;exact absurd hr List.not_mem_nil)
theorem View.k7{rs:List aR}{r:aR}(hc:r.n≤r.c):View (gE [dH rs,cL 1 r.A r.n (aW r.l)]) (dH (rs++[r])):=.of (fun w h x hx=>by
  rcases List.mem_append.1 hx with hx|hx
  ·exact h (dH rs) (List.mem_cons_self ..) x hx
  ·rw[List.mem_singleton.1 hx];exact⟨h (cL 1 r.A r.n (aW r.l)) (List.mem_cons_of_mem _ (List.mem_cons_self ..)),hc⟩) (fun k hk=>by
  obtain⟨x,hx,hf⟩:=hk
  rcases List.mem_append.1 hx with hx|hx
  ·exact⟨dH rs,List.mem_cons_self ..,x,hx,hf⟩
  ·rw[List.mem_singleton.1 hx]at hf;exact⟨cL 1 r.A r.n (aW r.l),List.mem_cons_of_mem _ (List.mem_cons_self ..),hf⟩)
def jZ(rs:List aR):List Value:=rs.map aR.val
theorem qc{rs:List aR}:∀u∈jZ rs,u.oneCell' =true:=by
 intro u hu
 obtain⟨r,_,rfl⟩:=List.mem_map.1 hu
 rfl
theorem j8(a b:List aR):jZ (a++b)=jZ a++jZ b:=by simp[jZ]
theorem vB{B:Option Addr}{n k:Nat}{l:List UInt8}{q:Pn}(hq:q.ok)(hl:l.length=n)(hn:n≤1000000)(hk:n≤k):b7 Tryz.prog 50 [.slice B n k,.agg q.p.cs.toArray] [] [cL 1 B n (aW l)] (fun v_ X_ S_=>∃A1 c1 rs,v_=(.slice A1 (List.length rs) c1)∧X_=[aK 27 1 (.slice A1 (List.length rs) c1) (List.length rs) (jZ rs)]∧S_=[dH rs]∧(rs.map aR.l=e7 l q∧∀r∈rs,r.n=r.l.length)):=by
 refine aM (N:=26) Tryz.func50 rfl rfl (by simp) fun b=> ?_
 refine a6 (fun m=>eG (m.rd 0 rfl)) ?_
 rintro⟨hl_rb,hA_rb⟩
 refine ae<|ai<| ?_
 refine hx (bu rfl (fun g3=> ?_))
 refine aJ (fun w m=>m.bz 0 rfl (show _=aH g3 75 q.p.cs from congrArg (aH _ _) (aT _))) ?_
 refine aG rfl<|ag<|aj (X' :=[_]) (S' :=[_]) (fun _ m=>m)<|ab<|ae<|ai<| ?_
 refine hx (aq rfl Tryz.call136 (DR) [] rfl [] rfl ?_)
 rintro _ _ _ ⟨A,c,rfl,rfl,rfl⟩
 refine aJ (fun w m=>(m.perm (ar [0] _ [_] _ rfl)).freeze) ?_
 refine aJ (fun w m=>m.fA 0 rfl .own) ?_
 refine az (fun m=>fH (m.rd 0 rfl)) ?_
 rintro⟨hl_or,hA_or⟩
 refine aJ (fun w m=>m.cQ (r' :=aK 27 1 (.slice none 0 0) 0 []) (.refl _ _) (Own.nil _ _ _ _) (fun k hk=>hk.elim)) ?_
 refine aJ (S' :=gE []::_) (fun w m=>m.pF [] rfl) ?_
 refine aJ (fun w m=>m.fA 0 rfl View.CJ) ?_
 refine aG rfl<|ag<|aB [5,4,3,0,1] rfl<|aj (X' :=[_,_]) (S' :=[_,_,_,_,_]) (fun _ m=>m)<|ab<|ae<|ai<|aG rfl<|ag<|ab<|ae<|aN<| ?_
 refine tT (fun s f rs A1 c1=>f) (fun s f rs A1 c1=>[(0,.slice (aR.A s) (aR.n s) (aR.c s)),(6,.slice A1 (List.length rs) c1)]) (fun s f rs A1 c1=>[aK 27 1 (.slice A1 (List.length rs) c1) (List.length rs) (jZ rs)]) (fun s f rs A1 c1=>[cL 1 (aR.A s) (aR.n s) (aW (aR.l s)),dH rs]) (fun s f rs A1 c1=>aR.n s=(aR.l s).length∧aR.n s≤aR.c s∧aR.n s≤f∧rs.map aR.l++jE bE q f (aR.l s)=e7 l q∧(∀r∈rs,r.n=r.l.length)∧List.length rs+aR.n s≤n) ⟨B,n,k,l⟩ n [] none 0 [(5,_),(4,_),(3,_),(1,_)] ⟨rfl,rfl,rfl,rfl,trivial⟩ [0] rfl [4,0] rfl (⟨hl.symm,hk,Nat.le_refl _,by rw[←hl];rfl,fun r h=>absurd h List.not_mem_nil,by simp⟩) ⟨rfl,rfl,trivial⟩ (fun s f rs A1 c1 ⟨hsl,hsc,hsf,xr,hrs,hrn⟩=> ?_)
 refine ae<|ae<|ai<|aw rfl<|hy (fun _=>aY rfl Tryz.underlying27)<|hy (fun _=>cW rfl rfl)<|ag<|aB [11,0,6,5,4,3,1] rfl<|ab<| ?_
 refine cB rfl (fun h0=> ?_) (fun h0=> ?_)
 ·have hpos:1≤(aR.l s).length:=by omega
  obtain⟨f,rfl⟩:∃f',f=f' +1:=⟨f-1,by omega⟩
  rw[jE,if_neg (fun e=>by rw[e]at hpos;exact absurd hpos (by decide))]at xr
  have k1:=ke (w:=bE) hq hpos
  have k2:=su bE (aR.l s) q
  obtain⟨kf,hkf⟩:∃kf,kf=iL bE (aR.l s) q:=⟨_,rfl⟩
  refine aC<|ab<|aN<|ae<|ai<|aw rfl<|aw rfl<|hy (fun m=>yV (aQ rfl gC gg rfl ((m.aU 1 rfl).au)) ((rfl:_=Value.agg q.p.cs.toArray)))<| ?_
  refine hx (aq rfl Tryz.call137 (Hv hq bD hsl.symm (by omega) hsc) [] rfl [4,0] rfl ?_)
  rintro _ _ _ ⟨rfl,rfl,rfl⟩
  rw[←hkf]at xr k1 k2
  rw[←hkf]
  refine aJ (fun w m=>m.fA 0 rfl (View.take (k:=kf) (by omega))) ?_
  refine az (fun m=>eG (m.rd 0 rfl)) ?_
  rintro⟨hl_rt,hA_rt⟩
  refine aJ (fun w m=>m.fA 1 rfl (View.drop (k:=kf) hsc (by omega))) ?_
  refine az (fun m=>eG (m.rd 0 rfl)) ?_
  rintro⟨hl_rd,hA_rd⟩
  obtain⟨r,hr⟩:∃r:aR,r=⟨aR.A s,kf,aR.c s,(aR.l s).take kf⟩:=⟨_,rfl⟩
  refine aJ (S' :=gE [dH rs,cL 1 (aR.A s) kf (aW ((aR.l s).take kf))]::_) (fun w m=>m.pF [3,1] rfl) ?_
  refine aJ (fun w m=>m.fA 0 rfl (View.k7 (rs:=rs) (r:=⟨aR.A s,kf,aR.c s,(aR.l s).take kf⟩) (by show kf≤aR.c s;omega))) ?_
  rw[←hr]
  refine aG rfl<|ag<|aB [7,11,0,6,5,4,3,1] rfl<|aj (X' :=[_,_]) (S' :=[_,_,_,_,_,_,_,_,_,_,_]) (fun _ m=>m)<|ab<|ae<|ai<|aw rfl<|aw rfl<|aw rfl<|hy (fun _=>kq rfl rfl Tryz.underlying27 dU rfl (by omega))<| ?_
  refine hx (bQ Tryz.underlying84 kZ rfl rfl rfl (by simp[Value.cells,B8]) (by decide) (by decide) (fun g20=> ?_))
  have hA_b20:0<1→(some (⟨g20,0,none⟩:Addr))≠none:=fun _ h=>by cases h
  have hlr:(rs++[r]).length=rs.length+1:=by simp
  have hcut2:(rs++[r]).map aR.l++jE bE q f ((aR.l s).drop kf)=e7 l q:=by rw[←xr,List.map_append,hr];simp
  have hrs2:∀x∈rs++[r],aR.n x=(aR.l x).length:=fun x hx=>by
   rcases List.mem_append.1 hx with hx|hx
   ·exact hrs x hx
   ·rw[List.mem_singleton.1 hx,hr]
    show kf=((aR.l s).take kf).length
    rw[List.length_take]
    omega
  refine aJ (fun w m=>m.bz 0 rfl (show _=aK 27 1 (.slice (some ⟨g20,0,none⟩) 1 1) 1 (jZ [r])from(by rw[hr];rfl))) ?_
  refine hx (bs 1 rfl rfl rfl Tryz.underlying84 Tryz.underlying84 (by exact .inl rfl) kZ rfl (fun m=>Src.bJ (m.ord 0 rfl)) qc (by unfold maxLen;omega) (by omega) (fun u=> ?_))
  refine az (fun m=>(m.own 0 rfl).slice) ?_
  rintro⟨A_z,c_z,rfl,hc_z⟩
  refine az (fun m=>(m.ord 0 rfl).2.1) fun hA_z=> ?_
  refine aJ (fun w m=>m.bz 0 rfl (show _=aK 27 1 (.slice A_z (List.length rs+1) c_z) (List.length rs+1) (jZ (rs++[r]))from congrArg (aK _ _ _ _) (by rw[j8]))) ?_
  rw[←hlr]
  refine aG rfl<|ag<|aB [6,7,11,0,5,4,3,1] rfl<|aj (X' :=[_,_,_]) (S' :=[_,_,_,_,_,_,_,_,_,_,_]) (fun _ m=>m)<|ab<|ai<|aw rfl<|aw rfl<|hy (fun _=>dP rfl rfl Tryz.underlying27 dU rfl (by omega))<|aG rfl<|ag<|aB [0,6,7,11,5,4,3,1] rfl<|aS<| ?_
  refine oJ ⟨(if aR.c s=kf then aR.A s else(aR.A s).map (·.add (kf*1))),aR.n s-kf,aR.c s-kf,(aR.l s).drop kf⟩ f (rs++[r]) A_z c_z ⟨rfl,rfl,rfl,rfl,rfl,rfl,trivial⟩ [0,1] rfl [2,0,6,7,8,9,10] rfl (⟨by show aR.n s-kf=_;rw[List.length_drop];omega,by show aR.n s-kf≤aR.c s-kf;omega,by show aR.n s-kf≤f;omega,hcut2,hrs2,by rw[hlr];show _+(aR.n s-kf)≤n;omega⟩) (by omega)
 ·have hnil:aR.l s=[]:=List.length_eq_zero_iff.1 (by omega)
  rw[hnil,ui,List.append_nil]at xr
  refine bG<|an<|an<|aE<|ab<|ae<|ai<|aw rfl<|aG rfl<|ag<|aB [4,11,0,6,5,3,1] rfl<|ab<|aV<| ?_
  exact bc trivial rfl rfl [0] rfl [1] rfl ⟨A1,c1,rs,rfl,rfl,rfl,⟨xr,hrs⟩⟩
end Go.Proofs.YtmibdabdlgmafaaGreatDoor
end
section
set_option maxRecDepth 20000
namespace Go.Proofs.YtmibdabdlgmafaaGreatDoor
open Go.Eng Go.Hx
theorem pU{p:Pm}:b7 Tryz.prog 192 [.agg p.cs.toArray] [] [] (fun v_ X_ S_=>v_=(.bool (decide p.may))∧X_=[]∧S_=[]):=by
 refine aM (N:=25) Tryz.func192 rfl rfl (by simp) fun b=> ?_
 refine ae<|ai<| ?_
 refine hx (bu rfl (fun g1=> ?_))
 refine aJ (fun w m=>m.bz 0 rfl (show _=aH g1 75 p.cs from congrArg (aH _ _) (aT _))) ?_
 by_cases h0:p.mn≥1
 ·by_cases h1:p.av≥p.mn
  ·by_cases h2:p.mx≥p.av
   ·rw[show decide p.may=decide (p.mx≤4096)from decide_eq_decide.2 ⟨fun h=>by have:=h.2.2.2;omega,fun h=>⟨by omega,h1,h2,by omega⟩⟩]
    refine aG rfl<|ag<|aj (X' :=[_]) (S' :=[]) (fun _ m=>m)<|ab<|ae<|ai<|hy (fun _=>aF rfl iM (by decide))<|hy (fun m=>ao rfl dD (aA (m.aU 0 rfl) (i:=0) rfl))<|hy (fun _=>yT (dL rfl rfl) ((decide_eq_true h0)))<|aw rfl<|cy (o:=_) rfl rfl rfl (fun _=>aF rfl kY (by decide))<|cy (o:=_) rfl rfl rfl (fun m=>ao rfl dD (aA (m.aU 0 rfl) (i:=1) rfl))<|cy (o:=_) rfl rfl rfl (fun _=>aF rfl iM (by decide))<|cy (o:=_) rfl rfl rfl (fun m=>ao rfl dD (aA (m.aU 0 rfl) (i:=0) rfl))<|cy (o:=_) rfl rfl rfl (fun _=>yT (dL rfl rfl) ((decide_eq_true h1)))<|hy (fun _=>bC rfl rfl)<|aw rfl<|cy (o:=_) rfl rfl rfl (fun _=>aF rfl km (by decide))<|cy (o:=_) rfl rfl rfl (fun m=>ao rfl dD (aA (m.aU 0 rfl) (i:=2) rfl))<|cy (o:=_) rfl rfl rfl (fun _=>aF rfl kY (by decide))<|cy (o:=_) rfl rfl rfl (fun m=>ao rfl dD (aA (m.aU 0 rfl) (i:=1) rfl))<|cy (o:=_) rfl rfl rfl (fun _=>yT (dL rfl rfl) ((decide_eq_true h2)))<|hy (fun _=>bC rfl rfl)<|aw rfl<|cy (o:=_) rfl rfl rfl (fun _=>aF rfl km (by decide))<|cy (o:=_) rfl rfl rfl (fun m=>ao rfl dD (aA (m.aU 0 rfl) (i:=2) rfl))<|cy (o:=_) rfl rfl rfl (fun _=>mh rfl rfl)<|hy (fun _=>bC rfl rfl)<|aG rfl<|ag<|aB [2,1,0] rfl<|ab<|aV<| ?_
    exact bc trivial rfl rfl [] rfl [] rfl ⟨rfl,rfl,rfl⟩
   ·rw[decide_eq_false (show¬p.may from fun h=>h2 h.2.2.1)]
    refine aG rfl<|ag<|ab<|ae<|ai<|hy (fun _=>aF rfl iM (by decide))<|hy (fun m=>ao rfl dD (aA (m.aU 0 rfl) rfl))<|hy (fun _=>yT (dL rfl rfl) ((decide_eq_true h0)))<|aw rfl<|cy (o:=_) rfl rfl rfl (fun _=>aF rfl kY (by decide))<|cy (o:=_) rfl rfl rfl (fun m=>ao rfl dD (aA (m.aU 0 rfl) rfl))<|cy (o:=_) rfl rfl rfl (fun _=>aF rfl iM (by decide))<|cy (o:=_) rfl rfl rfl (fun m=>ao rfl dD (aA (m.aU 0 rfl) rfl))<|cy (o:=_) rfl rfl rfl (fun _=>yT (dL rfl rfl) ((decide_eq_true h1)))<|hy (fun _=>bC rfl rfl)<|aw rfl<|cy (o:=_) rfl rfl rfl (fun _=>aF rfl km (by decide))<|cy (o:=_) rfl rfl rfl (fun m=>ao rfl dD (aA (m.aU 0 rfl) rfl))<|cy (o:=_) rfl rfl rfl (fun _=>aF rfl kY (by decide))<|cy (o:=_) rfl rfl rfl (fun m=>ao rfl dD (aA (m.aU 0 rfl) rfl))<|cy (o:=_) rfl rfl rfl (fun _=>yF (dL rfl rfl) ((decide_eq_false h2)))<|hy (fun _=>bC rfl rfl)<|aw rfl<|bg rfl rfl rfl (by decide)<|bg rfl rfl rfl (by decide)<|bg rfl rfl rfl (by decide)<|hy (fun _=>bo rfl rfl)<|aG rfl<|ag<|aB [2,1,0] rfl<|ab<|aV<| ?_
    exact bc trivial rfl rfl [] rfl [] rfl ⟨rfl,rfl,rfl⟩
  ·rw[decide_eq_false (show¬p.may from fun h=>h1 h.2.1)]
   refine aG rfl<|ag<|ab<|ae<|ai<|hy (fun _=>aF rfl iM (by decide))<|hy (fun m=>ao rfl dD (aA (m.aU 0 rfl) rfl))<|hy (fun _=>yT (dL rfl rfl) ((decide_eq_true h0)))<|aw rfl<|cy (o:=_) rfl rfl rfl (fun _=>aF rfl kY (by decide))<|cy (o:=_) rfl rfl rfl (fun m=>ao rfl dD (aA (m.aU 0 rfl) rfl))<|cy (o:=_) rfl rfl rfl (fun _=>aF rfl iM (by decide))<|cy (o:=_) rfl rfl rfl (fun m=>ao rfl dD (aA (m.aU 0 rfl) rfl))<|cy (o:=_) rfl rfl rfl (fun _=>yF (dL rfl rfl) ((decide_eq_false h1)))<|hy (fun _=>bC rfl rfl)<|aw rfl<|bg rfl rfl rfl (by decide)<|bg rfl rfl rfl (by decide)<|bg rfl rfl rfl (by decide)<|bg rfl rfl rfl (by decide)<|bg rfl rfl rfl (by decide)<|hy (fun _=>bo rfl rfl)<|aw rfl<|bg rfl rfl rfl (by decide)<|bg rfl rfl rfl (by decide)<|bg rfl rfl rfl (by decide)<|hy (fun _=>bo rfl rfl)<|aG rfl<|ag<|aB [2,1,0] rfl<|ab<|aV<| ?_
   exact bc trivial rfl rfl [] rfl [] rfl ⟨rfl,rfl,rfl⟩
 ·rw[decide_eq_false (show¬p.may from fun h=>h0 (by have:=h.1;omega))]
  refine aG rfl<|ag<|ab<|ae<|ai<|hy (fun _=>aF rfl iM (by decide))<|hy (fun m=>ao rfl dD (aA (m.aU 0 rfl) rfl))<|hy (fun _=>yF (dL rfl rfl) ((decide_eq_false h0)))<|aw rfl<|bg rfl rfl rfl (by decide)<|bg rfl rfl rfl (by decide)<|bg rfl rfl rfl (by decide)<|bg rfl rfl rfl (by decide)<|bg rfl rfl rfl (by decide)<|hy (fun _=>bo rfl rfl)<|aw rfl<|bg rfl rfl rfl (by decide)<|bg rfl rfl rfl (by decide)<|bg rfl rfl rfl (by decide)<|bg rfl rfl rfl (by decide)<|bg rfl rfl rfl (by decide)<|hy (fun _=>bo rfl rfl)<|aw rfl<|bg rfl rfl rfl (by decide)<|bg rfl rfl rfl (by decide)<|bg rfl rfl rfl (by decide)<|hy (fun _=>bo rfl rfl)<|aG rfl<|ag<|aB [2,1,0] rfl<|ab<|aV<| ?_
  exact bc trivial rfl rfl [] rfl [] rfl ⟨rfl,rfl,rfl⟩
theorem Pn.ok.may{q:Pn}(h:q.ok):q.p.may:=by
 have h1:=h.h1;have h2:=h.h2;have h3:=h.h3;have h4:=h.h4
 unfold Pm.may Pn.p
 simp only
 omega
def len8:List UInt8:=(List.range 256).map fun n=>if n=0 then 0 else UInt8.ofNat (Nat.log2 n+1)
theorem len8_get{n:Nat}(h1:1≤n)(hn:n<256):len8[n]? =some (UInt8.ofNat (Nat.log2 n+1)):=by
 unfold len8
 rw[List.getElem?_map,List.getElem?_range hn,Option.map_some,if_neg (by omega)]
theorem vi{n:Nat}(hn:n<256):Nat.log2 n<8:=by
 by_cases h:n=0
 ·subst h;decide
 ·exact(Nat.log2_lt h).2 (by omega)
theorem wP{n:Nat}(h:256≤n):Nat.log2 n=8+Nat.log2 (n/256):=by
 have h0:n/256≠0:=by omega
 have h1:2 ^ Nat.log2 (n/256)≤n/256:=Nat.log2_self_le h0
 have h2:n/256<2 ^ (Nat.log2 (n/256)+1):=(Nat.log2_lt h0).1 (Nat.lt_succ_self _)
 generalize Nat.log2 (n/256)=k at h1 h2 ⊢
 have h3:8+k≤Nat.log2 n:=(Nat.le_log2 (by omega)).2 (by rw[Nat.pow_add];show 256*2 ^ k≤n;omega)
 have h4:Nat.log2 n<8+(k+1):=(Nat.log2_lt (by omega)).2 (by rw[Nat.pow_add];show n<256*2 ^ (k+1);omega)
 omega
theorem BH{n:Nat}(h:n<18446744073709551616):IntKind.u64.wrap (n:Int)=(n:Int):=by
 simp[IntKind.wrap,IntKind.signed,IntKind.bits]
 omega
theorem yl{n:Nat}(h:n<256):IntKind.u8.wrap (n:Int)=(n:Int):=by
 simp[IntKind.wrap,IntKind.signed,IntKind.bits]
 omega
theorem sc{d:Array UInt8}{n:Nat}(hd:d.toList=len8)(h1:1≤n)(hn:n<256):d[n]? =some (UInt8.ofNat (Nat.log2 n+1)):=by
 rw[←Array.getElem?_toList,hd];exact len8_get h1 hn
theorem rM{k:Nat}(hk:k<8):IntKind.i64.wrap (((UInt8.ofNat (k+1)).toNat:Nat):Int)=((k+1:Nat):Int):=by
 have:(UInt8.ofNat (k+1)).toNat=k+1:=by rw[UInt8.toNat_ofNat',Nat.mod_eq_of_lt (by omega)]
 rw[this]
 exact bA (by omega) (by omega)
theorem Ck{n:Nat}(h1:1≤n)(hn:n<65536):b7 Tryz.prog 255 [.int .u64 (n:Int)] [] [] (fun v_ X_ S_=>v_=(.int .i64 ((Nat.log2 n+1:Nat):Int))∧X_=[]∧S_=[]):=by
 refine aM (N:=25) Tryz.func255 rfl rfl (by simp) fun b=> ?_
 refine ae<|ai<|aG rfl<|ag<|ab<|ae<|ae<|ai<|aw rfl<|hy (fun _=>dL rfl rfl)<|ag<|aB [4,2,0] rfl<|ab<| ?_
 refine cN rfl ((decide_eq_false (by omega))) ?_
 refine aC<|ab<|ae<|ae<|ai<|aw rfl<|hy (fun _=>dL rfl rfl)<|ag<|aB [8,4,2,0] rfl<|ab<| ?_
 refine cN rfl ((decide_eq_false (by omega))) ?_
 refine aC<|ab<|ae<|ae<|ai<|aw rfl<|hy (fun _=>dL rfl rfl)<|ag<|aB [14,8,4,2,0] rfl<|ab<| ?_
 refine cB rfl (fun h8=> ?_) (fun h8=> ?_)
 ·have hn8:n/256<256:=by omega
  have hk:=vi hn8
  have hs:=wP (n:=n) (by omega)
  refine ae<|ai<|aw rfl<|hy (fun _=>yV (nt (p:=256) rfl rfl (by decide) (by decide) (by decide)) ((show Value.int .u64 ((n:Int)/256)= .int .u64 ((n/256:Nat):Int)from rfl)))<|aG rfl<|ag<|aB [0,14,8,4,2] rfl<|ab<|ai<|aw rfl<|hy (fun _=>aP rfl rfl (bA (by omega) (by omega)))<|aG rfl<|ag<|aB [2,0,14,8,4] rfl<|ab<|ae<|ai<|aw rfl<|aw rfl<|hy (fun _=>bY rfl Tryz.underlying310 Tryz.underlying5 (yl hn8))<|hy (fun _=>er rfl rfl Tryz.underlying9 rfl (sc (by kernel_rfl) (by omega) hn8))<|hy (fun _=>bY rfl Tryz.underlying5 Tryz.underlying3 (rM hk))<|hy (fun _=>yV (aP rfl rfl (bA (by omega) (by omega))) ((show Value.int .i64 (0+8+((Nat.log2 (n/256)+1:Nat):Int))= .int .i64 ((Nat.log2 n+1:Nat):Int) by rw[hs];exact congrArg (Value.int .i64) (by omega))))<|aG rfl<|ag<|aB [2,0,14,8,4] rfl<|ab<|aV<| ?_
  exact bc trivial rfl rfl [] rfl [] rfl ⟨rfl,rfl,rfl⟩
 ·have hn8:n<256:=by omega
  have hk:=vi hn8
  refine aC<|ab<|ae<|ai<|aw rfl<|aw rfl<|hy (fun _=>bY rfl Tryz.underlying310 Tryz.underlying5 (yl hn8))<|hy (fun _=>er rfl rfl Tryz.underlying9 rfl (sc (by kernel_rfl) h1 hn8))<|hy (fun _=>bY rfl Tryz.underlying5 Tryz.underlying3 (rM hk))<|hy (fun _=>yV (aP rfl rfl (bA (by omega) (by omega))) ((show Value.int .i64 (0+((Nat.log2 n+1:Nat):Int))= .int .i64 ((Nat.log2 n+1:Nat):Int)from congrArg (Value.int .i64) (by omega))))<|aG rfl<|ag<|aB [2,14,8,4,0] rfl<|ab<|aV<| ?_
  exact bc trivial rfl rfl [] rfl [] rfl ⟨rfl,rfl,rfl⟩
theorem GC{n:Nat}(h1:1≤n)(hn:n<65536):b7 Tryz.prog 207 [.int .u64 (n:Int)] [] [] (fun v_ X_ S_=>v_=(.int .i64 ((Nat.log2 n+1:Nat):Int))∧X_=[]∧S_=[]):=by
 refine aM (N:=8) Tryz.func207 rfl rfl (by simp) fun b=> ?_
 refine ae<|ai<|aG rfl<|ag<|ab<|ae<| ?_
 refine cN rfl (rfl) ?_
 refine aC<|ab<|ae<|ai<|aw rfl<| ?_
 refine hx (aq rfl Tryz.call255 (Ck h1 hn (n:=n)) [] rfl [] rfl ?_)
 rintro _ _ _ ⟨rfl,rfl,rfl⟩
 refine aG rfl<|ag<|aB [2,0] rfl<|aj (X' :=[]) (S' :=[]) (fun _ m=>m)<|ab<|aV<| ?_
 exact bc trivial rfl rfl [] rfl [] rfl ⟨rfl,rfl,rfl⟩
theorem FY{P:Program}{N:Nat}{D:List Deferred}{ρ:Env}{w:World}{x y:Operand}{ty t t' :TypeId}{a b:UInt32}(hx:ev ρ x=some (Wd a))(hy:ev ρ y=some (Wd b)):Yl P N D ρ w (.binOp .sub t x y t') ty (Wd (a-b)):=cn hx hy (by
 have ha:=a.toNat_lt
 have hb:=b.toNat_lt
 rw[UInt32.toNat_sub]
 simp[IntKind.wrap,IntKind.signed,IntKind.bits]
 omega)
def o8(q:Pn):UInt32:=UInt32.ofNat (j6 q.b)-1
theorem BO{q:Pn}(hq:q.ok)(x:UInt32):x &&& o8 q=0↔x % UInt32.ofNat (j6 q.b)=0:=by
 have h1:=hq.h1;have h2:=hq.h2;have h3:=hq.h3;have h4:=hq.h4
 have hp:j6 q.b≤q.b:=Nat.log2_self_le (by omega)
 have hp0:=uD q.b
 have e1:(UInt32.ofNat (j6 q.b)).toNat=j6 q.b:=by rw[UInt32.toNat_ofNat',Nat.mod_eq_of_lt (by omega)]
 have e2:(o8 q).toNat=j6 q.b-1:=by
  unfold o8
  rw[UInt32.toNat_sub,e1]
  show(4294967296-1+j6 q.b) % 4294967296=_
  omega
 rw[←UInt32.toNat_inj,←UInt32.toNat_inj,UInt32.toNat_and,UInt32.toNat_mod,e1,e2]
 unfold j6
 rw[Nat.and_two_pow_sub_one_eq_mod]
theorem IB{q:Pn}(hq:q.ok):b7 Tryz.prog 302 [.agg q.p.cs.toArray] [] [] (fun v_ X_ S_=>v_=(Wd (o8 q))∧X_=[]∧S_=[]):=by
 have h1:=hq.h1
 have h2:=hq.h2
 have h3:=hq.h3
 have h4:=hq.h4
 have hl12:Nat.log2 q.b<32:=(Nat.log2_lt (by omega)).2 (by omega)
 refine aM (N:=13) Tryz.func302 rfl rfl (by simp) fun b=> ?_
 refine ae<|ai<| ?_
 refine hx (bu rfl (fun g1=> ?_))
 refine aJ (fun w m=>m.bz 0 rfl (show _=aH g1 75 q.p.cs from congrArg (aH _ _) (aT _))) ?_
 refine aG rfl<|ag<|aj (X' :=[_]) (S' :=[]) (fun _ m=>m)<|ab<|ae<|ae<|ai<|hy (fun m=>yV (aQ rfl gC gg rfl ((m.aU 0 rfl).au)) ((rfl:_=Value.agg q.p.cs.toArray)))<| ?_
 refine hx (aq rfl Tryz.call192 (pU (p:=q.p)) [] rfl [] rfl ?_)
 rintro _ _ _ ⟨rfl,rfl,rfl⟩
 refine hy (fun _=>fl rfl)<|ag<|aB [5,2,1,0] rfl<|aj (X' :=[_]) (S' :=[]) (fun _ m=>m)<|ab<| ?_
 refine cN rfl ((decide_eq_false (fun h=>h hq.may))) ?_
 refine aC<|ab<|ae<|ai<|hy (fun _=>aF rfl kY (by decide))<|hy (fun m=>ao rfl dD (aA (m.aU 0 rfl) (i:=1) (show q.p.cs[1]? =some (Value.int .i64 (q.b:Nat))from rfl)))<|hy (fun _=>bY rfl Tryz.underlying3 Tryz.underlying263 (BH (by omega)))<| ?_
 refine hx (aq rfl Tryz.call207 (GC (by omega) (by omega) (n:=q.b)) [] rfl [] rfl ?_)
 rintro _ _ _ ⟨rfl,rfl,rfl⟩
 refine hy (fun _=>yV (cn rfl rfl (bA (by omega) (by omega))) ((show Value.int .i64 (((Nat.log2 q.b+1:Nat):Int)-1)= .int .i64 ((Nat.log2 q.b:Nat):Int)from congrArg (Value.int .i64) (by omega))))<|hy (fun _=>(tY (a:=1) (k:=Nat.log2 q.b) hl12 rfl rfl))<|hy (fun _=>yV ((FY (b:=1) rfl rfl)) ((show Wd (UInt32.ofNat ((1:UInt32).toNat*2 ^ Nat.log2 q.b)-1)=Wd (o8 q) by unfold o8 j6;rw[show(1:UInt32).toNat=1 from rfl,Nat.one_mul])))<|aG rfl<|ag<|aB [2,5,1,0] rfl<|aj (X' :=[_]) (S' :=[]) (fun _ m=>m)<|ab<|aV<| ?_
 exact bc trivial rfl rfl [] rfl [] rfl ⟨rfl,rfl,rfl⟩
def C1(q:Pn)(gr:Nat)(A:Option Addr)(n c:Nat):List Value:=[.int .i64 (q.a:Int),.int .i64 (q.b:Int),.int .i64 (q.m:Int),Wd (o8 q),.pointer (some ⟨gr,0,none⟩),.slice A n c]
theorem Jq{q:Pn}(hq:q.ok):b7 Tryz.prog 283 [.agg q.p.cs.toArray] [] [] (fun v_ X_ S_=>∃gc gr,v_=(.tuple #[.pointer (some ⟨gc,0,none⟩),.int .i64 0])∧X_=[aH gc 389 (C1 q gr none 0 0),kL gr lL []]∧S_=[]):=by
 refine aM (N:=13) Tryz.func283 rfl rfl (by simp) fun b=> ?_
 refine ae<|ai<| ?_
 refine hx (bu rfl (fun g1=> ?_))
 refine aJ (fun w m=>m.bz 0 rfl (show _=aH g1 75 q.p.cs from congrArg (aH _ _) (aT _))) ?_
 refine aG rfl<|aG rfl<|ag<|aj (X' :=[_]) (S' :=[]) (fun _ m=>m)<|ab<|ae<|ae<|ai<|hy (fun m=>yV (aQ rfl gC gg rfl ((m.aU 0 rfl).au)) ((rfl:_=Value.agg q.p.cs.toArray)))<| ?_
 refine hx (aq rfl Tryz.call192 (pU (p:=q.p)) [] rfl [] rfl ?_)
 rintro _ _ _ ⟨rfl,rfl,rfl⟩
 refine hy (fun _=>fl rfl)<|ag<|aB [6,3,2,1,0] rfl<|aj (X' :=[_]) (S' :=[]) (fun _ m=>m)<|ab<| ?_
 refine cN rfl ((decide_eq_false (fun h=>h hq.may))) ?_
 refine aC<|ab<|ae<|cD [2,3,5] [(0,some 2),(1,some 0),(2,none),(3,none),(4,some 2),(5,none),(6,some 3),(7,some 3)] (by kernel_rfl) (by kernel_rfl) rfl 99<|bZ (fun m=>yV (aQ rfl gC gg rfl ((m.aU 0 rfl).au)) ((rfl:_=Value.agg q.p.cs.toArray)))<|bZ (fun m=>yV (aQ rfl gC gg rfl ((m.aU 0 rfl).au)) ((rfl:_=Value.agg q.p.cs.toArray)))<| ?_
 refine dF (aq rfl Tryz.call302 (IB hq (q:=q)) [] rfl [] rfl ?_)
 rintro _ _ _ ⟨rfl,rfl,rfl⟩
 refine⟨(fun _=>wk [0] [] rfl rfl), ?_⟩
 refine dF (aq rfl Tryz.call303 (yU) [] rfl [] rfl ?_)
 rintro _ _ _ ⟨g,rfl,rfl,rfl⟩
 refine⟨(fun _=>wk [1] [] rfl rfl), ?_⟩
 refine ak (yV (bU Jv rfl rfl (by kernel_rfl) (.cons (o:=0) (sz:=3) (by kernel_rfl) rfl rfl (Nat.le_of_ble_eq_true rfl) (.cons (o:=3) (sz:=1) (by kernel_rfl) rfl rfl (Nat.le_of_ble_eq_true rfl) (.cons (o:=4) (sz:=1) (by kernel_rfl) rfl rfl (Nat.le_of_ble_eq_true rfl) .nil)))) ((rfl:_=Value.agg (C1 q g none 0 0).toArray)))<| ?_
 refine dF (bu rfl (fun g12=>⟨(fun _=>wk [2] [] rfl rfl), ?_⟩))
 refine ak (al rfl)<|ak (al rfl)<|bq<|aB [3,2,6,1,0] rfl<|aj (X' :=[_,_,_]) (S' :=[]) (fun _ m=>m)<|ab<|aV<| ?_
 refine aj (fun w m=>m.bz 0 rfl (show _=aH g12 389 (C1 q g none 0 0)from congrArg (aH _ _) (aT _))) ?_
 exact db trivial rfl rfl rfl [0,0] rfl [] rfl ⟨g12,g,rfl,rfl,rfl⟩
end Go.Proofs.YtmibdabdlgmafaaGreatDoor
end
section
namespace Go.Proofs.YtmibdabdlgmafaaGreatDoor
open Go.Eng Go.Hx
def fY(q:Pn)(cur:List UInt8):Prop:=cur.length=q.m∨(q.a≤cur.length∧eH bE cur &&& o8 q=0)
instance(q:Pn)(cur:List UInt8):Decidable (fY q cur):=by unfold fY;infer_instance
def ep(q:Pn)(st:List (List UInt8)×List UInt8)(x:UInt8):List (List UInt8)×List UInt8:=if fY q (st.2++[x])then(st.1++[st.2++[x]],[])else(st.1,st.2++[x])
def ja(q:Pn)(l:List UInt8):List (List UInt8)×List UInt8:=l.foldl (ep q) ([],[])
theorem xb(q:Pn)(l:List UInt8)(x:UInt8):ja q (l++[x])=ep q (ja q l) x:=by simp[ja]
theorem dG{l:List UInt8}{i:Nat}(h:i<l.length):l.take (i+1)=l.take i++[l.getD i 0]:=by
 rw[List.take_add_one,List.getD,List.getElem?_eq_getElem h];rfl
theorem pD{w:List UInt32}{b:List UInt8}{q:Pn}:∀(f k:Nat),b.length<k+f→(∀j,k≤j→j<fk w b q k f→¬oY w b q j)∧(fk w b q k f<b.length→oY w b q (fk w b q k f)∧k≤fk w b q k f)
 |0,k,h=>by
  rw[fk]
  exact⟨fun j h1 h2=>by omega,fun h1=>absurd h1 (Nat.lt_irrefl _)⟩
 |f+1,k,h=>by
  rw[fk]
  split
  ·split
   ·next h1 h2=>exact⟨fun j h3 h4=>by omega,fun _=>⟨h2,Nat.le_refl _⟩⟩
   ·next h1 h2=>
    obtain⟨h3,h4⟩:=pD (w:=w) (b:=b) (q:=q) f (k+1) (by omega)
    refine⟨fun j h5 h6=> ?_,fun h5=>⟨(h4 h5).1,by have:=(h4 h5).2;omega⟩⟩
    by_cases e:j=k
    ·rw[e];exact h2
    ·exact h3 j (by omega) h6
  ·exact⟨fun j h1 h2=>by omega,fun h1=>absurd h1 (Nat.lt_irrefl _)⟩
theorem rb{q:Pn}(hq:q.ok){b:List UInt8}{k:Nat}(hk:k≤b.length)(ha:q.a≤k):fY q (b.take k)↔oY bE b q k:=by
 unfold fY oY
 rw[List.length_take,Nat.min_eq_left hk,BO hq]
 exact⟨fun h=>h.imp id (fun h=>h.2),fun h=>h.imp id (fun h=>⟨ha,h⟩)⟩
theorem sZ{q:Pn}(hq:q.ok){b:List UInt8}{k:Nat}(hk:k≤b.length)(ha:k<q.a):¬fY q (b.take k):=by
 have h2:=hq.h2;have h3:=hq.h3
 unfold fY
 rw[List.length_take,Nat.min_eq_left hk]
 rintro(h|h) <;> omega
theorem vu{q:Pn}{b:List UInt8}{outs:List (List UInt8)}:∀(j:Nat),j≤b.length→(∀i,1≤i→i≤j→¬fY q (b.take i))→(b.take j).foldl (ep q) (outs,[])=(outs,b.take j)
 |0,_,_=>by simp
 |j+1,hj,h=>by
  have ih:=vu (outs:=outs) j (by omega) (fun i h1 h2=>h i h1 (by omega))
  have hc:=h (j+1) (by omega) (Nat.le_refl _)
  rw[dG (by omega)]at hc ⊢
  rw[List.foldl_append,ih]
  show ep q (outs,b.take j) _=_
  unfold ep
  rw[if_neg hc]
def zJ(st:List (List UInt8)×List UInt8):List (List UInt8):=st.1++(if st.2=[]then []else [st.2])
theorem sg{q:Pn}(hq:q.ok):∀(f:Nat) (b:List UInt8) (outs:List (List UInt8)),b.length≤f→zJ (b.foldl (ep q) (outs,[]))=outs++jE bE q f b
 |0,b,outs,h=>by
  obtain rfl:b=[]:=List.eq_nil_of_length_eq_zero (by omega)
  simp[zJ,jE]
 |f+1,b,outs,h=>by
  by_cases hb:b=[]
  ·subst hb
   simp[zJ,jE]
  ·have hb1:1≤b.length:=by
    have:b.length≠0:=fun e=>hb (List.eq_nil_of_length_eq_zero e)
    omega
   rw[jE,if_neg hb]
   have k1:=ke (w:=bE) hq hb1
   have k2:=su bE b q
   obtain⟨h3,h4⟩:=pD (w:=bE) (b:=b) (q:=q) (b.length+1) q.a (by omega)
   have hK:fk bE b q q.a (b.length+1)=iL bE b q:=rfl
   rw[hK]at h3 h4
   generalize iL bE b q=K at k1 k2 h3 h4
   have hno:∀i,1≤i→i≤K-1→¬fY q (b.take i):=fun i h1 h2=>by
    by_cases ha:i<q.a
    ·exact sZ hq (by omega) ha
    ·rw[rb hq (by omega) (by omega)]
     exact h3 i (by omega) (by omega)
   have hrun:=vu (q:=q) (b:=b) (outs:=outs) (K-1) (by omega) hno
   have nj:(b.take K).foldl (ep q) (outs,[])=if fY q (b.take K)then(outs++[b.take K],[])else(outs,b.take K):=by
    have e:b.take K=b.take (K-1)++[b.getD (K-1) 0]:=by
     have:=dG (l:=b) (i:=K-1) (by omega)
     rwa [show K-1+1=K by omega]at this
    rw[e,List.foldl_append,hrun]
    rfl
   by_cases hlt:K<b.length
   ·obtain⟨h5,h6⟩:=h4 hlt
    rw[if_pos ((rb hq (by omega) h6).2 h5)]at nj
    have ih:=sg hq f (b.drop K) (outs++[b.take K]) (by rw[List.length_drop];omega)
    have e:b.foldl (ep q) (outs,[])=(b.drop K).foldl (ep q) (outs++[b.take K],[]):=by
     have:b=b.take K++b.drop K:=(List.take_append_drop K b).symm
     rw[this,List.foldl_append,←this,nj]
    rw[e,ih,List.append_assoc]
    rfl
   ·have hKl:K=b.length:=by omega
    subst hKl
    rw[List.take_of_length_le (Nat.le_refl _)]at nj ⊢
    rw[List.drop_of_length_le (Nat.le_refl _),ui,nj]
    split
    ·simp[zJ]
    ·simp[zJ,hb]
theorem wR{q:Pn}(hq:q.ok)(l:List UInt8):zJ (ja q l)=e7 l q:=by
 have:=sg hq l.length l [] (Nat.le_refl _)
 rwa [List.nil_append]at this
end Go.Proofs.YtmibdabdlgmafaaGreatDoor
end
section
namespace Go.Eng
open Go.RowKit
section
variable{P:Program}{Q:Exit→Act→World→Prop}{N:Nat}{D:List Deferred}{ρ:Env}{b:ct}{X Xr S:List bl}{c:Code}
theorem Hn{α β γ δ ε ζ η θ:Type}(μ:α→β→γ→δ→ε→ζ→η→θ→Nat)(R:α→β→γ→δ→ε→ζ→η→θ→Env)(X1 S1:α→β→γ→δ→ε→ζ→η→θ→List bl)(I:α→β→γ→δ→ε→ζ→η→θ→Prop)(a0:α)(b_0:β)(c_0:γ)(d_0:δ)(e_0:ε)(f_0:ζ)(g_0:η)(h_0:θ)(ρk:Env)(hk:eD ρk ρ)(is:List Nat)(hX:bT is X=some (X1 a0 b_0 c_0 d_0 e_0 f_0 g_0 h_0,Xr))(js:List Nat)(hS:dy js S=some (S1 a0 b_0 c_0 d_0 e_0 f_0 g_0 h_0))(hI:I a0 b_0 c_0 d_0 e_0 f_0 g_0 h_0)(hs:eD (R a0 b_0 c_0 d_0 e_0 f_0 g_0 h_0) ρ)
  (round:∀a b_ c_ d_ e_ f_ g_ h_,I a b_ c_ d_ e_ f_ g_ h_→HC P (Exit.then (fun a' w' =>∃x y z u v_ t_ s_ r_,Ag N D (R x y z u v_ t_ s_ r_++ρk) a' ∧Mem b (X1 x y z u v_ t_ s_ r_++Xr) (S1 x y z u v_ t_ s_ r_++S) w' ∧I x y z u v_ t_ s_ r_∧μ x y z u v_ t_ s_ r_<μ a b_ c_ d_ e_ f_ g_ h_) Q) N D c (R a b_ c_ d_ e_ f_ g_ h_++ρk) b (X1 a b_ c_ d_ e_ f_ g_ h_++Xr) (S1 a b_ c_ d_ e_ f_ g_ h_++S)):HC P Q N D (.loop c) ρ b X S:=
 pA (ι:=α×β×γ×δ×ε×ζ×η×θ) (fun i=>μ i.1 i.2.1 i.2.2.1 i.2.2.2.1 i.2.2.2.2.1 i.2.2.2.2.2.1 i.2.2.2.2.2.2.1 i.2.2.2.2.2.2.2) (fun i=>R i.1 i.2.1 i.2.2.1 i.2.2.2.1 i.2.2.2.2.1 i.2.2.2.2.2.1 i.2.2.2.2.2.2.1 i.2.2.2.2.2.2.2) (fun i=>X1 i.1 i.2.1 i.2.2.1 i.2.2.2.1 i.2.2.2.2.1 i.2.2.2.2.2.1 i.2.2.2.2.2.2.1 i.2.2.2.2.2.2.2) (fun i=>S1 i.1 i.2.1 i.2.2.1 i.2.2.2.1 i.2.2.2.2.1 i.2.2.2.2.2.1 i.2.2.2.2.2.2.1 i.2.2.2.2.2.2.2) (fun i=>I i.1 i.2.1 i.2.2.1 i.2.2.2.1 i.2.2.2.2.1 i.2.2.2.2.2.1 i.2.2.2.2.2.2.1 i.2.2.2.2.2.2.2) (a0,b_0,c_0,d_0,e_0,f_0,g_0,h_0) ρk hk is hX js hS hI hs fun i hi w m a ha=>Code.wp_mono (fun e a' w' q=>by
  cases e <;> first|exact q|(obtain⟨x,y,z,u,v_,t_,s_,r_,h⟩:=q;exact⟨(x,y,z,u,v_,t_,s_,r_),h⟩)) (round i.1 i.2.1 i.2.2.1 i.2.2.2.1 i.2.2.2.2.1 i.2.2.2.2.2.1 i.2.2.2.2.2.2.1 i.2.2.2.2.2.2.2 hi w m a ha)
theorem ua{α β γ δ ε ζ η θ:Type}{M:Nat}{μ:α→β→γ→δ→ε→ζ→η→θ→Nat}{R:α→β→γ→δ→ε→ζ→η→θ→Env}{X1 S1:α→β→γ→δ→ε→ζ→η→θ→List bl}{Xr Sr:List bl}{ρ0:Env}{I:α→β→γ→δ→ε→ζ→η→θ→Prop}(x:α)(y:β)(z:γ)(u:δ)(v_:ε)(t_:ζ)(s_:η)(r_:θ)(hs:eD (R x y z u v_ t_ s_ r_++ρ0) ρ)(is:List Nat){Xz:List bl}(hX:bT is X=some (X1 x y z u v_ t_ s_ r_++Xr,Xz))(js:List Nat)(hS:dy js S=some (S1 x y z u v_ t_ s_ r_++Sr))(hI:I x y z u v_ t_ s_ r_)(hlt:μ x y z u v_ t_ s_ r_<M):
  HQ (Exit.then (fun a' w' =>∃x y z u v_ t_ s_ r_,Ag N D (R x y z u v_ t_ s_ r_++ρ0) a' ∧Mem b (X1 x y z u v_ t_ s_ r_++Xr) (S1 x y z u v_ t_ s_ r_++Sr) w' ∧I x y z u v_ t_ s_ r_∧μ x y z u v_ t_ s_ r_<M) Q) N D .normal ρ b X S:=
 fun w m a ha=>⟨x,y,z,u,v_,t_,s_,r_,ha.sub hs.sub,((m.perm (ar _ _ _ _ hX)).jU).jo (cm _ _ _ hS),hI,hlt⟩
end
end Go.Eng
end
section
set_option maxRecDepth 20000
set_option maxHeartbeats 2000000
namespace Go.Proofs.YtmibdabdlgmafaaGreatDoor
open Go.Eng Go.Hx
theorem B4{g gr:Nat}{q:Pn}{A:Option Addr}{n c:Nat}{s:fV}{l:List UInt8}(hs:s.ok l):b7 Tryz.prog 285 [.pointer (some ⟨g,0,none⟩)] [aH g 389 (C1 q gr A n c),kL gr s l] [] (fun v_ X_ S_=>v_=(.slice A n c)∧X_=[aH g 389 (C1 q gr none 0 0),kL gr s []]∧S_=[]):=by
 refine aM (N:=17) Tryz.func285 rfl rfl (by simp) fun b=> ?_
 refine ae<|ai<|aG rfl<|ag<|ab<|ae<|ai<|aw rfl<|hy (fun _=>aO rfl)<|hy (fun _=>aF rfl nJ (by decide))<|hy (fun m=>ao rfl dB (aA (m.aU 0 rfl) rfl))<|aG rfl<|ag<|aB [3,2,0] rfl<|ab<|ae<|ai<|aw rfl<|hy (fun _=>aO rfl)<|hy (fun _=>aF rfl nJ (by decide))<| ?_
 refine cI (b9 0 rfl rfl rfl iY rfl (by first|exact Nat.le_of_ble_eq_true rfl|simp) ?_)
 refine aJ (fun w m=>m.bz 0 rfl (show _=aH g 389 (C1 q gr none 0 0)from rfl)) ?_
 refine ag<|aB [3,2,0] rfl<|aj (X' :=[_,_]) (S' :=[]) (fun _ m=>m)<|ab<|ae<|ai<|aw rfl<|hy (fun _=>aO rfl)<|hy (fun _=>aF rfl yB (by decide))<|hy (fun m=>ao rfl Fh (aA (m.aU 0 rfl) rfl))<| ?_
 refine hx (aq rfl Tryz.call305 (Dv hs) [1] rfl [] rfl ?_)
 rintro _ _ _ ⟨rfl,rfl,rfl⟩
 refine ag<|aB [3,2,0] rfl<|aj (X' :=[_,_]) (S' :=[]) (fun _ m=>m)<|ab<|ae<|ai<|aw rfl<|aG rfl<|ag<|aB [2,3,0] rfl<|ab<|aV<| ?_
 exact bc trivial rfl rfl [1,0] rfl [] rfl ⟨rfl,rfl,rfl⟩
theorem DZ{g gr:Nat}{q:Pn}{B:Option Addr}{n k:Nat}{s0:fV}{l:List UInt8}(hq:q.ok)(hs0:s0.ok [])(hl:l.length=n)(hn:n≤1000000):b7 Tryz.prog 284 [.pointer (some ⟨g,0,none⟩),.slice B n k] [aH g 389 (C1 q gr none 0 0),kL gr s0 []] [cL 1 B n (aW l)] (fun v_ X_ S_=>∃A1 c1 rs A c cur s,v_=(.slice A1 (List.length rs) c1)∧X_=[aK 27 1 (.slice A1 (List.length rs) c1) (List.length rs) (jZ rs),aH g 389 (C1 q gr A (List.length cur) c),kL gr s cur,aK 5 1 (.slice A (List.length cur) c) (List.length cur) (aW cur)]∧S_=[dH rs]∧(rs.map aR.l=(ja q l).1∧cur=(ja q l).2∧(∀r∈rs,r.n=r.l.length)∧s.ok cur∧rs.length+cur.length≤n)):=by
 have q1:=hq.h1
 have q2:=hq.h2
 have q3:=hq.h3
 have q4:=hq.h4
 refine aM (N:=72) Tryz.func284 rfl rfl (by simp) fun b=> ?_
 refine a6 (fun m=>eG (m.rd 0 rfl)) ?_
 rintro⟨hl_rb,hA_rb⟩
 refine bk (fun w m=>m.cQ (r' :=aK 27 1 (.slice none 0 0) 0 []) (.refl _ _) (Own.nil _ _ _ _) (fun k hk=>hk.elim)) ?_
 refine bk (fun w m=>m.cQ (r' :=aK 5 1 (.slice none 0 0) 0 []) (.refl _ _) (Own.nil _ _ _ _) (fun k hk=>hk.elim)) ?_
 refine bk (S' :=gE []::_) (fun w m=>m.pF [] rfl) ?_
 refine bk (fun w m=>m.fA 0 rfl View.CJ) ?_
 refine ae<|ai<|aG rfl<|ag<|ab<|ae<|ai<|aw rfl<|hy (fun _=>aO rfl)<|hy (fun _=>aF rfl yB (by decide))<|hy (fun m=>ao rfl Fh (aA (m.aU 2 rfl) rfl))<|hy (fun _=>fU rfl rfl)<|aG rfl<|ag<|aB [5,4,0,1] rfl<|ab<|ae<|ai<|aG rfl<|ag<|ab<|ae<|ae<|ai<|aw rfl<|hy (fun _=>aY rfl Tryz.underlying27)<|aw rfl<|ag<|ab<|aN<| ?_
 refine Hn (fun i rs A1 c1 A c cur s=>n-i) (fun i rs A1 c1 A c cur s=>[(18,.int .i64 (i:Nat)),(6,.slice A1 (List.length rs) c1)]) (fun i rs A1 c1 A c cur s=>[aK 27 1 (.slice A1 (List.length rs) c1) (List.length rs) (jZ rs),aH g 389 (C1 q gr A (List.length cur) c),kL gr s cur,aK 5 1 (.slice A (List.length cur) c) (List.length cur) (aW cur)]) (fun i rs A1 c1 A c cur s=>[dH rs]) (fun i rs A1 c1 A c cur s=>i≤n∧rs.map aR.l=(ja q (l.take i)).1∧cur=(ja q (l.take i)).2∧(∀r∈rs,r.n=r.l.length)∧s.ok cur∧rs.length+cur.length≤i) 0 [] none 0 none 0 [] s0 [(17,_),(16,_),(5,_),(4,_),(0,_),(1,_)] ⟨rfl,rfl,rfl,rfl,rfl,rfl,trivial⟩ [1,1,1,0] rfl [0] rfl (⟨Nat.zero_le _,rfl,rfl,fun r h=>absurd h List.not_mem_nil,hs0,Nat.le_refl _⟩) ⟨rfl,rfl,trivial⟩ (fun i rs A1 c1 A c cur s ⟨hi,hrs,hcur,hrn,hs,hlen⟩=> ?_)
 refine ae<|ai<|hy (fun _=>bw rfl rfl)<|ag<|ab<|ae<| ?_
 refine cB rfl (fun hlt=> ?_) (fun hlt=> ?_)
 ·have hil:i<l.length:=by omega
  have hsc:=xb q (l.take i) (l.getD i 0)
  rw[←dG hil]at hsc
  obtain⟨e,he⟩:∃e,e=l.getD i 0:=⟨_,rfl⟩
  have hce:(cur++[e]).length=cur.length+1:=by simp
  rw[←he]at hsc
  refine aC<|ab<|ae<|aN<|ae<|ai<|hy (fun _=>aZ rfl rfl Tryz.underlying27 dU hA_rb rfl (by omega))<|hy (fun m=>yV (ao rfl iO ((m.rd 3 rfl).cell (bM (by omega)))) ((show Value.int .u8 (((l.getD i 0).toNat:Nat):Int)=B8 e by rw[he];rfl)))<|aG rfl<|ag<|aB [8,19,18,6,17,16,5,4,0,1] rfl<|ab<|ae<|ai<|aw rfl<|aw rfl<| ?_
  refine hx (eT rfl rfl Tryz.call304 (H3 hs (by omega) (c:=e) (l:=cur)) [2] rfl [] rfl ?_)
  rintro _ _ _ ⟨s1,rfl,rfl,rfl,hp⟩
  refine aG rfl<|ag<|aB [9,8,19,18,6,17,16,5,4,0,1] rfl<|aj (X' :=[_,_,_,_]) (S' :=[_,_,_,_]) (fun _ m=>m)<|ab<|ae<|ai<|aw rfl<|aw rfl<|hy (fun _=>aO rfl)<|hy (fun _=>aF rfl nJ (by decide))<|hy (fun m=>ao rfl dB (aA (m.aU 2 rfl) rfl))<|aw rfl<| ?_
  refine hx (bQ Tryz.underlying27 fi rfl rfl rfl (by simp[Value.cells,B8]) (by decide) (by decide) (fun g31=> ?_))
  have hA_b31:0<1→(some (⟨g31,0,none⟩:Addr))≠none:=fun _ h=>by cases h
  refine aJ (fun w m=>m.bz 0 rfl (show _=aK 5 1 (.slice (some ⟨g31,0,none⟩) 1 1) 1 (aW [e])from rfl)) ?_
  refine hx (bs 4 rfl rfl rfl Tryz.underlying27 Tryz.underlying27 (by exact .inl rfl) fi rfl (fun m=>Src.bJ (m.ord 0 rfl)) bn (by unfold maxLen;omega) (by omega) (fun u=> ?_))
  refine az (fun m=>(m.own 0 rfl).slice) ?_
  rintro⟨A_o,c_o,rfl,hc_o⟩
  refine az (fun m=>(m.ord 0 rfl).2.1) fun hA_o=> ?_
  refine aJ (fun w m=>m.bz 0 rfl (show _=aK 5 1 (.slice A_o (List.length (cur++[e])) c_o) (List.length (cur++[e])) (aW (cur++[e]))from(by rw[hce];simp[aW]))) ?_
  refine hy (fun _=>aO rfl)<|hy (fun _=>aF rfl nJ (by decide))<| ?_
  refine cI (b9 4 rfl rfl rfl iY rfl (by first|exact Nat.le_of_ble_eq_true rfl|simp) ?_)
  refine aJ (fun w m=>m.bz 0 rfl (show _=aH g 389 (C1 q gr A_o (List.length (cur++[e])) c_o)from(by rw[hce];rfl))) ?_
  refine ag<|aB [9,8,19,18,6,17,16,5,4,0,1] rfl<|aj (X' :=[_,_,_,_,_]) (S' :=[_,_,_,_]) (fun _ m=>m)<|ab<|ae<|ai<|aw rfl<|hy (fun _=>aO rfl)<|hy (fun _=>aF rfl nJ (by decide))<|hy (fun m=>ao rfl dB (aA (m.aU 0 rfl) rfl))<|hy (fun _=>aY rfl Tryz.underlying27)<|aG rfl<|ag<|aB [10,9,8,19,18,6,17,16,5,4,0,1] rfl<|ab<|ae<| ?_
  by_cases h1:(cur++[e]).length=q.m
  ·refine ai<|aw rfl<|aw rfl<|hy (fun _=>aO rfl)<|hy (fun _=>aF rfl nv (by decide))<|hy (fun _=>aF rfl km (by decide))<|hy (fun m=>ao rfl dD (aA (m.aU 0 rfl) rfl))<|hy (fun _=>yT (cx rfl rfl) ((decide_eq_true (by rw[h1]))))<|aw rfl<|bg rfl rfl rfl (by decide)<|bg rfl rfl rfl (by decide)<|bg rfl rfl rfl (by decide)<|bg rfl rfl rfl (by decide)<|bg rfl rfl rfl (by decide)<|bg rfl rfl rfl (by decide)<|bg rfl rfl rfl (by decide)<|bg rfl rfl rfl (by decide)<|mI rfl rfl rfl<|mI rfl rfl rfl<|mI rfl rfl rfl<|mI rfl rfl rfl<|mI rfl rfl rfl<|mI rfl rfl rfl<|mI rfl rfl rfl<|bg rfl rfl rfl (by decide)<|hy (fun _=>bC rfl rfl)<|ag<|aB [64,10,9,8,19,18,6,17,16,5,4,0,1] rfl<|ab<| ?_
   refine fq rfl (rfl) ?_
   have hcn:fY q (cur++[e]):=(.inl h1)
   have hstep:ja q (l.take (i+1))=(rs.map aR.l++[cur++[e]],[]):=by rw[hsc];unfold ep;rw[←hcur,if_pos hcn,hrs]
   refine ai<|aw rfl<|aw rfl<| ?_
   refine hx (aq rfl Tryz.call285 (B4 hp (l:=(cur++[e]))) [0,2] rfl [] rfl ?_)
   rintro _ _ _ ⟨rfl,rfl,rfl⟩
   refine aJ (fun w m=>(m.perm (ar [2] _ [_] _ rfl)).freeze) ?_
   refine aJ (fun w m=>m.fA 0 rfl .own) ?_
   refine aJ (S' :=gE [dH rs,cL 1 A_o (List.length (cur++[e])) (aW (cur++[e]))]::_) (fun w m=>m.pF [2,0] rfl) ?_
   refine aJ (fun w m=>m.fA 0 rfl (View.k7 (rs:=rs) (r:=⟨A_o,List.length (cur++[e]),c_o,cur++[e]⟩) (by show(cur++[e]).length≤c_o;omega))) ?_
   obtain⟨r,hr⟩:∃r:aR,r=⟨A_o,List.length (cur++[e]),c_o,cur++[e]⟩:=⟨_,rfl⟩
   rw[←hr]
   have hlr:(rs++[r]).length=rs.length+1:=by simp
   refine hx (bQ Tryz.underlying84 kZ rfl rfl rfl (by simp[Value.cells,B8]) (by decide) (by decide) (fun g68=> ?_))
   have hA_b68:0<1→(some (⟨g68,0,none⟩:Addr))≠none:=fun _ h=>by cases h
   refine aJ (fun w m=>m.bz 0 rfl (show _=aK 27 1 (.slice (some ⟨g68,0,none⟩) 1 1) 1 (jZ [r])from(by rw[hr];rfl))) ?_
   refine hx (bs 4 rfl rfl rfl Tryz.underlying84 Tryz.underlying84 (by exact .inl rfl) kZ rfl (fun m=>Src.bJ (m.ord 0 rfl)) qc (by unfold maxLen;omega) (by omega) (fun u2=> ?_))
   refine az (fun m=>(m.own 0 rfl).slice) ?_
   rintro⟨A_z,c_z,rfl,hc_z⟩
   refine az (fun m=>(m.ord 0 rfl).2.1) fun hA_z=> ?_
   refine aJ (fun w m=>m.bz 0 rfl (show _=aK 27 1 (.slice A_z (List.length rs+1) c_z) (List.length rs+1) (jZ (rs++[r]))from congrArg (aK _ _ _ _) (by rw[j8]))) ?_
   rw[←hlr]
   refine aJ (fun w m=>m.cQ (r' :=aK 5 1 (.slice none 0 0) 0 []) (.refl _ _) (Own.nil _ _ _ _) (fun k hk=>hk.elim)) ?_
   refine aG rfl<|ag<|aB [6,64,10,9,8,19,18,17,16,5,4,0,1] rfl<|aj (X' :=[_,_,_,_,_,_]) (S' :=[_,_,_,_,_,_,_,_]) (fun _ m=>m)<|aS<|ab<|ai<|hy (fun _=>aP rfl rfl (bA (by omega) (by omega)))<|aw rfl<|ag<|aB [18,6,64,10,9,8,19,17,16,5,4,0,1] rfl<| ?_
   have hrn2:∀x∈rs++[r],aR.n x=(aR.l x).length:=fun x hx=>by
    rcases List.mem_append.1 hx with hx|hx
    ·exact hrn x hx
    ·rw[List.mem_singleton.1 hx,hr]
   refine ua (i+1) (rs++[r]) A_z c_z none 0 [] s1 ⟨rfl,rfl,rfl,rfl,rfl,rfl,rfl,rfl,trivial⟩ [1,2,2,0] rfl [0,5,6,7] rfl (⟨by omega,by rw[hstep,List.map_append,hr];rfl,by rw[hstep],hrn2,hp.clear,by rw[hlr];show _+0≤_;omega⟩) (by omega)
  ·by_cases h2:q.a≤(cur++[e]).length
   ·refine ai<|aw rfl<|aw rfl<|hy (fun _=>aO rfl)<|hy (fun _=>aF rfl nv (by decide))<|hy (fun _=>aF rfl km (by decide))<|hy (fun m=>ao rfl dD (aA (m.aU 0 rfl) rfl))<|hy (fun _=>yF (cx rfl rfl) ((decide_eq_false (by omega))))<|aw rfl<|cy (o:=_) rfl rfl rfl (fun _=>ah rfl)<|cy (o:=_) rfl rfl rfl (fun _=>ah rfl)<|cy (o:=_) rfl rfl rfl (fun _=>aO rfl)<|cy (o:=_) rfl rfl rfl (fun _=>aF rfl nv (by decide))<|cy (o:=_) rfl rfl rfl (fun _=>aF rfl iM (by decide))<|cy (o:=_) rfl rfl rfl (fun m=>ao rfl dD (aA (m.aU 0 rfl) rfl))<|cy (o:=_) rfl rfl rfl (fun _=>yT (dL rfl rfl) ((decide_eq_true (by omega))))<|cy (o:=_) rfl rfl rfl (fun _=>ah rfl)<|cy (o:=_) rfl rfl rfl (fun _=>ah rfl)<|cy (o:=_) rfl rfl rfl (fun _=>ah rfl)<|cy (o:=_) rfl rfl rfl (fun _=>aO rfl)<|cy (o:=_) rfl rfl rfl (fun _=>aF rfl Eg (by decide))<|cy (o:=_) rfl rfl rfl (fun m=>ao rfl bV (aA (m.aU 0 rfl) rfl))<|cy (o:=_) rfl rfl rfl (fun _=>iJ rfl rfl)<|cy (o:=_) rfl rfl rfl (fun _=>cx rfl rfl)<|cy (o:=_) rfl rfl rfl (fun _=>bC rfl rfl)<|hy (fun _=>bo rfl rfl)<|ag<|aB [64,10,9,8,19,18,6,17,16,5,4,0,1] rfl<|ab<| ?_
    refine cB rfl (fun hz=> ?_) (fun hz=> ?_)
    ·have hcn:fY q (cur++[e]):=.inr ⟨h2,UInt32.toNat_inj.1 (by show _=0;have:=hz;omega)⟩
     have hstep:ja q (l.take (i+1))=(rs.map aR.l++[cur++[e]],[]):=by rw[hsc];unfold ep;rw[←hcur,if_pos hcn,hrs]
     refine ai<|aw rfl<|aw rfl<| ?_
     refine hx (aq rfl Tryz.call285 (B4 hp (l:=(cur++[e]))) [0,2] rfl [] rfl ?_)
     rintro _ _ _ ⟨rfl,rfl,rfl⟩
     refine aJ (fun w m=>(m.perm (ar [2] _ [_] _ rfl)).freeze) ?_
     refine aJ (fun w m=>m.fA 0 rfl .own) ?_
     refine aJ (S' :=gE [dH rs,cL 1 A_o (List.length (cur++[e])) (aW (cur++[e]))]::_) (fun w m=>m.pF [2,0] rfl) ?_
     refine aJ (fun w m=>m.fA 0 rfl (View.k7 (rs:=rs) (r:=⟨A_o,List.length (cur++[e]),c_o,cur++[e]⟩) (by show(cur++[e]).length≤c_o;omega))) ?_
     obtain⟨r,hr⟩:∃r:aR,r=⟨A_o,List.length (cur++[e]),c_o,cur++[e]⟩:=⟨_,rfl⟩
     rw[←hr]
     have hlr:(rs++[r]).length=rs.length+1:=by simp
     refine hx (bQ Tryz.underlying84 kZ rfl rfl rfl (by simp[Value.cells,B8]) (by decide) (by decide) (fun g68=> ?_))
     have hA_b68:0<1→(some (⟨g68,0,none⟩:Addr))≠none:=fun _ h=>by cases h
     refine aJ (fun w m=>m.bz 0 rfl (show _=aK 27 1 (.slice (some ⟨g68,0,none⟩) 1 1) 1 (jZ [r])from(by rw[hr];rfl))) ?_
     refine hx (bs 4 rfl rfl rfl Tryz.underlying84 Tryz.underlying84 (by exact .inl rfl) kZ rfl (fun m=>Src.bJ (m.ord 0 rfl)) qc (by unfold maxLen;omega) (by omega) (fun u2=> ?_))
     refine az (fun m=>(m.own 0 rfl).slice) ?_
     rintro⟨A_z,c_z,rfl,hc_z⟩
     refine az (fun m=>(m.ord 0 rfl).2.1) fun hA_z=> ?_
     refine aJ (fun w m=>m.bz 0 rfl (show _=aK 27 1 (.slice A_z (List.length rs+1) c_z) (List.length rs+1) (jZ (rs++[r]))from congrArg (aK _ _ _ _) (by rw[j8]))) ?_
     rw[←hlr]
     refine aJ (fun w m=>m.cQ (r' :=aK 5 1 (.slice none 0 0) 0 []) (.refl _ _) (Own.nil _ _ _ _) (fun k hk=>hk.elim)) ?_
     refine aG rfl<|ag<|aB [6,64,10,9,8,19,18,17,16,5,4,0,1] rfl<|aj (X' :=[_,_,_,_,_,_]) (S' :=[_,_,_,_,_,_,_,_]) (fun _ m=>m)<|aS<|ab<|ai<|hy (fun _=>aP rfl rfl (bA (by omega) (by omega)))<|aw rfl<|ag<|aB [18,6,64,10,9,8,19,17,16,5,4,0,1] rfl<| ?_
     have hrn2:∀x∈rs++[r],aR.n x=(aR.l x).length:=fun x hx=>by
      rcases List.mem_append.1 hx with hx|hx
      ·exact hrn x hx
      ·rw[List.mem_singleton.1 hx,hr]
     refine ua (i+1) (rs++[r]) A_z c_z none 0 [] s1 ⟨rfl,rfl,rfl,rfl,rfl,rfl,rfl,rfl,trivial⟩ [1,2,2,0] rfl [0,5,6,7] rfl (⟨by omega,by rw[hstep,List.map_append,hr];rfl,by rw[hstep],hrn2,hp.clear,by rw[hlr];show _+0≤_;omega⟩) (by omega)
    ·have hcn:¬fY q (cur++[e]):=fun h=>h.elim h1 (fun h=>hz (by rw[h.2];rfl))
     have hstep:ja q (l.take (i+1))=(rs.map aR.l,cur++[e]):=by rw[hsc];unfold ep;rw[←hcur,if_neg hcn,hrs]
     refine aC<|aS<|ab<|ai<|hy (fun _=>aP rfl rfl (bA (by omega) (by omega)))<|aw rfl<|ag<|aB [18,64,10,9,8,19,6,17,16,5,4,0,1] rfl<| ?_
     refine ua (i+1) rs A1 c1 A_o c_o (cur++[e]) s1 ⟨rfl,rfl,rfl,rfl,rfl,rfl,rfl,rfl,trivial⟩ [4,0,2,0] rfl [0,1,2,3] rfl (⟨by omega,by rw[hstep],by rw[hstep],hrn,hp,by omega⟩) (by omega)
   ·refine ai<|aw rfl<|aw rfl<|hy (fun _=>aO rfl)<|hy (fun _=>aF rfl nv (by decide))<|hy (fun _=>aF rfl km (by decide))<|hy (fun m=>ao rfl dD (aA (m.aU 0 rfl) rfl))<|hy (fun _=>yF (cx rfl rfl) ((decide_eq_false (by omega))))<|aw rfl<|cy (o:=_) rfl rfl rfl (fun _=>ah rfl)<|cy (o:=_) rfl rfl rfl (fun _=>ah rfl)<|cy (o:=_) rfl rfl rfl (fun _=>aO rfl)<|cy (o:=_) rfl rfl rfl (fun _=>aF rfl nv (by decide))<|cy (o:=_) rfl rfl rfl (fun _=>aF rfl iM (by decide))<|cy (o:=_) rfl rfl rfl (fun m=>ao rfl dD (aA (m.aU 0 rfl) rfl))<|cy (o:=_) rfl rfl rfl (fun _=>yF (dL rfl rfl) ((decide_eq_false (by omega))))<|cy (o:=_) rfl rfl rfl (fun _=>ah rfl)<|bg rfl rfl rfl (by decide)<|bg rfl rfl rfl (by decide)<|bg rfl rfl rfl (by decide)<|bg rfl rfl rfl (by decide)<|bg rfl rfl rfl (by decide)<|bg rfl rfl rfl (by decide)<|bg rfl rfl rfl (by decide)<|cy (o:=_) rfl rfl rfl (fun _=>bo rfl rfl)<|hy (fun _=>bo rfl rfl)<|ag<|aB [64,10,9,8,19,18,6,17,16,5,4,0,1] rfl<|ab<| ?_
    refine cN rfl (rfl) ?_
    have hcn:¬fY q (cur++[e]):=fun h=>h.elim h1 (fun h=>h2 h.1)
    have hstep:ja q (l.take (i+1))=(rs.map aR.l,cur++[e]):=by rw[hsc];unfold ep;rw[←hcur,if_neg hcn,hrs]
    refine aC<|aS<|ab<|ai<|hy (fun _=>aP rfl rfl (bA (by omega) (by omega)))<|aw rfl<|ag<|aB [18,64,10,9,8,19,6,17,16,5,4,0,1] rfl<| ?_
    refine ua (i+1) rs A1 c1 A_o c_o (cur++[e]) s1 ⟨rfl,rfl,rfl,rfl,rfl,rfl,rfl,rfl,trivial⟩ [4,0,2,0] rfl [0,1,2,3] rfl (⟨by omega,by rw[hstep],by rw[hstep],hrn,hp,by omega⟩) (by omega)
 ·obtain rfl:i=n:=by omega
  rw[List.take_of_length_le (by omega)]at hrs hcur
  refine bG<|an<|an<|aE<|ab<|ae<|ai<|aw rfl<|aG rfl<|ag<|aB [4,19,18,6,17,16,5,0,1] rfl<|ab<|aV<| ?_
  exact bc trivial rfl rfl [0,0,0,0] rfl [0] rfl ⟨A1,c1,rs,A,c,cur,s,rfl,rfl,rfl,⟨hrs,hcur,hrn,hs,hlen⟩⟩
end Go.Proofs.YtmibdabdlgmafaaGreatDoor
end
section
namespace Go.Eng
open Go.RowKit
def kd(l:Nat)(r:Loop):bl where
 dA k:=k=l
 holds w:=w.heap[l]? =some (.loop r)
 iw:=fun{S w w'} f h e=>by
  have hlt:=(Array.getElem?_eq_some_iff.1 e).1
  exact(f.block l hlt (h l rfl)).trans e
 low:=fun{w k} e hk=>by
  have hk' :k=l:=hk
  rw[hk'];exact(Array.getElem?_eq_some_iff.1 e).1
theorem zf(w:World)(l:Nat)(o:Obj):Fr (fun k=>k=l) w (w.putObj l o):=⟨rfl,rfl,rfl,by simp,fun k _ hk=>World.putObj_heap_other hk⟩
theorem Mem.Hk{b:ct}{X S:List bl}{w:World}{l:Nat}{r:Loop}(r' :Loop)(m:Mem b (kd l r::X) S w):Mem b (kd l r' ::X) S (w.putObj l (.loop r')):=by
 have hl:w.heap[l]? =some (.loop r):=m.hx (kd l r) (by simp)
 exact m.change (r' :=kd l r') (zf w l _) (World.putObj_heap_same (Array.getElem?_eq_some_iff.1 hl).1) (fun k hk=>.inl hk)
theorem Mem.IG{b:ct}{X S L:List bl}{w:World}(m:Mem b X S w)(h:gE L∈S):Mem b X (L++S) w:=
 ⟨m.fr,m.xx,fun x hx s hs k hk hk' =>by
  rcases List.mem_append.1 hs with hs|hs
  ·exact m.xs x hx _ h k hk ⟨s,hs,hk'⟩
  ·exact m.xs x hx s hs k hk hk',m.hx,fun s hs=>by
  rcases List.mem_append.1 hs with hs|hs
  ·exact m.hs _ h s hs
  ·exact m.hs s hs,m.nx,fun s hs k hk=>by
  rcases List.mem_append.1 hs with hs|hs
  ·exact m.ns _ h k ⟨s,hs,hk⟩
  ·exact m.ns s hs k hk⟩
def Yields{α:Type}(P:Program)(l:Nat)(encs:α→List Value)(exs:α→List bl)(ok:List α→α→Prop)(b:ct)(J:List α→bl→Prop)(Sb:List bl):Prop:=
 ∀(pre:List α) (x:α) (Y:bl) (It S:List bl) (W:World),ok pre x→J pre Y→(∀s∈exs x,s∈S)→gE Sb∈S→Mem b (Y::It) S W→
  YieldAt Fence.wide 1 P l (encs x).toArray W fun e W' =>e= .returned (.bool true)∧∃Y',J (pre++[x]) Y' ∧Mem b (Y' ::It) S W'
def CI{α:Type}(P:Program)(g:Nat)(lb:List Value)(S0:List bl)(encs:α→List Value)(exs:α→List bl)(ok:List α→α→Prop)(done:List α→Prop):Prop:=
 ∀(l:Nat) (b:ct) (J:List α→bl→Prop) (Sb:List bl) (Y:bl),Yields P l encs exs ok b J Sb→J [] Y→∀w,Mem b [Y] (gE Sb::S0) w→
  Calls P g (.func (.yield l) #[] #[]::lb).toArray w (RB b fun v X' S' =>∃xs Y',v= .tuple #[]∧X' =[Y']∧S' =[]∧done xs∧J xs Y')
theorem Ds{α:Type}{P:Program}{f:Nat}{fn:Func}{c:Code}{vs:List Value}{N:Nat}{S0:List bl}{encs:α→List Value}{exs:α→List bl}{ok:List α→α→Prop}{done:List α→Prop}(hf:P.funcs[f]? =some fn)(hb:fn.body=some c)(hN:fn.ntmps=N)(hl:vs.length+1≤N)
  (h:∀(l:Nat) (b:ct) (J:List α→bl→Prop) (Sb:List bl) (Y:bl),Yields P l encs exs ok b J Sb→J [] Y→HC P (bodyPost P fn (RB b fun v X' S' =>∃xs Y',v= .tuple #[]∧X' =[Y']∧S' =[]∧done xs∧J xs Y')) N [] c (gh (.func (.yield l) #[] #[]::vs) 0) b [Y] (gE Sb::S0)):
  CI P f vs S0 encs exs ok done:=fun l b J Sb Y hY hJ w m=>enter hf hb hN hl (h l b J Sb Y hY hJ w m)
def Kz{σ:Type}(b:ct)(X1:σ→List bl)(S:List bl)(I:σ→Prop):Exit→Act→World→Prop
 | .normal,_,w=>∃s,I s∧Mem b (X1 s) S w
 |_,_,_=>False
theorem Kq{σ:Type}{b:ct}{X1:σ→List bl}{Sb:List bl}{I:σ→Prop}{N:Nat}{D:List Deferred}{ρ:Env}{X S Xz:List bl}(s:σ)(hi:I s)(is:List Nat)(hX:bT is X=some (X1 s,Xz))(js:List Nat)(hS:dy js S=some Sb):
  HQ (Kz b X1 Sb I) N D .normal ρ b X S:=fun w m a ha=>⟨s,hi,m.out is hX js hS⟩
section
variable{P:Program}{Q:Exit→Act→World→Prop}{N:Nat}{D:List Deferred}{ρ ρ' :Env}{b:ct}{X X' Xr S S' Sb S0:List bl}
theorem DO{α σ:Type}{g gf id:Nat}{ps:Array Tmp}{assign body:Code}{lb:List Value}(X1:σ→List bl)(s0:σ)(I:List α→σ→Prop)(encs:α→List Value)(exs:α→List bl)(ok:List α→α→Prop)(done:List α→Prop)(ρx:α→Env)(ρk:Env)(hk:eD ρk ρ)
  (hv:get ρ g=some (.func (.func gf) #[] lb.toArray)) (heg:∀args w,(callFunc gf args).run P w= .ok (.enter gf args) w)
  (hit:CI P gf lb S0 encs exs ok done) (ks:List Nat) (hS0:dy ks S=some S0)
  (is:List Nat) (hX:bT is X=some (X1 s0,Xr)) (js:List Nat) (hS:dy js S=some Sb)
  (hps:∀x,(encs x).length=ps.size) (hnd:∀x (a:Act),Ag N D ρ a→Ag N [] (ρ' ++vt ps (encs x)++ρ) {tmps:=(ps.zip (encs x).toArray).foldl (fun t (p,v)=>t.setIfInBounds p v) a.tmps,defers:=[]})
  (hasg:∀(l:Nat) (b' :ct) (s:σ) (x:α) (S' :List bl) (Q' :Exit→Act→World→Prop),HQ Q' N [] .normal (ρx x++ρk) b' (X1 s) S' →s9 l 1 P Q' N [] assign (ρ' ++vt ps (encs x)++ρ) b' (X1 s) S')
  (h0:I [] s0)
  (hbody:∀(l:Nat) (b' :ct) (pre:List α) (s:σ) (x:α),I pre s→ok pre x→s9 l 1 P (Kz b' X1 (exs x++Sb) (I (pre++[x]))) N [] body (ρx x++ρk) b' (X1 s) (exs x++Sb))
  (k:∀(Dk:Nat) (s:σ) (xs:List α),done xs→I xs s→HQ Q N (⟨.collected Dk, #[]⟩::D) .normal ρ b (kD Dk::(X1 s++Xr)) S):
  HC P Q N D (.block id (.rangeFunc (.tmp g) ps assign body)) ρ b X S:=by
 intro w m a ha
 have m1:=m.perm (ar _ _ _ _ hX)
 have hSb:=cm _ _ _ hS
 refine wpIn_wide (n:=3).1 (wpIn_block (wpIn_rangeFunc ?_))
 intro fn hfn
 obtain⟨rec,hrec⟩:∃rec:LoopState→Loop,rec=fun st=>{state:=st,pending:=none,fn,tmps:=a.tmps,params:=ps,assign,body,defers:=w.heap.size}:=⟨_,rfl⟩
 obtain⟨l,hl⟩:∃l,l=w.heap.size+1:=⟨_,rfl⟩
 have hev:a.eval (.tmp g)= .func (.func gf) #[] lb.toArray:=ha.eval hv
 have mA:=m1.cQ (r' :=kD w.heap.size) (Fr.alloc w (.deferred (some []))) (World.alloc_heap_new w _) (fun k hk=>by have hk' :k=w.heap.size:=hk;omega)
 have mB:=mA.cQ (r' :=kd l (rec .ready)) (Fr.alloc _ (.loop (rec .ready))) (by rw[hl];have:=World.alloc_heap_new (w.alloc (.deferred (some []))) (.loop (rec .ready));rwa [World.size_alloc]at this) (fun k hk=>by have hk' :k=l:=hk;rw[World.size_alloc];omega)
 obtain⟨W1,hW1⟩:∃W1,W1=(w.alloc (.deferred (some []))).alloc (.loop (rec .ready)):=⟨_,rfl⟩
 rw[←hW1]at mB
 refine⟨l,[{target:=.collected w.heap.size,args:= #[]}],W1,{target:=.fn (.func gf) lb.toArray,args:= #[.func (.yield l) #[] #[]]},W1,gf,
  (.func (.yield l) #[] #[]::lb).toArray,W1, ?_, ?_,fun _ _=>trivial, ?_,(fun h=>by simp[Fence.wide]at h), ?_⟩
 ·rw[hW1,hrec,hl];exact run_enterLoop_outer _ _ _ _ _
 ·simp only[resolve,hev]
  simp[go_sem]
 ·simp[invoke,go_sem,heg]
 ·
  have hY:∀b:ct,Yields P l encs exs ok b (fun pre Y=>∃s,I pre s∧Y=eY (X1 s++(kd l (rec .ready)::kD w.heap.size::Xr))) Sb:=by
   rintro b pre x _ It S1 W hok ⟨s,hI,rfl⟩ hex hall mW
   have mU:=(mW.unpack).IG hall
   have hp:∀(s:σ) (r:Loop),(kd l r::(X1 s++(kD w.heap.size::(Xr++It)))).Perm ((X1 s++(kd l r::kD w.heap.size::Xr))++It):=fun s r=>by
    rw[List.append_assoc];exact List.perm_middle.symm
   have hq:∀(s:σ) (r:Loop),(kd l r::(X1 s++(kD w.heap.size::(Xr++It)))).Perm (X1 s++(kd l r::kD w.heap.size::(Xr++It))):=fun s r=>List.perm_middle.symm
   have hl0:W.heap[l]? =some (.loop (rec .ready)):=mU.hx (kd l (rec .ready)) (by simp)
   have hy:=run_yield (P:=P) (args:=(encs x).toArray) hl0 (by rw[hrec];simpa using hps x)
   rw[hrec]at hy
   refine⟨fn,_,assign,body,hy,roundIn_of_wpIn hfn ?_⟩
   have hS1:∀r∈exs x++Sb,r∈Sb++S1:=fun r hr=>(List.mem_append.1 hr).elim (fun h=>List.mem_append_right _ (hex r h)) (fun h=>List.mem_append_left _ h)
   have m0:=(mU.perm (hp s _).symm).perm (hq s _)
   refine hasg l ⟨W,dp (X1 s),dp (exs x++Sb)⟩ s x (exs x++Sb) _ (fun w1 m1 a1 ha1=> ?_) (fun⟨_,_,h⟩=>h) W (m0.part hS1) _ (hnd x a ha)
   have m2:=(m0.frame hS1 m1).jo (S' :=Sb++S1) (fun r hr=>List.mem_append_right _ hr)
   have hl1:w1.heap[l]? =some (.loop (rec .ready)):=m2.hx (kd l (rec .ready)) (by simp)
   refine⟨_,run_beginRound hl1 (by rw[hrec]), ?_⟩
   have m3:=((m2.perm (hq s _).symm).Hk {rec .ready with state:=.busy}).perm (hq s _)
   refine wpIn_mono (hbody l ⟨_,dp (X1 s),dp (exs x++Sb)⟩ pre s x hI hok (fun⟨_,_,h⟩=>h) _ (m3.part hS1) a1 ha1) ?_
   intro e a3 w3 q
   cases e with
   |normal=>
    obtain⟨s',hI',q⟩:=q
    have m4:=(m3.frame hS1 q).jo (S' :=Sb++S1) (fun r hr=>List.mem_append_right _ hr)
    have hl3:w3.heap[l]? =some (.loop {rec .ready with state:=.busy}):=m4.hx (kd l {rec .ready with state:=.busy}) (by simp)
    have hr:=run_endRound (P:=P) none hl3
    have e2:({{rec .ready with state:=.busy}with state:=if(none:Option Code).isNone then .ready else .done,pending:=none}:Loop)=rec .ready:=by rw[hrec];rfl
    rw[e2]at hr
    exact⟨_,_,hr,rfl,_,⟨s',hI',rfl⟩,((((m4.perm (hq s' _).symm).Hk (rec .ready)).perm (hp s' _)).pack).jo (fun r hr=>List.mem_append_right _ hr)⟩
   |ret=>exact q.elim
   |exit i=>exact q.elim
   |goto t=>exact q.elim
   |panic c=>exact q.elim
   |outgrown=>exact q.elim
  have mC:Mem b (X1 s0++(kd l (rec .ready)::kD w.heap.size::Xr)) S W1:=mB.perm ((List.Perm.cons _ List.perm_middle.symm).trans List.perm_middle.symm)
  have mD:Mem b ([eY (X1 s0++(kd l (rec .ready)::kD w.heap.size::Xr))]++[]) (gE Sb::S) W1:=(Mem.pack (X:=[]) (by simpa using mC)).pF js hS
  have kE:∀r∈gE Sb::S0,r∈gE Sb::S:=fun r hr=>by
   rcases List.mem_cons.1 hr with rfl|hr
   ·exact List.mem_cons_self ..
   ·exact List.mem_cons_of_mem _ (cm _ _ _ hS0 r hr)
  refine callsIn_wide.2 (Calls.mono (hit l ⟨W1,dp [eY (X1 s0++(kd l (rec .ready)::kD w.heap.size::Xr))],dp (gE Sb::S0)⟩ _ Sb _ (hY _) ⟨s0,h0,rfl⟩ W1 (mD.part kE)) ?_)
  rintro e w2 ⟨v,_,_,rfl,⟨xs,_,rfl,rfl,rfl,hd,s,hI,rfl⟩,m2⟩
  have m3:=((mD.frame kE m2).unpack).jo (S' :=S) (fun r hr=>List.mem_append_right _ (List.mem_cons_of_mem _ hr))
  have hl2:w2.heap[l]? =some (.loop (rec .ready)):=m3.hx (kd l (rec .ready)) (by simp)
  have hr:=run_endLoop (P:=P) hl2 (by rw[hrec];simp)
  have e2:(rec .ready).pending=none:=by rw[hrec]
  rw[e2]at hr
  have hp:∀(r:Loop),((X1 s++(kd l r::kD w.heap.size::Xr))++[]).Perm (kd l r::(X1 s++(kD w.heap.size::Xr))):=fun r=>by
   rw[List.append_nil];exact List.perm_middle
  refine⟨none,_,hr, ?_⟩
  refine k w.heap.size s xs hd hI _ ?_ {a with defers:=⟨.collected w.heap.size, #[]⟩::a.defers} ⟨ha.sz,by rw[←ha.df],ha.gt⟩
  exact(Mem.xa (X:=[_]) ((m3.perm (hp _)).Hk _)).perm List.perm_middle
theorem GJ{N p:Nat}{D:List Deferred}{ρ:Env}{a:Act}{u:Value}(hp:p<N)(ha:Ag N D ρ a):
  Ag N [] ([]++vt #[p] [u]++ρ) {tmps:=((#[p]:Array Tmp).zip [u].toArray).foldl (fun t (p,v)=>t.setIfInBounds p v) a.tmps,defers:=[]}:=by
 have e:(((#[p]:Array Tmp).zip [u].toArray).foldl (fun t (p,v)=>t.setIfInBounds p v) a.tmps)=a.tmps.setIfInBounds p u:=by simp
 rw[e]
 have hsz:=ha.sz
 refine⟨by simpa using hsz,rfl,fun t z ht=> ?_⟩
 simp only[vt,List.nil_append,List.zip_cons_cons,List.zip_nil_right,List.cons_append,get]at ht
 show(a.tmps.setIfInBounds p u)[t]? =some z
 cases h1:Nat.beq p t with
 |true=>
  rw[h1]at ht
  have h1' :p=t:=Nat.eq_of_beq_eq_true h1
  simp only[cond_true,Option.some.injEq]at ht
  subst h1';subst ht
  rw[Array.getElem?_setIfInBounds_self_of_lt (by omega)]
 |false=>
  rw[h1]at ht
  simp only[cond_false]at ht
  have h1' :p≠t:=Nat.ne_of_beq_eq_false h1
  rw[Array.getElem?_setIfInBounds_ne h1']
  exact ha.gt t z (by simpa using ht)
end
theorem Bw{P:Program}{Q:Exit→Act→World→Prop}{a:Act}{w:World}{n:Nat}{o:Oper}{next next' :Act→World→Prop}(h:o.wp P a w next Q)(hd:mS o.op=false)(hn:∀a w,next a w→next' a w):o.wpIn Fence.wide n P a w next' Q:=by
 refine⟨fun _ _=>trivial, ?_⟩
 have e:o.semAt (Fence.wide).round a.eval=execOp a.eval o:=Oper.semAt_eq _ _ _ (fun c hc=>by rw[hc]at hd;cases hd)
 rw[e]
 unfold Oper.wp at h
 generalize(execOp a.eval o).run P w=r at h
 match r,h with
 | .ok (.value v) w',h=>exact hn _ _ h
 | .ok .skip w',h=>exact hn _ _ h
 | .ok (.defer d) w',h=>exact hn _ _ h
 | .ok (.enter f args) w',h=>
  refine⟨fun h=>by simp[Fence.wide]at h,callsIn_wide.2 (Calls.mono h ?_)⟩
  intro e w'' q
  cases e with
  |returned v=>exact hn _ _ q
  |panicked c=>exact q
  |outgrown=>exact q
 | .ok (.row row args) w',h=>exact⟨fun h=>by simp[Fence.wide]at h,fun c cs _=>let⟨v,w'',r,s⟩:=h c cs;⟨v,w'',hn _ _ r,stepsIn_wide.2 s⟩⟩
 | .halt (.panic v) w',h=>exact h
def J8(P:Program)(Q:Exit→Act→World→Prop):List Oper→Act→World→Prop
 | [],a,w=>Q .normal a w
 |o::r,a,w=>o.wpIn Fence.wide 2 P a w (J8 P Q r) Q
theorem te{P:Program}{Q:Exit→Act→World→Prop}{ops:Array Oper}(hg:ops.toList.all (fun o=>o.guard.isNone)=true):∀(il:List Nat) (a:Act) (w:World),J8 P Q (il.filterMap fun i=>ops[i]?) a w→wpOpsIn Fence.wide 2 P ops Q il a w
 | [],a,w,h=>h
 |i::rest,a,w,h=>by
  unfold wpOpsIn
  cases ho:ops[i]? with
  |none=>rw[List.filterMap_cons,ho]at h;exact te hg rest a w h
  |some o=>
   rw[List.filterMap_cons,ho]at h
   have hod:o.guard=none:=by
    have h1:=List.all_eq_true.1 hg o (by obtain⟨hi,he⟩:=Array.getElem?_eq_some_iff.1 ho;rw[←he];exact Array.getElem_mem_toList ..)
    simpa using h1
   show if _ then _ else _
   rw[if_pos (by simp[Region.wanted,hod])]
   exact Oper.wpIn_mono (fun a w h=>te hg rest a w h) h
def zZ(P:Program)(Q:Exit→Act→World→Prop)(N:Nat)(D:List Deferred)(l:List Oper)(ρ:Env)(b:ct)(X S:List bl):Prop:=∀w,Mem b X S w→∀a,Ag N D ρ a→J8 P Q l a w
section
variable{P:Program}{Q:Exit→Act→World→Prop}{N:Nat}{D:List Deferred}{ρ ρ' :Env}{b:ct}{X X' Xr S S' :List bl}{rest:List Oper}{op:Op}{ty:TypeId}{pos:String}{af:Array Edge}{d:Nat}{v:Value}
theorem Fv{id:Nat}{l:List Oper}(h:zZ P Q N D l ρ b X S)(hg:l.all (fun o=>o.guard.isNone)=true:=by rfl)(hl:(List.range l.length).filterMap (fun i=>l.toArray[i]?)=l:=by rfl):HC P Q N D (.region id l.toArray false) ρ b X S:=fun w m a ha=>by
 refine wpIn_wide (n:=2).1 (wpIn_region (te (by simpa using hg) _ a w ?_))
 rw[show(List.range l.toArray.size).filterMap (fun i=>l.toArray[i]?)=l from hl]
 exact h w m a ha
theorem Je(h:∀{w},Mem b X S w→Yl P N D ρ w op ty v)(k:zZ P Q N D rest ((d,v)::ρ) b X S)(hd:d<N:=by decide)(hq:mS op=false:=by rfl):zZ P Q N D (⟨some d,op,ty,pos,af,none⟩::rest) ρ b X S:=fun w m a ha=>by
 refine Bw (next:=fun a' w' =>a' =a.put (some d) v∧w' =w) ?_ hq ?_
 ·unfold Oper.wp
  rw[h m a (some d) pos af none ha]
  exact⟨rfl,rfl⟩
 ·rintro a' w' ⟨rfl,rfl⟩
  exact k _ m _ (ha.put hd)
theorem KH(h:XH P Q N D ρ b X S op ty fun v X' S' =>zZ P Q N D rest ((d,v)::ρ) b X' S')(hd:d<N:=by decide)(hq:mS op=false:=by rfl):zZ P Q N D (⟨some d,op,ty,pos,af,none⟩::rest) ρ b X S:=fun w m a ha=>by
 refine Bw (h w m a (some d) pos af none ha) hq ?_
 rintro a' w' ⟨v,rfl,X',S',m',hk⟩
 exact hk w' m' _ (ha.put hd)
theorem Fy(h:HQ Q N D .normal ρ b X S):zZ P Q N D [] ρ b X S:=fun w m a ha=>h w m a ha
theorem BW(h:∀w,Mem b X S w→Mem b X' S' w)(k:zZ P Q N D rest ρ b X' S'):zZ P Q N D rest ρ b X S:=fun w m=>k w (h w m)
theorem tH{p:Prop}(h:∀{w},Mem b X S w→p)(k:p→zZ P Q N D rest ρ b X S):zZ P Q N D rest ρ b X S:=fun w m=>k (h m) w m
theorem A0{α:Type}{l:Nat}{encs:α→List Value}{exs:α→List bl}{ok:List α→α→Prop}{J:List α→bl→Prop}{Sb:List bl}{pre:List α}{Y:bl}{f:Operand}{args:List Operand}{tys:Array TypeId}(hY:Yields P l encs exs ok b J Sb)(x:α)(hok:ok pre x)(hJ:J pre Y)(hf:ev ρ f=some (.func (.yield l) #[] #[]))(hv:oe ρ args=some (encs x))
  (i:Nat) (hi:X[i]? =some Y) (hex:∀s∈exs x,s∈S) (hSb:gE Sb∈S) (k:∀Y',J (pre++[x]) Y' →zZ P Q N D rest ((d,.bool true)::ρ) b (Y' ::X.eraseIdx i) S) (hd:d<N:=by decide):
  zZ P Q N D (⟨some d,.call ⟨.value f,args.toArray,tys⟩,ty,pos,af,none⟩::rest) ρ b X S:=fun w m a ha=>by
 have m1:=m.perm (ar [i] X [Y] (X.eraseIdx i) (by simp[bT,hi]))
 obtain⟨fn,tmps,assign,body,hy,hR⟩:=hY pre x Y (X.eraseIdx i) S w hok hJ hex hSb m1
 have hy' :(execOp a.eval ⟨some d,.call ⟨.value f,args.toArray,tys⟩,ty,pos,af,none⟩).run P w= .ok (.round l fn tmps assign body) w:=by
  have h1:=ha.eval hf
  have h2:=ha.ik hv
  simp[execOp,resolve,Deferred.ofValue,invoke,h1,h2,hy]
 refine⟨fun _ _=>trivial, ?_⟩
 rw[Oper.semAt_eq _ _ _ (fun c hc=>by cases hc),hy',Oper.uponIn_round]
 refine⟨fun h=>by simp[Fence.wide]at h,hR.mono ?_⟩
 rintro e w' ⟨rfl,Y',hJ',m'⟩
 exact k Y' hJ' w' m' _ (ha.put hd)
end
end Go.Eng
end
section
set_option maxRecDepth 20000
namespace Go.Proofs.YtmibdabdlgmafaaGreatDoor
open Go.Eng Go.Hx Go.Sort
structure JE where
 b:List UInt8
 h:b.length=32
instance:Inhabited JE:=⟨⟨List.replicate 32 0,List.length_replicate⟩⟩
end Go.Proofs.YtmibdabdlgmafaaGreatDoor
end
section
set_option maxRecDepth 20000
set_option maxHeartbeats 4000000
namespace Go.Proofs.YtmibdabdlgmafaaGreatDoor
open Go.Eng Go.Hx
abbrev It:=JE×Int
structure IX where
 mn:Int
 av:Int
 mx:Int
 img:JE
 its:List It
 A:Option Addr
 c:Nat
def fz(t:It):List Value:=aW t.1.b++[.int .i64 t.2]
def jD(l:List It):List Value:=l.flatMap fz
theorem cf(t:It):(fz t).length=33:=by simp[fz,ax,t.1.h]
theorem nE(t:It):∀u∈fz t,u.oneCell' =true:=by
 intro u hu
 rcases List.mem_append.1 hu with h|h
 ·exact jj u h
 ·rw[List.mem_singleton.1 h];rfl
theorem fI(a b:List It):jD (a++b)=jD a++jD b:=by simp[jD]
theorem kx{l:List It}:∀u∈jD l,u.oneCell' =true:=by
 intro u hu
 obtain⟨t,_,h⟩:=List.mem_flatMap.1 hu
 exact nE t u h
def IX.cs(x:IX):List Value:=[.int .i64 x.mn,.int .i64 x.av,.int .i64 x.mx]++aW x.img.b++[.slice x.A x.its.length x.c]
theorem IX.gG(x:IX):x.cs.length=36:=by simp[IX.cs,ax,x.img.h]
theorem IX.cH(x:IX):∀u∈x.cs,u.oneCell' =true:=by
 intro u hu
 rcases List.mem_append.1 hu with h|h
 ·rcases List.mem_append.1 h with h|h
  ·simp only[List.mem_cons,List.not_mem_nil,or_false]at h
   rcases h with rfl|rfl|rfl <;> rfl
  ·exact jj u h
 ·rw[List.mem_singleton.1 h];rfl
theorem IX.CL(x:IX):x.cs[35]? =some (.slice x.A x.its.length x.c):=by
 have:([Value.int .i64 x.mn,.int .i64 x.av,.int .i64 x.mx]++aW x.img.b).length=35:=by simp[ax,x.img.h]
 unfold IX.cs
 rw[List.getElem?_append_right (by omega),this]
 rfl
theorem tv{w:World}{A:Option Addr}{n i:Nat}{l:List It}{t:It}(h:Rd w 33 A n (jD l))(hx:l[i]? =some t):∀(j:Nat) (u:Value),(aW t.1.b)[j]? =some u→w.cell? ((((A.getD d0).add (i*33)).add 0).add j)=some u:=fun j u hu=>by
 have:=dJ (f:=fz) cf h hx j u (by rw[fz,List.getElem?_append_left (List.getElem?_eq_some_iff.1 hu).1];exact hu)
 rw[add_add,Nat.zero_add]
 exact this
end Go.Proofs.YtmibdabdlgmafaaGreatDoor
end
section
namespace Go.Proofs.YtmibdabdlgmafaaGreatDoor
open Go.Eng Go.Hx
theorem uE:∀{a b:List UInt8},a<b→cb a b<0
 | [],[],h=>absurd h (List.lt_irrefl _)
 | [],y::s,_=>by show(-1:Int)<0;decide
 |x::r,[],h=>absurd h (List.not_lt_nil _)
 |x::r,y::s,h=>by
  rw[List.cons_lt_cons_iff]at h
  rw[lF]
  rcases h with h|⟨rfl,h⟩
  ·rw[if_pos h];decide
  ·rw[if_neg (UInt8.lt_irrefl _),if_neg (UInt8.lt_irrefl _)]
   exact uE h
theorem Cd{a b:List UInt8}(ha:a.length=32)(hb:b.length=32)(h:bx a<bx b):cb a b<0:=by
 have fj:∀{n:List UInt8},n.length=32→∃x y r,cq n=x::y::r∧bx n=99::47::x::y::47::cq n:=fun{n} hn=>by
  have h64:(cq n).length=64:=by rw[dQ,hn]
  match hq:cq n with
  | []=>rw[hq]at h64;cases h64
  | [_]=>rw[hq]at h64;cases h64
  |x::y::r=>exact⟨x,y,r,rfl,by unfold bx;rw[hq];rfl⟩
 obtain⟨x,y,r,h1,h2⟩:=fj ha
 obtain⟨x',y',r',h3,h4⟩:=fj hb
 rw[h2,h4]at h
 rw[←xZ]
 apply uE
 simp only[List.cons_lt_cons_iff,UInt8.lt_irrefl,false_or,true_and]at h
 rw[h1,h3]at h ⊢
 simp only[List.cons_lt_cons_iff]at h ⊢
 rcases h with h|⟨rfl,h⟩
 ·exact .inl h
 ·rcases h with h|⟨rfl,h⟩
  ·exact .inr ⟨rfl,.inl h⟩
  ·exact h
theorem oy:∀(l acc:List (List UInt8)),l.Pairwise (· <·)→(∀a∈acc,∀p∈l,∀nm,kB p=some nm→cb a nm<0)→l.foldl kQ acc=acc++l.filterMap kB
 | [],acc,_,_=>by simp
 |p::r,acc,hs,hA=>by
  rw[List.pairwise_cons]at hs
  rw[List.foldl_cons,List.filterMap_cons]
  cases hq:kB p with
  |none=>
   have:kQ acc p=acc:=by unfold kQ;rw[hq]
   rw[this]
   exact oy r acc hs.2 (fun a ha q hq2 nm h=>hA a ha q (List.mem_cons_of_mem _ hq2) nm h)
  |some nm=>
   have hp:nm.length=32∧p=bx nm:=by
    rw[←kX]at hq
    exact fa hq
   have hd:kQ acc p=acc++[nm]:=by
    unfold kQ
    rw[hq]
    have:=pL acc nm acc.length (Nat.le_refl _) (fun i hi=>by
     rw[List.getD,List.getElem?_eq_getElem hi]
     exact hA _ (List.getElem_mem hi) p (List.mem_cons_self ..) nm hq) (fun h=>absurd h (Nat.lt_irrefl _))
    rw[if_neg (fun h=>absurd h.1 (Nat.lt_irrefl _)),List.take_length,List.drop_length,List.append_nil]at this
    exact this
   rw[hd,oy r (acc++[nm]) hs.2 (fun a ha q hq2 nm2 h=>by
    rcases List.mem_append.1 ha with ha|ha
    ·exact hA a ha q (List.mem_cons_of_mem _ hq2) nm2 h
    ·rw[List.mem_singleton.1 ha]
     have hp2:nm2.length=32∧q=bx nm2:=by
      rw[←kX]at h
      exact fa h
     refine Cd hp.1 hp2.1 ?_
     rw[←hp.2,←hp2.2]
     exact hs.1 q hq2)]
   simp
theorem xk{d:RD}(h:rH d.seen):cR d d.seen.length=gj d:=by
 unfold cR gj
 rw[List.take_length,oy _ _ h (fun a ha=>(List.not_mem_nil ha).elim)]
 rfl
end Go.Proofs.YtmibdabdlgmafaaGreatDoor
end
section
set_option maxRecDepth 20000
namespace Go.Proofs.YtmibdabdlgmafaaGreatDoor
open Go.Eng Go.Hx
theorem wU(d:RD):xh (gj d):=fun x hx=>by
 obtain⟨p,_,h⟩:=List.mem_filterMap.1 hx
 rw[←kX]at h
 exact(fa h).1
end Go.Proofs.YtmibdabdlgmafaaGreatDoor
end
section
set_option maxRecDepth 20000
set_option maxHeartbeats 4000000
namespace Go.Proofs.YtmibdabdlgmafaaGreatDoor
open Go.Eng Go.Hx
theorem xm(d:RD):(gj d).length≤d.seen.length:=by
 unfold gj
 have:=List.length_filterMap_le kB (d.seen.map (·.1))
 rwa [List.length_map]at this
end Go.Proofs.YtmibdabdlgmafaaGreatDoor
end
section
namespace Go.Proofs.YtmibdabdlgmafaaGreatDoor
open Go.Eng Go.Hx
def HR(d:RD):Nat:=(d.waits.filter fun c=>decide (c.1≠2)).length
structure Bd(d:RD)(B W:Nat):Prop where
 sn:d.seen.length≤B
 la:d.dm.length+HR d≤B
 wt:d.waits.length≤W
 nS:∀y∈d.seen,y.1.length≤1000
 nL:∀y∈d.dm,y.1.length≤1000
 nW:∀c∈d.waits,(c.1=0→c.2.1.length≤1000)∧c.2.2.1.length≤1000
theorem Bd.le{d:RD}{B W B' W' :Nat}(h:Bd d B W)(hB:B≤B')(hW:W≤W'):Bd d B' W' :=⟨Nat.le_trans h.sn hB,Nat.le_trans h.la hB,Nat.le_trans h.wt hW,h.nS,h.nL,h.nW⟩
theorem Bd.new(room:Int):Bd (RD.new room) 0 0:=⟨Nat.le_refl _,Nat.le_refl _,Nat.le_refl _,fun y h=>(List.not_mem_nil h).elim,fun y h=>(List.not_mem_nil h).elim,fun y h=>(List.not_mem_nil h).elim⟩
theorem q7:∀(l:List FP) (x:FP),(ix l x).length≤l.length+1
 | [],x=>Nat.le_refl _
 |a::r,x=>by
  unfold ix
  have:=q7 r x
  split
  ·simp only[List.length_cons];omega
  ·rw[List.length_cons];exact Nat.succ_le_succ (List.length_filter_le _ _)
theorem uY(l:List FP)(x:FP):(hC l x).length≤l.length+1:=by
 rw[jL]
 exact q7 l x
theorem xy{l:List FP}{p b:List UInt8}(h:∀y∈l,y.1.length≤1000)(hp:p.length≤1000):∀y∈hC l (p,b),y.1.length≤1000:=by
 intro y hy
 rw[jL]at hy
 rcases ye hy with rfl|hy
 ·exact hp
 ·exact h y hy
theorem DL{l:List FP}{k:Int}{p t b:List UInt8}(h:∀y∈l,y.1.length≤1000)(hp:k=0→p.length≤1000)(ht:t.length≤1000):∀y∈eo l k p t b,y.1.length≤1000:=by
 unfold eo
 split
 ·exact xy h (hp (by assumption))
 ·split
  ·exact h
  ·split
   ·exact fun y hy=>h y (List.mem_filter.1 hy).1
   ·exact xy (fun y hy=>h y (List.mem_filter.1 hy).1) ht
theorem Ca{l:List FP}{k:Int}{p t b:List UInt8}:(eo l k p t b).length≤l.length+(if k≠2 then 1 else 0):=by
 by_cases h0:k=0
 ·rw[eo,if_pos h0,if_pos (by rw[h0];decide)];exact uY _ _
 ·rw[eo,if_neg h0]
  cases hq:l[cV l p]? with
  |none=>exact Nat.le_add_right _ _
  |some x=>
   by_cases h2:k=2
   ·simp only[if_pos h2]
    exact Nat.le_trans (List.length_filter_le _ _) (Nat.le_add_right _ _)
   ·simp only[if_neg h2]
    rw[if_pos h2]
    exact Nat.le_trans (uY _ _) (Nat.succ_le_succ (List.length_filter_le _ _))
theorem Bd.kG{d:RD}{B W:Nat}(h:Bd d B W){k:Int}{p t b:List UInt8}(hp:k=0→p.length≤1000)(ht:t.length≤1000):Bd (d.kG k p t b) (B+(if k≠2 then 1 else 0)) (W+1):=by
 have h1:=h.sn
 have h2:=h.la
 have h3:=h.wt
 refine⟨Nat.le_trans Ca (Nat.add_le_add_right h1 _), ?_, ?_,DL h.nS hp ht,h.nL,fun c hc=> ?_⟩
 ·have:HR (d.kG k p t b)=HR d+(if k≠2 then 1 else 0):=by
   show((d.waits++[(k,p,t,b)]).filter _).length=_
   rw[List.filter_append,List.length_append]
   congr 1
   by_cases hk:k=2
   ·simp[hk]
   ·simp[hk]
  rw[this]
  show d.dm.length+_≤_
  omega
 ·show(d.waits++[_]).length≤_
  rw[List.length_append]
  exact Nat.add_le_add_right h3 1
 ·rcases List.mem_append.1 hc with hc|hc
  ·exact h.nW c hc
  ·rw[List.mem_singleton.1 hc];exact⟨hp,ht⟩
theorem Bd.write{d:RD}{B W:Nat}(h:Bd d B W){p l:List UInt8}(hp:p.length≤1000):Bd (d.write p l) (B+1) (W+1):=by
 unfold RD.write
 split
 ·exact h.kG (fun _=>hp) (by decide)
 ·exact h.le (by omega) (by omega)
theorem Bd.rename{d:RD}{B W:Nat}(h:Bd d B W){a c:List UInt8}(hc:c.length≤1000):Bd (d.rename a c) (B+1) (W+1):=by
 unfold RD.rename
 split
 ·exact h.kG (fun e=>absurd e (by decide)) hc
 ·exact h.le (by omega) (by omega)
theorem Bd.sync{d:RD}{B W:Nat}(h:Bd d B W):Bd d.sync B W:=by
 unfold RD.sync
 split
 ·exact h
 ·exact⟨h.sn,h.sn,Nat.zero_le _,h.nS,h.nS,fun c hc=>(List.not_mem_nil hc).elim⟩
theorem Bd.ck{d:RD}{B W:Nat}(h:Bd d B W){n:Int}:Bd (d.ck n) B W:=⟨h.sn,h.la,h.wt,h.nS,h.nL,h.nW⟩
theorem Bd.fB(a:Nat):∀(Fs:List (RD→RD×Int)) {d:RD} {B W:Nat},(∀F∈Fs,∀d B W,Bd d B W→Bd (F d).1 (B+a) (W+1))→Bd d B W→Bd (fB Fs d).1 (B+a*Fs.length) (W+Fs.length)
 | [],d,B,W,_,h=>h
 |F::r,d,B,W,hF,h=>by
  have h1:=hF F (List.mem_cons_self ..) d B W h
  rw[Go.Proofs.YtmibdabdlgmafaaGreatDoor.fB]
  split
  ·refine h1.le ?_ (by rw[List.length_cons];omega)
   rw[List.length_cons,Nat.mul_succ];omega
  ·refine(Bd.fB a r (fun G hG=>hF G (List.mem_cons_of_mem _ hG)) h1).le ?_ (by rw[List.length_cons];omega)
   rw[List.length_cons,Nat.mul_succ];omega
theorem Bd.put{d:RD}{B W:Nat}(h:Bd d B W)(bb:List UInt8):Bd (d.put bb).1 (B+4) (W+4):=by
 have hm:=bK bb
 have hR:Bd (d.iX bb).1 (B+4) (W+4):=Bd.fB 1 (yu (b6 (bL bb)) bb (bL bb)) (fun F hF d B W h=>by
  simp only[List.mem_cons,List.not_mem_nil,or_false]at hF
  rcases hF with rfl|rfl|rfl|rfl
  ·exact h.write (by rw[jA hm];decide)
  ·exact h.sync.le (by omega) (by omega)
  ·exact h.rename (by rw[fp hm];decide)
  ·exact h.sync.le (by omega) (by omega)) h
 unfold RD.put
 split
 ·exact h.le (by omega) (by omega)
 ·split
  ·exact h.le (by omega) (by omega)
  ·split
   ·exact h.le (by omega) (by omega)
   ·exact hR
end Go.Proofs.YtmibdabdlgmafaaGreatDoor
end
section
set_option maxRecDepth 20000
set_option maxHeartbeats 4000000
namespace Go.Proofs.YtmibdabdlgmafaaGreatDoor
open Go.Eng Go.Hx
def ints(l:List Int):List Value:=l.map (Value.int .i64)
def yP(l:List Int):Prop:=∀z∈l,-9223372036854775808≤z∧z≤9223372036854775807
theorem Ai{l:List Int}{i:Nat}(h:i<l.length):(ints l)[i]? =some (.int .i64 (l.getD i 0)):=by simp[ints,List.getElem?_map,List.getElem?_eq_getElem h,List.getD]
theorem yP.at{l:List Int}(h:yP l){i:Nat}(hi:i<l.length):-9223372036854775808≤l.getD i 0∧l.getD i 0≤9223372036854775807:=by
 rw[List.getD,List.getElem?_eq_getElem hi]
 exact h _ (List.getElem_mem hi)
theorem s8(d:RD)(bb:List UInt8):(d.put bb).2.1.length=32:=by
 unfold RD.put
 split
 ·exact fw
 ·split
  ·exact fw
  ·split
   ·exact bK _
   ·show(if _ then _ else _:List UInt8).length=32
    split
    ·exact bK _
    ·exact fw
theorem zt{P:Program}{e:TypeId}(he:P.underlying e=some (.int .i64)):∀{n:Nat} {ys:List Cell},ys.length=n→(∀i,i<n→Ty P e ((ys.drop i).take 1))→∃l:List Int,ys.map Cell.val=ints l∧l.length=n∧yP l:=by
 intro n ys hl h
 have hg:∀i,i<n→∃z:Int,ys[i]? =some (.v (.int .i64 z))∧-9223372036854775808≤z∧z≤9223372036854775807:=fun i hi=>by
  obtain⟨z,hz,hb⟩:=tA he (h i hi)
  have h2:((ys.drop i).take 1)[0]? =some (.v (.int .i64 z)):=by rw[hz];rfl
  rw[List.getElem?_take,if_pos (by omega),List.getElem?_drop,Nat.add_zero]at h2
  exact⟨z,h2,hb⟩
 refine⟨ys.map fun y=>match y.val with| .int _ z=>z|_=>0, ?_,by simpa using hl,fun z hz=> ?_⟩
 ·apply List.ext_getElem?
  intro i
  simp only[ints,List.map_map,List.getElem?_map]
  by_cases hi:i<n
  ·obtain⟨z,hz,_⟩:=hg i hi
   rw[hz]
   simp[Cell.val]
  ·rw[List.getElem?_eq_none (by omega)]
   rfl
 ·obtain⟨y,hy,rfl⟩:=List.mem_map.1 hz
  obtain⟨i,hi⟩:=List.mem_iff_getElem?.1 hy
  have hin:i<n:=by rw[←hl];exact(List.getElem?_eq_some_iff.1 hi).1
  obtain⟨z,hz2,hb⟩:=hg i hin
  rw[hi]at hz2
  cases hz2
  exact hb
theorem EG{xs:List Cell}(h:Ty Tryz.prog 44 xs):∃A n c ys l,xs=[.s 1 A n c ys]∧ys.map Cell.val=ints l∧yP l:=by
 obtain⟨A,n,c,ys,rfl,h1,h2,h3,h4⟩:=uC Tryz.underlying44 h
 have c1:Tryz.prog.cellsOf 3=1:=by kernel_rfl
 rw[c1]at h3 h4 ⊢
 obtain⟨l,h5,h6,h7⟩:=zt Tryz.underlying3 (by omega:ys.length=n) (fun i hi=>by have:=h4 i hi;rwa [Nat.mul_one]at this)
 exact⟨A,n,c,ys,l,rfl,h5,h7⟩
end Go.Proofs.YtmibdabdlgmafaaGreatDoor
end
section
set_option maxRecDepth 20000
set_option maxHeartbeats 4000000
namespace Go.Proofs.YtmibdabdlgmafaaGreatDoor
open Go.Eng Go.Hx
theorem oI{l:List Int}{i n:Nat}(h:¬(i<l.length∧i<n))(hi:i≤l.length)(hn:i≤n):l.take i=l.take n:=by
 by_cases h1:i<l.length
 ·have:i=n:=by omega
  rw[this]
 ·rw[List.take_of_length_le (by omega),List.take_of_length_le (by omega)]
end Go.Proofs.YtmibdabdlgmafaaGreatDoor
end
section
set_option maxRecDepth 20000
set_option maxHeartbeats 4000000
namespace Go.Proofs.YtmibdabdlgmafaaGreatDoor
open Go.Eng Go.Hx
def k4:JE:=⟨List.replicate 32 0,List.length_replicate⟩
def JG:IX:=⟨0,0,0,k4,[],none,0⟩
theorem I2{P:Program}{pl:Nat→Option (Nat×Nat)}{x:IX}(h0:pl 0=some (0,3))(h1:pl 1=some (3,32))(h2:pl 2=some (35,1)):xX P pl JG.cs [(0,.agg [Value.int .i64 x.mn,.int .i64 x.av,.int .i64 x.mx].toArray),(1,.agg (aW x.img.b).toArray),(2,.slice x.A x.its.length x.c)] x.cs:=by
 have hi:(aW x.img.b).length=32:=by rw[ax,x.img.h]
 have hz:(aW k4.b).length=32:=by rw[ax,k4.h]
 have e1:b8 JG.cs 0 [Value.int .i64 x.mn,.int .i64 x.av,.int .i64 x.mx]=[Value.int .i64 x.mn,.int .i64 x.av,.int .i64 x.mx]++aW k4.b++[.slice none 0 0]:=rfl
 have e2:b8 ([Value.int .i64 x.mn,.int .i64 x.av,.int .i64 x.mx]++aW k4.b++[.slice none 0 0]) 3 (aW x.img.b)=[Value.int .i64 x.mn,.int .i64 x.av,.int .i64 x.mx]++aW x.img.b++[.slice none 0 0]:=dW rfl (by rw[hi,hz])
 have e3:b8 ([Value.int .i64 x.mn,.int .i64 x.av,.int .i64 x.mx]++aW x.img.b++[.slice none 0 0]) 35 [.slice x.A x.its.length x.c]=x.cs:=by
  have:=dW (a:=[Value.int .i64 x.mn,.int .i64 x.av,.int .i64 x.mx]++aW x.img.b) (b:=[Value.slice none 0 0]) (c:=[]) (vs:=[.slice x.A x.its.length x.c]) (o:=35) (by simp[hi]) rfl
  rw[List.append_nil,List.append_nil]at this
  exact this
 exact .cons h0 (aT _) rfl (by rw[IX.gG];decide) (by rw[e1];exact .cons h1 (aT _) hi (by simp[hz]) (by rw[e2];exact .cons h2 rfl rfl (by simp[hi]) (by rw[show(Value.slice x.A x.its.length x.c).cells.toList=[Value.slice x.A x.its.length x.c]from rfl,e3];exact .nil)))
theorem yt{w:World}{g:Nat}{ty:TypeId}{a b c:List Value}(h:eQ w g ty (a++b++c)):∀(j:Nat) (u:Value),b[j]? =some u→w.cell? (((⟨g,0,none⟩:Addr).add a.length).add j)=some u:=fun j u hu=>by
 have hj:=(List.getElem?_eq_some_iff.1 hu).1
 have:=h.au (a.length+j) u (by rw[List.getElem?_append_left (by rw[List.length_append];omega),List.getElem?_append_right (by omega),Nat.add_sub_cancel_left];exact hu)
 rw[add_add]
 exact this
theorem o3{P:Program}{pl:Nat→Option (Nat×Nat)}{t:It}(h0:pl 0=some (0,32))(h1:pl 1=some (32,1)):xX P pl (fz (k4,0)) [(0,.agg (aW t.1.b).toArray),(1,.int .i64 t.2)] (fz t):=by
 have hz:(aW k4.b).length=32:=by rw[ax,k4.h]
 have hn:(aW t.1.b).length=32:=by rw[ax,t.1.h]
 have e1:b8 (fz (k4,0)) 0 (aW t.1.b)=aW t.1.b++[.int .i64 0]:=by
  have:=dW (a:=[]) (b:=aW k4.b) (c:=[Value.int .i64 0]) (vs:=aW t.1.b) (o:=0) rfl (by rw[hn,hz])
  exact this
 have e2:b8 (aW t.1.b++[.int .i64 0]) 32 [.int .i64 t.2]=fz t:=by
  have:=dW (a:=aW t.1.b) (b:=[Value.int .i64 0]) (c:=[]) (vs:=[.int .i64 t.2]) (o:=32) hn rfl
  rw[List.append_nil,List.append_nil]at this
  exact this
 exact .cons h0 (aT _) hn (by rw[cf];decide) (by rw[e1];exact .cons h1 rfl rfl (by simp[hn]) (by rw[show(Value.int .i64 t.2).cells.toList=[Value.int .i64 t.2]from rfl,e2];exact .nil))
end Go.Proofs.YtmibdabdlgmafaaGreatDoor
end
section
set_option maxRecDepth 20000
set_option maxHeartbeats 2000000
namespace Go.Proofs.YtmibdabdlgmafaaGreatDoor
open Go.Eng Go.Hx
def dX(c:List UInt8):It:=(⟨bL c,bK _⟩,((c.length:Nat):Int))
def cw(l:List UInt8)(q:Pn):List It:=(e7 l q).map dX
theorem uZ(w:List UInt32)(q:Pn):∀(f:Nat) (b:List UInt8),(jE w q f b).length≤f
 |0,_=>Nat.le_refl _
 |f+1,b=>by
  rw[jE]
  split
  ·exact Nat.zero_le _
  ·rw[List.length_cons];have:=uZ w q f (b.drop (iL w b q));omega
theorem na{w:List UInt32}{q:Pn}:∀{f:Nat} {b c:List UInt8},c∈jE w q f b→c.length≤b.length
 |0,_,_,h=>by rw[jE]at h;exact absurd h List.not_mem_nil
 |f+1,b,c,h=>by
  rw[jE]at h
  split at h
  ·exact absurd h List.not_mem_nil
  ·rcases List.mem_cons.1 h with h|h
   ·rw[h,List.length_take];omega
   ·have:=na h
    rw[List.length_drop]at this
    omega
theorem lr(l:List UInt8)(q:Pn):(e7 l q).length≤l.length:=uZ ..
theorem yf{B:Option Addr}{n k:Nat}{l:List UInt8}{q:Pn}(hq:q.ok)(hl:l.length=n)(hn:n≤1000000)(hk:n≤k):b7 Tryz.prog 193 [.slice B n k,.agg q.p.cs.toArray] [] [cL 1 B n (aW l)] (fun v_ X_ S_=>∃A2 c2,v_=(.slice A2 (cw l q).length c2)∧X_=[aK 100 33 (.slice A2 (cw l q).length c2) (cw l q).length (jD (cw l q))]∧S_=[]):=by
 refine aM (N:=32) Tryz.func193 rfl rfl (by simp) fun b=> ?_
 refine a6 (fun m=>eG (m.rd 0 rfl)) ?_
 rintro⟨hl_rb,hA_rb⟩
 refine ae<|ai<| ?_
 refine hx (bu rfl (fun g3=> ?_))
 refine aJ (fun w m=>m.bz 0 rfl (show _=aH g3 75 q.p.cs from congrArg (aH _ _) (aT _))) ?_
 refine aG rfl<|ag<|aj (X' :=[_]) (S' :=[_]) (fun _ m=>m)<|ab<|ae<|ai<|aw rfl<|hy (fun m=>yV (aQ rfl gC gg rfl ((m.aU 0 rfl).au)) ((rfl:_=Value.agg q.p.cs.toArray)))<| ?_
 refine hx (aq rfl Tryz.call50 (vB hq hl hn hk) [] rfl [0] rfl ?_)
 rintro _ _ _ ⟨A1,c1,rs,rfl,rfl,rfl,hcs⟩
 obtain⟨hcs,hrs⟩:=hcs
 have hrl:rs.length≤n:=by
  have:=congrArg List.length hcs
  rw[List.length_map]at this
  have:=lr l q
  omega
 refine aJ (fun w m=>(m.perm (ar [0] _ [_] _ rfl)).freeze) ?_
 refine aJ (fun w m=>m.fA 0 rfl .own) ?_
 refine az (fun m=>fH (m.rd 0 rfl)) ?_
 rintro⟨hl_or,hA_or⟩
 refine aJ (fun w m=>m.cQ (r' :=aK 100 33 (.slice none 0 0) 0 []) (.refl _ _) (Own.nil _ _ _ _) (fun k hk=>hk.elim)) ?_
 refine aG rfl<|ag<|aB [5,4,3,0,1] rfl<|aj (X' :=[_,_]) (S' :=[_,_,_,_]) (fun _ m=>m)<|ab<|ae<|ai<|aG rfl<|ag<|ab<|ae<|ae<|ai<|aG rfl<|ag<|ab<|aN<| ?_
 refine gJ (fun i A2 c2=>rs.length-i) (fun i A2 c2=>[(6,.slice A2 i c2),(7,.int .i64 (i:Nat))]) (fun i A2 c2=>[aK 100 33 (.slice A2 i c2) i (jD ((rs.take i).map fun r=>dX (aR.l r)))]) (fun i A2 c2=>[]) (fun i A2 c2=>i≤rs.length) 0 none 0 [(5,_),(4,_),(3,_),(0,_),(1,_)] ⟨rfl,rfl,rfl,rfl,rfl,trivial⟩ [0] rfl [] rfl (Nat.zero_le _) ⟨rfl,rfl,trivial⟩ (fun i A2 c2 hi=> ?_)
 refine ae<|ae<|ai<|aw rfl<|aw rfl<|hy (fun _=>aY rfl Tryz.underlying84)<|hy (fun _=>bw rfl rfl)<|ag<|aB [14,6,7,5,4,3,0,1] rfl<|ab<| ?_
 refine cB rfl (fun hlt=> ?_) (fun hlt=> ?_)
 ·obtain⟨r,hr⟩:∃r,rs[i]? =some r:=⟨_,List.getElem?_eq_getElem (by omega)⟩
  have hrn:=hrs r (List.mem_of_getElem? hr)
  have hrl2:(aR.l r).length≤n:=by
   rw[←hl]
   exact na (w:=bE) (q:=q) (f:=l.length) (show aR.l r∈e7 l q by rw[←hcs];exact List.mem_map_of_mem (List.mem_of_getElem? hr))
  have htk:(rs.take (i+1)).map (fun r=>dX (aR.l r))=(rs.take i).map (fun r=>dX (aR.l r))++[dX (aR.l r)]:=by
   obtain⟨h1,rfl⟩:=List.getElem?_eq_some_iff.1 hr
   rw[List.take_succ_eq_append_getElem h1,List.map_append]
   rfl
  refine bk (fun w m=>m.fA 2 rfl (View.row hr)) ?_
  refine a6 (fun m=>eG (m.rd 0 rfl)) ?_
  rintro⟨hl_ri,hA_ri⟩
  refine aC<|ab<|ae<|aN<|cD [5,12,13] [(0,some 2),(1,some 2),(2,some 2),(3,some 0),(4,some 0),(6,some 3),(7,some 3),(8,some 3),(9,some 1),(10,some 1),(5,none),(11,some 1),(12,none),(13,none),(14,some 3)] (by kernel_rfl) (by kernel_rfl) rfl 2<|ak (ah rfl)<|ak (ah rfl)<|ak (ah rfl)<|ak (aZ rfl rfl Tryz.underlying84 iY hA_or rfl (by omega))<|bZ (fun m=>ao rfl dB ((m.rd 1 rfl).cell (show(jZ rs)[i]? =some (Value.slice (aR.A r) (aR.n r) (aR.c r)) by rw[jZ,List.getElem?_map,hr];rfl)))<|ak (ah rfl)<|ak (ah rfl)<|ak (aZ rfl rfl Tryz.underlying84 iY hA_or rfl (by omega))<|bZ (fun m=>ao rfl dB ((m.rd 1 rfl).cell (show(jZ rs)[i]? =some (Value.slice (aR.A r) (aR.n r) (aR.c r)) by rw[jZ,List.getElem?_map,hr];rfl)))<|ak (yV (aY rfl Tryz.underlying27) ((show Value.int .i64 ((aR.n r:Nat):Int)= .int .i64 (dX (aR.l r)).2 from by rw[hrn];rfl)))<| ?_
  refine dF (aq rfl Tryz.call56 (kH (by omega)) [] rfl [0] rfl ?_)
  rintro _ _ _ ⟨rfl,rfl,rfl⟩
  refine⟨(fun _=>wk [0,0] [0,1,2,3,4] rfl rfl), ?_⟩
  refine ak (bU l7 rfl rfl (by kernel_rfl) (o3 (t:=dX (aR.l r)) tO sQ))<| ?_
  refine dF (bQ Tryz.underlying80 l7 rfl rfl rfl (by intro v hv;rw[List.mem_singleton.1 hv];show(fz (dX (aR.l r))).toArray.size=33;rw[List.size_toArray,cf]) (by decide) (by decide) (fun g29=>⟨(fun _=>wk [1,1] [0,1,2,3,4] rfl rfl), ?_⟩))
  have hA_b29:0<1→(some (⟨g29,0,none⟩:Addr))≠none:=fun _ h=>by cases h
  refine ez (fun w m=>m.bz 0 rfl (show _=aK 100 33 (.slice (some ⟨g29,0,none⟩) 1 1) 1 (jD [dX (aR.l r)])from rfl)) ?_
  refine dF (bs 1 rfl rfl rfl Tryz.underlying80 Tryz.underlying80 (by exact .inl rfl) l7 rfl (fun m=>Src.bJ (m.ord 0 rfl)) kx (by unfold maxLen;omega) (by omega) (fun u=>⟨(fun h=>absurd h (by decide)), ?_⟩))
  refine cd (fun m=>(m.own 0 rfl).slice) ?_
  rintro⟨A_z,c_z,rfl,hc_z⟩
  refine cd (fun m=>(m.ord 0 rfl).2.1) fun hA_z=> ?_
  refine ez (fun w m=>m.bz 0 rfl (show _=aK 100 33 (.slice A_z (i+1) c_z) (i+1) (jD ((rs.take (i+1)).map fun r=>dX (aR.l r)))from congrArg (aK _ _ _ _) (by rw[htk,fI]))) ?_
  refine ak (al rfl)<|bq<|aB [6,14,7,5,4,3,0,1] rfl<|aj (X' :=[_,_,_]) (S' :=[_,_,_,_,_]) (fun _ m=>m)<|aS<|ab<|ai<|aw rfl<|hy (fun _=>aP rfl rfl (bA (by omega) (by omega)))<|aG rfl<|ag<|aB [7,6,14,5,4,3,0,1] rfl<| ?_
  refine fD (i+1) A_z c_z ⟨rfl,rfl,rfl,rfl,rfl,rfl,rfl,trivial⟩ [0,1] rfl [1,2,3,4] rfl (by omega) (by omega)
 ·obtain rfl:i=rs.length:=by omega
  rw[List.take_length]
  have hit:(rs.map fun r=>dX (aR.l r))=cw l q:=by rw[cw,←hcs,List.map_map];rfl
  have hrl3:rs.length=(cw l q).length:=by rw[←hit,List.length_map]
  rw[hit,hrl3]
  refine bG<|an<|an<|aE<|ab<|ae<|ai<|aw rfl<|aG rfl<|ag<|aB [4,14,6,7,5,3,0,1] rfl<|ab<|aV<| ?_
  exact bc trivial rfl rfl [0] rfl [] rfl ⟨_,_,rfl,rfl,rfl⟩
end Go.Proofs.YtmibdabdlgmafaaGreatDoor
end
section
set_option maxRecDepth 20000
set_option maxHeartbeats 2000000
namespace Go.Proofs.YtmibdabdlgmafaaGreatDoor
open Go.Eng Go.Hx
theorem Bx{q:Pn}(hq:q.ok){l:List UInt8}{rs:List aR}{cur:List UInt8}(h1:rs.map aR.l=(ja q l).1)(h2:cur=(ja q l).2):rs.map aR.l++(if cur=[]then []else [cur])=e7 l q:=by
 rw[h1,h2];exact wR hq l
theorem wH{q:Pn}{l c:List UInt8}(h:c∈e7 l q):c.length≤l.length:=na h
theorem Jj{gp gb:Nat}{q:Pn}{B:Option Addr}{n k:Nat}{l:List UInt8}(hq:q.ok)(hl:l.length=n)(hn:n≤1000000):CI (α:=aR) Tryz.prog 282 [.pointer (some ⟨gp,0,none⟩),.pointer (some ⟨gb,0,none⟩)] [aH gp 75 q.p.cs,aH gb 27 [.slice B n k],cL 1 B n (aW l)] (fun x_=>[.slice x_.A x_.n x_.c]) (fun x_=>[cL 1 x_.A x_.n (aW x_.l)]) (fun pre_ x_=>pre_.length<n∧x_.l.length≤n) (fun xs_=>xs_.map aR.l=e7 l q):=by
 refine Ds (N:=38) Tryz.func282 rfl rfl (by simp) fun l_ b J_ Sb_ Y_ hY_ hJ_=> ?_
 refine a6 (fun m=>eG (m.rd 3 rfl)) ?_
 rintro⟨hl_rb,hA_rb⟩
 refine ae<|ai<|hy (fun m=>yV (aQ rfl gC gg rfl ((m.s4 1 rfl).au)) ((rfl:_=Value.agg q.p.cs.toArray)))<| ?_
 refine hx (aq rfl Tryz.call283 (Jq hq (q:=q)) [] rfl [] rfl ?_)
 rintro _ _ _ ⟨gc,gr,rfl,rfl,rfl⟩
 refine aw rfl<|hy (fun _=>aD rfl rfl)<|hy (fun _=>aD rfl rfl)<|aG rfl<|aG rfl<|ag<|aB [5,4,0,1,2] rfl<|aj (X' :=[_,_,_]) (S' :=[_,_,_,_]) (fun _ m=>m)<|ab<|ae<|ae<|ai<|aw rfl<|hy (fun _=>cT rfl rfl)<|ag<|aB [15,5,4,0,1,2] rfl<|ab<| ?_
 refine cN rfl (rfl) ?_
 refine aC<|ab<|ae<|ae<|ai<|aw rfl<|hy (fun m=>ao rfl dB (aA (m.s4 2 rfl) rfl))<| ?_
 refine hx (aq rfl Tryz.call284 (DZ hq xp hl hn (q:=q)) [0,0] rfl [3] rfl ?_)
 rintro _ _ _ ⟨A1,c1,rs,A,c,cur,s,rfl,rfl,rfl,hw⟩
 obtain⟨hw1,hw2,hw3,hw4,hw5⟩:=hw
 have hall:=Bx hq hw1 hw2
 have hmem:∀r∈rs,r.l.length≤n:=fun r hr=>by
  rw[←hl]
  exact wH (q:=q) (by rw[←hall];exact List.mem_append_left _ (List.mem_map_of_mem hr))
 refine az (fun m=>(m.ord 0 rfl).2.1) fun hA_z=> ?_
 refine hy (fun _=>aY rfl Tryz.underlying84)<|aw rfl<|ag<|aB [20,19,18,15,5,4,0,1,2] rfl<|aj (X' :=[_,_,_,_,_]) (S' :=[_,_,_,_,_]) (fun _ m=>m)<|ab<|aN<| ?_
 refine mq (fun i Y=>rs.length-i) (fun i Y=>[(20,.int .i64 (i:Nat))]) (fun i Y=>[Y]) (fun i Y=>[]) (fun i Y=>i≤rs.length∧J_ (rs.take i) Y) 0 Y_ [(19,_),(18,_),(15,_),(5,_),(4,_),(0,_),(1,_),(2,_)] ⟨rfl,rfl,rfl,rfl,rfl,rfl,rfl,rfl,trivial⟩ [4] rfl [] rfl (⟨Nat.zero_le _,hJ_⟩) ⟨rfl,trivial⟩ (fun i Y ⟨hi,hJ⟩=> ?_)
 refine ae<|ai<|hy (fun _=>bw rfl rfl)<|ag<|ab<|ae<| ?_
 refine cB rfl (fun hlt=> ?_) (fun hlt=> ?_)
 ·have hir:i<rs.length:=by omega
  obtain⟨r,hr⟩:∃r,rs[i]? =some r:=⟨_,List.getElem?_eq_getElem hir⟩
  have hrm:=List.mem_of_getElem? hr
  have htk:rs.take (i+1)=rs.take i++[r]:=by
   obtain⟨h1,rfl⟩:=List.getElem?_eq_some_iff.1 hr
   exact List.take_succ_eq_append_getElem h1
  refine bk (fun w m=>m.fA 0 rfl (View.row hr)) ?_
  refine a6 (fun m=>eG (m.rd 0 rfl)) ?_
  rintro⟨hl_rt,hA_rt⟩
  refine aC<|ab<|ae<|aN<|ae<|ai<|hy (fun _=>aZ rfl rfl Tryz.underlying84 iY hA_z rfl (by omega))<|hy (fun m=>ao rfl dB ((m.ord 1 rfl).cell (show(jZ rs)[i]? =some (Value.slice r.A r.n r.c) by rw[jZ,List.getElem?_map,hr];rfl)))<|aG rfl<|ag<|aB [7,21,20,19,18,15,5,4,0,1,2] rfl<|ab<|ae<|Fv<|Je (fun _=>ah rfl)<|Je (fun _=>ah rfl)<| ?_
  refine A0 hY_ r (⟨by rw[List.length_take];omega,hmem r hrm⟩:(rs.take i).length<n∧r.l.length≤n) hJ rfl rfl 0 rfl (fun s_ hs_=>by rw[List.mem_singleton.1 hs_];exact List.mem_of_getElem? (i:=0) rfl) (List.mem_of_getElem? (i:=2) rfl) fun Y1 hJ1=> ?_
  rw[←htk]at hJ1
  refine Je (fun _=>(iK rfl))<|Fy<|aB [27,7,21,20,19,18,15,5,4,0,1,2] rfl<|aj (X' :=[_,_,_,_,_]) (S' :=[_,_,_,_,_,_]) (fun _ m=>m)<|ab<| ?_
  refine cN rfl (rfl) ?_
  refine aC<|aS<|ab<|ai<|hy (fun _=>aP rfl rfl (bA (by omega) (by omega)))<|aw rfl<|ag<|aB [20,27,7,21,19,18,15,5,4,0,1,2] rfl<| ?_
  refine jt (i+1) Y1 ⟨rfl,rfl,rfl,rfl,rfl,rfl,rfl,rfl,rfl,trivial⟩ [0,0,0,0,0] rfl [1,2,3,4,5] rfl (⟨by omega,hJ1⟩) (by omega)
 ·obtain rfl:i=rs.length:=by omega
  rw[List.take_length]at hJ
  refine bG<|an<|an<|aE<|ab<|ae<|ai<|aw rfl<| ?_
  refine hx (aq rfl Tryz.call285 (B4 hw4) [2,2] rfl [] rfl ?_)
  rintro _ _ _ ⟨rfl,rfl,rfl⟩
  refine aG rfl<|ag<|aB [8,21,20,19,18,15,5,4,0,1,2] rfl<|aj (X' :=[_,_,_,_,_]) (S' :=[_,_,_,_,_]) (fun _ m=>m)<|ab<|ae<|ai<|aw rfl<|hy (fun _=>aY rfl Tryz.underlying27)<|hy (fun _=>cW rfl rfl)<|ag<|aB [33,8,21,20,19,18,15,5,4,0,1,2] rfl<|ab<| ?_
  refine cB rfl (fun hpos=> ?_) (fun hpos=> ?_)
  ·have hcl:0<cur.length:=by omega
   have hne:cur≠ []:=fun e=>by rw[e]at hcl;exact absurd hcl (by decide)
   rw[if_neg hne]at hall
   have hcn:cur.length≤n:=by
    rw[←hl]
    exact wH (q:=q) (by rw[←hall];simp)
   refine Fv<|Je (fun _=>ah rfl)<|Je (fun _=>ah rfl)<| ?_
   refine KH (c6 rfl Tryz.call117 (mN (by omega)) [] rfl (.x 4 rfl .own .nil) ?_)
   rintro _ _ _ ⟨v,rfl,rfl,rfl⟩
   refine⟨rfl, ?_⟩
   refine tH (fun m=>(m.own 0 rfl).slice) ?_
   rintro⟨A_x2,c_x2,rfl,hc_x2⟩
   refine tH (fun m=>(m.ord 0 rfl).2.1) fun hA_x2=> ?_
   refine BW (fun w m=>(m.perm (ar [0] _ [_] _ rfl)).freeze) ?_
   refine BW (fun w m=>m.fA 0 rfl .own) ?_
   refine tH (fun m=>eG (m.rd 0 rfl)) ?_
   rintro⟨hl_x2r,hA_x2r⟩
   refine A0 hY_ (⟨A_x2,List.length cur,c_x2,cur⟩:aR) (⟨by omega,hcn⟩:rs.length<n∧cur.length≤n) hJ rfl rfl 2 rfl (fun s_ hs_=>by rw[List.mem_singleton.1 hs_];exact List.mem_of_getElem? (i:=0) rfl) (List.mem_of_getElem? (i:=3) rfl) fun Y1 hJ1=> ?_
   refine Fy<|aB [33,8,21,20,19,18,15,5,4,0,1,2] rfl<|aj (X' :=[_,_,_,_,_]) (S' :=[_,_,_,_,_,_,_]) (fun _ m=>m)<| ?_
   exact eU trivial rfl [0] rfl [] rfl ⟨(rs++[⟨A_x2,List.length cur,c_x2,cur⟩]),Y1,rfl,rfl,rfl,(by rw[List.map_append];exact hall),hJ1⟩
  ·have hcl:cur.length=0:=by omega
   rw[if_pos (List.eq_nil_of_length_eq_zero hcl),List.append_nil]at hall
   refine aC<| ?_
   exact eU trivial rfl [2] rfl [] rfl ⟨rs,Y,rfl,rfl,rfl,hall,hJ⟩
theorem Jl{B:Option Addr}{n k:Nat}{q:Pn}:b7 Tryz.prog 244 [.slice B n k,.agg q.p.cs.toArray] [] [] (fun v_ X_ S_=>∃gb gp,v_=(.func (.func 282) #[] #[.pointer (some ⟨gp,0,none⟩),.pointer (some ⟨gb,0,none⟩)])∧X_=[aH gp 75 q.p.cs,aH gb 27 [.slice B n k]]∧S_=[]):=by
 refine aM (N:=6) Tryz.func244 rfl rfl (by simp) fun b=> ?_
 refine ae<|ai<| ?_
 refine hx (bu rfl (fun g2=> ?_))
 refine hx (bu rfl (fun g3=> ?_))
 refine aG rfl<|ag<|aj (X' :=[_,_]) (S' :=[]) (fun _ m=>m)<|ab<|ae<|ai<|hy (fun _=>fU rfl rfl)<|aG rfl<|ag<|aB [4,3,2,0,1] rfl<|ab<|aV<| ?_
 refine aj (fun w m=>m.bz 1 rfl (show _=aH g2 27 [.slice B n k]from rfl)) ?_
 refine aj (fun w m=>m.bz 1 rfl (show _=aH g3 75 q.p.cs from congrArg (aH _ _) (aT _))) ?_
 exact bc trivial rfl rfl [0,0] rfl [] rfl ⟨g2,g3,rfl,rfl,rfl⟩
theorem E1{B:Option Addr}{n k:Nat}{l:List UInt8}{q:Pn}(hq:q.ok)(hl:l.length=n)(hn:n≤1000000):b7 Tryz.prog 194 [.slice B n k,.agg q.p.cs.toArray] [] [cL 1 B n (aW l),dZ] (fun v_ X_ S_=>∃A2 c2,v_=(.tuple #[.slice A2 (cw l q).length c2,.int .i64 0])∧X_=[aK 100 33 (.slice A2 (cw l q).length c2) (cw l q).length (jD (cw l q))]∧S_=[]):=by
 refine yq (N:=24) Tryz.func194 rfl rfl (by simp) fun b=> ?_
 refine a6 (fun m=>eG (m.rd 0 rfl)) ?_
 rintro⟨hl_rb,hA_rb⟩
 refine ae<|ai<| ?_
 refine hx (bu rfl (fun g3=> ?_))
 refine aJ (fun w m=>m.bz 0 rfl (show _=aH g3 75 q.p.cs from congrArg (aH _ _) (aT _))) ?_
 refine aG rfl<|aG rfl<|ag<|aj (X' :=[_]) (S' :=[_,_]) (fun _ m=>m)<|ab<|ae<|ae<|ai<|hy (fun m=>yV (aQ rfl gC gg rfl ((m.aU 0 rfl).au)) ((rfl:_=Value.agg q.p.cs.toArray)))<| ?_
 refine hx (aq rfl Tryz.call192 (pU (p:=q.p)) [] rfl [] rfl ?_)
 rintro _ _ _ ⟨rfl,rfl,rfl⟩
 refine hy (fun _=>fl rfl)<|ag<|aB [10,5,4,3,0,1] rfl<|aj (X' :=[_]) (S' :=[_,_]) (fun _ m=>m)<|ab<| ?_
 refine cN rfl ((decide_eq_false (fun h=>h hq.may))) ?_
 refine aC<|ab<|ae<|ai<| ?_
 refine hx (bf Kh (fun g6=> ?_))
 refine ag<|aj (X' :=[_,_]) (S' :=[_,_]) (fun _ m=>m)<|ab<|ae<|ae<|ai<|aw rfl<|hy (fun m=>yV (aQ rfl gC gg rfl ((m.aU 1 rfl).au)) ((rfl:_=Value.agg q.p.cs.toArray)))<| ?_
 refine hx (aq rfl Tryz.call244 (Jl (q:=q) (n:=n) (k:=k) (B:=B)) [] rfl [] rfl ?_)
 rintro _ _ _ ⟨gb,gp,rfl,rfl,rfl⟩
 refine ag<|aB [13,6,10,5,4,3,0,1] rfl<|aj (X' :=[_,_,_,_]) (S' :=[_,_]) (fun _ m=>m)<|ab<| ?_
 refine bk (fun w m=>m.bz 2 rfl (show _=aH g6 80 [.slice none 0 0]from rfl)) ?_
 refine bk (fun w m=>m.cQ (r' :=aK 100 33 (.slice none 0 0) 0 []) (.refl _ _) (Own.nil _ _ _ _) (fun k hk=>hk.elim)) ?_
 refine bk (fun w m=>(m.perm (ar [3] _ [_] _ rfl)).freeze) ?_
 refine bk (fun w m=>(m.perm (ar [2] _ [_] _ rfl)).freeze) ?_
 refine DO (σ:=Option Addr×Nat×List It) (α:=aR) (ρ' :=[]) (fun s_:Option Addr×Nat×List It=>[aH g6 80 [.slice s_.1 s_.2.2.length s_.2.1],aK 100 33 (.slice s_.1 s_.2.2.length s_.2.1) s_.2.2.length (jD s_.2.2)]) (none,0,[]) (fun pre_ s_=>s_.2.2=pre_.map (fun r=>dX (aR.l r))) (fun x_=>[.slice x_.A x_.n x_.c]) (fun x_=>[cL 1 x_.A x_.n (aW x_.l)]) (fun pre_ x_=>pre_.length<n∧x_.l.length≤n) (fun xs_=>xs_.map aR.l=e7 l q) (fun x_=>[(7,.slice x_.A x_.n x_.c)]) [(13,_),(6,_),(10,_),(5,_),(4,_),(3,_),(0,_),(1,_)] ⟨rfl,rfl,rfl,rfl,rfl,rfl,rfl,rfl,trivial⟩ rfl Tryz.call282 (Jj hq hl hn) [0,1,2] rfl [1,0] rfl [0,1,2,3] rfl (fun _=>rfl) (fun _ _ ha_=>GJ (by decide) ha_) (fun l_ b_ s_ x_ S_ Q_ h_=> ?_) rfl (fun l_ b pre_ s_ x_ hI_ hok_=> ?_) (fun Dk_ s_ xs_ hd_ hI_=> ?_)
 ·exact qd (aG rfl ((ag (by refine kE ?_ h_;exact⟨rfl,rfl,rfl,rfl,rfl,rfl,rfl,rfl,rfl,trivial⟩))))
 ·obtain⟨A,c,its⟩:=s_
  obtain⟨A1,n1,c1,l1⟩:=x_
  obtain⟨hpre,hl1⟩:=hok_
  try dsimp only
  refine EP (fun m=>eG (m.rd 0 rfl)) ?_
  rintro⟨hl_e,hA_e⟩
  dsimp only at hI_ hl1
  have hil:its.length<n:=by rw[hI_,List.length_map];exact hpre
  have hn1:l1.length=n1:=hl_e
  refine tJ<|CX [2,6,7,8] [(0,some 2),(1,some 0),(3,some 1),(4,some 1),(2,none),(5,some 1),(6,none),(7,none),(8,none)] (by kernel_rfl) (by kernel_rfl) rfl 2<|bZ (fun m=>ao rfl wy (aA (m.aU 0 rfl) rfl))<|ak (ah rfl)<|ak (ah rfl)<|ak (yV (aY rfl Tryz.underlying27) ((show Value.int .i64 ((n1:Nat):Int)= .int .i64 (dX l1).2 from by rw[←hn1];rfl)))<| ?_
  refine dF (aq rfl Tryz.call102 (tw (by omega)) [] rfl [0,4] rfl ?_)
  rintro _ _ _ ⟨rfl,rfl,rfl⟩
  refine⟨(fun _=>wk [0,0] [0,1,2,3,4] rfl rfl), ?_⟩
  refine ak (bU l7 rfl rfl (by kernel_rfl) (o3 (t:=dX l1) tO sQ))<| ?_
  refine dF (bQ Tryz.underlying80 l7 rfl rfl rfl (by intro v hv;rw[List.mem_singleton.1 hv];show(fz (dX l1)).toArray.size=33;rw[List.size_toArray,cf]) (by decide) (by decide) (fun g21=>⟨(fun _=>wk [1,1] [0,1,2,3,4] rfl rfl), ?_⟩))
  have hA_b21:0<1→(some (⟨g21,0,none⟩:Addr))≠none:=fun _ h=>by cases h
  refine ez (fun w m=>m.bz 0 rfl (show _=aK 100 33 (.slice (some ⟨g21,0,none⟩) 1 1) 1 (jD [dX l1])from rfl)) ?_
  refine dF (bs 2 rfl rfl rfl Tryz.underlying80 Tryz.underlying80 (by exact .inl rfl) l7 rfl (fun m=>Src.bJ (m.ord 0 rfl)) kx (by unfold maxLen;omega) (by omega) (fun u=>⟨(fun h=>absurd h (by decide)), ?_⟩))
  refine cd (fun m=>(m.own 0 rfl).slice) ?_
  rintro⟨A_z,c_z,rfl,hc_z⟩
  refine cd (fun m=>(m.ord 0 rfl).2.1) fun hA_z=> ?_
  have hli:(its++[dX l1]).length=its.length+1:=by simp
  refine ez (fun w m=>m.bz 0 rfl (show _=aK 100 33 (.slice A_z (its.length+1) c_z) (its.length+1) (jD (its++[dX l1]))from congrArg (aK _ _ _ _) (by rw[fI]))) ?_
  rw[←hli]
  refine gu (dI 2 rfl rfl rfl Kj rfl (by first|exact Nat.le_of_ble_eq_true rfl|simp) ⟨(fun h=>absurd h (by decide)), ?_⟩)
  refine bq<|aB [7,13,6,10,5,4,3,0,1] rfl<|aj (X' :=[_,_,_]) (S' :=[_,_,_,_,_]) (fun _ m=>m)<|aS<| ?_
  refine aj (fun w m=>m.bz 0 rfl (show _=aH g6 80 [.slice A_z (its++[dX l1]).length c_z]from rfl)) ?_
  exact Kq (A_z,c_z,its++[dX l1]) (by show its++[dX l1]=_;rw[hI_,List.map_append];rfl) [0,0] rfl [0,1,2,3,4] rfl
 ·obtain⟨A,c,its⟩:=s_
  try dsimp only
  dsimp only at hI_ hd_
  have hit:its=cw l q:=by rw[hI_,cw,←hd_,List.map_map];rfl
  subst hit
  refine ab<|ae<|ai<|hy (fun m=>ao rfl wy (aA (m.aU 1 rfl) rfl))<|aG rfl<|aG rfl<|ag<|aB [5,4,13,6,10,3,0,1] rfl<|ab<|aV<| ?_
  refine GW trivial [0] rfl ?_
  exact tZ trivial rfl rfl rfl [1] rfl [] rfl ⟨A,c,rfl,rfl,rfl⟩
end Go.Proofs.YtmibdabdlgmafaaGreatDoor
end
section
set_option maxRecDepth 20000
set_option maxHeartbeats 2000000
namespace Go.Proofs.YtmibdabdlgmafaaGreatDoor
open Go.Eng Go.Hx
def sd(l:List UInt8)(q:Pn)(A:Option Addr)(c:Nat):IX:=⟨q.a,q.b,q.m,⟨bL l,bK _⟩,cw l q,A,c⟩
theorem GY{B:Option Addr}{n k:Nat}{l:List UInt8}{q:Pn}(hq:q.ok)(hl:l.length=n)(hn:n≤1000000)(hk:n≤k):b7 Tryz.prog 127 [.slice B n k,.agg q.p.cs.toArray] [] [cL 1 B n (aW l)] (fun v_ X_ S_=>∃A2 c2,v_=(.agg (sd l q A2 c2).cs.toArray)∧X_=[]∧S_=[cL 33 A2 (cw l q).length (jD (cw l q))]):=by
 refine aM (N:=12) Tryz.func127 rfl rfl (by simp) fun b=> ?_
 refine a6 (fun m=>eG (m.rd 0 rfl)) ?_
 rintro⟨hl_rb,hA_rb⟩
 refine ae<|ai<| ?_
 refine hx (bu rfl (fun g3=> ?_))
 refine aJ (fun w m=>m.bz 0 rfl (show _=aH g3 75 q.p.cs from congrArg (aH _ _) (aT _))) ?_
 refine hx (bf Iw (fun g4=> ?_))
 refine ag<|aj (X' :=[_,_]) (S' :=[_]) (fun _ m=>m)<|ab<|ae<|cD [2,5,7] [(0,some 2),(1,some 0),(3,some 1),(4,some 1),(2,none),(5,none),(6,some 2),(7,none)] (by kernel_rfl) (by kernel_rfl) rfl 2<|bZ (fun m=>yV (aQ rfl gC gg rfl ((m.aU 1 rfl).au)) ((rfl:_=Value.agg q.p.cs.toArray)))<|ak (ah rfl)<|ak (ah rfl)<|bZ (fun m=>yV (aQ rfl gC gg rfl ((m.aU 1 rfl).au)) ((rfl:_=Value.agg q.p.cs.toArray)))<| ?_
 refine dF (aq rfl Tryz.call56 (kH (by omega)) [] rfl [0] rfl ?_)
 rintro _ _ _ ⟨rfl,rfl,rfl⟩
 refine⟨(fun _=>wk [0,0] [0] rfl rfl), ?_⟩
 refine dF (aq rfl Tryz.call193 (yf hq hl hn hk) [] rfl [0] rfl ?_)
 rintro _ _ _ ⟨A2,c2,rfl,rfl,rfl⟩
 refine⟨(fun _=>wk [1,1] [0] rfl rfl), ?_⟩
 refine ez (fun w m=>(m.perm (ar [0] _ [_] _ rfl)).freeze) ?_
 refine ez (fun w m=>m.fA 0 rfl .own) ?_
 refine ak (bU Iw rfl rfl (by kernel_rfl) (I2 (x:=sd l q A2 c2) GB Hc F1))<| ?_
 refine gu (ba 0 rfl rfl rfl FR (IX.gG _) (IX.cH _) rfl ⟨(fun h=>absurd h (by decide)), ?_⟩)
 refine bq<|aB [4,3,0,1] rfl<|aj (X' :=[_,_]) (S' :=[_,_,_]) (fun _ m=>m)<|ab<|aV<| ?_
 exact eO trivial rfl rfl Ih FR (IX.gG _) (fun m=>(m.aU 0 rfl).au) [] rfl [0] rfl ⟨A2,c2,rfl,rfl,rfl⟩
end Go.Proofs.YtmibdabdlgmafaaGreatDoor
end
section
set_option maxRecDepth 20000
set_option maxHeartbeats 2000000
namespace Go.Proofs.YtmibdabdlgmafaaGreatDoor
open Go.Eng Go.Hx
def dh:List It→Int→List UInt8→Option (Int×Int)
 | [],_,_=>none
 |t::r,off,nm=>if t.1.b=nm then some (off,t.2)else dh r (off+t.2) nm
def eh(q:Pn):List (List UInt8)→Nat→List UInt8→Option (Nat×Int×Int)
 | [],_,_=>none
 |t::r,i,nm=>match dh (cw t q) 0 nm with
  |some (o,s)=>some (i,o,s)
  |none=>eh q r (i+1) nm
def wu:Option (Nat×Int×Int)→List Value
 |some (i,o,s)=>[.int .i64 i,.int .i64 o,.int .i64 s]
 |none=>[.int .i64 (-1),.int .i64 0,.int .i64 0]
theorem pP(x:Option (Nat×Int×Int)):(wu x).length=3:=by
 match x with
 |none=>rfl
 |some (_,_,_)=>rfl
theorem pT(x:Option (Nat×Int×Int)):∀u∈wu x,u.oneCell' =true:=by
 match x with
 |none=>intro u hu;simp only[wu,List.mem_cons,List.not_mem_nil,or_false]at hu;rcases hu with rfl|rfl|rfl <;> rfl
 |some (_,_,_)=>intro u hu;simp only[wu,List.mem_cons,List.not_mem_nil,or_false]at hu;rcases hu with rfl|rfl|rfl <;> rfl
def fP(its:List It)(k:Nat):Int:=((its.take k).map (·.2)).sum
theorem sI{w:List UInt32}{q:Pn}(hq:q.ok):∀{f:Nat} {b:List UInt8},b.length≤f→(jE w q f b).flatten=b
 |0,b,h=>by
  have:b=[]:=List.length_eq_zero_iff.1 (by omega)
  rw[this];rfl
 |f+1,b,h=>by
  rw[jE]
  split
  ·next e=>rw[e];rfl
  ·next e=>
   have hp:1≤b.length:=Nat.pos_of_ne_zero fun h0=>e (List.length_eq_zero_iff.1 h0)
   have:=ke (w:=w) hq hp
   rw[List.flatten_cons,sI hq (by rw[List.length_drop];omega),List.take_append_drop]
theorem wL{q:Pn}(hq:q.ok)(b:List UInt8):(e7 b q).flatten=b:=sI hq (Nat.le_refl _)
theorem yX{l:List UInt8}{q:Pn}(k:Nat):fP (cw l q) k=((((e7 l q).take k).flatten.length:Nat):Int):=by
 unfold fP cw
 rw[←List.map_take,List.map_map]
 generalize(e7 l q).take k=cs
 induction cs with
 |nil=>rfl
 |cons c r ih=>
  rw[List.map_cons,List.sum_cons,ih,List.flatten_cons,List.length_append]
  show((c.length:Nat):Int)+_=_
  omega
theorem ka{l:List UInt8}{q:Pn}(hq:q.ok)(k:Nat):0≤fP (cw l q) k∧fP (cw l q) k≤l.length:=by
 rw[yX]
 have h:((e7 l q).take k).flatten++((e7 l q).drop k).flatten=l:=by rw[←List.flatten_append,List.take_append_drop,wL hq]
 have:=congrArg List.length h
 rw[List.length_append]at this
 omega
theorem jO{its:List It}{k:Nat}{t:It}(h:its[k]? =some t):fP its (k+1)=fP its k+t.2:=by
 obtain⟨h1,rfl⟩:=List.getElem?_eq_some_iff.1 h
 unfold fP
 rw[List.take_succ_eq_append_getElem h1,List.map_append,List.sum_append]
 simp
theorem vQ{T:Option Addr}{n c:Nat}{rs:List aR}{q:Pn}{nm:List UInt8}(hq:q.ok)(hm:nm.length=32)(hn:rs.length=n)(hr:∀r∈rs,r.n=r.l.length∧r.n≤r.c∧r.n≤1000000)(hnn:n≤1000000):b7 Tryz.prog 134 [.slice T n c,.agg q.p.cs.toArray,.agg (aW nm).toArray] [] [cL 1 T n (jZ rs),dH rs] (fun v_ X_ S_=>v_=(.agg (wu (eh q (rs.map aR.l) 0 nm)).toArray)∧X_=[]∧S_=[]):=by
 have h32:(aW nm).length=32:=by rw[ax,hm]
 refine aM (N:=52) Tryz.func134 rfl rfl (by simp) fun b=> ?_
 refine a6 (fun m=>fH (m.rd 0 rfl)) ?_
 rintro⟨hl_rt,hA_rt⟩
 refine ae<|ai<| ?_
 refine hx (bu rfl (fun g4=> ?_))
 refine aJ (fun w m=>m.bz 0 rfl (show _=aH g4 75 q.p.cs from congrArg (aH _ _) (aT _))) ?_
 refine hx (bu rfl (fun g5=> ?_))
 refine aJ (fun w m=>m.bz 0 rfl (show _=aH g5 53 (aW nm)from congrArg (aH _ _) (aT _))) ?_
 refine hx (bf uo (fun g6=> ?_))
 refine ag<|aj (X' :=[_,_,_]) (S' :=[_,_]) (fun _ m=>m)<|ab<|ae<|ae<|ai<|aG rfl<|ag<|ab<|aN<| ?_
 refine de (fun i=>n-i) (fun i=>[(7,.int .i64 (i:Nat))]) (fun i=>[aH g6 212 [.int .i64 0,.int .i64 0,.int .i64 0]]) (fun i=>[]) (fun i=>i≤n∧eh q ((rs.drop i).map aR.l) i nm=eh q (rs.map aR.l) 0 nm) 0 [(6,_),(5,_),(4,_),(0,_),(1,_),(2,_)] ⟨rfl,rfl,rfl,rfl,rfl,rfl,trivial⟩ [0] rfl [] rfl (⟨Nat.zero_le _,rfl⟩) ⟨rfl,trivial⟩ (fun i ⟨hi,hf⟩=> ?_)
 refine ae<|ae<|ai<|aw rfl<|aw rfl<|hy (fun _=>aY rfl Tryz.underlying84)<|hy (fun _=>bw rfl rfl)<|ag<|aB [14,7,6,5,4,0,1,2] rfl<|ab<| ?_
 refine cB rfl (fun hlt=> ?_) (fun hlt=> ?_)
 ·obtain⟨r,hri⟩:∃r,rs[i]? =some r:=⟨_,List.getElem?_eq_getElem (by omega)⟩
  obtain⟨r1,r2,r3⟩:=hr r (List.mem_of_getElem? hri)
  have hdr:rs.drop i=r::rs.drop (i+1):=by
   obtain⟨h1,rfl⟩:=List.getElem?_eq_some_iff.1 hri
   exact List.drop_eq_getElem_cons h1
  rw[hdr,List.map_cons,eh]at hf
  refine bk (fun w m=>m.fA 1 rfl (View.row hri)) ?_
  refine a6 (fun m=>eG (m.rd 0 rfl)) ?_
  rintro⟨hl_ri,hA_ri⟩
  refine aC<|ab<|ae<|aN<|ae<|cD [5] [(0,some 0),(1,some 0),(2,some 0),(3,some 0),(4,some 0),(5,none),(6,some 1)] (by kernel_rfl) (by kernel_rfl) rfl 99<|ak (ah rfl)<|ak (ah rfl)<|ak (aZ rfl rfl Tryz.underlying84 iY hA_rt rfl (by omega))<|bZ (fun m=>ao rfl dB ((m.rd 1 rfl).cell (show(jZ rs)[i]? =some (Value.slice (aR.A r) (aR.n r) (aR.c r)) by rw[jZ,List.getElem?_map,hri];rfl)))<|bZ (fun m=>yV (aQ rfl gC gg rfl ((m.aU 2 rfl).au)) ((rfl:_=Value.agg q.p.cs.toArray)))<| ?_
  refine dF (aq rfl Tryz.call193 (yf hq r1.symm r3 r2) [] rfl [0] rfl ?_)
  rintro _ _ _ ⟨A2,c2,rfl,rfl,rfl⟩
  refine⟨(fun _=>wk [1,1,1] [0,1,2] rfl rfl), ?_⟩
  have hol:=fun k=>ka (l:=aR.l r) hq k
  have hil:(cw (aR.l r) q).length≤aR.n r:=by rw[r1,cw,List.length_map];exact lr _ _
  generalize cw (aR.l r) q=its at hf hol hil ⊢
  refine ez (fun w m=>(m.perm (ar [0] _ [_] _ rfl)).freeze) ?_
  refine ez (fun w m=>m.fA 0 rfl .own) ?_
  refine cd (fun m=>fH (m.rd 0 rfl)) ?_
  rintro⟨hl_zr,hA_zr⟩
  refine ak (al rfl)<|bq<|aB [8,14,7,6,5,4,0,1,2] rfl<|aj (X' :=[_,_,_]) (S' :=[_,_,_,_,_]) (fun _ m=>m)<|ab<|ae<|ai<|aG rfl<|ag<|ab<|ae<|ai<|aG rfl<|ag<|ab<|aN<| ?_
  refine de (fun j=>its.length-j) (fun j=>[(10,.int .i64 (j:Nat)),(9,.int .i64 (fP its j))]) (fun j=>[aH g6 212 [.int .i64 0,.int .i64 0,.int .i64 0]]) (fun j=>[]) (fun j=>j≤its.length∧dh (its.drop j) (fP its j) nm=dh its 0 nm) 0 [(8,_),(14,_),(7,_),(6,_),(5,_),(4,_),(0,_),(1,_),(2,_)] ⟨rfl,rfl,rfl,rfl,rfl,rfl,rfl,rfl,rfl,trivial⟩ [0] rfl [] rfl (⟨Nat.zero_le _,rfl⟩) ⟨rfl,rfl,trivial⟩ (fun j ⟨hj,hfj⟩=> ?_)
  refine ae<|ae<|ai<|aw rfl<|aw rfl<|hy (fun _=>aY rfl Tryz.underlying80)<|hy (fun _=>bw rfl rfl)<|ag<|aB [26,10,9,8,14,7,6,5,4,0,1,2] rfl<|ab<| ?_
  refine cB rfl (fun hlt2=> ?_) (fun hlt2=> ?_)
  ·obtain⟨t,ht⟩:∃t,its[j]? =some t:=⟨_,List.getElem?_eq_getElem (by omega)⟩
   have hdt:its.drop j=t::its.drop (j+1):=by
    obtain⟨h1,rfl⟩:=List.getElem?_eq_some_iff.1 ht
    exact List.drop_eq_getElem_cons h1
   rw[hdt,dh]at hfj
   have h32t:(aW t.1.b).length=32:=by rw[ax,t.1.h]
   have hos:=jO ht
   have hb0:=hol j
   have hb1:=hol (j+1)
   rw[hos]at hb1
   have hsz:(fz t)[32]? =some (Value.int .i64 t.2):=by rw[fz,List.getElem?_append_right (by omega),h32t];rfl
   refine aC<|ab<|ae<|aN<|ae<|ae<|cD [] [(0,some 0),(1,some 0),(2,some 0),(3,some 0),(4,some 0),(5,some 0),(6,some 0)] (by kernel_rfl) (by kernel_rfl) rfl 99<|ak (ah rfl)<|ak (ah rfl)<|ak (cC rfl rfl Tryz.underlying80 jK hA_zr rfl (by omega))<|ak (aF rfl gR (by decide))<|bZ (fun m=>aQ rfl b5 bp h32t (tv (m.rd 0 rfl) ht))<|bZ (fun m=>aQ rfl b5 bp h32 ((m.aU 1 rfl).au))<|ak (nY rfl rfl t.1.h hm)<|bq<|aB [35,26,10,9,8,14,7,6,5,4,0,1,2] rfl<|ab<| ?_
   refine cB rfl (fun he=> ?_) (fun he=> ?_)
   ·rw[if_pos he]at hfj
    rw[←hfj]at hf
    have hf2:some (i,fP its j,t.2)=eh q (rs.map aR.l) 0 nm:=hf
    rw[←hf2]
    refine ae<|ai<|aw rfl<|aw rfl<|aw rfl<|aw rfl<|hy (fun _=>cC rfl rfl Tryz.underlying80 jK hA_zr rfl (by omega))<|hy (fun _=>aF rfl nI (by decide))<|hy (fun m=>ao rfl dD (dJ (f:=fz) cf (m.rd 0 rfl) ht 32 _ hsz))<|hy (fun _=>bU uo rfl rfl (by kernel_rfl) (.cons (o:=0) (sz:=1) (by kernel_rfl) rfl rfl (Nat.le_of_ble_eq_true rfl) (.cons (o:=1) (sz:=1) (by kernel_rfl) rfl rfl (Nat.le_of_ble_eq_true rfl) (.cons (o:=2) (sz:=1) (by kernel_rfl) rfl rfl (Nat.le_of_ble_eq_true rfl) .nil))))<| ?_
    refine cI (ba 0 rfl rfl rfl sL rfl (pT (some (i,fP its j,t.2))) rfl ?_)
    refine ag<|aB [35,26,10,9,8,14,7,6,5,4,0,1,2] rfl<|aj (X' :=[_,_,_]) (S' :=[_,_,_,_,_]) (fun _ m=>m)<|ab<|aV<|ay<|a7<|ay<|ay<|a7<|a7<|ay<|ay<|a7<|ay<| ?_
    exact eO trivial rfl rfl FI sL (pP (some (i,fP its j,t.2))) (fun m=>(m.aU 0 rfl).au) [] rfl [] rfl ⟨rfl,rfl,rfl⟩
   ·rw[if_neg he]at hfj
    refine aC<|ab<|ai<|aw rfl<|aw rfl<|aw rfl<|hy (fun _=>cC rfl rfl Tryz.underlying80 jK hA_zr rfl (by omega))<|hy (fun _=>aF rfl nI (by decide))<|hy (fun m=>ao rfl dD (dJ (f:=fz) cf (m.rd 0 rfl) ht 32 _ hsz))<|hy (fun _=>yV (aP rfl rfl (bA (by omega) (by omega))) ((show Value.int .i64 (fP its j+t.2)= .int .i64 (fP its (j+1))from by rw[hos])))<|aG rfl<|ag<|aB [9,35,26,10,8,14,7,6,5,4,0,1,2] rfl<|aS<|ab<|ai<|aw rfl<|hy (fun _=>aP rfl rfl (bA (by omega) (by omega)))<|aG rfl<|ag<|aB [10,9,35,26,8,14,7,6,5,4,0,1,2] rfl<| ?_
    refine cM (j+1) ⟨rfl,rfl,rfl,rfl,rfl,rfl,rfl,rfl,rfl,rfl,rfl,trivial⟩ [0,0,0] rfl [0,1,2,3,4] rfl (⟨by omega,by rw[hos];exact hfj⟩) (by omega)
  ·obtain rfl:j=its.length:=by omega
   rw[List.drop_length]at hfj
   have hno:dh its 0 nm=none:=hfj.symm
   rw[hno]at hf
   refine bG<|an<|an<|aE<|aS<|ab<|ai<|aw rfl<|hy (fun _=>aP rfl rfl (bA (by omega) (by omega)))<|aG rfl<|ag<|aB [7,26,10,9,8,14,6,5,4,0,1,2] rfl<| ?_
   refine cM (i+1) ⟨rfl,rfl,rfl,rfl,rfl,rfl,rfl,trivial⟩ [0,0,0] rfl [3,4] rfl (⟨by omega,hf⟩) (by omega)
 ·rw[List.drop_of_length_le (by omega)]at hf
  have hf2:none=eh q (rs.map aR.l) 0 nm:=hf
  rw[←hf2]
  refine bG<|an<|an<|aE<|ab<|ae<|ai<|hy (fun _=>bU uo rfl rfl (by kernel_rfl) (.cons (o:=0) (sz:=1) (by kernel_rfl) rfl rfl (Nat.le_of_ble_eq_true rfl) .nil))<| ?_
  refine cI (ba 0 rfl rfl rfl sL rfl (pT none) rfl ?_)
  refine ag<|aB [14,7,6,5,4,0,1,2] rfl<|aj (X' :=[_,_,_]) (S' :=[_,_]) (fun _ m=>m)<|ab<|aV<| ?_
  exact eO trivial rfl rfl FI sL (pP none) (fun m=>(m.aU 0 rfl).au) [] rfl [] rfl ⟨rfl,rfl,rfl⟩
end Go.Proofs.YtmibdabdlgmafaaGreatDoor
end
section
set_option maxRecDepth 20000
set_option maxHeartbeats 2000000
namespace Go.Proofs.YtmibdabdlgmafaaGreatDoor
open Go.Eng Go.Hx
theorem oT{nm:List UInt8}:∀{its:List It} {off o s:Int},dh its off nm=some (o,s)→∃k t,its[k]? =some t∧t.1.b=nm∧s=t.2∧o=off+fP its k
 | [],_,_,_,h=>by rw[dh]at h;cases h
 |t::r,off,o,s,h=>by
  rw[dh]at h
  split at h
  ·next e=>cases h;exact⟨0,t,rfl,e,rfl,by simp[fP]⟩
  ·obtain⟨k,t2,h1,h2,h3,h4⟩:=oT h
   refine⟨k+1,t2,h1,h2,h3, ?_⟩
   rw[h4]
   simp[fP]
   omega
theorem mr{q:Pn}{nm:List UInt8}:∀{ts:List (List UInt8)} {i0 i:Nat} {o s:Int},eh q ts i0 nm=some (i,o,s)→∃l j,i=i0+j∧ts[j]? =some l∧∃k t,(cw l q)[k]? =some t∧t.1.b=nm∧s=t.2∧o=fP (cw l q) k
 | [],_,_,_,_,h=>by rw[eh]at h;cases h
 |l::r,i0,i,o,s,h=>by
  rw[eh]at h
  split at h
  ·next o2 s2 e=>
   cases h
   obtain⟨k,t,h1,h2,h3,h4⟩:=oT e
   exact⟨l,0,rfl,rfl,k,t,h1,h2,h3,by omega⟩
  ·obtain⟨l2,j,h1,h2,h3⟩:=mr h
   exact⟨l2,j+1,by omega,h2,h3⟩
def jB(q:Pn)(ts:List (List UInt8))(nm:List UInt8):Option (List UInt8):=
 match eh q ts 0 nm with
 |some (i,o,s)=>some (((ts.getD i []).drop o.toNat).take s.toNat)
 |none=>none
theorem EB{T:Option Addr}{n c:Nat}{rs:List aR}{q:Pn}{nm:List UInt8}(hq:q.ok)(hm:nm.length=32)(hn:rs.length=n)(hr:∀r∈rs,r.n=r.l.length∧r.n≤r.c∧r.n≤1000000)(hnn:n≤1000000):b7 Tryz.prog 143 [.slice T n c,.agg q.p.cs.toArray,.agg (aW nm).toArray] [] [cL 1 T n (jZ rs),dH rs] (fun v_ X_ S_=>v_=(.tuple #[.string (strOf ((jB q (rs.map aR.l) nm).getD [])),.bool (jB q (rs.map aR.l) nm).isSome])∧X_=[]∧S_=[]):=by
 have h32:(aW nm).length=32:=by rw[ax,hm]
 refine aM (N:=30) Tryz.func143 rfl rfl (by simp) fun b=> ?_
 refine a6 (fun m=>fH (m.rd 0 rfl)) ?_
 rintro⟨hl_rt,hA_rt⟩
 refine ae<|ai<| ?_
 refine hx (bu rfl (fun g4=> ?_))
 refine aJ (fun w m=>m.bz 0 rfl (show _=aH g4 75 q.p.cs from congrArg (aH _ _) (aT _))) ?_
 refine hx (bu rfl (fun g5=> ?_))
 refine aJ (fun w m=>m.bz 0 rfl (show _=aH g5 53 (aW nm)from congrArg (aH _ _) (aT _))) ?_
 refine aG rfl<|aG rfl<|ag<|aj (X' :=[_,_]) (S' :=[_,_]) (fun _ m=>m)<|ab<|ae<|ai<|aw rfl<|hy (fun m=>yV (aQ rfl gC gg rfl ((m.aU 1 rfl).au)) ((rfl:_=Value.agg q.p.cs.toArray)))<|hy (fun m=>aQ rfl b5 bp h32 ((m.aU 0 rfl).au))<| ?_
 refine hx (aq rfl Tryz.call134 (vQ hq hm hn hr hnn) [] rfl [0,1] rfl ?_)
 rintro _ _ _ ⟨rfl,rfl,rfl⟩
 refine hx (bf uo (fun g8=> ?_))
 refine cI (ba 0 rfl rfl rfl sL (pP _) (pT _) rfl ?_)
 refine aJ (fun w m=>m.bz 0 rfl (show _=aH g8 212 (wu (eh q (rs.map aR.l) 0 nm))from congrArg (aH _ _) (aT _))) ?_
 unfold jB
 rcases hfs:eh q (rs.map aR.l) 0 nm with _|⟨i,o,s⟩
 ·refine ag<|aB [8,7,6,5,4,0,1,2] rfl<|aj (X' :=[_,_,_]) (S' :=[_,_]) (fun _ m=>m)<|ab<|ae<|ae<|ai<|hy (fun _=>aF rfl nF (by decide))<|hy (fun m=>ao rfl dD (aA (m.aU 0 rfl) (i:=0) (show(wu none)[0]? =some (Value.int .i64 (-1))from rfl)))<|hy (fun _=>bw rfl rfl)<|ag<|aB [15,8,7,6,5,4,0,1,2] rfl<|ab<| ?_
  refine fq rfl (rfl) ?_
  refine ae<|ai<|aG rfl<|aG rfl<|ag<|ab<|aV<|ay<| ?_
  exact db trivial rfl rfl rfl [] rfl [] rfl ⟨rfl,rfl,rfl⟩
 ·obtain⟨l,j,h1,h2,kk,t,h3,h4,h5,h6⟩:=mr hfs
  obtain rfl:i=j:=by omega
  have hin:=(List.getElem?_eq_some_iff.1 h2).1
  rw[List.length_map]at hin
  obtain⟨r,hri⟩:∃r,rs[i]? =some r:=⟨_,List.getElem?_eq_getElem hin⟩
  have hrl:aR.l r=l:=by rw[List.getElem?_map,hri]at h2;exact Option.some.inj h2
  subst hrl
  obtain⟨r1,r2,r3⟩:=hr r (List.mem_of_getElem? hri)
  have hb0:=ka (l:=aR.l r) hq kk
  have hb1:=ka (l:=aR.l r) hq (kk+1)
  rw[jO h3,←h5,←h6]at hb1
  rw[←h6]at hb0
  have hs0:0≤s:=by
   obtain⟨cc,_,hcc⟩:=List.mem_map.1 (List.mem_of_getElem? h3)
   rw[h5,←hcc]
   exact Int.natCast_nonneg _
  obtain⟨ko,rfl⟩:∃ko:Nat,o=(ko:Int):=⟨o.toNat,by omega⟩
  obtain⟨ks,rfl⟩:∃ks:Nat,s=(ks:Int):=⟨s.toNat,by omega⟩
  have hgd:(rs.map aR.l).getD i []=aR.l r:=by rw[List.getD,h2];rfl
  simp only[hgd,Int.toNat_natCast]
  refine aJ (fun w m=>m.fA 1 rfl (View.row hri)) ?_
  refine az (fun m=>eG (m.rd 0 rfl)) ?_
  rintro⟨hl_ri,hA_ri⟩
  refine aJ (fun w m=>m.fA 0 rfl (View.sub (n:=aR.n r) (c:=aR.c r) (k:=ko) (m:=ks) (by omega) (by omega))) ?_
  refine az (fun m=>eG (m.rd 0 rfl)) ?_
  rintro⟨hl_rp,hA_rp⟩
  refine ag<|aB [8,7,6,5,4,0,1,2] rfl<|ab<|ae<|ae<|ai<|hy (fun _=>aF rfl nF (by decide))<|hy (fun m=>ao rfl dD (aA (m.aU 0 rfl) (i:=0) (show(wu (some (i,(ko:Int),(ks:Int))))[0]? =some (Value.int .i64 (i:Nat))from rfl)))<|hy (fun _=>bw rfl rfl)<|ag<|aB [15,8,7,6,5,4,0,1,2] rfl<|ab<| ?_
  refine cN rfl ((decide_eq_false (by omega))) ?_
  refine aC<|ab<|ae<|cD [] [(0,some 0),(1,some 0),(2,some 0),(3,some 0),(4,some 0),(5,some 0),(6,some 0),(7,some 0),(8,some 0),(9,some 0),(10,some 0),(11,some 0),(12,some 0),(13,some 0),(14,some 0),(15,some 0)] (by kernel_rfl) (by kernel_rfl) rfl 99<|ak (ah rfl)<|ak (aF rfl nF (by decide))<|bZ (fun m=>ao rfl dD (aA (m.aU 0 rfl) (i:=0) (show(wu (some (i,(ko:Int),(ks:Int))))[0]? =some (Value.int .i64 (i:Nat))from rfl)))<|ak (aZ rfl rfl Tryz.underlying84 iY hA_rt rfl (by omega))<|bZ (fun m=>ao rfl dB ((m.rd 2 rfl).cell (show(jZ rs)[i]? =some (Value.slice (aR.A r) (aR.n r) (aR.c r)) by rw[jZ,List.getElem?_map,hri];rfl)))<|ak (aF rfl yg (by decide))<|bZ (fun m=>ao rfl dD (aA (m.aU 0 rfl) (i:=1) (show(wu (some (i,(ko:Int),(ks:Int))))[1]? =some (Value.int .i64 (ko:Nat))from rfl)))<|ak (aF rfl yg (by decide))<|bZ (fun m=>ao rfl dD (aA (m.aU 0 rfl) (i:=1) (show(wu (some (i,(ko:Int),(ks:Int))))[1]? =some (Value.int .i64 (ko:Nat))from rfl)))<|ak (aF rfl D0 (by decide))<|bZ (fun m=>ao rfl dD (aA (m.aU 0 rfl) (i:=2) (show(wu (some (i,(ko:Int),(ks:Int))))[2]? =some (Value.int .i64 (ks:Nat))from rfl)))<|ak (aP rfl rfl (bA (by omega) (by omega)))<|ak (yV (ey rfl rfl rfl Tryz.underlying27 dU rfl rfl (by omega) (by omega)) ((show Value.slice (if aR.c r=ko then aR.A r else(aR.A r).map (·.add (ko*1))) (ko+ks-ko) (aR.c r-ko)= .slice (if aR.c r=ko then aR.A r else(aR.A r).map (·.add (ko*1))) ks (aR.c r-ko)from by rw[Nat.add_sub_cancel_left])))<|bZ (fun m=>ma rfl Tryz.underlying27 Tryz.underlying5 Tryz.underlying9 (m.rd 0 rfl))<|ak (al rfl)<|ak (al rfl)<|bq<|aB [7,6,15,8,5,4,0,1,2] rfl<|ab<|aV<| ?_
  exact db trivial rfl rfl rfl [] rfl [] rfl ⟨rfl,rfl,rfl⟩
end Go.Proofs.YtmibdabdlgmafaaGreatDoor
end
section
namespace Go.Eng
open Go.RowKit
section
variable{P:Program}{N:Nat}{D:List Deferred}{ρ:Env}{w:World}{x y:Operand}{ty t t' e:TypeId}{v:Value}{k:IntKind}{i:Int}
end
section
variable{P:Program}{t:TypeId}{d:Nat}
theorem tl{z:Int}(ht:P.underlying t=some (.int .i64))(h1:-9223372036854775808≤z)(h2:z≤9223372036854775807):P.keyLits (d+1) t [.int .i64 z]=some [.int .i64 z]:=by
 unfold Program.keyLits
 rw[ht]
 have hw:(Lit.int .i64 z).wf=true:=by
  simp[Lit.wf,IntKind.min,IntKind.max,IntKind.signed,IntKind.bits]
  omega
 simp[hw]
theorem r5 {fs : Array Field} {cs : List Value} {ls : List (List Lit)} (ht : P.underlying t = some (.struct fs)) (hl : cs.length = P.cellsOf t) (hn : fs.all (·.name != "_") = true)
    (hm:(fs.toList.mapM fun f=>P.keyLits d f.type ((cs.drop f.offset).take (P.cellsOf f.type)))=some ls):P.keyLits (d+1) t cs=some ls.flatten:=by
  rw[Program.keyLits.eq_def]
  simp only[ht]
  rw[if_pos ⟨hl,hn⟩,hm]
  rfl
theorem mapM_some{α β:Type}{f:α→Option β}:∀{l:List α} {g:List β},l.map f=g.map some→l.mapM f=some g
 | [],[],_=>rfl
 | [],_::_,h=>by simp at h
 |_::_,[],h=>by simp at h
 |a::r,b::s,h=>by
  simp only[List.map_cons,List.cons.injEq]at h
  rw[List.mapM_cons,h.1,mapM_some h.2]
  rfl
end
end Go.Eng
end
section
set_option maxRecDepth 20000
set_option maxHeartbeats 2000000
namespace Go.Proofs.YtmibdabdlgmafaaGreatDoor
open Go.Eng Go.Hx
abbrev FV:=Nat×Int×Int
def GZ(x:FV):List Value:=[.int .i64 (x.1:Int),.int .i64 x.2.1,.int .i64 x.2.2]
def xi(x:FV):Value:=.agg (GZ x).toArray
theorem nG(x:FV):∀u∈GZ x,u.oneCell' =true:=by
 intro u hu
 simp only[GZ,List.mem_cons,List.not_mem_nil,or_false]at hu
 rcases hu with rfl|rfl|rfl <;> rfl
structure Kr(x:FV):Prop where
 i:x.1≤1000000
 o0:0≤x.2.1
 o1:x.2.1≤1000000
 s0:1≤x.2.2
 s1:x.2.2≤1000000
abbrev xf:=List (Dg×FV)
def zV(l:xf):List (Dg×Value):=l.map fun x=>(x.1,xi x.2)
theorem lJ:∀(l:xf) (p:Dg),bO (zV l) p=(bO l p).map xi
 | [],p=>rfl
 |(k,r)::q,p=>by
  have:=lJ q p
  simp only[zV,List.map_cons,bO]at this ⊢
  split <;> simp_all
theorem xY:∀(l:xf) (p:Dg) (x:FV),cP (zV l) p (xi x)=zV (cP l p x)
 | [],p,x=>rfl
 |(k,r)::q,p,x=>by
  have:=xY q p x
  simp only[zV,List.map_cons,cP]at this ⊢
  split
  ·simp
  ·simp[this]
def HS(q:Pn)(A:Option Addr)(n c gm:Nat):List Value:=q.p.cs++[.slice A n c,.map (some gm)]
theorem IJ{q:Pn}{A:Option Addr}{n c gm j:Nat}{u:Value}(h:q.p.cs[j]? =some u):(HS q A n c gm)[j]? =some u:=by
 rw[HS,List.getElem?_append_left (List.getElem?_eq_some_iff.1 h).1];exact h
abbrev eS(g gm:Nat)(q:Pn)(A:Option Addr)(c:Nat)(rs:List aR)(l:xf):bl:=eY [aH g 267 (HS q A rs.length c gm),aK 27 1 (.slice A rs.length c) rs.length (jZ rs),dV DK gm (zV l),dH rs]
structure gN(q:Pn)(rs:List aR)(l:xf):Prop where
 find:∀nm:Dg,bO l nm=eh q (rs.map aR.l) 0 nm.1
 rows:∀r∈rs,r.n=r.l.length∧r.n≤r.c∧r.n≤100000
 KB:∀(nm:Dg) x,bO l nm=some x→Kr x
theorem gN.nil(q:Pn):gN q [] []:=⟨fun _=>rfl,fun r h=>absurd h List.not_mem_nil,fun _ _ h=>by cases h⟩
def dg(t:It):Dg:=⟨t.1.b,t.1.h⟩
theorem jb{t:It}{j:Nat}{u:Value}(h:(aW t.1.b)[j]? =some u):(fz t)[j]? =some u:=by
 rw[fz,List.getElem?_append_left (List.getElem?_eq_some_iff.1 h).1];exact h
theorem nP(t:It):(fz t)[32]? =some (Value.int .i64 t.2):=by
 rw[fz,List.getElem?_append_right (by rw[ax,t.1.h];exact Nat.le_refl _),ax,t.1.h];rfl
theorem pa{nm:List UInt8}{t:It}:∀(a:List It) (off:Int),dh (a++[t]) off nm=(dh a off nm).or (if t.1.b=nm then some (off+(a.map (·.2)).sum,t.2)else none)
 | [],off=>by simp[dh]
 |x::r,off=>by
  rw[List.cons_append,dh,dh]
  split
  ·rfl
  ·rw[pa r (off+x.2)]
   congr 1
   split
   ·simp;omega
   ·rfl
theorem qD{q:Pn}{nm tx:List UInt8}:∀(ts:List (List UInt8)) (i0:Nat),eh q (ts++[tx]) i0 nm=(eh q ts i0 nm).or ((dh (cw tx q) 0 nm).map fun x=>(i0+ts.length,x.1,x.2))
 | [],i0=>by
  rw[List.nil_append,eh,eh]
  rcases dh (cw tx q) 0 nm with _|⟨o,s⟩ <;> simp[eh]
 |l::r,i0=>by
  rw[List.cons_append,eh,eh,qD r (i0+1)]
  rcases dh (cw l q) 0 nm with _|⟨o,s⟩
  ·simp[Nat.add_assoc,Nat.add_comm 1]
  ·rfl
theorem vA{w:List UInt32}{q:Pn}(hq:q.ok):∀{f:Nat} {b c:List UInt8},c∈jE w q f b→1≤c.length
 |0,_,_,h=>by rw[jE]at h;exact absurd h List.not_mem_nil
 |f+1,b,c,h=>by
  rw[jE]at h
  split at h
  ·exact absurd h List.not_mem_nil
  ·next hb=>
   rcases List.mem_cons.1 h with h|h
   ·have hb1:1≤b.length:=Nat.pos_of_ne_zero fun h0=>hb (List.length_eq_zero_iff.1 h0)
    have:=ke (w:=w) hq hb1
    rw[h,List.length_take];omega
   ·exact vA hq h
theorem wo{q:Pn}(hq:q.ok){l:List UInt8}{k:Nat}{t:It}(h:(cw l q)[k]? =some t):1≤t.2∧t.2≤l.length:=by
 have hm:=List.mem_of_getElem? h
 obtain⟨c,hc,rfl⟩:=List.mem_map.1 hm
 have h1:=vA (w:=bE) hq (f:=l.length) (b:=l) hc
 have h2:=na (w:=bE) (q:=q) (f:=l.length) (b:=l) hc
 show 1≤((c.length:Nat):Int)∧((c.length:Nat):Int)≤_
 omega
theorem Fm{a b c:Int}(ha:-9223372036854775808≤a∧a≤9223372036854775807)(hb:-9223372036854775808≤b∧b≤9223372036854775807)(hc:-9223372036854775808≤c∧c≤9223372036854775807):
  Tryz.prog.keyLits 2 271 [.int .i64 a,.int .i64 b,.int .i64 c]=some [Lit.int .i64 a,Lit.int .i64 b,Lit.int .i64 c]:=by
 have e:[Lit.int .i64 a,Lit.int .i64 b,Lit.int .i64 c]=[[Lit.int .i64 a],[Lit.int .i64 b],[Lit.int .i64 c]].flatten:=rfl
 rw[e]
 refine r5 (d:=1) Tryz.underlying271 (show 3=_ by kernel_rfl) (by kernel_rfl) (mapM_some ?_)
 have c2:Tryz.prog.cellsOf 3=1:=by kernel_rfl
 simp only[List.map_cons,List.map_nil,c2]
 show [Tryz.prog.keyLits 1 3 [.int .i64 a],Tryz.prog.keyLits 1 3 [.int .i64 b],Tryz.prog.keyLits 1 3 [.int .i64 c]]=_
 rw[tl (d:=0) Tryz.underlying3 ha.1 ha.2,tl (d:=0) Tryz.underlying3 hb.1 hb.2,tl (d:=0) Tryz.underlying3 hc.1 hc.2]
theorem AM{N:Nat}{D:List Deferred}{ρ:Env}{w:World}{ty t' :TypeId}{x y:Operand}{a:FV}(hx:ev ρ x=some (xi a))(hy:ev ρ y=some (xi (0,0,0)))(ha:a.1≤1000000)(h1:0≤a.2.1∧a.2.1≤1000000)(h2:0≤a.2.2∧a.2.2≤1000000):
  Yl Tryz.prog N D ρ w (.binOp .eql 271 x y t') ty (.bool (decide ((a.1:Int)=0∧a.2.1=0∧a.2.2=0))):=
 FA (m:=5) hx hy (by decide) (by kernel_rfl) (by kernel_rfl) AY (show 3=_ by kernel_rfl) (show 3=_ by kernel_rfl) (Fm (by omega) (by omega) (by omega)) (Fm (a:=((0:Nat):Int)) (by decide) (by decide) (by decide)) (by simp)
theorem A7{l lj:xf}{its:List It}{k j:Nat}{t:It}(ht:its[j]? =some t)(h:∀nm:Dg,bO lj nm=(bO l nm).or ((dh (its.take j) 0 nm.1).map fun x=>(k,x.1,x.2))):
  (bO lj (dg t)=none→∀nm:Dg,bO (cP lj (dg t) (k,fP its j,t.2)) nm=(bO l nm).or ((dh (its.take (j+1)) 0 nm.1).map fun x=>(k,x.1,x.2)))∧
  ((bO lj (dg t)).isSome=true→∀nm:Dg,bO lj nm=(bO l nm).or ((dh (its.take (j+1)) 0 nm.1).map fun x=>(k,x.1,x.2))):=by
 have e:∀nm,dh (its.take (j+1)) 0 nm=(dh (its.take j) 0 nm).or (if t.1.b=nm then some (fP its j,t.2)else none):=fun nm=>by
  obtain⟨h1,rfl⟩:=List.getElem?_eq_some_iff.1 ht
  rw[List.take_succ_eq_append_getElem h1,pa,Int.zero_add]
  rfl
 refine⟨fun hn nm=> ?_,fun hs nm=> ?_⟩
 ·rw[lx,e]
  by_cases hd:dg t=nm
  ·subst hd
   have h0:=h (dg t)
   rw[hn]at h0
   rw[if_pos rfl,if_pos (show t.1.b=(dg t).1 from rfl)]
   rcases h1:bO l (dg t)with _|y
   ·rw[h1]at h0
    rcases h2:dh (its.take j) 0 (dg t).1 with _|z
    ·rfl
    ·rw[h2]at h0;simp at h0
   ·rw[h1]at h0;simp at h0
  ·have hd2:¬t.1.b=nm.1:=fun e=>hd (Subtype.ext e)
   rw[if_neg hd,if_neg hd2,h nm,Option.or_none]
 ·rw[e]
  by_cases hd:t.1.b=nm.1
  ·obtain rfl:dg t=nm:=Subtype.ext hd
   have h0:=h (dg t)
   rw[h0]at hs ⊢
   rcases h1:bO l (dg t)with _|y
   ·rw[h1]at hs
    rcases h2:dh (its.take j) 0 (dg t).1 with _|z
    ·rw[h2]at hs;simp at hs
    ·simp
   ·simp
  ·rw[if_neg hd,Option.or_none,h nm]
theorem Cl{q:Pn}(hq:q.ok):b7 Tryz.prog 126 [.agg q.p.cs.toArray] [] [] (fun v_ X_ S_=>∃g gm,v_=(.tuple #[.pointer (some ⟨g,0,none⟩),.int .i64 0])∧X_=[eS g gm q none 0 [] []]∧S_=[]):=by
 refine aM (N:=11) Tryz.func126 rfl rfl (by simp) fun b=> ?_
 refine ae<|ai<| ?_
 refine hx (bu rfl (fun g1=> ?_))
 refine aJ (fun w m=>m.bz 0 rfl (show _=aH g1 75 q.p.cs from congrArg (aH _ _) (aT _))) ?_
 refine aG rfl<|aG rfl<|ag<|aj (X' :=[_]) (S' :=[]) (fun _ m=>m)<|ab<|ae<|ae<|ai<|hy (fun m=>yV (aQ rfl gC gg rfl ((m.aU 0 rfl).au)) ((rfl:_=Value.agg q.p.cs.toArray)))<| ?_
 refine hx (aq rfl Tryz.call192 (pU (p:=q.p)) [] rfl [] rfl ?_)
 rintro _ _ _ ⟨rfl,rfl,rfl⟩
 refine hy (fun _=>fl rfl)<|ag<|aB [6,3,2,1,0] rfl<|aj (X' :=[_]) (S' :=[]) (fun _ m=>m)<|ab<| ?_
 refine cN rfl ((decide_eq_false (fun h=>h hq.may))) ?_
 refine aC<|ab<|ae<|ai<|hy (fun m=>yV (aQ rfl gC gg rfl ((m.aU 0 rfl).au)) ((rfl:_=Value.agg q.p.cs.toArray)))<| ?_
 refine hx (nK DK (fun g8=> ?_))
 refine hy (fun _=>yV (bU Ie rfl rfl (by kernel_rfl) (.cons (o:=0) (sz:=3) (by kernel_rfl) rfl rfl (Nat.le_of_ble_eq_true rfl) (.cons (o:=4) (sz:=1) (by kernel_rfl) rfl rfl (Nat.le_of_ble_eq_true rfl) .nil))) ((rfl:_=Value.agg (HS q none 0 0 g8).toArray)))<| ?_
 refine hx (bu rfl (fun g10=> ?_))
 refine aG rfl<|aG rfl<|ag<|aB [3,2,6,1,0] rfl<|aj (X' :=[_,_,_]) (S' :=[]) (fun _ m=>m)<|ab<|aV<| ?_
 refine aj (fun w m=>m.bz 0 rfl (show _=aH g10 267 (HS q none ([]:List aR).length 0 g8)from congrArg (aH _ _) (aT _))) ?_
 refine aj (fun w m=>m.CU) ?_
 refine aj (fun w m=>m.cQ (r' :=aK 27 1 (.slice none 0 0) 0 []) (.refl _ _) (Own.nil _ _ _ _) (fun k hk=>hk.elim)) ?_
 refine aj (X' :=eS g10 g8 q none 0 [] []::_) (fun w m=>(m.perm (ar [2,0,1,0] _ [_,_,_,_] _ rfl)).pack) ?_
 exact db trivial rfl rfl rfl [0] rfl [] rfl ⟨g10,g8,rfl,rfl,rfl⟩
theorem vI{g gm:Nat}{q:Pn}{A:Option Addr}{c:Nat}{rs:List aR}{l:xf}{B:Option Addr}{n k:Nat}{tx:List UInt8}(hq:q.ok)(hok:gN q rs l)(hl:tx.length=n)(hn:n≤100000)(hrs:rs.length≤1000):b7 Tryz.prog 128 [.pointer (some ⟨g,0,none⟩),.slice B n k] [eS g gm q A c rs l] [cL 1 B n (aW tx),dZ] (fun v_ X_ S_=>∃A1 c1 r l1,v_=(.int .i64 (rs.length:Nat))∧X_=[eS g gm q A1 c1 (rs++[r]) l1]∧S_=[]∧(gN q (rs++[r]) l1∧r.l=tx)):=by
 refine aM (N:=68) Tryz.func128 rfl rfl (by simp) fun b=> ?_
 refine a6 (fun m=>eG (m.rd 0 rfl)) ?_
 rintro⟨hl_rb,hA_rb⟩
 refine bk (fun w m=>(m.perm (ar [0] _ [_] _ rfl)).unpack) ?_
 refine ae<|ai<|aG rfl<|ag<|ab<|ae<|ai<|aw rfl<|hy (fun _=>aO rfl)<|hy (fun _=>aF rfl pV (by decide))<|hy (fun m=>ao rfl wW (aA (m.aU 0 rfl) rfl))<|hy (fun _=>aY rfl Tryz.underlying84)<|aG rfl<|ag<|aB [5,4,0,1] rfl<|ab<|ae<|cD [6,7,8,11] [(0,some 3),(1,some 2),(2,some 2),(3,some 2),(4,some 2),(5,some 0),(6,none),(7,none),(8,none),(9,some 3),(10,some 3),(11,none)] (by kernel_rfl) (by kernel_rfl) rfl 2<|ak (ah rfl)<|ak (ah rfl)<|ak (aO rfl)<|ak (aF rfl pV (by decide))<|bZ (fun m=>ao rfl wW (aA (m.aU 0 rfl) rfl))<|ak (ah rfl)<| ?_
 refine dF (aq rfl Tryz.call117 (mN (by omega)) [] rfl [0] rfl ?_)
 rintro _ _ _ ⟨v,rfl,rfl,rfl⟩
 refine⟨(fun _=>wk [1,1,1,1] [0,1] rfl rfl), ?_⟩
 refine cd (fun m=>(m.own 0 rfl).slice) ?_
 rintro⟨A_x,c_x,rfl,hc_x⟩
 refine cd (fun m=>(m.ord 0 rfl).2.1) fun hA_x=> ?_
 refine dF (bQ Tryz.underlying84 kZ rfl rfl rfl (by simp[Value.cells,B8]) (by decide) (by decide) (fun g23=>⟨(fun _=>wk [2,2,2,2] [0,1] rfl rfl), ?_⟩))
 have hA_b23:0<1→(some (⟨g23,0,none⟩:Addr))≠none:=fun _ h=>by cases h
 refine ez (fun w m=>m.bz 0 rfl (show _=aK 27 1 (.slice (some ⟨g23,0,none⟩) 1 1) 1 (jZ [⟨A_x,n,c_x,tx⟩])from rfl)) ?_
 refine dF (bs 3 rfl rfl rfl Tryz.underlying84 Tryz.underlying84 (by exact .inl rfl) kZ rfl (fun m=>Src.bJ (m.ord 0 rfl)) qc (by unfold maxLen;omega) (by omega) (fun u=>⟨(fun h=>absurd h (by decide)), ?_⟩))
 refine cd (fun m=>(m.own 0 rfl).slice) ?_
 rintro⟨A_d1,c_d1,rfl,hc_d1⟩
 refine cd (fun m=>(m.ord 0 rfl).2.1) fun hA_d1=> ?_
 refine ak (aO rfl)<|ak (aF rfl pV (by decide))<| ?_
 refine gu (b9 3 rfl rfl rfl IU rfl (by first|exact Nat.le_of_ble_eq_true rfl|simp) ⟨(fun h=>absurd h (by decide)), ?_⟩)
 refine bq<|aB [5,4,0,1] rfl<|aj (X' :=[_,_,_,_,_,_]) (S' :=[_,_]) (fun _ m=>m)<|ab<|ae<| ?_
 obtain⟨r,hr⟩:∃r:aR,r=⟨A_x,n,c_x,tx⟩:=⟨_,rfl⟩
 have hlr:(rs++[r]).length=rs.length+1:=by simp
 refine bk (fun w m=>m.bz 1 rfl (show _=aK 27 1 (.slice A_d1 (rs++[r]).length c_d1) (rs++[r]).length (jZ (rs++[r]))from(by rw[hlr,j8,hr]))) ?_
 refine bk (fun w m=>m.bz 1 rfl (show _=aH g 267 (HS q A_d1 (rs++[r]).length c_d1 gm)from(by rw[hlr];rfl))) ?_
 refine bk (X' :=dH (rs++[r])::_) (fun w m=>(m.perm (ar [5,3] _ [_,_] _ rfl)).BL (fun y hy=>(List.mem_append.1 hy).imp id (fun h=>(List.mem_singleton.1 h).trans hr))) ?_
 refine ai<|aw rfl<|aw rfl<|hy (fun _=>aO rfl)<|hy (fun _=>aF rfl Dz (by decide))<|hy (fun m=>yV (aQ rfl gC gg rfl (fun j u hu=>(m.aU 1 rfl).au j u (IJ hu))) ((rfl:_=Value.agg q.p.cs.toArray)))<| ?_
 refine hx (aq rfl Tryz.call194 (E1 hq hl (by omega) (q:=q)) [] rfl [0,1] rfl ?_)
 rintro _ _ _ ⟨A2,c2,rfl,rfl,rfl⟩
 refine aw rfl<|hy (fun _=>aD rfl rfl)<|hy (fun _=>aD rfl rfl)<|aG rfl<|aG rfl<|ag<|aB [6,5,4,0,1] rfl<|aj (X' :=[_,_,_,_,_,_]) (S' :=[_,_]) (fun _ m=>m)<|ab<|ae<|ai<|aG rfl<|ag<|ab<|ae<|ae<|ai<|aw rfl<|hy (fun _=>aY rfl Tryz.underlying80)<|aw rfl<|ag<|ab<|aN<| ?_
 obtain⟨its,hits⟩:∃its,its=cw tx q:=⟨_,rfl⟩
 have hitl:its.length≤n:=by rw[hits,cw,List.length_map,←hl];exact lr tx q
 rw[←hits]
 refine a6 (fun m=>(m.ord 0 rfl).2.1) fun hA_z=> ?_
 refine mq (fun j lj=>its.length-j) (fun j lj=>[(38,.int .i64 (j:Nat)),(8,.int .i64 (fP its j))]) (fun j lj=>[dV DK gm (zV lj)]) (fun j lj=>[]) (fun j lj=>j≤its.length∧(∀nm:Dg,bO lj nm=(bO l nm).or ((dh (its.take j) 0 nm.1).map fun x=>(rs.length,x.1,x.2)))∧(∀(nm:Dg) x,bO lj nm=some x→Kr x)) 0 l [(37,_),(36,_),(6,_),(5,_),(4,_),(0,_),(1,_)] ⟨rfl,rfl,rfl,rfl,rfl,rfl,rfl,trivial⟩ [5] rfl [] rfl (⟨Nat.zero_le _,fun nm=>by simp[dh],hok.KB⟩) ⟨rfl,rfl,trivial⟩ (fun j lj ⟨hj,hfj,hoj0⟩=> ?_)
 refine ae<|ai<|hy (fun _=>bw rfl rfl)<|ag<|ab<|ae<| ?_
 refine cB rfl (fun hlt=> ?_) (fun hlt=> ?_)
 ·obtain⟨t,ht⟩:∃t,its[j]? =some t:=⟨_,List.getElem?_eq_getElem (by omega)⟩
  have h32:(aW t.1.b).length=32:=by rw[ax,t.1.h]
  have Em:=wo hq (hits▸ht)
  have hoi:=ka (l:=tx) hq j
  rw[←hits]at hoi
  have htk:its.take (j+1)=its.take j++[t]:=by
   obtain⟨h1,rfl⟩:=List.getElem?_eq_some_iff.1 ht
   exact List.take_succ_eq_append_getElem h1
  refine aC<|ab<|ae<|aN<|ae<|ai<|hy (fun _=>cC rfl rfl Tryz.underlying80 jK hA_z rfl (by omega))<|hy (fun m=>yV (aQ rfl xN jK (cf t) (dJ (f:=fz) cf (m.ord 1 rfl) ht)) ((rfl:_=Value.agg (fz t).toArray)))<| ?_
  refine hx (bf l7 (fun g10=> ?_))
  refine cI (ba 0 rfl rfl rfl jK (cf t) (nE t) rfl ?_)
  refine ag<|aB [10,39,38,8,37,36,6,5,4,0,1] rfl<|aj (X' :=[_,_,_,_,_,_,_]) (S' :=[_,_]) (fun _ m=>m)<|ab<|ae<|ae<| ?_
  obtain⟨hput,hkeep⟩:=A7 ht hfj
  rcases hg:bO lj (dg t)with _|x
  ·refine cD [] [(0,some 0),(1,some 0),(2,some 0),(3,some 0),(4,some 0),(5,some 0),(6,some 0),(7,some 0),(8,some 0)] (by kernel_rfl) (by kernel_rfl) rfl 99<|ak (ah rfl)<|ak (aO rfl)<|ak (aF rfl lC (by decide))<|bZ (fun m=>ao rfl rL (aA (m.aU 4 rfl) rfl))<|ak (aF rfl gR (by decide))<|bZ (fun m=>yV (aQ rfl b5 bp h32 (fun j u hu=>(m.aU 0 rfl).au j u (jb hu))) ((rfl:Value.agg (aW t.1.b).toArray=DK (dg t))))<|bZ (fun m=>yV (fy (enc:=DK) (k:=(dg t)) rfl rfl Tryz.underlying265 jV (oD rfl Tryz.underlying53 Tryz.underlying5 (by kernel_rfl) (by kernel_rfl) (by kernel_rfl)) (m.lS 1 rfl)) ((show eN false _ (bO (zV lj) (dg t))=xi (0,0,0) by rw[lJ,hg];rfl)))<|ak (yV (dK jV rfl (by kernel_rfl)) ((rfl:_=xi (0,0,0))))<|ak ((AM (a:=(0,0,0)) rfl rfl (by decide) (by decide) (by decide)))<|bq<|aB [50,10,39,38,8,37,36,6,5,4,0,1] rfl<|ab<| ?_
   refine fq rfl ((decide_eq_true ⟨rfl,rfl,rfl⟩)) ?_
   refine cD [11] [(0,some 0),(1,some 0),(2,some 0),(3,some 0),(4,some 0),(5,some 0),(6,some 0),(7,some 0),(8,some 0),(9,some 0),(10,some 0),(11,none)] (by kernel_rfl) (by kernel_rfl) rfl 0<|ak (ah rfl)<|ak (aO rfl)<|ak (aF rfl lC (by decide))<|bZ (fun m=>ao rfl rL (aA (m.aU 4 rfl) rfl))<|ak (aF rfl gR (by decide))<|bZ (fun m=>yV (aQ rfl b5 bp h32 (fun j u hu=>(m.aU 0 rfl).au j u (jb hu))) ((rfl:Value.agg (aW t.1.b).toArray=DK (dg t))))<|ak (ah rfl)<|ak (ah rfl)<|ak (aF rfl nI (by decide))<|bZ (fun m=>ao rfl dD ((m.aU 0 rfl).au 32 _ (nP t)))<|ak (yV (bU jV rfl rfl (by kernel_rfl) (.cons (o:=0) (sz:=1) (by kernel_rfl) rfl rfl (Nat.le_of_ble_eq_true rfl) (.cons (o:=1) (sz:=1) (by kernel_rfl) rfl rfl (Nat.le_of_ble_eq_true rfl) (.cons (o:=2) (sz:=1) (by kernel_rfl) rfl rfl (Nat.le_of_ble_eq_true rfl) .nil)))) ((rfl:_=xi (rs.length,fP its j,t.2))))<| ?_
   refine gu (qu (enc:=DK) (k:=(dg t)) 1 rfl rfl rfl rfl Tryz.underlying265 (oD rfl Tryz.underlying53 Tryz.underlying5 (by kernel_rfl) (by kernel_rfl) (by kernel_rfl)) ⟨(fun h=>absurd h (by decide)), ?_⟩)
   refine bq<|aB [50,10,39,38,8,37,36,6,5,4,0,1] rfl<|aj (X' :=[_,_,_,_,_,_,_]) (S' :=[_,_]) (fun _ m=>m)<|ab<| ?_
   refine bk (fun w m=>m.bz 0 rfl (show _=dV DK gm (zV (cP lj (dg t) (rs.length,fP its j,t.2)))from congrArg (dV DK gm) (xY _ _ _))) ?_
   have hoj:=ka (l:=tx) hq (j+1)
   refine ai<|aw rfl<|hy (fun _=>aF rfl nI (by decide))<|hy (fun m=>ao rfl dD ((m.aU 1 rfl).au 32 _ (nP t)))<|hy (fun _=>yV (aP rfl rfl (bA (by omega) (by omega))) ((show Value.int .i64 (fP its j+t.2)= .int .i64 (fP its (j+1)) by rw[jO ht])))<|aG rfl<|ag<|aB [8,50,10,39,38,37,36,6,5,4,0,1] rfl<|aS<|ab<|ai<|hy (fun _=>aP rfl rfl (bA (by omega) (by omega)))<|aw rfl<|ag<|aB [38,8,50,10,39,37,36,6,5,4,0,1] rfl<| ?_
   have hnew:∀(nm:Dg) x,bO (cP lj (dg t) (rs.length,fP its j,t.2)) nm=some x→Kr x:=fun nm x h=>by
    rw[lx]at h
    split at h
    ·cases h;exact⟨by show rs.length≤_;omega,hoi.1,by show fP its j≤_;omega,Em.1,by show t.2≤_;omega⟩
    ·exact hoj0 nm x h
   refine jt (j+1) (cP lj (dg t) (rs.length,fP its j,t.2)) ⟨rfl,rfl,rfl,rfl,rfl,rfl,rfl,rfl,rfl,trivial⟩ [0,1,1,1,1,1] rfl [0,1] rfl (⟨by omega,hput hg,hnew⟩) (by omega)
  ·have hx:=hoj0 _ _ hg
   have cI:=hx.s0
   refine cD [] [(0,some 0),(1,some 0),(2,some 0),(3,some 0),(4,some 0),(5,some 0),(6,some 0),(7,some 0),(8,some 0)] (by kernel_rfl) (by kernel_rfl) rfl 99<|ak (ah rfl)<|ak (aO rfl)<|ak (aF rfl lC (by decide))<|bZ (fun m=>ao rfl rL (aA (m.aU 4 rfl) rfl))<|ak (aF rfl gR (by decide))<|bZ (fun m=>yV (aQ rfl b5 bp h32 (fun j u hu=>(m.aU 0 rfl).au j u (jb hu))) ((rfl:Value.agg (aW t.1.b).toArray=DK (dg t))))<|bZ (fun m=>yV (fy (enc:=DK) (k:=(dg t)) rfl rfl Tryz.underlying265 jV (oD rfl Tryz.underlying53 Tryz.underlying5 (by kernel_rfl) (by kernel_rfl) (by kernel_rfl)) (m.lS 1 rfl)) ((show eN false _ (bO (zV lj) (dg t))=xi x by rw[lJ,hg];rfl)))<|ak (yV (dK jV rfl (by kernel_rfl)) ((rfl:_=xi (0,0,0))))<|ak ((AM (a:=x) rfl rfl hx.i ⟨hx.o0,hx.o1⟩ ⟨by omega,hx.s1⟩))<|bq<|aB [50,10,39,38,8,37,36,6,5,4,0,1] rfl<|ab<| ?_
   refine cN rfl ((decide_eq_false (fun h=>by have:=h.2.2;omega))) ?_
   have hoj:=ka (l:=tx) hq (j+1)
   refine aC<|ab<|ai<|aw rfl<|hy (fun _=>aF rfl nI (by decide))<|hy (fun m=>ao rfl dD ((m.aU 0 rfl).au 32 _ (nP t)))<|hy (fun _=>yV (aP rfl rfl (bA (by omega) (by omega))) ((show Value.int .i64 (fP its j+t.2)= .int .i64 (fP its (j+1)) by rw[jO ht])))<|aG rfl<|ag<|aB [8,50,10,39,38,37,36,6,5,4,0,1] rfl<|aS<|ab<|ai<|hy (fun _=>aP rfl rfl (bA (by omega) (by omega)))<|aw rfl<|ag<|aB [38,8,50,10,39,37,36,6,5,4,0,1] rfl<| ?_
   refine jt (j+1) lj ⟨rfl,rfl,rfl,rfl,rfl,rfl,rfl,rfl,rfl,trivial⟩ [1,1,1,1,1,1] rfl [0,1] rfl (⟨by omega,hkeep (by rw[hg];rfl),hoj0⟩) (by omega)
 ·obtain rfl:j=its.length:=by omega
  rw[List.take_length]at hfj
  refine bG<|an<|an<|aE<|ab<|ae<|ai<|aw rfl<|aG rfl<|ag<|aB [4,39,38,8,37,36,6,5,0,1] rfl<|ab<|aV<| ?_
  refine aj (X' :=eS g gm q A_d1 c_d1 (rs++[r]) lj::_) (fun w m=>(m.perm (ar [3,3,0,1] _ [_,_,_,_] _ rfl)).pack) ?_
  have hrl:r.l=tx:=by rw[hr]
  have hfind:∀nm:Dg,bO lj nm=eh q ((rs++[r]).map aR.l) 0 nm.1:=fun nm=>by
   rw[List.map_append,List.map_cons,List.map_nil,hrl,qD,←hits,List.length_map,Nat.zero_add,←hok.find nm]
   exact hfj nm
  have hrows:∀y∈rs++[r],y.n=y.l.length∧y.n≤y.c∧y.n≤100000:=fun y hy=>by
   rcases List.mem_append.1 hy with h|h
   ·exact hok.rows y h
   ·rw[List.mem_singleton.1 h,hr]
    exact⟨hl.symm,by show n≤c_x;omega,hn⟩
  exact bc trivial rfl rfl [0] rfl [] rfl ⟨A_d1,c_d1,r,lj,rfl,rfl,rfl,⟨⟨hfind,hrows,hoj0⟩,hrl⟩⟩
end Go.Proofs.YtmibdabdlgmafaaGreatDoor
end
section
set_option maxRecDepth 20000
set_option maxHeartbeats 2000000
namespace Go.Proofs.YtmibdabdlgmafaaGreatDoor
open Go.Eng Go.Hx
theorem yW{g gm:Nat}{q:Pn}{A:Option Addr}{c:Nat}{rs:List aR}{l:xf}{nm:Dg}:b7 Tryz.prog 196 [.pointer (some ⟨g,0,none⟩),DK nm] [eS g gm q A c rs l] [] (fun v_ X_ S_=>v_=(.tuple #[xi ((bO l nm).getD (0,0,0)),.bool (bO l nm).isSome])∧X_=[eS g gm q A c rs l]∧S_=[]):=by
 refine aM (N:=19) Tryz.func196 rfl rfl (by simp) fun b=> ?_
 refine bk (fun w m=>(m.perm (ar [0] _ [_] _ rfl)).unpack) ?_
 refine ae<|ai<| ?_
 refine hx (bu rfl (fun g3=> ?_))
 refine aJ (fun w m=>m.bz 0 rfl (show _=aH g3 53 (aW nm.1)from congrArg (aH _ _) (aT _))) ?_
 obtain⟨x,hxx⟩:∃x,x=(bO l nm).getD (0,0,0):=⟨_,rfl⟩
 rw[←hxx]
 refine hx (bf jV (fun g4=> ?_))
 refine aG rfl<|ag<|aj (X' :=[_,_,_,_,_,_]) (S' :=[]) (fun _ m=>m)<|ab<|ae<|cD [9,10] [(0,some 1),(1,some 1),(2,some 1),(3,some 1),(4,some 1),(5,some 1),(6,some 1),(7,some 1),(8,some 2),(9,none),(10,none),(11,some 2)] (by kernel_rfl) (by kernel_rfl) rfl 1<|ak (ah rfl)<|ak (aO rfl)<|ak (aF rfl lC (by decide))<|bZ (fun m=>ao rfl rL (aA (m.aU 2 rfl) rfl))<|bZ (fun m=>yV (aQ rfl b5 bp (by rw[ax];exact nm.2) ((m.aU 1 rfl).au)) ((rfl:Value.agg _=DK nm)))<|bZ (fun m=>yV (fy (enc:=DK) (k:=nm) rfl rfl Tryz.underlying265 jV (oD rfl Tryz.underlying53 Tryz.underlying5 (by kernel_rfl) (by kernel_rfl) (by kernel_rfl)) (m.lS 4 rfl)) ((show eN true _ (bO (zV l) nm)=Value.tuple #[xi x,.bool (bO l nm).isSome] by rw[lJ,hxx];cases bO l nm <;> rfl)))<|ak (ah rfl)<|ak (aD rfl rfl)<|ak (aD rfl rfl)<| ?_
 refine dF (bf jV (fun g6=>⟨(fun _=>wk [1,1,1,1,1,1] [] rfl rfl), ?_⟩))
 refine gu (ba 0 rfl rfl rfl qG rfl (nG x) rfl ⟨(fun h=>absurd h (by decide)), ?_⟩)
 refine ak (al rfl)<|bq<|aB [7,6,5,4,3,0,1] rfl<|aj (X' :=[_,_,_,_,_,_,_]) (S' :=[]) (fun _ m=>m)<|ab<|ae<|ai<|hy (fun m=>yV (aQ rfl AY qG rfl ((m.aU 0 rfl).au)) ((rfl:_=xi x)))<|aw rfl<| ?_
 refine cI (ba 1 rfl rfl rfl qG rfl (nG x) rfl ?_)
 refine aG rfl<|ag<|aB [5,7,6,4,3,0,1] rfl<|aj (X' :=[_,_,_,_,_,_,_]) (S' :=[]) (fun _ m=>m)<|ab<|aV<| ?_
 refine aj (X' :=eS g gm q A c rs l::_) (fun w m=>(m.perm (ar [3,3,3,3] _ [_,_,_,_] _ rfl)).pack) ?_
 exact eK trivial rfl rfl rfl AY qG rfl (fun m=>(m.aU 1 rfl).au) [0] rfl [] rfl ⟨rfl,rfl,rfl⟩
theorem uu{g gm:Nat}{q:Pn}{A:Option Addr}{c:Nat}{rs:List aR}{l:xf}{nm:Dg}(hq:q.ok)(hok:gN q rs l):b7 Tryz.prog 140 [.pointer (some ⟨g,0,none⟩),DK nm] [eS g gm q A c rs l] [] (fun v_ X_ S_=>∃v,v_=(.tuple #[v,.bool (jB q (rs.map aR.l) nm.1).isSome])∧X_=[eS g gm q A c rs l,aK 5 1 v ((jB q (rs.map aR.l) nm.1).getD []).length (aW ((jB q (rs.map aR.l) nm.1).getD []))]∧S_=[]):=by
 have hfn:=hok.find nm
 refine aM (N:=36) Tryz.func140 rfl rfl (by simp) fun b=> ?_
 refine bk (fun w m=>(m.perm (ar [0] _ [_] _ rfl)).unpack) ?_
 refine ae<|ai<| ?_
 refine hx (bu rfl (fun g3=> ?_))
 refine aJ (fun w m=>m.bz 0 rfl (show _=aH g3 53 (aW nm.1)from congrArg (aH _ _) (aT _))) ?_
 rcases hg:bO l nm with _|⟨i,o,s⟩
 ·rw[hg]at hfn
  have hgs:jB q (rs.map aR.l) nm.1=none:=by unfold jB;rw[←hfn]
  rw[hgs]
  refine aG rfl<|aG rfl<|ag<|aj (X' :=[_,_,_,_,_]) (S' :=[]) (fun _ m=>m)<|ab<|ae<|cD [9,10] [(0,some 1),(1,some 1),(2,some 1),(3,some 1),(4,some 1),(5,some 1),(6,some 1),(7,some 1),(8,some 2),(9,none),(10,none),(11,some 2)] (by kernel_rfl) (by kernel_rfl) rfl 1<|ak (ah rfl)<|ak (aO rfl)<|ak (aF rfl lC (by decide))<|bZ (fun m=>ao rfl rL (aA (m.aU 1 rfl) rfl))<|bZ (fun m=>yV (aQ rfl b5 bp (by rw[ax];exact nm.2) ((m.aU 0 rfl).au)) ((rfl:Value.agg _=DK nm)))<|bZ (fun m=>yV (fy (enc:=DK) (k:=nm) rfl rfl Tryz.underlying265 jV (oD rfl Tryz.underlying53 Tryz.underlying5 (by kernel_rfl) (by kernel_rfl) (by kernel_rfl)) (m.lS 3 rfl)) ((show eN true _ (bO (zV l) nm)=Value.tuple #[xi (0,0,0),.bool false] by rw[lJ,hg];rfl)))<|ak (ah rfl)<|ak (aD rfl rfl)<|ak (aD rfl rfl)<| ?_
  refine dF (bf jV (fun g6=>⟨(fun _=>wk [1,1,1,1,1] [] rfl rfl), ?_⟩))
  refine gu (ba 0 rfl rfl rfl qG rfl (nG (0,0,0)) rfl ⟨(fun h=>absurd h (by decide)), ?_⟩)
  refine ak (al rfl)<|bq<|aB [7,6,5,4,3,0,1] rfl<|aj (X' :=[_,_,_,_,_,_]) (S' :=[]) (fun _ m=>m)<|ab<|ae<|ae<|ai<|aw rfl<|hy (fun _=>(iK rfl))<|ag<|aB [18,7,6,5,4,3,0,1] rfl<|ab<| ?_
  refine fq rfl (rfl) ?_
  refine ae<|ai<|aG rfl<|aG rfl<|ag<|ab<|aV<|ay<| ?_
  refine aj (fun w m=>m.cQ (r' :=aK 5 1 (.slice none 0 0) 0 []) (.refl _ _) (Own.nil _ _ _ _) (fun k hk=>hk.elim)) ?_
  refine aj (X' :=eS g gm q A c rs l::_) (fun w m=>(m.perm (ar [3,3,3,3] _ [_,_,_,_] _ rfl)).pack) ?_
  exact db trivial rfl rfl rfl [0,0] rfl [] rfl ⟨_,rfl,rfl,rfl⟩
 ·have hp:=hok.KB nm _ hg
  rw[hg]at hfn
  have hgs:jB q (rs.map aR.l) nm.1=some ((((rs.map aR.l).getD i []).drop o.toNat).take s.toNat):=by unfold jB;rw[←hfn]
  obtain⟨l0,j,hij,hl0,kk,t,ht,htn,hst,hot⟩:=mr hfn.symm
  rw[Nat.zero_add]at hij
  subst hij
  have hp0:0≤o:=hp.o0
  have hp1:1≤s:=hp.s0
  have hp2:s≤1000000:=hp.s1
  have hp3:o≤1000000:=hp.o1
  obtain⟨on,rfl⟩:∃n:Nat,o=n:=⟨o.toNat,by omega⟩
  obtain⟨sn,rfl⟩:∃n:Nat,s=n:=⟨s.toNat,by omega⟩
  obtain⟨r,hr,hrl⟩:∃r,rs[i]? =some r∧r.l=l0:=by
   rw[List.getElem?_map]at hl0
   obtain⟨r,h1,h2⟩:=Option.map_eq_some_iff.1 hl0
   exact⟨r,h1,h2⟩
  have hri:i<rs.length:=(List.getElem?_eq_some_iff.1 hr).1
  obtain⟨hr1,hr2,hr3⟩:=hok.rows r (List.mem_of_getElem? hr)
  have hof:=ka (l:=l0) hq (kk+1)
  rw[jO ht,←hot,←hst,←hrl]at hof
  have hgd:(rs.map aR.l).getD i []=r.l:=by rw[List.getD,hl0,←hrl];rfl
  rw[hgd,Int.toNat_natCast,Int.toNat_natCast]at hgs
  have hgl:((r.l.drop on).take sn).length=sn:=by rw[List.length_take,List.length_drop];omega
  rw[hgs]
  refine aG rfl<|aG rfl<|ag<|ab<|ae<|cD [9,10] [(0,some 1),(1,some 1),(2,some 1),(3,some 1),(4,some 1),(5,some 1),(6,some 1),(7,some 1),(8,some 2),(9,none),(10,none),(11,some 2)] (by kernel_rfl) (by kernel_rfl) rfl 1<|ak (ah rfl)<|ak (aO rfl)<|ak (aF rfl lC (by decide))<|bZ (fun m=>ao rfl rL (aA (m.aU 1 rfl) rfl))<|bZ (fun m=>yV (aQ rfl b5 bp (by rw[ax];exact nm.2) ((m.aU 0 rfl).au)) ((rfl:Value.agg _=DK nm)))<|bZ (fun m=>yV (fy (enc:=DK) (k:=nm) rfl rfl Tryz.underlying265 jV (oD rfl Tryz.underlying53 Tryz.underlying5 (by kernel_rfl) (by kernel_rfl) (by kernel_rfl)) (m.lS 3 rfl)) ((show eN true _ (bO (zV l) nm)=Value.tuple #[xi (i,(on:Int),(sn:Int)),.bool true] by rw[lJ,hg];rfl)))<|ak (ah rfl)<|ak (aD rfl rfl)<|ak (aD rfl rfl)<| ?_
  refine dF (bf jV (fun g6=>⟨(fun _=>wk [1,1,1,1,1] [] rfl rfl), ?_⟩))
  refine gu (ba 0 rfl rfl rfl qG rfl (nG (i,(on:Int),(sn:Int))) rfl ⟨(fun h=>absurd h (by decide)), ?_⟩)
  refine ak (al rfl)<|bq<|aB [7,6,5,4,3,0,1] rfl<|aj (X' :=[_,_,_,_,_,_]) (S' :=[]) (fun _ m=>m)<|ab<|ae<|ae<|ai<|aw rfl<|hy (fun _=>(iK rfl))<|ag<|aB [18,7,6,5,4,3,0,1] rfl<|ab<| ?_
  refine cN rfl (rfl) ?_
  refine a6 (fun m=>(m.ord 3 rfl).2.1) fun hA_d1=> ?_
  refine aC<|ab<|ae<|cD [16] [(0,some 1),(1,some 1),(2,some 1),(3,some 0),(4,some 1),(5,some 0),(6,some 0),(7,some 0),(8,some 0),(9,some 0),(10,some 0),(11,some 0),(12,some 0),(13,some 0),(14,some 0),(15,some 0),(16,none),(17,some 1),(18,some 1)] (by kernel_rfl) (by kernel_rfl) rfl 99<|ak (ah rfl)<|ak (aO rfl)<|ak (aF rfl pV (by decide))<|bZ (fun m=>ao rfl wW (aA (m.aU 2 rfl) rfl))<|ak (aF rfl EH (by decide))<|bZ (fun m=>ao rfl dD (aA (m.aU 0 rfl) (i:=0) (show(GZ (i,(on:Int),(sn:Int)))[0]? =some (Value.int .i64 (i:Int))from rfl)))<|ak (aZ rfl rfl Tryz.underlying84 iY hA_d1 rfl (by omega))<|bZ (fun m=>ao rfl dB ((m.ord 3 rfl).cell (show(jZ rs)[i]? =some (Value.slice r.A r.n r.c) by rw[jZ,List.getElem?_map,hr];rfl)))<|ak (aF rfl yH (by decide))<|bZ (fun m=>ao rfl dD (aA (m.aU 0 rfl) (i:=1) (show(GZ (i,(on:Int),(sn:Int)))[1]? =some (Value.int .i64 (on:Int))from rfl)))<|ak (aF rfl yH (by decide))<|bZ (fun m=>ao rfl dD (aA (m.aU 0 rfl) (i:=1) (show(GZ (i,(on:Int),(sn:Int)))[1]? =some (Value.int .i64 (on:Int))from rfl)))<|ak (aF rfl DQ (by decide))<|bZ (fun m=>ao rfl dD (aA (m.aU 0 rfl) (i:=2) (show(GZ (i,(on:Int),(sn:Int)))[2]? =some (Value.int .i64 (sn:Int))from rfl)))<|ak (aP rfl rfl (bA (by omega) (by omega)))<|ak (yV (ey rfl rfl rfl Tryz.underlying27 dU rfl (show((on+sn:Nat):Int)=_ by omega) (by omega) (by omega)) ((show Value.slice (if r.c=on then r.A else r.A.map (·.add (on*1))) (on+sn-on) (r.c-on)=Value.slice (if r.c=on then r.A else r.A.map (·.add (on*1))) sn (r.c-on) by rw[Nat.add_sub_cancel_left])))<| ?_
  refine dF (c6 rfl Tryz.call117 (mN (by omega)) [] rfl (.x 5 rfl ((View.row hr).trans (View.sub (k:=on) (m:=sn) hr2 (by omega))) .nil) ?_)
  rintro _ _ _ ⟨v,rfl,rfl,rfl⟩
  refine⟨rfl, ?_⟩
  refine⟨(fun _=>wk [1,1,1,1,1,1] [] rfl rfl), ?_⟩
  refine cd (fun m=>(m.own 0 rfl).slice) ?_
  rintro⟨A_x,c_x,rfl,hc_x⟩
  refine cd (fun m=>(m.ord 0 rfl).2.1) fun hA_x=> ?_
  refine ak (al rfl)<|ak (al rfl)<|bq<|aB [5,4,18,7,6,3,0,1] rfl<|aj (X' :=[_,_,_,_,_,_,_]) (S' :=[]) (fun _ m=>m)<|ab<|aV<| ?_
  have hgl2:((some ((r.l.drop on).take sn)).getD []).length=sn:=hgl
  rw[hgl2]
  refine aj (X' :=eS g gm q A c rs l::_) (fun w m=>(m.perm (ar [3,3,3,3] _ [_,_,_,_] _ rfl)).pack) ?_
  exact db trivial rfl rfl rfl [0,0] rfl [] rfl ⟨_,rfl,rfl,rfl⟩
end Go.Proofs.YtmibdabdlgmafaaGreatDoor
end
section
set_option maxRecDepth 20000
set_option maxHeartbeats 4000000
namespace Go.Proofs.YtmibdabdlgmafaaGreatDoor
open Go.Eng Go.Hx
def cG(d:RD)(q:Pn)(ts:List (List UInt8))(nm:List UInt8):Int:=if d.ic nm=0 then 1 else if(eh q ts 0 nm).isSome then 2 else 3
def ea(fr:List UInt8→Int)(its:List It):Nat→List It
 |0=>[]
 |i+1=>match its[i]? with
  |some t=>if t.1.b∈(its.take i).map (fun t=>t.1.b)then ea fr its i else ea fr its i++[(t.1,fr t.1.b)]
  |none=>ea fr its i
theorem kO{fr:List UInt8→Int}{its:List It}{i:Nat}{t:It}(h:its[i]? =some t):ea fr its (i+1)=if t.1.b∈(its.take i).map (fun t=>t.1.b)then ea fr its i else ea fr its i++[(t.1,fr t.1.b)]:=by
 rw[ea,h]
theorem ky{fr:List UInt8→Int}{its:List It}:∀(i:Nat),(ea fr its i).length≤i
 |0=>Nat.le_refl _
 |i+1=>by
  have:=ky (fr:=fr) (its:=its) i
  rw[ea]
  split
  ·split
   ·omega
   ·rw[List.length_append,List.length_singleton];omega
  ·omega
def ib(fr:List UInt8→Int)(its:List It):List It:=ea fr its its.length
theorem zC{its:List It}{j:Nat}{t:It}(h:its[j]? =some t):(its.take (j+1)).map (fun t=>t.1.b)=(its.take j).map (fun t=>t.1.b)++[t.1.b]:=by
 obtain⟨h1,rfl⟩:=List.getElem?_eq_some_iff.1 h
 rw[List.take_succ_eq_append_getElem h1,List.map_append]
 rfl
theorem Ap{x:RX}{kk:Nat}{u:IX}{T:Option Addr}{n c:Nat}{rs:List aR}{q:Pn}(ok:zY x.d kk)(hkk:kk≤100000)(hrd:∀p,(x.d.cS p).length≤10000000)(hq:q.ok)(hn:rs.length=n)(hr:∀r∈rs,r.n=r.l.length∧r.n≤r.c∧r.n≤1000000)(hnn:n≤1000000)(hu:u.its.length≤100000):b7 Tryz.prog 44 [.agg x.cs.toArray,.agg u.cs.toArray,.slice T n c,.agg q.p.cs.toArray] [] [eL x,cL 33 u.A u.its.length (jD u.its),cL 1 T n (jZ rs),dH rs,dZ] (fun v_ X_ S_=>∃A1 k c1,v_=(.slice A1 k c1)∧X_=[aK 96 33 (.slice A1 k c1) k (jD (ib (cG x.d q (rs.map aR.l)) u.its))]∧S_=[]∧(k=(ib (cG x.d q (rs.map aR.l)) u.its).length)):=by
 refine aM (N:=70) Tryz.func44 rfl rfl (by simp) fun b=> ?_
 refine a6 (fun m=>fH (m.rd 1 rfl)) ?_
 rintro⟨hl_it,hA_it⟩
 refine a6 (fun m=>fH (m.rd 2 rfl)) ?_
 rintro⟨hl_rt,hA_rt⟩
 refine ae<|ai<| ?_
 refine hx (bu rfl (fun g4=> ?_))
 refine aJ (fun w m=>m.bz 0 rfl (show _=aH g4 39 x.cs from congrArg (aH _ _) (aT _))) ?_
 refine hx (bu rfl (fun g5=> ?_))
 refine aJ (fun w m=>m.bz 0 rfl (show _=aH g5 82 u.cs from congrArg (aH _ _) (aT _))) ?_
 refine hx (bu rfl (fun g7=> ?_))
 refine aJ (fun w m=>m.bz 0 rfl (show _=aH g7 75 q.p.cs from congrArg (aH _ _) (aT _))) ?_
 refine aG rfl<|ag<|aj (X' :=[_,_,_]) (S' :=[_,_,_,_,_]) (fun _ m=>m)<|ab<|ae<|ai<|aG rfl<|ag<|ab<|ae<|ae<|ai<|aG rfl<|ag<|ab<|aN<| ?_
 refine bk (fun w m=>m.cQ (r' :=aK 96 33 (.slice none 0 0) 0 []) (.refl _ _) (Own.nil _ _ _ _) (fun k hk=>hk.elim)) ?_
 refine j3 (fun i A1 k1 c1=>u.its.length-i) (fun i A1 k1 c1=>[(9,.slice A1 k1 c1),(10,.int .i64 (i:Nat))]) (fun i A1 k1 c1=>[aK 96 33 (.slice A1 k1 c1) k1 (jD (ea (cG x.d q (rs.map aR.l)) u.its i))]) (fun i A1 k1 c1=>[]) (fun i A1 k1 c1=>i≤u.its.length∧k1=(ea (cG x.d q (rs.map aR.l)) u.its i).length) 0 none 0 0 [(8,_),(7,_),(5,_),(4,_),(0,_),(1,_),(2,_),(3,_)] ⟨rfl,rfl,rfl,rfl,rfl,rfl,rfl,rfl,trivial⟩ [0] rfl [] rfl (⟨Nat.zero_le _,rfl⟩) ⟨rfl,rfl,trivial⟩ (fun i A1 k1 c1 ⟨hi,hk1⟩=> ?_)
 refine ae<|ae<|ai<|aw rfl<|hy (fun _=>aF rfl sS (by decide))<|hy (fun m=>ao rfl wy (aA (m.aU 2 rfl) (i:=35) u.CL))<|hy (fun _=>aY rfl Tryz.underlying80)<|hy (fun _=>bw rfl rfl)<|ag<|aB [22,9,10,8,7,5,4,0,1,2,3] rfl<|ab<| ?_
 refine cB rfl (fun hlt=> ?_) (fun hlt=> ?_)
 ·obtain⟨t,ht⟩:∃t,u.its[i]? =some t:=⟨_,List.getElem?_eq_getElem (by omega)⟩
  have h32:(aW t.1.b).length=32:=by rw[ax,t.1.h]
  have hsu:=kO (fr:=cG x.d q (rs.map aR.l)) ht
  have hsl:=ky (fr:=cG x.d q (rs.map aR.l)) (its:=u.its) i
  refine aC<|ab<|ae<|aN<|ae<|ai<|hy (fun _=>aF rfl sS (by decide))<|hy (fun m=>ao rfl wy (aA (m.aU 2 rfl) (i:=35) u.CL))<|aw rfl<|hy (fun _=>cC rfl rfl Tryz.underlying80 jK hA_it rfl (by omega))<|hy (fun _=>aF rfl gR (by decide))<|hy (fun m=>aQ rfl b5 bp h32 (tv (m.rd 1 rfl) ht))<| ?_
  refine hx (bf dw (fun g11=> ?_))
  refine cI (ba 0 rfl rfl rfl bp h32 bn rfl ?_)
  refine ag<|aB [11,22,9,10,8,7,5,4,0,1,2,3] rfl<|aj (X' :=[_,_,_,_,_]) (S' :=[_,_,_,_,_]) (fun _ m=>m)<|ab<|ae<|ai<|aG rfl<|ag<|ab<|ae<|ae<|ai<|aG rfl<|ag<|ab<|aN<| ?_
  refine mq (fun j nb=>i-j) (fun j nb=>[(13,.int .i64 (j:Nat)),(12,.bool nb)]) (fun j nb=>[]) (fun j nb=>[]) (fun j nb=>j≤i∧nb=decide (t.1.b∈(u.its.take j).map (fun t=>t.1.b))) 0 false [(11,_),(22,_),(9,_),(10,_),(8,_),(7,_),(5,_),(4,_),(0,_),(1,_),(2,_),(3,_)] ⟨rfl,rfl,rfl,rfl,rfl,rfl,rfl,rfl,rfl,rfl,rfl,rfl,trivial⟩ [] rfl [] rfl (⟨Nat.zero_le _,by simp⟩) ⟨rfl,rfl,trivial⟩ (fun j nb ⟨hj,hnb⟩=> ?_)
  refine ae<|ae<|ai<|aw rfl<|aw rfl<|hy (fun _=>bw rfl rfl)<|ag<|aB [33,13,12,11,22,9,10,8,7,5,4,0,1,2,3] rfl<|ab<| ?_
  refine cB rfl (fun hlt2=> ?_) (fun hlt2=> ?_)
  ·obtain⟨t2,ht2⟩:∃t,u.its[j]? =some t:=⟨_,List.getElem?_eq_getElem (by omega)⟩
   have h32t:(aW t2.1.b).length=32:=by rw[ax,t2.1.h]
   have hns:=zC ht2
   cases nb
   ·have hno:=of_decide_eq_false hnb.symm
    refine aC<|ab<|ae<|aN<|cD [] [(0,some 0),(1,some 0),(2,some 0),(3,some 0),(4,some 0),(5,some 0),(6,some 0),(7,some 0),(8,some 0),(9,some 0),(10,some 0),(11,some 0)] (by kernel_rfl) (by kernel_rfl) rfl 99<|ak (ah rfl)<|ak (ah rfl)<|bB (o:=_) rfl rfl rfl (aF rfl sS (by decide))<|iW (o:=_) rfl rfl rfl (fun m=>ao rfl wy (aA (m.aU 3 rfl) (i:=35) u.CL))<|bB (o:=_) rfl rfl rfl (ah rfl)<|bB (o:=_) rfl rfl rfl (cC rfl rfl Tryz.underlying80 jK hA_it rfl (by omega))<|bB (o:=_) rfl rfl rfl (aF rfl gR (by decide))<|iW (o:=_) rfl rfl rfl (fun m=>aQ rfl b5 bp h32t (tv (m.rd 1 rfl) ht2))<|iW (o:=_) rfl rfl rfl (fun m=>aQ rfl b5 bp h32 ((m.aU 0 rfl).au))<|bB (o:=_) rfl rfl rfl (nY rfl rfl t2.1.h t.1.h)<|ak (bo rfl rfl)<|ak (al rfl)<|bq<|aB [12,33,13,11,22,9,10,8,7,5,4,0,1,2,3] rfl<|aS<|ab<|ai<|aw rfl<|hy (fun _=>aP rfl rfl (bA (by omega) (by omega)))<|aG rfl<|ag<|aB [13,12,33,11,22,9,10,8,7,5,4,0,1,2,3] rfl<| ?_
    refine jt (j+1) (decide (t2.1.b=t.1.b)) ⟨rfl,rfl,rfl,rfl,rfl,rfl,rfl,rfl,rfl,rfl,rfl,rfl,rfl,rfl,trivial⟩ [0,0,0,0,0] rfl [0,1,2,3,4] rfl (⟨by omega,by rw[hns];exact decide_eq_decide.2 ⟨fun h=>List.mem_append_right _ (List.mem_singleton.2 h.symm),fun h=>(List.mem_append.1 h).elim (fun h=>absurd h hno) (fun h=>(List.mem_singleton.1 h).symm)⟩⟩) (by omega)
   ·have hyes:=of_decide_eq_true hnb.symm
    refine aC<|ab<|ae<|aN<|cD [] [(0,some 0),(1,some 0),(2,some 0),(3,some 0),(4,some 0),(5,some 0),(6,some 0),(7,some 0),(8,some 0),(9,some 0),(10,some 0),(11,some 0)] (by kernel_rfl) (by kernel_rfl) rfl 99<|ak (ah rfl)<|ak (ah rfl)<|aX rfl rfl rfl (by decide)<|aX rfl rfl rfl (by decide)<|aX rfl rfl rfl (by decide)<|aX rfl rfl rfl (by decide)<|aX rfl rfl rfl (by decide)<|aX rfl rfl rfl (by decide)<|aX rfl rfl rfl (by decide)<|aX rfl rfl rfl (by decide)<|ak (bC rfl rfl)<|ak (al rfl)<|bq<|aB [12,33,13,11,22,9,10,8,7,5,4,0,1,2,3] rfl<|aS<|ab<|ai<|aw rfl<|hy (fun _=>aP rfl rfl (bA (by omega) (by omega)))<|aG rfl<|ag<|aB [13,12,33,11,22,9,10,8,7,5,4,0,1,2,3] rfl<| ?_
    refine jt (j+1) true ⟨rfl,rfl,rfl,rfl,rfl,rfl,rfl,rfl,rfl,rfl,rfl,rfl,rfl,rfl,trivial⟩ [0,0,0,0,0] rfl [0,1,2,3,4] rfl (⟨by omega,by rw[hns];exact(decide_eq_true (List.mem_append_left _ hyes)).symm⟩) (by omega)
  ·obtain rfl:j=i:=by omega
   subst hnb
   refine bG<|an<|an<|aE<|ab<|ae<|ae<|ai<|aw rfl<|ag<|ab<| ?_
   refine cB rfl (fun hseen=> ?_) (fun hseen=> ?_)
   ·rw[if_pos hseen]at hsu
    rw[←hsu]at hk1
    rw[←hsu]
    refine bG<|an<|aE<|ab<|ai<|aw rfl<|hy (fun _=>aP rfl rfl (bA (by omega) (by omega)))<|aG rfl<|ag<|aB [10,47,33,13,12,11,22,9,8,7,5,4,0,1,2,3] rfl<| ?_
    refine ej (j+1) A1 k1 c1 ⟨rfl,rfl,rfl,rfl,rfl,rfl,rfl,rfl,rfl,rfl,trivial⟩ [1,1,1,1] rfl [0,1,2,3,4] rfl (⟨by omega,hk1⟩) (by omega)
   ·rw[if_neg hseen]at hsu
    refine aC<|ab<|ae<|ai<|aG rfl<|ag<|ab<|ae<|ai<|aw rfl<|hy (fun m=>yV (aQ rfl gC gg rfl ((m.aU 2 rfl).au)) ((rfl:_=Value.agg q.p.cs.toArray)))<|hy (fun m=>aQ rfl b5 bp h32 ((m.aU 0 rfl).au))<| ?_
    refine hx (aq rfl Tryz.call134 (vQ hq t.1.h hn hr hnn) [] rfl [2,3] rfl ?_)
    rintro _ _ _ ⟨rfl,rfl,rfl⟩
    refine hx (bf uo (fun g15=> ?_))
    refine cI (ba 0 rfl rfl rfl sL (pP _) (pT _) rfl ?_)
    refine aJ (fun w m=>m.bz 0 rfl (show _=aH g15 212 (wu (eh q (rs.map aR.l) 0 t.1.b))from congrArg (aH _ _) (aT _))) ?_
    rcases hfs:eh q (rs.map aR.l) 0 t.1.b with _|⟨i0,o0,s0⟩
    ·refine ag<|aB [15,14,47,33,13,12,11,22,9,10,8,7,5,4,0,1,2,3] rfl<|aj (X' :=[_,_,_,_,_,_]) (S' :=[_,_,_,_,_]) (fun _ m=>m)<|ab<|ae<|ae<|ai<|hy (fun _=>aF rfl nF (by decide))<|hy (fun m=>ao rfl dD (aA (m.aU 0 rfl) (i:=0) (show(wu none)[0]? =some (Value.int .i64 (-1))from rfl)))<|hy (fun _=>dL rfl rfl)<|ag<|aB [54,15,14,47,33,13,12,11,22,9,10,8,7,5,4,0,1,2,3] rfl<|ab<| ?_
     refine cN rfl ((by decide)) ?_
     refine aC<|ab<|ae<|ai<|hy (fun m=>yV (aQ rfl cF bP rfl ((m.aU 5 rfl).au)) ((rfl:_=Value.agg x.cs.toArray)))<|hy (fun m=>aQ rfl b5 bp h32 ((m.aU 1 rfl).au))<| ?_
     refine hx (aq rfl Tryz.call74 (AG ok hkk t.1.h (hrd _)) [] rfl [0,4] rfl ?_)
     rintro _ _ _ ⟨rfl,rfl,rfl⟩
     refine aw rfl<|hy (fun _=>aD rfl rfl)<|hy (fun _=>aD rfl rfl)<|aG rfl<|aG rfl<|ag<|aB [17,54,15,14,47,33,13,12,11,22,9,10,8,7,5,4,0,1,2,3] rfl<|aj (X' :=[_,_,_,_,_,_]) (S' :=[_,_,_,_,_]) (fun _ m=>m)<|ab<|ae<|ae<|ai<|aw rfl<|hy (fun _=>cx rfl rfl)<|ag<|aB [62,17,54,15,14,47,33,13,12,11,22,9,10,8,7,5,4,0,1,2,3] rfl<|ab<| ?_
     refine cB rfl (fun he=> ?_) (fun he=> ?_)
     ·have hfr:cG x.d q (rs.map aR.l) t.1.b=1:=by unfold cG;rw[if_pos he]
      rw[hfr]at hsu
      refine ai<|aG rfl<|ag<|ab<|ai<|aw rfl<|hy (fun m=>aQ rfl b5 bp h32 ((m.aU 1 rfl).au))<|aw rfl<|hy (fun _=>bU pI rfl rfl (by kernel_rfl) (o3 (t:=(t.1,1)) tC tR))<| ?_
      refine hx (bQ Tryz.underlying90 pI rfl rfl rfl (by intro v hv;rw[List.mem_singleton.1 hv];show(fz (t.1,1)).toArray.size=33;rw[List.size_toArray,cf]) (by decide) (by decide) (fun g67=> ?_))
      have hA_b67:0<1→(some (⟨g67,0,none⟩:Addr))≠none:=fun _ h=>by cases h
      refine aJ (fun w m=>m.bz 0 rfl (show _=aK 96 33 (.slice (some ⟨g67,0,none⟩) 1 1) 1 (jD [(t.1,1)])from rfl)) ?_
      refine hx (bs 3 rfl rfl rfl Tryz.underlying90 Tryz.underlying90 (by exact .inl rfl) pI rfl (fun m=>Src.bJ (m.ord 0 rfl)) kx (by unfold maxLen;omega) (by omega) (fun u2=> ?_))
      refine az (fun m=>(m.own 0 rfl).slice) ?_
      rintro⟨A_o,c_o,rfl,hc_o⟩
      refine az (fun m=>(m.ord 0 rfl).2.1) fun hA_o=> ?_
      refine aJ (fun w m=>m.bz 0 rfl (show _=aK 96 33 (.slice A_o (k1+1) c_o) (k1+1) (jD (ea (cG x.d q (rs.map aR.l)) u.its (j+1)))from congrArg (aK _ _ _ _) (by rw[hsu,fI]))) ?_
      refine aG rfl<|ag<|aB [9,14,62,17,54,15,47,33,13,12,11,22,10,8,7,5,4,0,1,2,3] rfl<|aj (X' :=[_,_,_,_,_,_,_]) (S' :=[_,_,_,_,_]) (fun _ m=>m)<|aS<|ab<|ai<|aw rfl<|hy (fun _=>aP rfl rfl (bA (by omega) (by omega)))<|aG rfl<|ag<|aB [10,9,14,62,17,54,15,47,33,13,12,11,22,8,7,5,4,0,1,2,3] rfl<| ?_
      refine ej (j+1) A_o (k1+1) c_o ⟨rfl,rfl,rfl,rfl,rfl,rfl,rfl,rfl,rfl,rfl,trivial⟩ [0,3,3,3] rfl [0,1,2,3,4] rfl (⟨by omega,by rw[hsu,List.length_append,hk1];rfl⟩) (by omega)
     ·have hfr:cG x.d q (rs.map aR.l) t.1.b=3:=by unfold cG;rw[if_neg he,hfs];rfl
      rw[hfr]at hsu
      refine aC<|ab<|ai<|aw rfl<|hy (fun m=>aQ rfl b5 bp h32 ((m.aU 1 rfl).au))<|aw rfl<|hy (fun _=>bU pI rfl rfl (by kernel_rfl) (o3 (t:=(t.1,3)) tC tR))<| ?_
      refine hx (bQ Tryz.underlying90 pI rfl rfl rfl (by intro v hv;rw[List.mem_singleton.1 hv];show(fz (t.1,3)).toArray.size=33;rw[List.size_toArray,cf]) (by decide) (by decide) (fun g67=> ?_))
      have hA_b67:0<1→(some (⟨g67,0,none⟩:Addr))≠none:=fun _ h=>by cases h
      refine aJ (fun w m=>m.bz 0 rfl (show _=aK 96 33 (.slice (some ⟨g67,0,none⟩) 1 1) 1 (jD [(t.1,3)])from rfl)) ?_
      refine hx (bs 3 rfl rfl rfl Tryz.underlying90 Tryz.underlying90 (by exact .inl rfl) pI rfl (fun m=>Src.bJ (m.ord 0 rfl)) kx (by unfold maxLen;omega) (by omega) (fun u2=> ?_))
      refine az (fun m=>(m.own 0 rfl).slice) ?_
      rintro⟨A_o,c_o,rfl,hc_o⟩
      refine az (fun m=>(m.ord 0 rfl).2.1) fun hA_o=> ?_
      refine aJ (fun w m=>m.bz 0 rfl (show _=aK 96 33 (.slice A_o (k1+1) c_o) (k1+1) (jD (ea (cG x.d q (rs.map aR.l)) u.its (j+1)))from congrArg (aK _ _ _ _) (by rw[hsu,fI]))) ?_
      refine aG rfl<|ag<|aB [9,62,17,54,15,14,47,33,13,12,11,22,10,8,7,5,4,0,1,2,3] rfl<|aj (X' :=[_,_,_,_,_,_,_]) (S' :=[_,_,_,_,_]) (fun _ m=>m)<|aS<|ab<|ai<|aw rfl<|hy (fun _=>aP rfl rfl (bA (by omega) (by omega)))<|aG rfl<|ag<|aB [10,9,62,17,54,15,14,47,33,13,12,11,22,8,7,5,4,0,1,2,3] rfl<| ?_
      refine ej (j+1) A_o (k1+1) c_o ⟨rfl,rfl,rfl,rfl,rfl,rfl,rfl,rfl,rfl,rfl,trivial⟩ [0,3,3,3] rfl [0,1,2,3,4] rfl (⟨by omega,by rw[hsu,List.length_append,hk1];rfl⟩) (by omega)
    ·refine ag<|aB [15,14,47,33,13,12,11,22,9,10,8,7,5,4,0,1,2,3] rfl<|ab<|ae<|ae<|ai<|hy (fun _=>aF rfl nF (by decide))<|hy (fun m=>ao rfl dD (aA (m.aU 0 rfl) (i:=0) (show(wu (some (i0,o0,s0)))[0]? =some (Value.int .i64 (i0:Nat))from rfl)))<|hy (fun _=>dL rfl rfl)<|ag<|aB [54,15,14,47,33,13,12,11,22,9,10,8,7,5,4,0,1,2,3] rfl<|ab<| ?_
     refine fq rfl ((decide_eq_true (by omega))) ?_
     refine ai<|aG rfl<|ag<|ab<|ae<|ai<|hy (fun m=>yV (aQ rfl cF bP rfl ((m.aU 5 rfl).au)) ((rfl:_=Value.agg x.cs.toArray)))<|hy (fun m=>aQ rfl b5 bp h32 ((m.aU 1 rfl).au))<| ?_
     refine hx (aq rfl Tryz.call74 (AG ok hkk t.1.h (hrd _)) [] rfl [0,4] rfl ?_)
     rintro _ _ _ ⟨rfl,rfl,rfl⟩
     refine aw rfl<|hy (fun _=>aD rfl rfl)<|hy (fun _=>aD rfl rfl)<|aG rfl<|aG rfl<|ag<|aB [17,14,54,15,47,33,13,12,11,22,9,10,8,7,5,4,0,1,2,3] rfl<|aj (X' :=[_,_,_,_,_,_]) (S' :=[_,_,_,_,_]) (fun _ m=>m)<|ab<|ae<|ae<|ai<|aw rfl<|hy (fun _=>cx rfl rfl)<|ag<|aB [62,17,14,54,15,47,33,13,12,11,22,9,10,8,7,5,4,0,1,2,3] rfl<|ab<| ?_
     refine cB rfl (fun he=> ?_) (fun he=> ?_)
     ·have hfr:cG x.d q (rs.map aR.l) t.1.b=1:=by unfold cG;rw[if_pos he]
      rw[hfr]at hsu
      refine ai<|aG rfl<|ag<|ab<|ai<|aw rfl<|hy (fun m=>aQ rfl b5 bp h32 ((m.aU 1 rfl).au))<|aw rfl<|hy (fun _=>bU pI rfl rfl (by kernel_rfl) (o3 (t:=(t.1,1)) tC tR))<| ?_
      refine hx (bQ Tryz.underlying90 pI rfl rfl rfl (by intro v hv;rw[List.mem_singleton.1 hv];show(fz (t.1,1)).toArray.size=33;rw[List.size_toArray,cf]) (by decide) (by decide) (fun g67=> ?_))
      have hA_b67:0<1→(some (⟨g67,0,none⟩:Addr))≠none:=fun _ h=>by cases h
      refine aJ (fun w m=>m.bz 0 rfl (show _=aK 96 33 (.slice (some ⟨g67,0,none⟩) 1 1) 1 (jD [(t.1,1)])from rfl)) ?_
      refine hx (bs 3 rfl rfl rfl Tryz.underlying90 Tryz.underlying90 (by exact .inl rfl) pI rfl (fun m=>Src.bJ (m.ord 0 rfl)) kx (by unfold maxLen;omega) (by omega) (fun u2=> ?_))
      refine az (fun m=>(m.own 0 rfl).slice) ?_
      rintro⟨A_o,c_o,rfl,hc_o⟩
      refine az (fun m=>(m.ord 0 rfl).2.1) fun hA_o=> ?_
      refine aJ (fun w m=>m.bz 0 rfl (show _=aK 96 33 (.slice A_o (k1+1) c_o) (k1+1) (jD (ea (cG x.d q (rs.map aR.l)) u.its (j+1)))from congrArg (aK _ _ _ _) (by rw[hsu,fI]))) ?_
      refine aG rfl<|ag<|aB [9,14,62,17,54,15,47,33,13,12,11,22,10,8,7,5,4,0,1,2,3] rfl<|aj (X' :=[_,_,_,_,_,_,_]) (S' :=[_,_,_,_,_]) (fun _ m=>m)<|aS<|ab<|ai<|aw rfl<|hy (fun _=>aP rfl rfl (bA (by omega) (by omega)))<|aG rfl<|ag<|aB [10,9,14,62,17,54,15,47,33,13,12,11,22,8,7,5,4,0,1,2,3] rfl<| ?_
      refine ej (j+1) A_o (k1+1) c_o ⟨rfl,rfl,rfl,rfl,rfl,rfl,rfl,rfl,rfl,rfl,trivial⟩ [0,3,3,3] rfl [0,1,2,3,4] rfl (⟨by omega,by rw[hsu,List.length_append,hk1];rfl⟩) (by omega)
     ·have hfr:cG x.d q (rs.map aR.l) t.1.b=2:=by unfold cG;rw[if_neg he,hfs];rfl
      rw[hfr]at hsu
      refine aC<|ab<|ai<|aw rfl<|hy (fun m=>aQ rfl b5 bp h32 ((m.aU 1 rfl).au))<|aw rfl<|hy (fun _=>bU pI rfl rfl (by kernel_rfl) (o3 (t:=(t.1,2)) tC tR))<| ?_
      refine hx (bQ Tryz.underlying90 pI rfl rfl rfl (by intro v hv;rw[List.mem_singleton.1 hv];show(fz (t.1,2)).toArray.size=33;rw[List.size_toArray,cf]) (by decide) (by decide) (fun g67=> ?_))
      have hA_b67:0<1→(some (⟨g67,0,none⟩:Addr))≠none:=fun _ h=>by cases h
      refine aJ (fun w m=>m.bz 0 rfl (show _=aK 96 33 (.slice (some ⟨g67,0,none⟩) 1 1) 1 (jD [(t.1,2)])from rfl)) ?_
      refine hx (bs 3 rfl rfl rfl Tryz.underlying90 Tryz.underlying90 (by exact .inl rfl) pI rfl (fun m=>Src.bJ (m.ord 0 rfl)) kx (by unfold maxLen;omega) (by omega) (fun u2=> ?_))
      refine az (fun m=>(m.own 0 rfl).slice) ?_
      rintro⟨A_o,c_o,rfl,hc_o⟩
      refine az (fun m=>(m.ord 0 rfl).2.1) fun hA_o=> ?_
      refine aJ (fun w m=>m.bz 0 rfl (show _=aK 96 33 (.slice A_o (k1+1) c_o) (k1+1) (jD (ea (cG x.d q (rs.map aR.l)) u.its (j+1)))from congrArg (aK _ _ _ _) (by rw[hsu,fI]))) ?_
      refine aG rfl<|ag<|aB [9,62,17,14,54,15,47,33,13,12,11,22,10,8,7,5,4,0,1,2,3] rfl<|aj (X' :=[_,_,_,_,_,_,_]) (S' :=[_,_,_,_,_]) (fun _ m=>m)<|aS<|ab<|ai<|aw rfl<|hy (fun _=>aP rfl rfl (bA (by omega) (by omega)))<|aG rfl<|ag<|aB [10,9,62,17,14,54,15,47,33,13,12,11,22,8,7,5,4,0,1,2,3] rfl<| ?_
      refine ej (j+1) A_o (k1+1) c_o ⟨rfl,rfl,rfl,rfl,rfl,rfl,rfl,rfl,rfl,rfl,trivial⟩ [0,3,3,3] rfl [0,1,2,3,4] rfl (⟨by omega,by rw[hsu,List.length_append,hk1];rfl⟩) (by omega)
 ·obtain rfl:i=u.its.length:=by omega
  refine bG<|an<|an<|aE<|ab<|ae<|ai<|aw rfl<|aG rfl<|ag<|aB [8,22,9,10,7,5,4,0,1,2,3] rfl<|ab<|aV<| ?_
  exact bc trivial rfl rfl [0] rfl [] rfl ⟨_,_,_,rfl,rfl,rfl,hk1⟩
end Go.Proofs.YtmibdabdlgmafaaGreatDoor
end
section
set_option maxRecDepth 20000
set_option maxHeartbeats 4000000
namespace Go.Proofs.YtmibdabdlgmafaaGreatDoor
open Go.Eng Go.Hx
def eu(l:List It)(k:Int):List (List UInt8):=(l.filter fun t=>decide (t.2=k)).map fun t=>t.1.b
theorem ve{l:List It}{k:Int}{i:Nat}{t:It}(h:l[i]? =some t):eu (l.take (i+1)) k=eu (l.take i) k++(if t.2=k then [t.1.b]else []):=by
 obtain⟨h1,rfl⟩:=List.getElem?_eq_some_iff.1 h
 unfold eu
 rw[List.take_succ_eq_append_getElem h1,List.filter_append,List.map_append]
 congr 1
 by_cases e:(l[i]).2=k
 ·rw[if_pos e];simp only[List.filter_cons,List.filter_nil,e,decide_true,if_true,List.map_cons,List.map_nil]
 ·rw[if_neg e];simp only[List.filter_cons,List.filter_nil,e,decide_false,Bool.false_eq_true,if_false,List.map_nil]
theorem qv(l:List It)(k:Int):(eu l k).length≤l.length:=by
 unfold eu
 rw[List.length_map]
 exact List.length_filter_le _ _
theorem wY(l:List It)(k:Int):xh (eu l k):=fun x hx=>by
 obtain⟨t,_,rfl⟩:=List.mem_map.1 hx
 exact t.1.h
theorem tP(t:It):(fz t)[32]? =some (Value.int .i64 t.2):=by
 have h:(aW t.1.b).length=32:=by rw[ax,t.1.h]
 rw[fz,List.getElem?_append_right (by omega),h]
 rfl
end Go.Proofs.YtmibdabdlgmafaaGreatDoor
end
section
set_option maxRecDepth 20000
set_option maxHeartbeats 4000000
namespace Go.Proofs.YtmibdabdlgmafaaGreatDoor
open Go.Eng Go.Hx
def ec(q:Pn)(ts:List (List UInt8)):RD→List It→Int→RD×Int×Int
 |d,[],n=>(d,n,0)
 |d,t::r,n=>if t.2=2 then(match jB q ts t.1.b with
   |some b=>if(d.put b).2.2≠0 then((d.put b).1,0,(d.put b).2.2)else ec q ts (d.put b).1 r (n+1)
   |none=>ec q ts d r n)else ec q ts d r n
theorem u4{q:Pn}{ts:List (List UInt8)}{nm b:List UInt8}{m:Nat}(h:jB q ts nm=some b)(ht:∀t∈ts,t.length≤m):b.length≤m:=by
 unfold jB at h
 split at h
 ·next i o s e=>
  cases h
  rw[List.length_take,List.length_drop]
  have:(ts.getD i []).length≤m:=by
   rw[List.getD]
   cases hi:ts[i]? with
   |none=>exact Nat.zero_le _
   |some t=>exact ht t (List.mem_of_getElem? hi)
  omega
 ·cases h
theorem xK:∀(Fs:List (RD→RD×Int)) {d:RD} {k:Nat},(∀F∈Fs,∀d k,RD.ok d k→RD.ok (F d).1 (k+1))→d.ok k→(fB Fs d).1.ok (k+Fs.length)
 | [],d,k,_,h=>h
 |F::r,d,k,hF,h=>by
  have h1:=hF F (List.mem_cons_self ..) d k h
  rw[fB]
  split
  ·exact h1.le (by rw[List.length_cons];omega)
  ·have:=xK r (fun G hG=>hF G (List.mem_cons_of_mem _ hG)) h1
   exact this.le (by rw[List.length_cons];omega)
theorem Hw{d:RD}{k:Nat}(h:d.ok k)(bb:List UInt8):(d.put bb).1.ok (k+4):=by
 unfold RD.put
 split
 ·exact h.le (by omega)
 ·next hb=>
  split
  ·exact h.le (by omega)
  ·split
   ·exact h.le (by omega)
   ·have hs:=(n4 bb).2
    exact xK _ (fun F hF d k h=>by
     simp only[List.mem_cons,List.not_mem_nil,or_false]at hF
     rcases hF with rfl|rfl|rfl|rfl
     ·exact h.write (by omega)
     ·exact h.sync.le (by omega)
     ·exact h.rename
     ·exact h.sync.le (by omega)) h
theorem uA{x:RX}{kk:Nat}{S T:Option Addr}{n c n2 c2:Nat}{l:List It}{rs:List aR}{q:Pn}(hD:x.d.ok kk)(hkk:kk+4*n≤80000)(hq:q.ok)(hl:l.length=n)(hn:rs.length=n2)(hr:∀r∈rs,r.n=r.l.length∧r.n≤r.c∧r.n≤100000)(hnn:n2≤1000000):b7 Tryz.prog 59 [.agg x.cs.toArray,.slice S n c,.slice T n2 c2,.agg q.p.cs.toArray] [] [eL x,cL 33 S n (jD l),cL 1 T n2 (jZ rs),dH rs,dZ] (fun v_ X_ S_=>∃y,v_=(.tuple #[.agg y.cs.toArray,.int .i64 (ec q (rs.map aR.l) x.d l 0).2.1,.int .i64 (ec q (rs.map aR.l) x.d l 0).2.2])∧X_=[]∧S_=[eL y]∧(y.d=(ec q (rs.map aR.l) x.d l 0).1)):=by
 refine aM (N:=62) Tryz.func59 rfl rfl (by simp) fun b=> ?_
 refine a6 (fun m=>fH (m.rd 1 rfl)) ?_
 rintro⟨hl_rl,hA_rl⟩
 refine a6 (fun m=>fH (m.rd 2 rfl)) ?_
 rintro⟨hl_rt,hA_rt⟩
 refine ae<|ai<| ?_
 refine hx (bu rfl (fun g4=> ?_))
 refine aJ (fun w m=>m.bz 0 rfl (show _=aH g4 39 x.cs from congrArg (aH _ _) (aT _))) ?_
 refine hx (bu rfl (fun g7=> ?_))
 refine aJ (fun w m=>m.bz 0 rfl (show _=aH g7 75 q.p.cs from congrArg (aH _ _) (aT _))) ?_
 refine hx (bf ou (fun g8=> ?_))
 refine aG rfl<|aG rfl<|ag<|aj (X' :=[_,_,_]) (S' :=[_,_,_,_,_]) (fun _ m=>m)<|ab<|ae<|ai<|aG rfl<|ag<|ab<|ae<|ae<|ai<|aG rfl<|ag<|ab<|aN<| ?_
 refine gJ (fun i nn x2=>n-i) (fun i nn x2=>[(12,.int .i64 (i:Nat)),(11,.int .i64 (nn:Nat))]) (fun i nn x2=>[aH g4 39 x2.cs]) (fun i nn x2=>[eL x2]) (fun i nn x2=>i≤n∧nn≤i∧x2.d.ok (kk+4*i)∧ec q (rs.map aR.l) x2.d (l.drop i) ((nn:Nat):Int)=ec q (rs.map aR.l) x.d l 0) 0 0 x [(8,_),(7,_),(4,_),(0,_),(1,_),(2,_),(3,_)] ⟨rfl,rfl,rfl,rfl,rfl,rfl,rfl,trivial⟩ [2] rfl [0] rfl (⟨Nat.zero_le _,Nat.zero_le _,hD,rfl⟩) ⟨rfl,rfl,trivial⟩ (fun i nn x2 ⟨hi,hni,hD2,hf⟩=> ?_)
 refine ae<|ae<|ai<|aw rfl<|aw rfl<|hy (fun _=>aY rfl Tryz.underlying90)<|hy (fun _=>bw rfl rfl)<|ag<|aB [21,12,11,8,7,4,0,1,2,3] rfl<|ab<| ?_
 refine cB rfl (fun hlt=> ?_) (fun hlt=> ?_)
 ·obtain⟨t,ht⟩:∃t,l[i]? =some t:=⟨_,List.getElem?_eq_getElem (by omega)⟩
  have h32:(aW t.1.b).length=32:=by rw[ax,t.1.h]
  have hdt:l.drop i=t::l.drop (i+1):=by
   obtain⟨h1,rfl⟩:=List.getElem?_eq_some_iff.1 ht
   exact List.drop_eq_getElem_cons h1
  rw[hdt,ec]at hf
  refine aC<|ab<|ae<|aN<|ae<|cD [7] [(0,some 0),(1,some 0),(2,some 0),(3,some 0),(4,some 0),(5,some 0),(6,some 0),(7,none),(8,some 1),(9,some 1),(10,some 1),(11,some 1),(12,some 1)] (by kernel_rfl) (by kernel_rfl) rfl 99<|ak (ah rfl)<|bZ (fun m=>yV (aQ rfl gC gg rfl ((m.aU 2 rfl).au)) ((rfl:_=Value.agg q.p.cs.toArray)))<|ak (ah rfl)<|ak (ah rfl)<|ak (cC rfl rfl Tryz.underlying90 zN hA_rl rfl (by omega))<|ak (aF rfl Gc (by decide))<|bZ (fun m=>aQ rfl b5 bp h32 (tv (m.rd 2 rfl) ht))<| ?_
  refine dF (aq rfl Tryz.call143 (EB hq t.1.h hn (fun r h=>⟨(hr r h).1,(hr r h).2.1,Nat.le_trans (hr r h).2.2 (by decide)⟩) hnn) [] rfl [3,4] rfl ?_)
  rintro _ _ _ ⟨rfl,rfl,rfl⟩
  refine⟨(fun _=>wk [0,0,0] [0,1,2,3,4,5] rfl rfl), ?_⟩
  by_cases h2:t.2=2
  ·rw[if_pos h2]at hf
   have hgl:=fun bb (h:jB q (rs.map aR.l) t.1.b=some bb)=>u4 (m:=100000) h (fun z hz=>by
    obtain⟨r0,hr0,rfl⟩:=List.mem_map.1 hz
    have:=hr r0 hr0
    omega)
   rcases hg:jB q (rs.map aR.l) t.1.b with _|bb
   ·rw[hg]at hf
    refine ak (ah rfl)<|ak (aD rfl rfl)<|ak (aD rfl rfl)<|ak (al rfl)<|ak (al rfl)<|bq<|aB [14,13,21,12,11,8,7,4,0,1,2,3] rfl<|aj (X' :=[_,_,_]) (S' :=[_,_,_,_,_,_]) (fun _ m=>m)<|ab<|ae<|ae<|ai<|aw rfl<|aw rfl<|hy (fun _=>cC rfl rfl Tryz.underlying90 zN hA_rl rfl (by omega))<|hy (fun _=>aF rfl wM (by decide))<|hy (fun m=>ao rfl dD (dJ (f:=fz) cf (m.rd 2 rfl) ht 32 _ (tP t)))<|hy (fun _=>yF (cT rfl rfl) ((decide_eq_false (not_not_intro h2))))<|aw rfl<|cy (o:=_) rfl rfl rfl (fun _=>ah rfl)<|cy (o:=_) rfl rfl rfl (fun _=>(iK rfl))<|hy (fun _=>bo rfl rfl)<|ag<|aB [44,14,13,21,12,11,8,7,4,0,1,2,3] rfl<|ab<| ?_
    refine fq rfl (rfl) ?_
    refine bG<|an<|aE<|ab<|ai<|aw rfl<|hy (fun _=>aP rfl rfl (bA (by omega) (by omega)))<|aG rfl<|ag<|aB [12,44,14,13,21,11,8,7,4,0,1,2,3] rfl<| ?_
    refine fD (i+1) nn x2 ⟨rfl,rfl,rfl,rfl,rfl,rfl,rfl,rfl,rfl,trivial⟩ [0,0,0] rfl [0,1,2,3,4,5] rfl (⟨by omega,by omega,hD2.le (by omega),hf⟩) (by omega)
   ·rw[hg]at hf
    have hbl:=hgl bb hg
    refine ak (ah rfl)<|ak (aD rfl rfl)<|ak (aD rfl rfl)<|ak (al rfl)<|ak (al rfl)<|bq<|aB [14,13,21,12,11,8,7,4,0,1,2,3] rfl<|ab<|ae<|ae<|ai<|aw rfl<|aw rfl<|hy (fun _=>cC rfl rfl Tryz.underlying90 zN hA_rl rfl (by omega))<|hy (fun _=>aF rfl wM (by decide))<|hy (fun m=>ao rfl dD (dJ (f:=fz) cf (m.rd 2 rfl) ht 32 _ (tP t)))<|hy (fun _=>yF (cT rfl rfl) ((decide_eq_false (not_not_intro h2))))<|aw rfl<|cy (o:=_) rfl rfl rfl (fun _=>ah rfl)<|cy (o:=_) rfl rfl rfl (fun _=>(iK rfl))<|hy (fun _=>bo rfl rfl)<|ag<|aB [44,14,13,21,12,11,8,7,4,0,1,2,3] rfl<|ab<| ?_
    refine cN rfl (rfl) ?_
    refine aC<|ab<|ae<|ai<|hy (fun m=>yV (aQ rfl cF bP rfl ((m.aU 0 rfl).au)) ((rfl:_=Value.agg x2.cs.toArray)))<|aw rfl<| ?_
    refine hx (A5 rfl Tryz.underlying9 Tryz.underlying27 Tryz.underlying5 (show bb.length≤maxLen by unfold maxLen;omega) (fun v48=> ?_))
    refine az (fun m=>(m.own 0 rfl).slice) ?_
    rintro⟨A_b48,c_b48,rfl,hc_b48⟩
    refine az (fun m=>(m.ord 0 rfl).2.1) fun hA_b48=> ?_
    refine aJ (fun w m=>m.bz 0 rfl (show _=aK 5 1 (.slice A_b48 bb.length c_b48) bb.length (aW bb)from rfl)) ?_
    refine aJ (fun w m=>(m.perm (ar [0] _ [_] _ rfl)).freeze) ?_
    refine aJ (fun w m=>m.fA 0 rfl .own) ?_
    refine az (fun m=>eG (m.rd 0 rfl)) ?_
    rintro⟨hl_b48r,hA_b48r⟩
    have hp32:(aW (x2.d.put bb).2.1).length=32:=by rw[ax];exact s8 _ _
    have hf:(if(x2.d.put bb).2.2≠0 then((x2.d.put bb).1,(0:Int),(x2.d.put bb).2.2)else ec q (rs.map aR.l) (x2.d.put bb).1 (l.drop (i+1)) ((nn:Int)+1))=ec q (rs.map aR.l) x.d l 0:=hf
    have hD3:=Hw hD2 bb
    refine hx (aq rfl Tryz.call26 (FC hD2 (by omega) hc_b48 rfl hbl (bb:=bb)) [] rfl [2,0,7] rfl ?_)
    rintro _ _ _ ⟨y,rfl,rfl,rfl,hyw⟩
    refine aw rfl<|hy (fun _=>aD rfl rfl)<|hy (fun _=>aD rfl rfl)<|hy (fun _=>aD rfl rfl)<| ?_
    refine hx (bf ou (fun g15=> ?_))
    refine hx (bf dw (fun g16=> ?_))
    refine cI (ba 1 rfl rfl rfl bP rfl cH rfl ?_)
    refine cI (ba 1 rfl rfl rfl bp hp32 bn rfl ?_)
    refine aG rfl<|ag<|aB [17,15,44,14,13,21,12,11,8,7,4,0,1,2,3] rfl<|aj (X' :=[_,_,_,_,_]) (S' :=[_,_,_,_,_,_,_,_,_]) (fun _ m=>m)<|ab<|ae<|ai<|hy (fun m=>yV (aQ rfl cF bP rfl ((m.aU 1 rfl).au)) ((rfl:_=Value.agg y.cs.toArray)))<| ?_
    refine cI (ba 2 rfl rfl rfl bP rfl cH rfl ?_)
    refine aJ (fun w m=>m.bz 0 rfl (show _=aH g4 39 y.cs from congrArg (aH _ _) (aT _))) ?_
    rw[←hyw]at hf hD3
    refine ag<|aB [17,15,44,14,13,21,12,11,8,7,4,0,1,2,3] rfl<|aj (X' :=[_,_,_,_,_]) (S' :=[_,_,_,_,_,_,_,_,_]) (fun _ m=>m)<|ab<|ae<|ae<|ai<|aw rfl<|hy (fun _=>cT rfl rfl)<|ag<|aB [55,17,15,44,14,13,21,12,11,8,7,4,0,1,2,3] rfl<|ab<| ?_
    refine cB rfl (fun he=> ?_) (fun he=> ?_)
    ·rw[if_pos he]at hf
     rw[←hf]
     refine ae<|ai<|hy (fun m=>yV (aQ rfl cF bP rfl ((m.aU 0 rfl).au)) ((rfl:_=Value.agg y.cs.toArray)))<|aw rfl<| ?_
     refine cI (ba 3 rfl rfl rfl bP rfl cH rfl ?_)
     refine aG rfl<|aG rfl<|ag<|aB [10,9,55,17,15,44,14,13,21,12,11,8,7,4,0,1,2,3] rfl<|aj (X' :=[_,_,_,_,_]) (S' :=[_,_,_,_,_,_,_,_,_]) (fun _ m=>m)<|ab<|aV<|ay<|a7<|ay<|ay<|a7<|ay<| ?_
     exact yr trivial rfl rfl rfl rfl cF bP rfl (fun m=>(m.aU 0 rfl).au) [] rfl [0] rfl ⟨y,rfl,rfl,rfl,rfl⟩
    ·rw[if_neg he]at hf
     refine aC<|ab<|ai<|aw rfl<|hy (fun _=>aP rfl rfl (bA (by omega) (by omega)))<|aG rfl<|ag<|aB [11,55,17,15,44,14,13,21,12,8,7,4,0,1,2,3] rfl<|aS<|ab<|ai<|aw rfl<|hy (fun _=>aP rfl rfl (bA (by omega) (by omega)))<|aG rfl<|ag<|aB [12,11,55,17,15,44,14,13,21,8,7,4,0,1,2,3] rfl<| ?_
     refine fD (i+1) (nn+1) y ⟨rfl,rfl,rfl,rfl,rfl,rfl,rfl,rfl,rfl,trivial⟩ [0,2,2] rfl [0,4,5,6,7,8] rfl (⟨by omega,by omega,hD3.le (by omega),hf⟩) (by omega)
  ·rw[if_neg h2]at hf
   refine ak (ah rfl)<|ak (aD rfl rfl)<|ak (aD rfl rfl)<|ak (al rfl)<|ak (al rfl)<|bq<|aB [14,13,21,12,11,8,7,4,0,1,2,3] rfl<|ab<|ae<|ae<|ai<|aw rfl<|aw rfl<|hy (fun _=>cC rfl rfl Tryz.underlying90 zN hA_rl rfl (by omega))<|hy (fun _=>aF rfl wM (by decide))<|hy (fun m=>ao rfl dD (dJ (f:=fz) cf (m.rd 2 rfl) ht 32 _ (tP t)))<|hy (fun _=>yT (cT rfl rfl) ((decide_eq_true h2)))<|aw rfl<|bg rfl rfl rfl (by decide)<|bg rfl rfl rfl (by decide)<|hy (fun _=>bC rfl rfl)<|ag<|aB [44,14,13,21,12,11,8,7,4,0,1,2,3] rfl<|ab<| ?_
   refine fq rfl (rfl) ?_
   refine bG<|an<|aE<|ab<|ai<|aw rfl<|hy (fun _=>aP rfl rfl (bA (by omega) (by omega)))<|aG rfl<|ag<|aB [12,44,14,13,21,11,8,7,4,0,1,2,3] rfl<| ?_
   refine fD (i+1) nn x2 ⟨rfl,rfl,rfl,rfl,rfl,rfl,rfl,rfl,rfl,trivial⟩ [0,0,0] rfl [0,1,2,3,4,5] rfl (⟨by omega,by omega,hD2.le (by omega),hf⟩) (by omega)
 ·rw[List.drop_of_length_le (by omega),ec]at hf
  rw[←hf]
  refine bG<|an<|an<|aE<|ab<|ae<|ai<|hy (fun m=>yV (aQ rfl cF bP rfl ((m.aU 0 rfl).au)) ((rfl:_=Value.agg x2.cs.toArray)))<|aw rfl<| ?_
  refine cI (ba 1 rfl rfl rfl bP rfl cH rfl ?_)
  refine aG rfl<|aG rfl<|ag<|aB [10,9,21,12,11,8,7,4,0,1,2,3] rfl<|aj (X' :=[_,_,_]) (S' :=[_,_,_,_,_,_]) (fun _ m=>m)<|ab<|aV<| ?_
  exact yr trivial rfl rfl rfl rfl cF bP rfl (fun m=>(m.aU 0 rfl).au) [] rfl [0] rfl ⟨x2,rfl,rfl,rfl,rfl⟩
end Go.Proofs.YtmibdabdlgmafaaGreatDoor
end
section
set_option maxRecDepth 20000
set_option maxHeartbeats 2000000
namespace Go.Proofs.YtmibdabdlgmafaaGreatDoor
open Go.Eng Go.Hx
theorem rq{ds:List (List UInt8)}{i:Nat}(hi:i<ds.length)(nm:List UInt8):nm∈ds.take (i+1)↔nm∈ds.take i∨nm=ds.getD i []:=by
 rw[List.take_succ_eq_append_getElem hi,List.mem_append,List.mem_singleton,List.getD,List.getElem?_eq_getElem hi]
 rfl
theorem H0{A:Option Addr}{n c:Nat}{nm:List UInt8}{ds:List (List UInt8)}(hm:nm.length=32)(hD:xh ds)(hl:ds.length=n)(hn:n≤1000000):b7 Tryz.prog 195 [.slice A n c,.agg (aW nm).toArray] [] [cL 32 A n (dc ds)] (fun v_ X_ S_=>∃z,v_=(.int .i64 z)∧X_=[]∧S_=[]∧(0≤z↔nm∈ds)):=by
 have h32:(aW nm).length=32:=by rw[ax,hm]
 refine aM (N:=19) Tryz.func195 rfl rfl (by simp) fun b=> ?_
 refine a6 (fun m=>fH (m.rd 0 rfl)) ?_
 rintro⟨hl_r,hA_r⟩
 refine ae<|ai<| ?_
 refine hx (bu rfl (fun g3=> ?_))
 refine aJ (fun w m=>m.bz 0 rfl (show _=aH g3 53 (aW nm)from congrArg (aH _ _) (aT _))) ?_
 refine aG rfl<|ag<|aj (X' :=[_]) (S' :=[_]) (fun _ m=>m)<|ab<|ae<|ae<|ai<|aw rfl<|hy (fun _=>aY rfl Tryz.underlying33)<|aw rfl<|ag<|aB [8,7,4,3,0,1] rfl<|ab<|aN<| ?_
 refine de (fun i=>n-i) (fun i=>[(8,.int .i64 (i:Nat))]) (fun i=>[]) (fun i=>[]) (fun i=>i≤n∧¬nm∈ds.take i) 0 [(7,_),(3,_),(0,_),(1,_)] ⟨rfl,rfl,rfl,rfl,trivial⟩ [] rfl [] rfl (⟨Nat.zero_le _,by simp⟩) ⟨rfl,trivial⟩ (fun i ⟨hi,hno⟩=> ?_)
 refine ae<|ai<|hy (fun _=>bw rfl rfl)<|ag<|ab<|ae<| ?_
 refine cB rfl (fun hlt=> ?_) (fun hlt=> ?_)
 ·have hil:i<ds.length:=by omega
  have hdl:=lA hD hil
  have hmt:=rq hil nm
  refine aC<|ab<|ae<|aN<|ae<|ai<|aw rfl<|aG rfl<|ag<|aB [5,9,8,7,3,0,1] rfl<|ab<|ae<|cD [] [(0,some 0),(1,some 0),(2,some 0),(3,some 0),(4,some 0),(5,some 0)] (by kernel_rfl) (by kernel_rfl) rfl 99<|bZ (fun m=>aQ rfl b5 bp h32 ((m.aU 0 rfl).au))<|ak (ah rfl)<|ak (ah rfl)<|ak (cC rfl rfl Tryz.underlying33 bp hA_r rfl (by omega))<|bZ (fun m=>aQ rfl b5 bp (by rw[ax];exact hdl) ((m.rd 0 rfl).kl hD hil))<|ak (nY rfl rfl hm hdl)<|bq<|aB [16,5,9,8,7,3,0,1] rfl<|ab<| ?_
  refine cB rfl (fun he=> ?_) (fun he=> ?_)
  ·refine ae<|ai<|aw rfl<|aG rfl<|ag<|aB [4,16,5,9,8,7,3,0,1] rfl<|ab<|aV<|a7<|ay<|ay<|a7<|ay<| ?_
   exact bc trivial rfl rfl [] rfl [] rfl ⟨((i:Nat):Int),rfl,rfl,rfl,⟨fun _=>by rw[he,List.getD,List.getElem?_eq_getElem hil];exact List.getElem_mem ..,fun _=>by omega⟩⟩
  ·refine aC<|aS<|ab<|ai<|hy (fun _=>aP rfl rfl (bA (by omega) (by omega)))<|aw rfl<|ag<|aB [8,16,5,9,7,3,0,1] rfl<| ?_
   refine cM (i+1) ⟨rfl,rfl,rfl,rfl,rfl,trivial⟩ [0] rfl [0] rfl (⟨by omega,fun h=>(hmt.1 h).elim hno he⟩) (by omega)
 ·obtain rfl:i=n:=by omega
  rw[←hl,List.take_length]at hno
  refine bG<|an<|an<|aE<|ab<|ae<|ai<|aG rfl<|ag<|ab<|aV<| ?_
  exact bc trivial rfl rfl [] rfl [] rfl ⟨(-1:Int),rfl,rfl,rfl,⟨fun h=>absurd h (by decide),fun h=>absurd h hno⟩⟩
theorem FO{A:Option Addr}{n c:Nat}{nm:List UInt8}{ds:List (List UInt8)}(hm:nm.length=32)(hD:xh ds)(hl:ds.length=n)(hn:n≤1000000):b7 Tryz.prog 130 [.slice A n c,.agg (aW nm).toArray] [] [cL 32 A n (dc ds)] (fun v_ X_ S_=>v_=(.bool (decide (nm∈ds)))∧X_=[]∧S_=[]):=by
 have h32:(aW nm).length=32:=by rw[ax,hm]
 refine aM (N:=9) Tryz.func130 rfl rfl (by simp) fun b=> ?_
 refine a6 (fun m=>fH (m.rd 0 rfl)) ?_
 rintro⟨hl_r,hA_r⟩
 refine ae<|ai<| ?_
 refine hx (bu rfl (fun g3=> ?_))
 refine aJ (fun w m=>m.bz 0 rfl (show _=aH g3 53 (aW nm)from congrArg (aH _ _) (aT _))) ?_
 refine aG rfl<|ag<|aj (X' :=[_]) (S' :=[_]) (fun _ m=>m)<|ab<|ae<|ai<|aw rfl<|hy (fun m=>aQ rfl b5 bp h32 ((m.aU 0 rfl).au))<| ?_
 refine hx (aq rfl Tryz.call195 (H0 hm hD hl hn) [] rfl [0] rfl ?_)
 rintro _ _ _ ⟨z,rfl,rfl,rfl,hz⟩
 rw[←decide_eq_decide.2 hz]
 refine hy (fun _=>dL rfl rfl)<|aG rfl<|ag<|aB [4,3,0,1] rfl<|aj (X' :=[_]) (S' :=[_]) (fun _ m=>m)<|ab<|aV<| ?_
 exact bc trivial rfl rfl [] rfl [] rfl ⟨rfl,rfl,rfl⟩
theorem GQ{g gs gm kk:Nat}{st:da}{d:RD}{q:Pn}{A:Option Addr}{c:Nat}{rs:List aR}{l:xf}{nm:Dg}(hD:DS st d kk)(hok:gN q rs l):b7 Tryz.prog 133 [.pointer (some ⟨g,0,none⟩),DK nm,.pointer (some ⟨gs,0,none⟩)] [bF g st,eS gs gm q A c rs l] [dZ] (fun v_ X_ S_=>v_=(.int .i64 (cG d q (rs.map aR.l) nm.1))∧X_=[bF g st,eS gs gm q A c rs l]∧S_=[]):=by
 have h32:(aW nm.1).length=32:=by rw[ax];exact nm.2
 have hfn:=hok.find nm
 refine aM (N:=19) Tryz.func133 rfl rfl (by simp) fun b=> ?_
 refine ae<|ai<| ?_
 refine hx (bu rfl (fun g4=> ?_))
 refine aJ (fun w m=>m.bz 0 rfl (show _=aH g4 53 (aW nm.1)from congrArg (aH _ _) (aT _))) ?_
 refine aG rfl<|ag<|aj (X' :=[_,_,_]) (S' :=[_]) (fun _ m=>m)<|ab<|ae<|ae<|ai<|aw rfl<|hy (fun m=>aQ rfl b5 bp h32 ((m.aU 0 rfl).au))<| ?_
 refine hx (aq rfl Tryz.call145 (Ku hD nm.2) [1] rfl [0] rfl ?_)
 rintro _ _ _ ⟨rfl,rfl,rfl⟩
 refine ag<|aB [11,6,4,0,1,2] rfl<|aj (X' :=[_,_,_]) (S' :=[_]) (fun _ m=>m)<|ab<| ?_
 refine cB rfl (fun he=> ?_) (fun he=> ?_)
 ·have hfr:cG d q (rs.map aR.l) nm.1=1:=by unfold cG;rw[if_pos he]
  rw[hfr]
  refine ae<|ai<|aG rfl<|ag<|ab<|aV<|ay<| ?_
  exact bc trivial rfl rfl [0,1] rfl [] rfl ⟨rfl,rfl,rfl⟩
 ·obtain⟨x,hxx⟩:∃x,x=(bO l nm).getD (0,0,0):=⟨_,rfl⟩
  refine aC<|ab<|ae<|ae<|ai<|aw rfl<|hy (fun m=>yV (aQ rfl b5 bp h32 ((m.aU 1 rfl).au)) ((rfl:Value.agg _=DK nm)))<| ?_
  refine hx (aq rfl Tryz.call196 (yW (nm:=nm)) [2] rfl [] rfl ?_)
  rintro _ _ _ ⟨rfl,rfl,rfl⟩
  refine aw rfl<|hy (fun _=>aD rfl rfl)<|hy (fun _=>aD rfl rfl)<| ?_
  refine hx (bf jV (fun g7=> ?_))
  rw[←hxx]
  refine cI (ba 0 rfl rfl rfl qG rfl (nG x) rfl ?_)
  refine aG rfl<|ag<|aB [8,11,6,4,0,1,2] rfl<|aj (X' :=[_,_,_,_]) (S' :=[_]) (fun _ m=>m)<|ab<|ae<|ai<|aw rfl<|ag<|ab<| ?_
  refine zw rfl (fun hs=> ?_) (fun hs=> ?_)
  ·have hfr:cG d q (rs.map aR.l) nm.1=2:=by unfold cG;rw[if_neg he,←hfn,if_pos hs]
   rw[hfr]
   refine ae<|ai<|aG rfl<|ag<|ab<|aV<|ay<| ?_
   exact bc trivial rfl rfl [2,1] rfl [] rfl ⟨rfl,rfl,rfl⟩
  ·have hfr:cG d q (rs.map aR.l) nm.1=3:=by unfold cG;rw[if_neg he,←hfn,hs];rfl
   rw[hfr]
   refine aC<|ab<|ae<|ai<|aG rfl<|ag<|ab<|aV<| ?_
   exact bc trivial rfl rfl [2,1] rfl [] rfl ⟨rfl,rfl,rfl⟩
def eE(ds:List (List UInt8))(nm:List UInt8):List (List UInt8):=if nm∈ds then ds else ds++[nm]
theorem uW{ds:List (List UInt8)}{nm x:List UInt8}:x∈eE ds nm↔x∈ds∨x=nm:=by
 unfold eE
 split
 ·next h=>exact⟨.inl,fun h1=>h1.elim id (fun e=>e▸h)⟩
 ·rw[List.mem_append,List.mem_singleton]
theorem uP(ds:List (List UInt8))(nm:List UInt8):(eE ds nm).length≤ds.length+1:=by
 unfold eE
 split
 ·omega
 ·simp
theorem Hj{gq:Nat}{A:Option Addr}{n c:Nat}{t:It}{ds:List (List UInt8)}(hD:xh ds)(hl:ds.length=n)(hn:n≤100000):b7 Tryz.prog 129 [.agg (fz t).toArray,.pointer (some ⟨gq,0,none⟩)] [aH gq 33 [.slice A n c],aK 53 32 (.slice A n c) n (dc ds)] [] (fun v_ X_ S_=>∃A1 n1 c1,v_=(.bool (decide (¬t.1.b∈ds)))∧X_=[aH gq 33 [.slice A1 n1 c1],aK 53 32 (.slice A1 n1 c1) n1 (dc (eE ds t.1.b))]∧S_=[]∧(n1=(eE ds t.1.b).length)):=by
 have h32:(aW t.1.b).length=32:=by rw[ax,t.1.h]
 refine aM (N:=13) Tryz.func129 rfl rfl (by simp) fun b=> ?_
 refine ae<|ai<| ?_
 refine hx (bu rfl (fun g2=> ?_))
 refine aJ (fun w m=>m.bz 0 rfl (show _=aH g2 100 (fz t)from congrArg (aH _ _) (aT _))) ?_
 refine aG rfl<|ag<|aj (X' :=[_,_,_]) (S' :=[]) (fun _ m=>m)<|ab<|ae<|ae<|ai<|hy (fun m=>ao rfl Jd (aA (m.aU 1 rfl) rfl))<|hy (fun _=>aF rfl gR (by decide))<|hy (fun m=>aQ rfl b5 bp h32 (fun j u hu=>(m.aU 0 rfl).au j u (jb hu)))<| ?_
 refine hx (c6 rfl Tryz.call130 (FO t.1.h hD hl (by omega)) [] rfl (.x 2 rfl .own .nil) ?_)
 rintro _ _ _ ⟨rfl,rfl,rfl⟩
 refine⟨rfl, ?_⟩
 refine ag<|aB [7,3,2,0,1] rfl<|aj (X' :=[_,_,_]) (S' :=[]) (fun _ m=>m)<|ab<| ?_
 refine cB rfl (fun hin=> ?_) (fun hin=> ?_)
 ·have hsp:eE ds t.1.b=ds:=by unfold eE;rw[if_pos hin]
  rw[decide_eq_false (not_not_intro hin),hsp]
  refine ae<|ai<|aG rfl<|ag<|ab<|aV<|ay<| ?_
  exact bc trivial rfl rfl [1,1] rfl [] rfl ⟨A,n,c,rfl,rfl,rfl,hl.symm⟩
 ·have hsp:eE ds t.1.b=ds++[t.1.b]:=by unfold eE;rw[if_neg hin]
  rw[decide_eq_true hin,hsp]
  refine aC<|ab<|ae<|ai<|hy (fun m=>ao rfl Jd (aA (m.aU 1 rfl) rfl))<|hy (fun _=>aF rfl gR (by decide))<|hy (fun m=>aQ rfl b5 bp h32 (fun j u hu=>(m.aU 0 rfl).au j u (jb hu)))<| ?_
  refine hx (bQ Tryz.underlying33 dw rfl rfl rfl (by simpa[Value.cells,B8]using h32) (by decide) (by decide) (fun g11=> ?_))
  have hA_b11:0<1→(some (⟨g11,0,none⟩:Addr))≠none:=fun _ h=>by cases h
  refine aJ (fun w m=>m.bz 0 rfl (show _=aK 53 32 (.slice (some ⟨g11,0,none⟩) 1 1) 1 (dc [t.1.b])from rfl)) ?_
  refine hx (bs 3 rfl rfl rfl Tryz.underlying33 Tryz.underlying33 (by exact .inl rfl) dw rfl (fun m=>Src.bJ (m.ord 0 rfl)) cZ (by unfold maxLen;omega) (by omega) (fun u=> ?_))
  refine az (fun m=>(m.own 0 rfl).slice) ?_
  rintro⟨A_o,c_o,rfl,hc_o⟩
  refine az (fun m=>(m.ord 0 rfl).2.1) fun hA_o=> ?_
  refine aJ (fun w m=>m.bz 0 rfl (show _=aK 53 32 (.slice A_o (n+1) c_o) (n+1) (dc (ds++[t.1.b]))from congrArg (aK _ _ _ _) (by rw[ew]))) ?_
  refine cI (dI 3 rfl rfl rfl Ke rfl (by first|exact Nat.le_of_ble_eq_true rfl|simp) ?_)
  refine ag<|aB [7,3,2,0,1] rfl<|aj (X' :=[_,_,_,_]) (S' :=[]) (fun _ m=>m)<|ab<|ae<|ai<|aG rfl<|ag<|ab<|aV<| ?_
  refine aj (fun w m=>m.bz 0 rfl (show _=aH gq 33 [.slice A_o (n+1) c_o]from rfl)) ?_
  exact bc trivial rfl rfl [0,0] rfl [] rfl ⟨A_o,(n+1),c_o,rfl,rfl,rfl,(by rw[List.length_append,hl];rfl)⟩
theorem Hp{g gs gm gd ge kk:Nat}{st:da}{d:RD}{q:Pn}{A:Option Addr}{c:Nat}{rs:List aR}{l:xf}{t:It}(hD:DS st d kk)(hok:gN q rs l):b7 Tryz.prog 132 [.agg (fz t).toArray,.pointer (some ⟨gd,0,none⟩),.pointer (some ⟨ge,0,none⟩)] [bF g st,eS gs gm q A c rs l,aH gd 35 [.pointer (some ⟨g,0,none⟩)],aH ge 83 [.pointer (some ⟨gs,0,none⟩)]] [dZ] (fun v_ X_ S_=>v_=(.agg (fz (t.1,cG d q (rs.map aR.l) t.1.b)).toArray)∧X_=[bF g st,eS gs gm q A c rs l,aH gd 35 [.pointer (some ⟨g,0,none⟩)],aH ge 83 [.pointer (some ⟨gs,0,none⟩)]]∧S_=[]):=by
 have h32:(aW t.1.b).length=32:=by rw[ax,t.1.h]
 refine aM (N:=13) Tryz.func132 rfl rfl (by simp) fun b=> ?_
 refine ae<|ai<| ?_
 refine hx (bu rfl (fun g3=> ?_))
 refine aJ (fun w m=>m.bz 0 rfl (show _=aH g3 100 (fz t)from congrArg (aH _ _) (aT _))) ?_
 refine hx (bf u7 (fun g4=> ?_))
 refine ag<|aj (X' :=[_,_,_,_,_,_]) (S' :=[_]) (fun _ m=>m)<|ab<|ae<|cD [6,8] [(0,some 1),(1,some 1),(2,some 0),(3,some 0),(4,some 0),(5,some 0),(6,none),(7,some 1),(8,none)] (by kernel_rfl) (by kernel_rfl) rfl 1<|ak (aF rfl gR (by decide))<|bZ (fun m=>aQ rfl b5 bp h32 (fun j u hu=>(m.aU 1 rfl).au j u (jb hu)))<|bZ (fun m=>ao rfl og (aA (m.aU 4 rfl) rfl))<|ak (aF rfl gR (by decide))<|bZ (fun m=>yV (aQ rfl b5 bp h32 (fun j u hu=>(m.aU 1 rfl).au j u (jb hu))) ((rfl:Value.agg (aW t.1.b).toArray=DK (dg t))))<|bZ (fun m=>ao rfl Dt (aA (m.aU 5 rfl) rfl))<| ?_
 refine dF (aq rfl Tryz.call133 (GQ hD hok (nm:=(dg t))) [2,2] rfl [0] rfl ?_)
 rintro _ _ _ ⟨rfl,rfl,rfl⟩
 refine⟨(fun _=>wk [2,2,0,0,0,0] [0] rfl rfl), ?_⟩
 refine ak (bU u7 rfl rfl (by kernel_rfl) (o3 (t:=(t.1,cG d q (rs.map aR.l) t.1.b)) Du Dx))<| ?_
 refine gu (ba 2 rfl rfl rfl lY (cf _) (nE _) rfl ⟨(fun h=>absurd h (by decide)), ?_⟩)
 refine bq<|aB [4,3,0,1,2] rfl<|aj (X' :=[_,_,_,_,_,_]) (S' :=[_]) (fun _ m=>m)<|ab<|aV<| ?_
 exact eO trivial rfl rfl uF lY (cf _) (fun m=>(m.aU 0 rfl).au) [1,1,2,2] rfl [] rfl ⟨rfl,rfl,rfl⟩
end Go.Proofs.YtmibdabdlgmafaaGreatDoor
end
