/- Part 2 of the proof that a law of this seat (the one that GOCLAIM.json names) returns true for every argument; nothing is assumed. -/
import Derived.Scope
import Derived.Carry
import Derived.ReadAgain
import Derived.OpenShut
import Derived.ChangeSame
import Derived.Test.YtoilfkojhaidhaaGreatDoorA1
set_option linter.unusedSimpArgs false
set_option linter.unusedVariables false
set_option linter.all false
namespace Go.Ev
open Go
section
variable {P:Program} {G:Glob} {N bar:Nat} {φ0:Phi} {I0:Imm} {h0:H} {w0:World} {o:Oracle} {pu:Nat→Bool}
def Bd (pu:Nat→Bool) (il:List IOper) (L:Array Bool) (k j:Nat):Prop:=L.getD j false=true∧(BV pu il j=true→j<k)
structure Inv (G:Glob) (N bar:Nat) (φ0:Phi) (I0:Imm) (h0:H) (w0:World) (pu:Nat→Bool) (ops:Array Oper) (il:List IOper) (E:Nat→Env) (Hh:Nat→H) (V:Nat→AV) (L:Array Bool) (a:Act) (w:World) (k:Nat) (φ:Phi) (I:Imm) (B:Nat→Nat):Prop where
 mk' ::
 sz:L.size=ops.size
 closed:∀ j o,ops[j]? = some o→L.getD j false=true→∀ e ∈ o.after,Region.binds .any e=true→L.getD e.on false=true
 kle:k≤il.length
 R:Ev.R φ I (Hh k) w
 G:GR G I
 S:Stp bar φ0 I0 h0 w0 φ I (Hh k) w
 bar:bar≤(Hh k).n
 low:∀ j,j<k→BV pu il j=true→L.getD j false=true
 pend:∀ j,k≤j→BV pu il j=true→L.getD j false=true→Pend pu ops w0 il V Hh L (Hh k) φ I w a j (B j)
 inj:∀ i j,k≤i→k≤j→BV pu il i=true→BV pu il j=true→L.getD i false=true→L.getD j false=true→B i=B j→i=j
 val:∀ t v,Ux il V (E 0) (Bd pu il L k) t v→(∀ j y,il[j]? = some y→k≤j→BV pu il j=true→L.getD j false=true→y.dst≠some t)→t<a.tmps.size∧VR φ I v (a.tmps.getD t Go.undef)
 defers:a.defers=[]
 size:a.tmps.size=N
theorem Inv.bind {ops:Array Oper} {il:List IOper} {E:Nat→Env} {Hh:Nat→H} {V:Nat→AV} {L:Array Bool} {a:Act} {w:World} {k:Nat} {φ:Phi} {I:Imm} {B:Nat→Nat} (v:Inv G N bar φ0 I0 h0 w0 pu ops il E Hh V L a w k φ I B)
  (he:BV pu il k=true) (hL:L.getD k false=true):∃ φ',Inv G N bar φ0 I0 h0 w0 pu ops il E Hh V L a w (k+1) φ' I B:=by
 have hk:=HQ he
 have p:=v.pend k (Nat.le_refl _) he hL
 obtain ⟨y,s,cs,q,rc,el,fr,h1,h2,h3,h4,h5,h6,h7,h8,h9,h10,h11⟩:=p.ex
 have hn:φ (Hh k).n=none:=v.R.dom _ (Nat.le_refl _)
 have hle:Phi.le φ (fun j=>if j=(Hh k).n then some (B k,q,rc.size) else φ j):=fun j x hx=>by
  by_cases hj:j=(Hh k).n
  ·subst hj;rw [hn] at hx;cases hx
  ·simp [hj,hx]
 have hRn:Ev.R (fun j=>if j=(Hh k).n then some (B k,q,rc.size) else φ j) I (Hh (k+1)) w:=by
  rw [h4]
  refine v.R.put (Hh k).n (B k) q rc el fr cs 0 hle (by simp) ?_ ?_ ?_ ?_ (fun _ _=>rfl) h6 h7 ?_ ?_ ?_
  ·intro j hj
   simp only [H.alloc] at hj
   have:j≠(Hh k).n:=by omega
   simp [this,v.R.dom j (by omega)]
  ·intro j hj
   simp only [H.alloc] at hj ⊢
   have:j≠(Hh k).n:=by omega
   simp [this,v.R.wf j (by omega)]
  ·intro j x hx
   simp only [H.alloc] at hx
   by_cases hj:j=(Hh k).n
   ·simp only [hj,if_true,Option.some.injEq] at hx;exact .inl ⟨hj,hx.symm⟩
   ·simp only [hj,if_false] at hx;exact .inr ⟨hj,hx⟩
  ·intro j x y hj hx hy
   simp only [H.alloc,hj,if_false] at hx
   exact p.own j y (by rw [hx];simp) hy
  ·intro j c hc
   obtain ⟨g1,u,g2,g3⟩:=h8 j c hc
   exact ⟨g1,u,g2,g3.mono hle (.refl _)⟩
  ·intro j g1 g2
   exact h9 j (by omega) g2
  ·intro j u hu
   have:=v.R.imm _ _ _ hu
   rw [Gg h6] at this
   exact ⟨by have:=h10 j u hu;omega,this⟩
 refine ⟨_,v.sz,v.closed,by omega,hRn,v.G,?_,?_,fun j hj hej=>?_,fun j hj hej hLj=>?_,fun i j hi hj=>v.inj i j (by omega) (by omega),fun t u hu hnp=>?_,v.defers,v.size⟩
 ·have S:=v.S
  refine ⟨S.phi.trans hle,S.imm,S.size,S.frame,fun i x hi hl hx=>?_,fun i hi=>?_,by rw [h4];simp only [H.alloc];have:=S.n;omega,S.os,S.output,S.immT⟩
  ·rw [h4] at hl
   by_cases hj:i=(Hh k).n
   ·simp only [hj,if_true,Option.some.injEq] at hx;subst hx;exact .inl p.low
   ·simp only [H.alloc,hj,if_false] at hl hx
    exact S.terr i x hi hl hx
  ·have hb:=v.bar
   have:i≠(Hh k).n:=by omega
   rw [h4]
   simp only [H.alloc,this,if_false]
   exact S.old i hi
 ·rw [h4];simp only [H.alloc];have:=v.bar;omega
 ·by_cases hjk:j=k
  ·subst hjk;exact hL
  ·exact v.low j (by omega) hej
 ·have pj:=v.pend j (by omega) hej hLj
  have hbb:B k≠B j:=fun hbb=>by
   have:=v.inj k j (Nat.le_refl _) (by omega) he hej hL hLj hbb
   omega
  obtain ⟨y',s',cs',q',rc',el',fr',k1,k2,k3,k4,k5,k6,k7,k8,k9,k10,k11⟩:=pj.ex
  refine ⟨⟨y',s',cs',q',rc',el',fr',k1,k2,k3,k4,k5,k6,k7,fun r c hc=>⟨(k8 r c hc).1,let ⟨u,g1,g2⟩:=(k8 r c hc).2;⟨u,g1,g2.mono hle (.refl _)⟩⟩,k9,k10,k11⟩,pj.low,fun r x hl hx=>?_,pj.use⟩
  rw [h4] at hl
  by_cases hj':r=(Hh k).n
  ·simp only [hj',if_true,Option.some.injEq] at hx;subst hx;exact hbb
  ·simp only [H.alloc,hj',if_false] at hl hx
   exact pj.own r x hl hx
 ·have hbk:Bd pu il L (k+1) k:=⟨hL,fun _=>Nat.lt_succ_self _⟩
  by_cases hyt:y.dst=some t
  ·have huV:u=V k:=by
    rcases hu with ⟨j,x,g1,g2,g3,g4,g5⟩ | ⟨g1,g2⟩
    ·by_cases hjk:j=k
     ·subst hjk;exact g4.symm
     ·exfalso
      rcases Nat.lt_or_gt_of_ne hjk with hlt | hgt
      ·exact g5 k y hlt h1 hbk hyt
      ·exact p.use j x y t g1 g2.1 hgt h1 hyt (.inr g3)
    ·exact absurd hyt (g1 k y h1 hbk)
   subst huV
   obtain ⟨g1,g2⟩:=h11 t hyt
   refine ⟨g1,?_⟩
   rw [h3]
   exact g2 _ (Hh k).n (by simp)
  ·have hu':Ux il V (E 0) (Bd pu il L k) t u:=by
    have hdn:∀ r z,il[r]? = some z→Bd pu il L k r→Bd pu il L (k+1) r:=fun r z _ h=>⟨h.1,fun h'=>Nat.lt_succ_of_lt (h.2 h')⟩
    rcases hu with ⟨j,x,g1,g2,g3,g4,g5⟩ | ⟨g1,g2⟩
    ·have hjk:j≠k:=fun hjk=>by subst hjk;rw [h1] at g1;cases g1;exact hyt g3
     exact .inl ⟨j,x,g1,⟨g2.1,fun h=>by have:=g2.2 h;omega⟩,g3,g4,fun r z hr hz hb=>g5 r z hr hz (hdn r z hz hb)⟩
    ·exact .inr ⟨fun r z hz hb=>g1 r z hz (hdn r z hz hb),g2⟩
   obtain ⟨g1,g2⟩:=v.val t u hu' fun j z hz hj hej hLj=>by
    by_cases hjk:j=k
    ·subst hjk;rw [h1] at hz;cases hz;exact hyt
    ·exact hnp j z hz (by omega) hej hLj
   exact ⟨g1,g2.mono hle (.refl _)⟩
theorem Inv.norm (hp:Is o pu) {ops:Array Oper} {il:List IOper} {E:Nat→Env} {Hh:Nat→H} {V:Nat→AV} {W:Nat→Bool} (ht:Tr o bar il E Hh V W) {L:Array Bool} {a:Act} {w:World}:∀ (d k:Nat) (φ:Phi) (I:Imm) (B:Nat→Nat),k+d=il.length →
  Inv G N bar φ0 I0 h0 w0 pu ops il E Hh V L a w k φ I B→∃ k' φ',Inv G N bar φ0 I0 h0 w0 pu ops il E Hh V L a w k' φ' I B∧(k'=il.length∨(BV pu il k'=true∧L.getD k' false=false))
 | 0,k,φ,I,B,hd,v=>⟨k,φ,v,.inl (by omega)⟩
 | d+1,k,φ,I,B,hd,v=>by
  cases he:BV pu il k with
  | true =>
   cases hL:L.getD k false with
   | true =>
    obtain ⟨φ',v'⟩:=v.bind he hL
    exact Inv.norm hp ht d (k+1) φ' I B (by omega) v'
   | false=>exact ⟨k,φ,v,.inr ⟨he,hL⟩⟩
  | false =>
   have hh:Hh (k+1)=Hh k:=KI hp ht k 1 (by omega) fun j h1 h2=>by
    have:j=k:=by omega
    subst this;exact he
   have hne:∀ j,BV pu il j=true→j≠k:=fun j hj hjk=>by subst hjk;rw [he] at hj;cases hj
   refine Inv.norm hp ht d (k+1) φ I B (by omega) ⟨v.sz,v.closed,by omega,hh ▸ v.R,v.G,hh ▸ v.S,hh ▸ v.bar,fun j hj hej=>v.low j (by have:=hne j hej;omega) hej,fun j hj hej hLj=>hh ▸ v.pend j (by omega) hej hLj,
    fun i j hi hj=>v.inj i j (by omega) (by omega),fun t u hu hnp=>?_,v.defers,v.size⟩
   have hbd:∀ j,Bd pu il L (k+1) j↔Bd pu il L k j:=fun j=>⟨fun h=>⟨h.1,fun h'=>by have:=h.2 h';have:=hne j h';omega⟩,fun h=>⟨h.1,fun h'=>Nat.lt_succ_of_lt (h.2 h')⟩⟩
   refine v.val t u ?_ fun j z hz hj hej hLj=>hnp j z hz (by have:=hne j hej;omega) hej hLj
   rcases hu with ⟨j,x,g1,g2,g3,g4,g5⟩ | ⟨g1,g2⟩
   ·exact .inl ⟨j,x,g1,(hbd j).1 g2,g3,g4,fun r z hr hz hb=>g5 r z hr hz ((hbd r).2 hb)⟩
   ·exact .inr ⟨fun r z hz hb=>g1 r z hz ((hbd r).2 hb),g2⟩
end
end Go.Ev
namespace Go.Ev
open Go
section
variable {P:Program} {G:Glob} {N bar:Nat} {φ0:Phi} {I0:Imm} {h0:H} {w0:World} {o:Oracle} {pu:Nat→Bool}
def ao (o:Oracle) (bar:Nat) (pu:Nat→Bool) (ops:Array Oper) (il:List IOper) (E:Nat→Env) (Hh:Nat→H) (V:Nat→AV) (W:Nat→Bool):Prop :=
 (∀ i k y,il[i]? = some y→IY y.op=false→(i,k) ∈ asks pu ops il→W i=true→∃ h',Ae o bar (E i) (Hh k) y.op=some (V i,h')) ∧
 ∀ i y,il[i]? = some y→IY y.op=true→(i,i) ∈ asks pu ops il→W i=true→∀ cs q,(Hh (i+1)).get (Hh i).n=some (.cells cs q)→cs.all AV.free=true
theorem ZW (ho:Ho P G o) (hp:Is o pu) {ops:Array Oper} {il:List IOper} (hc:Es P G N ops ops.toList=some il) (hok:Gw pu ops il=true) {E:Nat→Env} {Hh:Nat→H} {V:Nat→AV} {W:Nat→Bool} (ht:Tr o bar il E Hh V W)
  (hst:ao o bar pu ops il E Hh V W) {Q:Exit→Act→World→Prop} (hQ:∀ a' w',Rel G N bar φ0 I0 h0 w0 (E il.length) (Hh il.length) a' w'→Q .normal a' w') :
  ∀ (fuel:Nat) (L:Array Bool) (a:Act) (w:World) (k:Nat) (φ:Phi) (I:Imm) (B:Nat→Nat),Inv G N bar φ0 I0 h0 w0 pu ops il E Hh V L a w k φ I B→(List.range ops.size).countP (fun i=>!L.getD i false)≤fuel→wpAny P .any ops Q fuel L a w:=by
 obtain ⟨hlen,hget⟩:=Oo ops.toList il hc
 simp only [Array.length_toList] at hlen
 have hon:=WY hok
 
 have hend:∀ L a w k φ I B,Inv G N bar φ0 I0 h0 w0 pu ops il E Hh V L a w k φ I B→(∀ i,i<ops.size→L.getD i false=true)→Q .normal a w:=fun L a w k φ I B v0 hall=>by
  obtain ⟨k,φ,v,hk⟩:=v0.norm hp ht (il.length - k) k φ I B (by have:=v0.kle;omega)
  have hk':k=il.length:=by
   rcases hk with h | ⟨h1,h2⟩
   ·exact h
   ·have:=hall k (by have:=HQ h1;omega)
    rw [h2] at this;cases this
  subst hk'
  refine hQ a w ⟨⟨φ,I,v.R,fun t u hu=>v.val t u ?_ (fun j y hy hj=>by have:=(List.getElem?_eq_some_iff.1 hy).1;omega),v.G,v.S⟩,v.defers,v.size,v.bar⟩
  have hb:∀ j y,il[j]? = some y→Bd pu il L il.length j:=fun j y hy=>⟨hall j (by have:=(List.getElem?_eq_some_iff.1 hy).1;omega),fun h=>HQ h⟩
  rcases PJ ht t u il.length (Nat.le_refl _) hu with ⟨j,x,g1,g2,g3,g4,g5⟩ | ⟨g1,g2⟩
  ·exact .inl ⟨j,x,g2,hb j x g2,g3,g4,fun q y h1 hy _=>g5 q y h1 (List.getElem?_eq_some_iff.1 hy).1 hy⟩
  ·exact .inr ⟨fun q y hy _=>g1 q y (List.getElem?_eq_some_iff.1 hy).1 hy,g2⟩
 have hzero:∀ L:Array Bool,(List.range ops.size).countP (fun i=>!L.getD i false)=0→∀ i,i<ops.size→L.getD i false=true:=fun L h i hi=>by
  have:=List.countP_eq_zero.1 h i (by simpa using hi)
  simpa using this
 have hready0:∀ L:Array Bool,(∀ j o,ops[j]? = some o→L.getD j false=true→∀ e ∈ o.after,Region.binds .any e=true→L.getD e.on false=true)→L.size=ops.size→Region.ready .any ops L=[]→∀ i,i<ops.size→L.getD i false=true:=fun L hcl hsz hr i=>by
  induction i using Nat.strongRecOn with
  | _ i ih =>
   intro hi
   by_cases hLi:L.getD i false=true
   ·exact hLi
   ·exfalso
    have:i ∈ Region.ready .any ops L:=by
     rw [mem_ready]
     refine ⟨?_,_,Array.getElem?_eq_getElem hi,fun e he hb=>ih e.on (hon i _ (Array.getElem?_eq_getElem hi) e he hb) (by have:=hon i _ (Array.getElem?_eq_getElem hi) e he hb;omega)⟩
     have hlt:i<L.size:=by omega
     simp [hlt] at hLi ⊢;exact hLi
    rw [hr] at this;cases this
 intro fuel
 induction fuel with
 | zero =>
  intro L a w k φ I B v hcnt
  have hall:=hzero L (by omega)
  refine ⟨?_,hend L a w k φ I B v hall⟩
  cases hr:Region.ready .any ops L with
  | nil=>rfl
  | cons i r =>
   have:i ∈ Region.ready .any ops L:=by rw [hr];simp
   rw [mem_ready] at this
   obtain ⟨h1,oi,hoi,_⟩:=this
   have hi:=(Array.getElem?_eq_some_iff.1 hoi).1
   have h2:=hall i hi
   have hlt:i<L.size:=by rw [v.sz];exact hi
   simp [hlt] at h1 h2
   rw [h1] at h2;cases h2
 | succ fuel ih =>
  intro L a w k φ I B v0 hcnt
  refine ⟨fun hr=>hend L a w k φ I B v0 (hready0 L v0.closed v0.sz hr),fun i hi=>?_⟩
  obtain ⟨k,φ,v,hkn⟩:=v0.norm hp ht (il.length - k) k φ I B (by have:=v0.kle;omega)
  clear v0
  rw [mem_ready] at hi
  obtain ⟨hLi,x,hx,hdeps⟩:=hi
  have hin:=(Array.getElem?_eq_some_iff.1 hx).1
  have hiL:i<L.size:=by rw [v.sz];exact hin
  have hLi':L.getD i false=false:=by simp [hiL] at hLi ⊢;exact hLi
  obtain ⟨y,hy,hcy⟩:=hget i x (by simpa using hx)
  have hilen:i<il.length:=(List.getElem?_eq_some_iff.1 hy).1
  obtain ⟨hdst,hd,hop,hg⟩:=GP hcy
  obtain ⟨t1,t2,t3,t4⟩:=ht i y hy
  
  have hAb:∀ j,((GN ops).getD i 0).testBit j=true→L.getD j false=true:=fun j hb =>
   Pe hon (L:=fun q=>L.getD q false=true) v.closed i x hx hdeps j hb
  have hBb:∀ j,j<ops.size→L.getD j false=true→((GN ops).getD j 0).testBit i=true→False:=fun j hjn hLj hb=>by
   have:=Pe hon (L:=fun q=>L.getD q false=true) v.closed j _ (Array.getElem?_eq_getElem hjn) (v.closed j _ (Array.getElem?_eq_getElem hjn) hLj) i hb
   rw [hLi'] at this;cases this
  have hA:∀ j z,j<i→il[j]? = some z→Hp z y=true→L.getD j false=true:=fun j z hji hz hcl=>hAb j (NY hok hji hz hy hcl)
  have hB:∀ j z,i<j→il[j]? = some z→Hp y z=true→L.getD j false=false:=fun j z hij hz hcl=>by
   cases hLj:L.getD j false with
   | false=>rfl
   | true=>exact (hBb j (by have:=(List.getElem?_eq_some_iff.1 hz).1;omega) hLj (NY hok hij hy hz hcl)).elim
  
  have hconf:∀ j z t,k≤j→BV pu il j=true→L.getD j false=true→il[j]? = some z→z.dst=some t→¬ (t ∈ CB y.op++GF y.guard∨y.dst=some t):=fun j z t hkj hej hLj hz hzt hu=>by
   have hjlt:=HQ hej
   have hke:BV pu il k=true∧L.getD k false=false:=by
    rcases hkn with h | h
    ·omega
    ·exact h
   have hkj':k<j:=by
    rcases Nat.lt_or_eq_of_le hkj with h | h
    ·exact h
    ·subst h;rw [hke.2] at hLj;cases hLj
   rcases Nat.lt_trichotomy j i with hlt | heq | hgt
   ·have hery:=(v.pend j hkj hej hLj).ex
    obtain ⟨z',s,cs,q,rc,el,fr,k1,k2,_⟩:=hery
    rw [hz] at k1;cases k1
    have:=hAb k (WZ k2 hy hlt hzt hu k hkj' hke.1)
    rw [hke.2] at this;cases this
   ·subst heq;rw [hLi'] at hLj;cases hLj
   ·have hcl:Hp y z=true:=by
     rcases hu with hu | hu
     ·exact KE hzt hu
     ·exact Gh hu (.inr hzt)
    rw [hB j z hgt hz hcl] at hLj;cases hLj
  
  let sl:=CB y.op++GF y.guard
  let e1:=(E i).keep sl
  have he1:∀ t,t ∈ sl→e1.get t=(E i).get t:=fun t hts=>by simp only [e1];rw [JU,if_pos hts]
  have hE:EnvR φ I e1 a.tmps:=fun t u hv=>by
   simp only [e1] at hv
   rw [JU] at hv
   split at hv
   ·rename_i hts
    refine v.val t u ?_ (fun j z hz hj hej hLj hzt=>hconf j z t hj hej hLj hz hzt (.inl hts))
    have hafter:∀ q z,i≤q→il[q]? = some z→Bd pu il L k q→z.dst≠some t:=fun q z hq hz hLq hzd=>by
     by_cases hqi:q=i
     ·subst hqi;have:=hLq.1;rw [hLi'] at this;cases this
     ·have h1:=hB q z (by omega) hz (KE hzd hts)
      have h2:=hLq.1
      rw [h1] at h2;cases h2
    rcases PJ ht t u i (by omega) hv with ⟨j,z,g1,g2,g3,g4,g5⟩ | ⟨g1,g2⟩
    ·have hLj:=hA j z g1 g2 (Gh g3 (.inl hts))
     refine .inl ⟨j,z,g2,⟨hLj,fun hej=>?_⟩,g3,g4,fun q z' h1 hz' hLq=>?_⟩
     ·rcases Nat.lt_or_ge j k with h | h
      ·exact h
      ·exact (hconf j z t h hej hLj g2 g3 (.inl hts)).elim
     ·by_cases hqi:q<i
      ·exact g5 q z' h1 hqi hz'
      ·exact hafter q z' (by omega) hz' hLq
    ·refine .inr ⟨fun q z' hz' hLq=>?_,g2⟩
     by_cases hqi:q<i
     ·exact g1 q z' hqi hz'
     ·exact hafter q z' (by omega) hz' hLq
   ·cases hv
  have hwant:EJ e1 y.guard=some (W i):=by
   rw [← t2]
   cases hgg:y.guard with
   | none=>rfl
   | some q =>
    obtain ⟨s,want⟩:=q
    simp only [EJ]
    rw [he1 s (by simp [sl,hgg,GF])]
  have hcount:(List.range ops.size).countP (fun q=>!(L.setIfInBounds i true).getD q false)≤fuel:=by
   have hlt:=RR (l:=List.range ops.size) (p:=fun q=>!L.getD q false) (q:=fun q=>!(L.setIfInBounds i true).getD q false) (i:=i) (by simpa using hin) (by simp [hLi']) (by rw [By hiL];simp) (fun q hq=>by
    rw [By hiL] at hq
    split at hq
    ·simp at hq
    ·exact hq)
   omega
  have hclosed:∀ j o,ops[j]? = some o→(L.setIfInBounds i true).getD j false=true→∀ e ∈ o.after,Region.binds .any e=true→(L.setIfInBounds i true).getD e.on false=true:=fun j z hz hLj e he hbb=>by
   rw [By hiL] at hLj ⊢
   split
   ·rfl
   ·split at hLj
    ·rename_i hji
     subst hji
     rw [hx] at hz;cases hz
     exact hdeps e he hbb
    ·exact v.closed j z hz hLj e he hbb
  have hputo:∀ (xv:Value) (t:Nat),y.dst≠some t→(a.put x.dst xv).tmps.getD t Go.undef=a.tmps.getD t Go.undef:=fun xv t hyt=>by
   cases hxd:x.dst with
   | none=>rfl
   | some s =>
    have hst:s≠t:=fun hst=>hyt (by rw [hdst,hxd,hst])
    simp [Act.put,Array.getElem?_setIfInBounds_ne hst]
  
  have hnext:∀ (xv:Value) (w':World) (φ':Phi) (I':Imm) (k':Nat),k'≤il.length→k≤k'→(BV pu il i=true→i<k')→(∀ j,k≤j→j<k'→BV pu il j=true→j=i)→Ev.R φ' I' (Hh k') w'→VR φ' I' (V i) xv→Stp bar φ I (Hh k) w φ' I' (Hh k') w' →
    wpAny P .any ops Q fuel (L.setIfInBounds i true) (a.put x.dst xv) w':=fun xv w' φ' I' k' hk' hkk hie hbtw hR' hv' hs'=>by
   refine ih _ _ _ k' φ' I' B ⟨by simp [v.sz],hclosed,hk',hR',v.G.mono hs'.imm,v.S.trans hs',Nat.le_trans v.bar hs'.n,fun j hj hej=>?_,fun j hj hej hLj=>?_,fun p q hp1 hq1 hp2 hq2 hp3 hq3=>?_,fun t u hvl hnp=>?_,by rw [MR];exact v.defers,by rw [IQ];exact v.size⟩ hcount
   ·rw [By hiL]
    split
    ·rfl
    ·rename_i hji
     rcases Nat.lt_or_ge j k with h | h
     ·exact v.low j h hej
     ·exact absurd (hbtw j h hj hej) hji
   ·have hji:j≠i:=fun hji=>by subst hji;have:=hie hej;omega
    rw [By hiL,if_neg hji] at hLj
    rw [← hdst]
    exact (v.pend j (by omega) hej hLj).step v.R hs' hiL hy rfl fun z t hz hzt=>hconf j z t (by omega) hej hLj hz hzt
   ·have hpi:p≠i:=fun h=>by subst h;have:=hie hp2;omega
    have hqi:q≠i:=fun h=>by subst h;have:=hie hq2;omega
    rw [By hiL,if_neg hpi] at hp3
    rw [By hiL,if_neg hqi] at hq3
    exact v.inj p q (by omega) (by omega) hp2 hq2 hp3 hq3
   ·have hbi:Bd pu il (L.setIfInBounds i true) k' i:=⟨by rw [By hiL];simp,hie⟩
    by_cases hyt:y.dst=some t
    ·have hvV:u=V i:=by
      rcases hvl with ⟨j,z,g1,g2,g3,g4,g5⟩ | ⟨g1,g2⟩
      ·by_cases hji:j=i
       ·subst hji;exact g4.symm
       ·exfalso
        have g2':=g2.1
        rw [By hiL,if_neg hji] at g2'
        rcases Nat.lt_or_gt_of_ne hji with hlt | hgt
        ·exact g5 i y hlt hy hbi hyt
        ·have:=hB j z hgt g1 (Gh hyt (.inr g3))
         rw [this] at g2';cases g2'
      ·exact absurd hyt (g1 i y hy hbi)
     subst hvV
     rw [hdst] at hyt
     have htn:=hd t hyt
     rw [hyt]
     refine ⟨by simp [Act.put,v.size];exact htn,?_⟩
     have:t<a.tmps.size:=by rw [v.size];exact htn
     simpa [Act.put,this] using hv'
    ·have hup:∀ q,Bd pu il L k q→Bd pu il (L.setIfInBounds i true) k' q:=fun q hq=>⟨by rw [By hiL];split<;>first | rfl | exact hq.1,fun h=>Nat.lt_of_lt_of_le (hq.2 h) hkk⟩
     have hvl':Ux il V (E 0) (Bd pu il L k) t u:=by
      rcases hvl with ⟨j,z,g1,g2,g3,g4,g5⟩ | ⟨g1,g2⟩
      ·have hji:j≠i:=fun hji=>by subst hji;rw [hy] at g1;cases g1;exact hyt g3
       have g2':=g2.1
       rw [By hiL,if_neg hji] at g2'
       refine .inl ⟨j,z,g1,⟨g2',fun hej=>?_⟩,g3,g4,fun q z' h1 hz' hLq=>g5 q z' h1 hz' (hup q hLq)⟩
       rcases Nat.lt_or_ge j k with h | h
       ·exact h
       ·exact absurd (hbtw j h (g2.2 hej) hej) hji
      ·exact .inr ⟨fun q z' hz' hLq=>g1 q z' hz' (hup q hLq),g2⟩
     obtain ⟨f1,f2⟩:=v.val t u hvl' fun j z hz hj hej hLj=>by
      rcases Nat.lt_or_ge j k' with h | h
      ·have:=hbtw j hj h hej
       subst this;rw [hLi'] at hLj;cases hLj
      ·exact hnp j z hz h hej (by rw [By hiL];split<;>first | rfl | exact hLj)
     refine ⟨by rw [IQ];exact f1,?_⟩
     rw [hputo xv t hyt]
     exact f2.mono hs'.phi hs'.imm
  have hnone:∀ j,k≤j→j<k→BV pu il j=true→j=i:=fun j h1 h2=>by omega
  
  unfold wpOp
  simp only [hx]
  rw [Jt hcy hE hwant]
  have hcong:∀ b2 hh,Ae o b2 e1 hh y.op=Ae o b2 (E i) hh y.op:=fun b2 hh=>US fun t hts=>he1 t (by simp [sl,hts])
  cases hey:BV pu il i with
  | true =>
   have hey':=hey
   rw [Ly hy] at hey'
   have hki:k≤i:=by
    rcases Nat.lt_or_ge i k with h | h
    ·have:=v.low i h hey;rw [hLi'] at this;cases this
    ·exact h
   rcases Nat.lt_or_eq_of_le hki with hlt | heq
   ·
    have hke:BV pu il k=true∧L.getD k false=false:=by
     rcases hkn with h | h
     ·omega
     ·exact h
    obtain ⟨z,hz⟩:∃ z,il[k]? = some z:=⟨_,List.getElem?_eq_getElem (HQ hke.1)⟩
    have hery:IW pu (GN ops) il i y=true:=by
     rcases Oq hok hlt hz hy with h | ⟨_,h⟩
     ·have:=hAb k h;rw [hke.2] at this;cases this
     ·exact h ⟨by rw [← Ly hz];exact hke.1,hey'⟩
    obtain ⟨hal,hgn⟩:=UA hery
    have hWi:W i=true:=by rw [hgn] at t2;simpa [EJ] using t2.symm
    rw [hWi]
    simp only [if_true]
    obtain ⟨s,cs,hs1,hs2,hs3,hs4,hs5⟩:=Xh hal (t3 hWi) (fun hm=>hst.2 i y hy hm (Xs hy hm hlt hke.1 (by
     cases hb:((GN ops).getD i 0).testBit k with
     | false=>rfl
     | true=>have:=hAb k hb;rw [hke.2] at this;cases this)) hWi)
    refine .inl ?_
    refine JD (bar:=(Hh k).n) (I:=I) ho hcy v.R hE v.G (Nat.le_refl _) (by rw [hcong];exact hs5 (Hh k).n (Hh k)) fun xv w' φ' I' hR' hv' hs'=>?_
    have hRb:=R.back v.R hR' hs'
    have hSb:=Stp.back (bar:=bar) v.R hs'
    have hget':((Hh k).alloc (.cells cs 0)).get (Hh k).n=some (.cells cs 0):=by simp [H.alloc]
    obtain ⟨b,p,rc,el,fr,g1,g2,g3,g4,g5,g6⟩:=hR'.obj _ _ hget'
    have hbw:w.heap.size≤b:=by
     rcases hs'.terr (Hh k).n _ (Nat.le_refl _) (by rw [hget'];simp) g1 with h | ⟨j,u,hj,hl,_⟩
     ·exact h
     ·exact absurd (v.R.wf j hj) hl
    refine ih _ _ _ k φ I' (fun j=>if j=i then b else B j) ⟨by simp [v.sz],hclosed,v.kle,hRb,v.G.mono hs'.imm,v.S.trans hSb,v.bar,fun j hj hej=>?_,fun j hj hej hLj=>?_,fun p q hp1 hq1 hp2 hq2 hp3 hq3 hpq=>?_,fun t u hvl hnp=>?_,by rw [MR];exact v.defers,by rw [IQ];exact v.size⟩ hcount
    ·rw [By hiL]
     split
     ·rfl
     ·exact v.low j hj hej
    ·by_cases hji:j=i
     ·subst hji
      simp only [if_true]
      refine ⟨⟨y,s,cs,p,rc,el,fr,hy,hery,hs2,hs3,hs1,g2,g3,fun q c hq=>⟨(g4 q c hq).1,let ⟨u,k1,k2⟩:=(g4 q c hq).2;⟨u,k1,k2.free (hs4 c (List.mem_of_getElem? hq))⟩⟩,fun q h1 h2=>g5 q (by omega) h2,fun q u hu=>by have:=g6 q u hu;omega,fun t hyt=>?_⟩,
       by have:=v.S.size;omega,fun q u hl hu=>?_,fun q z' y' t hz' hLq hjq hy' hyt hus=>?_⟩
      ·rw [hdst] at hyt
       have htn:=hd t hyt
       rw [hyt]
       have hts:t<a.tmps.size:=by rw [v.size];exact htn
       refine ⟨by simp [Act.put];exact hts,fun φ'' id hid=>?_⟩
       have:=hs1.vr g1 hv' hid
       simpa [Act.put,hts] using this
      ·cases hgq:(Hh k).get q with
       | none=>exact absurd hgq hl
       | some ob =>
        obtain ⟨c,s',t',m1,m2⟩:=(v.R.obj q ob hgq).block
        rw [hu] at m1;cases m1
        show c≠b
        omega
      ·rw [hy] at hy';cases hy'
       have hqi:q≠j:=by omega
       rw [By hiL,if_neg hqi] at hLq
       have hcl:Hp y z'=true:=Gh hyt hus
       rw [hB q z' hjq hz' hcl] at hLq;cases hLq
     ·rw [By hiL,if_neg hji] at hLj
      rw [if_neg hji,← hdst]
      exact (v.pend j hj hej hLj).step v.R hSb hiL hy rfl fun z t hz hzt=>hconf j z t hj hej hLj hz hzt
    ·have hBlt:∀ j,k≤j→BV pu il j=true→j≠i→(L.setIfInBounds i true).getD j false=true→B j<w.heap.size:=fun j hj hej hji hLj=>by
      rw [By hiL,if_neg hji] at hLj
      exact (v.pend j hj hej hLj).lt
     by_cases hpi:p=i<;>by_cases hqi:q=i
     ·omega
     ·simp only [hpi,hqi,if_true,if_false] at hpq
      have:=hBlt q hq1 hq2 hqi hq3
      omega
     ·simp only [hpi,hqi,if_true,if_false] at hpq
      have:=hBlt p hp1 hp2 hpi hp3
      omega
     ·simp only [hpi,hqi,if_false] at hpq
      rw [By hiL,if_neg hpi] at hp3
      rw [By hiL,if_neg hqi] at hq3
      exact v.inj p q hp1 hq1 hp2 hq2 hp3 hq3 hpq
    ·have hyt:y.dst≠some t:=hnp i y hy hki hey (by rw [By hiL];simp)
     have hup:∀ q,Bd pu il L k q→Bd pu il (L.setIfInBounds i true) k q:=fun q hq=>⟨by rw [By hiL];split<;>first | rfl | exact hq.1,hq.2⟩
     have hvl':Ux il V (E 0) (Bd pu il L k) t u:=by
      rcases hvl with ⟨j,z,m1,m2,m3,m4,m5⟩ | ⟨m1,m2⟩
      ·have hji:j≠i:=fun hji=>by subst hji;rw [hy] at m1;cases m1;exact hyt m3
       have m2':=m2.1
       rw [By hiL,if_neg hji] at m2'
       exact .inl ⟨j,z,m1,⟨m2',m2.2⟩,m3,m4,fun q z' h1 hz' hLq=>m5 q z' h1 hz' (hup q hLq)⟩
      ·exact .inr ⟨fun q z' hz' hLq=>m1 q z' hz' (hup q hLq),m2⟩
     obtain ⟨f1,f2⟩:=v.val t u hvl' fun j z hz hj hej hLj=>hnp j z hz hj hej (by rw [By hiL];split<;>first | rfl | exact hLj)
     refine ⟨by rw [IQ];exact f1,?_⟩
     rw [hputo xv t hyt]
     exact f2.mono (.refl _) hs'.imm
   ·
    subst heq
    have hb1:∀ j,k≤j→j<k+1→BV pu il j=true→j=k:=fun j h1 h2 _=>by omega
    cases hW:W k with
    | false =>
     simp only [Bool.false_eq_true,if_false]
     obtain ⟨hVu,hHi⟩:=t4 hW
     exact hnext Go.undef w φ I (k+1) (by omega) (by omega) (fun _=>by omega) hb1 (hHi ▸ v.R) (hVu ▸ .undef) (hHi ▸ .refl _ _ _ _ _)
    | true =>
     simp only [if_true]
     exact .inl (JD ho hcy v.R hE v.G v.bar (by rw [hcong];exact t3 hW) fun xv w' φ' I' hR' hv' hs'=>hnext xv w' φ' I' (k+1) (by omega) (by omega) (fun _=>by omega) hb1 hR' hv' hs')
  | false =>
   have hey':=hey
   rw [Ly hy] at hey'
   cases hW:W i with
   | false =>
    simp only [Bool.false_eq_true,if_false]
    exact hnext Go.undef w φ I k v.kle (Nat.le_refl _) (fun h=>by rw [hey] at h;cases h) hnone v.R ((t4 hW).1 ▸ .undef) (.refl _ _ _ _ _)
   | true =>
    simp only [if_true]
    have hrun:=t3 hW
    have hrk:Ae o bar e1 (Hh k) y.op=some (V i,Hh k):=by
     rw [hcong]
     cases hlk:No pu y.op with
     | false=>exact (Ki hp hey' hrun).2 hlk _
     | true =>
      have hex:∃ h',Ae o bar (E i) (Hh k) y.op=some (V i,h'):=by
       by_cases hbt:∃ j,BV pu il j=true∧((k≤j∧j<i)∨(i≤j∧j<k))
       ·refine hst.1 i k y hy (Zo hlk) (ZL hy hlk v.kle (hkn.imp id fun h=>⟨h.1,by
         cases hb:((GN ops).getD i 0).testBit k with
         | false=>rfl
         | true=>have:=hAb k hb;rw [h.2] at this;cases this⟩) (fun j hej h1 h2=>?_) (fun j hej h1 h2=>?_) hbt) hW
        ·cases hb:((GN ops).getD i 0).testBit j with
         | false=>exact .inl rfl
         | true =>
          obtain ⟨z',s,cs,q,rc,el,fr,k1,k2,_⟩:=(v.pend j h1 hej (hAb j hb)).ex
          exact .inr ⟨z',k1,k2⟩
        ·cases hb:((GN ops).getD j 0).testBit i with
         | false=>rfl
         | true=>exact (hBb j (by have:=HQ hej;omega) (v.low j h2 hej) hb).elim
       ·have hh:Hh k=Hh i:=by
         rcases Nat.le_total k i with h | h
         ·have:=KI hp ht k (i - k) (by omega) (fun q h1 h2=>by
           cases hq:BV pu il q with
           | false=>rfl
           | true=>exact absurd ⟨q,hq,.inl ⟨h1,by omega⟩⟩ hbt)
          rw [show k+(i - k)=i by omega] at this;exact this.symm
         ·have:=KI hp ht i (k - i) (by have:=v.kle;omega) (fun q h1 h2=>by
           cases hq:BV pu il q with
           | false=>rfl
           | true=>exact absurd ⟨q,hq,.inr ⟨h1,by omega⟩⟩ hbt)
          rwa [show i+(k - i)=k by omega] at this
        exact ⟨_,by rw [hh];exact hrun⟩
      obtain ⟨h',hex⟩:=hex
      have:=(Ki hp hey' hex).1
      rw [this] at hex
      exact hex
    exact .inl (JD ho hcy v.R hE v.G v.bar hrk fun xv w' φ' I' hR' hv' hs'=>hnext xv w' φ' I' k v.kle (Nat.le_refl _) (fun h=>by rw [hey] at h;cases h) hnone hR' hv' hs')
theorem Ow (hm:P.follows .mixedOrders=true) (ho:Ho P G o) (hp:Is o pu) {id:Nat} {ops:Array Oper} {il:List IOper} {e e':Env} {h h':H} {a:Act} {w:World} {Q:Exit→Act→World→Prop}
  (hc:Es P G N ops ops.toList=some il) (hok:Gw pu ops il=true) (hr:BQ o bar il e h=some (e',h')) (r:Rel G N bar φ0 I0 h0 w0 e h a w)
  (hst:∀ p ∈ asks pu ops il,∃ y e1 h1 h2 e2,il[p.1]? = some y∧BQ o bar (il.take p.1) e h=some (e1,h1)∧BQ o bar (il.take p.2) e h=some (e2,h2) ∧
   (EJ e1 y.guard=some false∨∃ v h3,Ae o bar e1 h1 y.op=some (v,h3)∧if IY y.op=true then (∀ cs q,h3.get h1.n=some (.cells cs q)→cs.all AV.free=true) else ∃ h4,Ae o bar e1 h2 y.op=some (v,h4)))
  (hQ:∀ a' w',Rel G N bar φ0 I0 h0 w0 e' h' a' w'→Q .normal a' w'):(Code.region id ops true).wp P Q a w:=by
 obtain ⟨E,Hh,V,W,ht,t1,t2,t3,t4,t5⟩:=ZA il e e' h h' hr
 obtain ⟨φ,I,hR,hE,hG,hS⟩:=r.ex
 have hstab:ao o bar pu ops il E Hh V W:=⟨fun i k y hy hmk hik hW=>by
  obtain ⟨y',e1,h1,h2,e2,g1,g2,g3,g4⟩:=hst (i,k) hik
  simp only at g1 g2 g3
  rw [hy] at g1;cases g1
  have hi:i≤il.length:=Nat.le_of_lt (List.getElem?_eq_some_iff.1 hy).1
  have hk:k≤il.length:=by
   unfold asks at hik
   rw [List.mem_append] at hik
   rcases hik with hik | hik
   rotate_left
   ·rw [List.mem_filterMap] at hik
    obtain ⟨⟨z,q⟩,hq1,hq⟩:=hik
    simp only at hq
    split at hq
    ·cases hq
     have:=List.mem_zipIdx hq1
     omega
    ·cases hq
   simp only [List.mem_flatMap] at hik
   obtain ⟨q,_,hq⟩:=hik
   split at hq
   ·simp only [List.mem_filterMap] at hq
    obtain ⟨r,hr1,hr2⟩:=hq
    split at hr2
    ·cases hr2;simp at hr1;omega
    ·cases hr2
   ·cases hq
  rw [t5 i hi] at g2;cases g2
  rw [t5 k hk] at g3;cases g3
  obtain ⟨s1,s2,s3,s4⟩:=ht i y hy
  rcases g4 with g4 | g4
  ·rw [s2,hW] at g4;cases g4
  ·obtain ⟨v,h3,g5,g6⟩:=g4
   rw [if_neg (by rw [hmk];simp)] at g6
   rw [s3 hW] at g5;cases g5
   exact g6,fun i y hy hmk hik hW=>by
  obtain ⟨y',e1,h1,h2,e2,g1,g2,g3,g4⟩:=hst (i,i) hik
  simp only at g1 g2 g3
  rw [hy] at g1;cases g1
  have hi:i≤il.length:=Nat.le_of_lt (List.getElem?_eq_some_iff.1 hy).1
  rw [t5 i hi] at g2;cases g2
  obtain ⟨s1,s2,s3,s4⟩:=ht i y hy
  rcases g4 with g4 | g4
  ·rw [s2,hW] at g4;cases g4
  ·obtain ⟨v,h3,g5,g6⟩:=g4
   rw [if_pos hmk] at g6
   rw [s3 hW] at g5;cases g5
   exact g6⟩
 refine wp_region_any hm (ZW ho hp hc hok ht hstab (fun a' w' hrel=>hQ a' w' (by rw [← t3,← t4];exact hrel)) _ _ _ _ 0 φ I (fun _=>0) ?_ ?_)
 ·have hrep:∀ j,(Array.replicate ops.size false).getD j false=false:=fun j=>Go.getD_replicate_false ops.size j
  have hno:∀ (j:Nat) {p:Prop},(Array.replicate ops.size false).getD j false=true→p:=fun j p h=>by rw [hrep] at h;cases h
  refine ⟨by simp,fun j z hz hLj=>hno j hLj,Nat.zero_le _,?_,hG,?_,?_,fun j hj=>by omega,fun j _ _ hLj=>hno j hLj,fun p q _ _ _ _ h=>hno p h,fun t v hv _=>?_,r.defers,r.size⟩
  ·rw [t2];exact hR.of_heap rfl
  ·rw [t2];exact hS.trans (Stp.of_heap rfl rfl rfl)
  ·rw [t2];exact r.bar
  ·rcases hv with ⟨j,x,_,g2,_⟩ | ⟨_,g2⟩
   ·exact hno j g2.1
   ·rw [t1] at g2;exact hE t v g2
 ·exact Nat.le_trans List.countP_le_length (by simp)
end
end Go.Ev
namespace Go.Ev
open Go
section
variable {P:Program} {G:Glob} {bar:Nat} {φ:Phi} {w:World}
theorem aP {I I':Imm} {h h':H} (hi:I.le I') (ho:∀ i,i<bar→h'.get i=h.get i) (hl:∀ i,h'.get i≠none→h.get i≠none) (hn:h'.n=h.n)
  (ht:∀ b j v,I' b j=some v→I b j=some v∨w.heap.size≤b∨∃ i x,bar≤i∧h.get i≠none∧φ i=some x∧x.1=b):Stp bar φ I h w φ I' h' w :=
 ⟨.refl _,hi,Nat.le_refl _,fun _ _ _=>rfl,fun i x hb hlv hp=>.inr ⟨i,x,hb,hl i hlv,hp,rfl⟩,ho,by omega,rfl,rfl,ht⟩
theorem ZP {I:Imm} {h:H} (hR:R φ I h w) {id off n p:Nat} {cs:List AV} (hg:h.get id=some (.cells cs p)) (hbar:bar≤id) (hle:off+n≤cs.length) :
  ∃ (I':Imm) (b o:Nat) (vs:List Value) (s:Nat),φ id=some (b,o,s)∧I.le I'∧R φ I' (h.set id (.cells cs (max p (off+n)))) w∧VRL φ I' ((cs.drop off).take n) vs ∧
   (∀ (i:Nat) (v:Value),vs[i]? = some v→I' b (o+off+i)=some v)∧Stp bar φ I h w φ I' (h.set id (.cells cs (max p (off+n)))) w:=by
 obtain ⟨b,o,rc,el,fr,g1,g2,g3,g4,g5,g6⟩:=hR.obj id _ hg
 let I':Imm:=fun b' j=>if b'=b∧o+off≤j∧j<o+off+n then rc[j]? else I b' j
 have hle':I.le I':=fun b' j v hv=>by
  simp only [I']
  split
  ·rename_i hc
   have:=hR.imm b' j v hv
   rw [hc.1,Gg g2] at this
   exact this
  ·exact hv
 have hlt:∀ j,j<o+off+n→j<rc.size:=fun j hj=>by omega
 have hget:∀ i x,(h.set id (.cells cs (max p (off+n)))).get i=some x→(i=id∧x=.cells cs (max p (off+n)))∨(i≠id∧h.get i=some x):=fun i x hx=>by
  simp only [H.set] at hx
  by_cases hi:i=id
  ·simp only [hi,if_true,Option.some.injEq] at hx;exact .inl ⟨hi,hx.symm⟩
  ·simp only [hi,if_false] at hx;exact .inr ⟨hi,hx⟩
 have hRn:R φ I' (h.set id (.cells cs (max p (off+n)))) w:=by
  refine ⟨fun i hi=>?_,hR.dom,fun i x hx=>?_,fun i j x y b' s t s' t' hx hy hi hj=>?_,fun b' j v hv=>?_⟩
  ·have:i≠id:=fun hii=>by subst hii;rw [hR.wf i hi] at hg;cases hg
   simp only [H.set,this,if_false];exact hR.wf i hi
  ·rcases hget i x hx with ⟨rfl,rfl⟩ | ⟨hne,hx'⟩
   ·refine ⟨b,o,rc,el,fr,g1,g2,g3,fun j c hc=>⟨(g4 j c hc).1,let ⟨v,hv,hr⟩:=(g4 j c hc).2;⟨v,hv,hr.mono (.refl _) hle'⟩⟩,fun j h1 h2=>g5 j (by omega) h2,fun j v hv=>?_⟩
    simp only [I'] at hv
    split at hv
    ·omega
    ·have:=g6 j v hv;omega
   ·refine (hR.obj i x hx').keep (.refl _) hle' (fun _ _ _ _=>rfl) (fun b' s t hb' j v hv=>?_)
    simp only [I'] at hv
    split at hv
    ·rename_i hc
     exact absurd (hR.inj i id x _ _ _ _ _ _ hx' hg hb' (hc.1 ▸ g1)) hne
    ·exact hv
  ·have hx':∃ x',h.get i=some x':=by rcases hget i x hx with ⟨rfl,_⟩ | ⟨_,h2⟩<;>exact ⟨_,by assumption⟩
   have hy':∃ y',h.get j=some y':=by rcases hget j y hy with ⟨rfl,_⟩ | ⟨_,h2⟩<;>exact ⟨_,by assumption⟩
   obtain ⟨x',hx'⟩:=hx'
   obtain ⟨y',hy'⟩:=hy'
   exact hR.inj i j x' y' b' s t s' t' hx' hy' hi hj
  ·simp only [I'] at hv
   split at hv
   ·rename_i hc
    rw [hc.1,Gg g2];exact hv
   ·exact hR.imm b' j v hv
 have hn:((rc.toList.drop (o+off)).take n).length=n:=by simp;omega
 refine ⟨I',b,o,(rc.toList.drop (o+off)).take n,_,g1,hle',hRn,⟨by rw [hn];simp;omega,fun i c v h1 h2=>?_⟩,fun i v hv=>?_,?_⟩
 ·rw [List.getElem?_take] at h1 h2
  split at h1
  ·rename_i hin
   rw [if_pos hin] at h2
   rw [List.getElem?_drop] at h1 h2
   obtain ⟨_,v',hv',hr⟩:=g4 (off+i) c h1
   have:v'=v:=by
    rw [Array.getElem?_toList,Nat.add_assoc] at h2
    rw [hv'] at h2;exact Option.some.inj h2
   subst this
   exact hr.mono (.refl _) hle'
  ·cases h1
 ·rw [List.getElem?_take] at hv
  split at hv
  ·rename_i hin
   rw [List.getElem?_drop,Array.getElem?_toList] at hv
   simp only [I']
   rw [if_pos ⟨trivial,by omega,by omega⟩]
   exact hv
  ·cases hv
 ·refine aP hle' (fun i hi=>?_) (fun i hi=>?_) rfl (fun b' j v hv=>?_)
  ·have:i≠id:=by omega
   simp [H.set,this]
  ·simp only [H.set] at hi
   split at hi
   ·rename_i hii;rw [hii,hg];simp
   ·exact hi
  ·simp only [I'] at hv
   split at hv
   ·rename_i hc
    exact .inr (.inr ⟨id,_,hbar,by rw [hg];simp,g1,hc.1.symm⟩)
   ·exact .inl hv
theorem Nh:∀ d:Nat,(∀ (I:Imm) (h h':H) (v v':AV) (x:Value),AC bar d h v=some (v',h')→R φ I h w→VR φ I v x→∃ I',R φ I' h' w∧VR φ I' v' x∧Stp bar φ I h w φ I' h' w) ∧
  (∀ (l:List AV) (I:Imm) (h h':H) (l':List AV) (xs:List Value),AD bar d h l=some (l',h')→R φ I h w→VRL φ I l xs→∃ I',R φ I' h' w∧VRL φ I' l' xs∧Stp bar φ I h w φ I' h' w):=by
 intro d
 induction d with
 | zero =>
  refine ⟨fun I h h' v v' x hf=>by simp [AC] at hf,fun l=>?_⟩
  cases l with
  | nil =>
   intro I h h' l' xs hf hR hx
   simp only [AD,Option.some.injEq,Prod.mk.injEq] at hf
   obtain ⟨rfl,rfl⟩:=hf
   exact ⟨I,hR,hx,.refl _ _ _ _ _⟩
  | cons v r=>intro I h h' l' xs hf;simp [AD,AC] at hf
 | succ d ih =>
  have hV:∀ (I:Imm) (h h':H) (v v':AV) (x:Value),AC bar (d+1) h v=some (v',h')→R φ I h w→VR φ I v x→∃ I',R φ I' h' w∧VR φ I' v' x∧Stp bar φ I h w φ I' h' w:=by
   intro I h h' v v' x hf hR hx
   by_cases hsl:∃ id off k len full,v=.sl id off k len full
   ·obtain ⟨id,off,k,len,full,rfl⟩:=hsl
    simp only [AC] at hf
    split at hf
    ·rename_i cs p hg
     split at hf
     ·rename_i hc
      split at hf
      ·rename_i xs h1 hl
       split at hf
       ·rename_i hfo
        cases hf
        obtain ⟨I1,b,o,vs,s,e1,e2,e3,e4,e5,e6⟩:=ZP (bar:=bar) hR hg hc.1 hc.2
        obtain ⟨I2,k1,k2,k3⟩:=ih.2 _ I1 _ _ _ vs hl e3 e4
        refine ⟨I2,k1,?_,e6.trans k3⟩
        have hxl:xs.length=len*k:=by
         have h1:=k2.1
         have h2:=e4.1
         simp at h2
         omega
        have h3:∀ (i:Nat) (c:AV),xs[i]? = some c→c.free=true∧c.one=true:=fun i c hci=>by
         have hm:=List.mem_of_getElem? hci
         simp only [List.all_eq_true] at hfo
         exact ⟨hfo.1 c hm,hfo.2 c hm⟩
        cases hx with
        | sl _ _ _ _ _ b' o' sz cap hφ g1 g2 g3 =>
         rw [e1] at hφ;cases hφ
         refine .fz k len xs full b (o+off) cap (fun i=>vs.getD i Go.undef) (fun i c hci=>?_) (fun i c hci=>?_) h3 g1 g3 hxl
         ·obtain ⟨v,hv,_⟩:=k2.get hci
          simp only [List.getD,hv,Option.getD_some]
          exact k3.imm _ _ _ (e5 i v hv)
         ·obtain ⟨v,hv,hr⟩:=k2.get hci
          simp only [List.getD,hv,Option.getD_some]
          exact hr
        | sl0 _ _ _ _ a y hφ =>
         have:xs=[]:=List.eq_nil_of_length_eq_zero (by omega)
         subst this
         exact .fz0 k full a 0 (fun _=>rfl)
       ·cases hf
      ·cases hf
     ·cases hf
    ·cases hf
   ·by_cases hag:∃ cs,v=.agg cs
    ·obtain ⟨cs,rfl⟩:=hag
     simp only [AC] at hf
     split at hf
     ·rename_i xs h1 hl
      cases hf
      cases hx with
      | agg _ vs g1 g2 =>
       obtain ⟨I2,k1,k2,k3⟩:=ih.2 cs I h h' xs vs.toList hl hR ⟨by simpa using g1,fun i c v h1 h2=>g2 i c v h1 (by simpa using h2)⟩
       exact ⟨I2,k1,.agg xs vs (by simpa using k2.1) (fun i c v h1 h2=>k2.2 i c v h1 (by simpa using h2)),k3⟩
     ·cases hf
    ·have:AC bar (d+1) h v=some (v,h):=by
      cases v<;>first
       | exact absurd ⟨_,_,_,_,_,rfl⟩ hsl
       | exact absurd ⟨_,rfl⟩ hag
       | simp [AC]
     rw [this] at hf
     cases hf
     exact ⟨I,hR,hx,.refl _ _ _ _ _⟩
  refine ⟨hV,fun l=>?_⟩
  induction l with
  | nil =>
   intro I h h' l' xs hf hR hx
   simp only [AD,Option.some.injEq,Prod.mk.injEq] at hf
   obtain ⟨rfl,rfl⟩:=hf
   exact ⟨I,hR,hx,.refl _ _ _ _ _⟩
  | cons v r ihl =>
   intro I h h' l' xs hf hR hx
   rw [AD] at hf
   split at hf
   ·rename_i v1 h1 hv1
    split at hf
    ·rename_i r1 h2 hr1
     cases hf
     cases xs with
     | nil=>have:=hx.1;simp at this
     | cons y ys =>
      obtain ⟨I1,a1,a2,a3⟩:=hV I h h1 v v1 y hv1 hR (hx.2 0 v y rfl rfl)
      have ht:VRL φ I r ys:=⟨by simpa using hx.1,fun i c v h1 h2=>hx.2 (i+1) c v (by simpa using h1) (by simpa using h2)⟩
      obtain ⟨I2,b1,b2,b3⟩:=ihl I1 h1 h' r1 ys hr1 a1 (ht.mono (.refl _) a3.imm)
      exact ⟨I2,b1,.cons (a2.mono (.refl _) b3.imm) b2,a3.trans b3⟩
    ·cases hf
   ·cases hf
end
end Go.Ev
namespace Go.Ev
open Go
def BO (P:Program) (G:Glob) (pu:Nat→Bool) (N:Nat):Code→Option IC
 | .skip=>some .skip
 | .region _ ops draw=>match Es P G N ops ops.toList with
  | some il=>if draw=false then some (.reg il) else if Gw pu ops il=true then (match asks pu ops il with | []=>some (.reg il) | chk=>some (.regW il chk)) else some .bad
  | none=>none
 | .seq a b=>match BO P G pu N a,BO P G pu N b with | some x,some y=>some (.seq x y) | _,_=>none
 | .cond c a b=>match Ac G c,BO P G pu N a,BO P G pu N b with | some c,some x,some y=>some (.cond c x y) | _,_,_=>none
 | .block id b=>match BO P G pu N b with | some x=>some (.block id x) | _=>none
 | .loop b=>match BO P G pu N b with | some x=>some (.loop x) | _=>none
 | .scope b=>match BO P G pu N b with | some x=>some (.scope x) | _=>none
 | .exit id=>some (.exit id)
 | .label _=>some .skip
 | .ret=>some .ret
 | _=>some .bad
def Gp:IC→IC
 | .skip=>.skip
 | .reg ops=>.reg ops
 | .regW ops chk=>.regW ops chk
 | .bad=>.bad
 | .seq a b=>.seq (Gp a) (Gp b)
 | .cond c a b=>.cond c (Gp a) (Gp b)
 | .block id b=>.block id (Gp b)
 | .loop b=>.loop (Gp b)
 | .loopK _ b=>.loop (Gp b)
 | .scope b=>.scope (Gp b)
 | .exit id=>.exit id
 | .ret=>.ret
 | .keep _ b=>Gp b
 | .frz _ b=>Gp b
def bC:Ex→Exit
 | .normal=>.normal
 | .exit id=>.exit id
 | .ret=>.ret
theorem VI {P:Program} {G:Glob} {pu:Nat→Bool} {N:Nat} {c:Code} (h:BO P G pu N c=some .skip):c=.skip∨∃ l,c=.label l:=by
 cases c<;>simp only [BO] at h
 all_goals first
  | exact .inl rfl
  | exact .inr ⟨_,rfl⟩
  | (repeat' split at h)<;>cases h
theorem WR {P:Program} {G:Glob} {pu:Nat→Bool} {N:Nat} {c:Code} {il:List IOper} (h:BO P G pu N c=some (.reg il)) :
  ∃ id ops draw,c=.region id ops draw∧Es P G N ops ops.toList=some il∧(draw=false∨(Gw pu ops il=true∧asks pu ops il=[])):=by
 cases c with
 | region id ops draw =>
  simp only [BO] at h
  split at h
  ·rename_i il' hil
   split at h
   ·rename_i hd
    cases h
    exact ⟨id,ops,draw,rfl,hil,.inl hd⟩
   ·split at h
    ·rename_i hok
     split at h
     ·rename_i hask
      cases h
      exact ⟨id,ops,draw,rfl,hil,.inr ⟨hok,hask⟩⟩
     ·cases h
    ·cases h
  ·cases h
 | _=>simp only [BO] at h;(repeat' split at h)<;>cases h
theorem VH {P:Program} {G:Glob} {pu:Nat→Bool} {N:Nat} {c:Code} {il:List IOper} {chk:List (Nat × Nat)} (h:BO P G pu N c=some (.regW il chk)) :
  ∃ id ops,c=.region id ops true∧Es P G N ops ops.toList=some il∧Gw pu ops il=true∧asks pu ops il=chk:=by
 cases c with
 | region id ops draw =>
  simp only [BO] at h
  split at h
  ·rename_i il' hil
   split at h
   ·cases h
   ·rename_i hd
    split at h
    ·rename_i hok
     split at h
     ·cases h
     ·cases h
      exact ⟨id,ops,by simp at hd;rw [hd],hil,hok,rfl⟩
    ·cases h
  ·cases h
 | _=>simp only [BO] at h;(repeat' split at h)<;>cases h
theorem WT {P:Program} {G:Glob} {pu:Nat→Bool} {N:Nat} {c:Code} {x y:IC} (h:BO P G pu N c=some (.seq x y)):∃ a b,c=.seq a b∧BO P G pu N a=some x∧BO P G pu N b=some y:=by
 cases c with
 | seq a b =>
  simp only [BO] at h
  split at h
  ·rename_i x' y' h1 h2
   cases h
   exact ⟨a,b,rfl,h1,h2⟩
  ·cases h
 | _=>simp only [BO] at h;(repeat' split at h)<;>cases h
theorem VF {P:Program} {G:Glob} {pu:Nat→Bool} {N:Nat} {c:Code} {z:Opd} {x y:IC} (h:BO P G pu N c=some (.cond z x y)):∃ o a b,c=.cond o a b∧Ac G o=some z∧BO P G pu N a=some x∧BO P G pu N b=some y:=by
 cases c with
 | cond o a b =>
  simp only [BO] at h
  split at h
  ·rename_i x' y' z' h1 h2 h3
   cases h
   exact ⟨o,a,b,rfl,h1,h2,h3⟩
  ·cases h
 | _=>simp only [BO] at h;(repeat' split at h)<;>cases h
theorem Tw {P:Program} {G:Glob} {pu:Nat→Bool} {N:Nat} {c:Code} {id:Nat} {x:IC} (h:BO P G pu N c=some (.block id x)):∃ b,c=.block id b∧BO P G pu N b=some x:=by
 cases c with
 | block id b =>
  simp only [BO] at h
  split at h
  ·rename_i x' h1
   cases h
   exact ⟨b,rfl,h1⟩
  ·cases h
 | _=>simp only [BO] at h;(repeat' split at h)<;>cases h
theorem Pk {P:Program} {G:Glob} {pu:Nat→Bool} {N:Nat} {c:Code} {x:IC} (h:BO P G pu N c=some (.loop x)):∃ b,c=.loop b∧BO P G pu N b=some x:=by
 cases c with
 | loop b =>
  simp only [BO] at h
  split at h
  ·rename_i x' h1
   cases h
   exact ⟨b,rfl,h1⟩
  ·cases h
 | _=>simp only [BO] at h;(repeat' split at h)<;>cases h
theorem Ty {P:Program} {G:Glob} {pu:Nat→Bool} {N:Nat} {c:Code} {x:IC} (h:BO P G pu N c=some (.scope x)):∃ b,c=.scope b∧BO P G pu N b=some x:=by
 cases c with
 | scope b =>
  simp only [BO] at h
  split at h
  ·rename_i x' h1
   cases h
   exact ⟨b,rfl,h1⟩
  ·cases h
 | _=>simp only [BO] at h;(repeat' split at h)<;>cases h
theorem VG {P:Program} {G:Glob} {pu:Nat→Bool} {N:Nat} {c:Code} {id:Nat} (h:BO P G pu N c=some (.exit id)):c=.exit id:=by
 cases c with
 | exit id'=>simp only [BO] at h;cases h;rfl
 | _=>simp only [BO] at h;(repeat' split at h)<;>cases h
theorem WS {P:Program} {G:Glob} {pu:Nat→Bool} {N:Nat} {c:Code} (h:BO P G pu N c=some .ret):c=.ret:=by
 cases c with
 | ret=>rfl
 | _=>simp only [BO] at h;(repeat' split at h)<;>cases h
section
variable {P:Program} {G:Glob} {N bar:Nat} {φ0:Phi} {I0:Imm} {h0:H} {w0:World} {o:Oracle} {pu:Nat→Bool}
theorem Rel.keep {e:Env} {h:H} {a:Act} {w:World} (r:Rel G N bar φ0 I0 h0 w0 e h a w) (l:List Nat):Rel G N bar φ0 I0 h0 w0 (e.keep l) h a w:=by
 obtain ⟨φ,I,hR,hE,hG,hS⟩:=r.ex
 refine ⟨⟨φ,I,hR,fun t v hv=>?_,hG,hS⟩,r.defers,r.size,r.bar⟩
 rw [JU] at hv
 split at hv
 ·exact hE t v hv
 ·cases hv
theorem Rel.freeze {a:Act} {w:World}:∀ (l:List Nat) (e e':Env) (h h':H),IM bar l e h=some (e',h')→Rel G N bar φ0 I0 h0 w0 e h a w→Rel G N bar φ0 I0 h0 w0 e' h' a w
 | [],e,e',h,h',hf,r=>by
  simp only [IM,Option.some.injEq,Prod.mk.injEq] at hf
  obtain ⟨rfl,rfl⟩:=hf
  exact r
 | i::l,e,e',h,h',hf,r=>by
  simp only [IM] at hf
  split at hf
  ·rename_i v hv
   split at hf
   ·rename_i v1 h1 hv1
    obtain ⟨φ,I,hR,hE,hG,hS⟩:=r.ex
    obtain ⟨hlt,hx⟩:=hE i v hv
    obtain ⟨I',hR',hv',hS'⟩:=(Nh 4).1 I h h1 v v1 _ hv1 hR hx
    refine Rel.freeze l _ _ _ _ hf ⟨⟨φ,I',hR',fun t u hu=>?_,hG.mono hS'.imm,hS.trans hS'⟩,r.defers,r.size,Nat.le_trans r.bar hS'.n⟩
    simp only [Env.set,Env.get] at hu
    by_cases ht:t=i
    ·subst ht
     simp only [if_true,Option.some.injEq] at hu
     subst hu
     exact ⟨hlt,hv'⟩
    ·have hti:(i=t)=False:=by simp;exact fun h=>ht h.symm
     simp only [ht,hti,if_false] at hu
     exact (hE.mono (.refl _) hS'.imm) t u hu
   ·cases hf
  ·cases hf
theorem GA {S R:Type} {f:S→Option (S ⊕ R)} {s:S} {r:R} (h:ER f s=some r):∃ n,Bm f n s=some r:=by
 unfold ER at h
 split at h
 ·rename_i hx
  cases h
  exact Classical.choose_spec hx
 ·cases h
theorem VO (hm:P.follows .mixedOrders=true) (ho:Ho P G o) (hp:Is o pu):∀ (ic:IC) (c:Code) (e e':Env) (h h':H) (a:Act) (w:World) (x:Ex) (Q:Exit→Act→World→Prop),BO P G pu N c=some (Gp ic) →
  BE o bar ic e h=some (x,e',h')→Rel G N bar φ0 I0 h0 w0 e h a w→(∀ a' w',Rel G N bar φ0 I0 h0 w0 e' h' a' w'→Q (bC x) a' w')→c.wp P Q a w:=by
 intro ic
 induction ic with
 | skip =>
  intro c e e' h h' a w x Q hc he r hQ
  simp only [BE,Option.some.injEq,Prod.mk.injEq] at he
  obtain ⟨rfl,rfl,rfl⟩:=he
  rcases VI hc with rfl | ⟨l,rfl⟩
  ·exact wp_skip (hQ _ _ r)
  ·exact wp_label (hQ _ _ r)
 | reg il =>
  intro c e e' h h' a w x Q hc he r hQ
  obtain ⟨id,ops,draw,rfl,h1,h2⟩:=WR hc
  simp only [BE] at he
  split at he
  ·rename_i e1 h1' hr
   simp only [Option.some.injEq,Prod.mk.injEq] at he
   obtain ⟨rfl,rfl,rfl⟩:=he
   cases draw with
   | false =>
    refine wp_region ?_
    have:=Je (bar:=bar) ho (ops:=ops) (Q:=Q) ops.toList 0 il e e1 h h1' a w (fun j=>by simp) h1 hr r hQ
    rw [List.range_eq_range']
    simpa using this
   | true =>
    rcases h2 with h2 | ⟨h2,h3⟩
    ·cases h2
    ·exact Ow hm ho hp h1 h2 hr r (fun p hpp=>by rw [h3] at hpp;cases hpp) hQ
  ·cases he
 | regW il chk =>
  intro c e e' h h' a w x Q hc he r hQ
  obtain ⟨id,ops,rfl,h1,h2,h3⟩:=VH hc
  simp only [BE] at he
  split at he
  ·rename_i e1 h1' hr
   split at he
   ·rename_i hs
    simp only [Option.some.injEq,Prod.mk.injEq] at he
    obtain ⟨rfl,rfl,rfl⟩:=he
    exact Ow hm ho hp h1 h2 hr r (fun p hpp=>hs p (h3 ▸ hpp)) hQ
   ·cases he
  ·cases he
 | bad=>intro c e e' h h' a w x Q hc he;simp [BE] at he
 | seq x y ihx ihy =>
  intro c e e' h h' a w z Q hc he r hQ
  obtain ⟨ca,cb,rfl,h1,h2⟩:=WT hc
  refine wp_seq ?_
  simp only [BE] at he
  split at he
  ·rename_i e1 hh1 hx
   exact ihx ca _ _ _ _ _ _ _ _ h1 hx r fun a' w' r'=>ihy cb _ _ _ _ _ _ _ _ h2 he r' hQ
  ·rename_i hn
   refine ihx ca _ _ _ _ _ _ _ _ h1 he r fun a' w' r'=>?_
   cases z with
   | normal=>exact absurd he (hn _ _)
   | exit id=>exact hQ _ _ r'
   | ret=>exact hQ _ _ r'
 | cond z x y ihx ihy =>
  intro c e e' h h' a w u Q hc he r hQ
  obtain ⟨co,ca,cb,rfl,h0,h1,h2⟩:=VF hc
  simp only [BE] at he
  split at he
  ·rename_i t ht
   obtain ⟨φ,I,hR,hE,hG,hS⟩:=r.ex
   have hv:=If hE hG h0 ht
   have hc:a.eval co=.bool t:=by
    generalize a.eval co=q at hv
    cases hv;rfl
   refine wp_cond hc ?_
   cases t with
   | true=>exact ihx ca _ _ _ _ _ _ _ _ h1 (by simpa using he) r hQ
   | false=>exact ihy cb _ _ _ _ _ _ _ _ h2 (by simpa using he) r hQ
  ·cases he
 | block id x ih =>
  intro c e e' h h' a w u Q hc he r hQ
  obtain ⟨cb,rfl,h1⟩:=Tw hc
  refine wp_block ?_
  simp only [BE] at he
  split at he
  ·rename_i j e1 hh1 hx
   refine ih cb _ _ _ _ _ _ _ _ h1 hx r fun a' w' r'=>?_
   simp only [bC,Exit.inBlock]
   split at he
   ·rename_i hj
    simp only [Option.some.injEq,Prod.mk.injEq] at he
    obtain ⟨rfl,rfl,rfl⟩:=he
    rw [if_pos hj];exact hQ _ _ r'
   ·rename_i hj
    simp only [Option.some.injEq,Prod.mk.injEq] at he
    obtain ⟨rfl,rfl,rfl⟩:=he
    rw [if_neg hj];exact hQ _ _ r'
  ·rename_i hn
   refine ih cb _ _ _ _ _ _ _ _ h1 he r fun a' w' r'=>?_
   cases u with
   | normal=>exact hQ _ _ r'
   | exit id=>exact absurd he (hn _ _ _)
   | ret=>exact hQ _ _ r'
 | loop x ih =>
  intro c e e' h h' a w u Q hc he r hQ
  obtain ⟨cb,rfl,h1⟩:=Pk hc
  simp only [BE] at he
  obtain ⟨n,hn⟩:=GA he
  refine wp_loop_rounds n ?_
  clear he
  induction n generalizing e h a w with
  | zero=>simp [Bm] at hn
  | succ n ihn =>
   rw [rounds_succ]
   simp only [Bm] at hn
   cases hx:BE o bar x e h with
   | none=>rw [hx] at hn;simp at hn
   | some q =>
    obtain ⟨y,e1,hh1⟩:=q
    rw [hx] at hn
    refine ih cb _ _ _ _ _ _ _ _ h1 hx r fun a' w' r'=>?_
    cases y with
    | normal=>exact ihn e1 hh1 a' w' r' (by simpa using hn)
    | exit id =>
     simp only [Option.some.injEq,Prod.mk.injEq] at hn
     obtain ⟨rfl,rfl,rfl⟩:=hn
     exact hQ _ _ r'
    | ret =>
     simp only [Option.some.injEq,Prod.mk.injEq] at hn
     obtain ⟨rfl,rfl,rfl⟩:=hn
     exact hQ _ _ r'
 | loopK l x ih =>
  intro c e e' h h' a w u Q hc he r hQ
  obtain ⟨cb,rfl,h1⟩:=Pk hc
  simp only [BE] at he
  obtain ⟨n,hn⟩:=GA he
  refine wp_loop_rounds n ?_
  clear he
  replace r:=r.keep l
  generalize e.keep l=e at hn r
  induction n generalizing e h a w with
  | zero=>simp [Bm] at hn
  | succ n ihn =>
   rw [rounds_succ]
   simp only [Bm] at hn
   cases hx:BE o bar x e h with
   | none=>rw [hx] at hn;simp at hn
   | some q =>
    obtain ⟨y,e1,hh1⟩:=q
    rw [hx] at hn
    refine ih cb _ _ _ _ _ _ _ _ h1 hx r fun a' w' r'=>?_
    cases y with
    | normal=>exact ihn _ _ _ _ (by simpa using hn) (r'.keep l)
    | exit id =>
     simp only [Option.some.injEq,Prod.mk.injEq] at hn
     obtain ⟨rfl,rfl,rfl⟩:=hn
     exact hQ _ _ r'
    | ret =>
     simp only [Option.some.injEq,Prod.mk.injEq] at hn
     obtain ⟨rfl,rfl,rfl⟩:=hn
     exact hQ _ _ r'
 | scope x ih =>
  intro c e e' h h' a w u Q hc he r hQ
  obtain ⟨cb,rfl,h1⟩:=Ty hc
  refine wp_scope_straight ?_
  refine ih cb _ _ _ _ _ _ _ _ h1 he r fun a' w' r'=>?_
  cases u<;>exact hQ _ _ r'
 | exit id =>
  intro c e e' h h' a w u Q hc he r hQ
  cases VG hc
  simp only [BE,Option.some.injEq,Prod.mk.injEq] at he
  obtain ⟨rfl,rfl,rfl⟩:=he
  exact wp_exit (hQ _ _ r)
 | ret =>
  intro c e e' h h' a w u Q hc he r hQ
  cases WS hc
  simp only [BE,Option.some.injEq,Prod.mk.injEq] at he
  obtain ⟨rfl,rfl,rfl⟩:=he
  exact wp_ret (hQ _ _ r)
 | keep l b ih =>
  intro c e e' h h' a w u Q hc he r hQ
  exact ih c _ _ _ _ _ _ _ _ hc he (r.keep l) hQ
 | frz l b ih =>
  intro c e e' h h' a w u Q hc he r hQ
  simp only [BE] at he
  split at he
  ·rename_i e1 hh1 hf
   exact ih c _ _ _ _ _ _ _ _ hc he (r.freeze l _ _ _ _ hf) hQ
  ·cases he
end
end Go.Ev
namespace Go.Ev
open Go
def HS (P:Program):List ResultVar→Option (List RV)
 | []=>some []
 | .tmp t::r=>match HS P r with | some l=>some (.tmp t::l) | none=>none
 | .cell a t::r=>match P.underlying t,P.info? t,HS P r with | some d,some i,some l=>some (.cell a (FX d) i.size::l) | _,_,_=>none
def Vh (tmps:Array Value):ResultVar→Sem Value
 | .tmp t=>pure (tmps.getD t Go.undef)
 | .cell a t=>do loadVar t (← asAddr (tmps.getD a Go.undef))
def KM (vs:List Value):Value:=match vs with | [v]=>v | vs=>.tuple vs.toArray
theorem UU {fn:Func} {tmps:Array Value} {P:Program} {w:World} {vs:List Value}
  (h:(fn.results.toList.mapM (Vh tmps)).run P w=Result.ok vs w) :
  (results fn tmps).run P w=.ok (KM vs) w:=by
 unfold results
 rw [← Array.toArray_toList (xs:=fn.results)]
 rw [List.mapM_toArray]
 rw [Sem.run_bind,Sem.run_map]
 erw [h]
 simp only [Result.andThen_ok,Sem.run_pure]
 congr 1
 match vs with
 | []=>simp [KM]
 | [v]=>simp [KM]
 | v::u::r=>simp [KM]
section
variable {P:Program} {G:Glob} {bar:Nat} {o:Oracle} {pu:Nat→Bool}
theorem Io {φ:Phi} {I:Imm} {h:H} {w:World} {e:Env} {tmps:Array Value} (hR:R φ I h w) (hE:EnvR φ I e tmps):∀ (rs:List ResultVar) (ls:List RV) (vs:List AV),HS P rs=some ls→AA e h ls=some vs →
  ∃ xs,(rs.mapM (Vh tmps)).run P w=Result.ok xs w∧VRL φ I vs xs
 | [],ls,vs,hc,hv=>by
  simp only [HS,Option.some.injEq] at hc;subst hc
  simp only [AA,Option.some.injEq] at hv;subst hv
  exact ⟨[],by simp,.nil⟩
 | .tmp t::rs,ls,vs,hc,hv=>by
  simp only [HS] at hc
  split at hc
  ·rename_i l hl
   cases hc
   simp only [AA,AE] at hv
   split at hv
   ·rename_i v us h1 h2
    cases hv
    obtain ⟨xs,g1,g2⟩:=Io hR hE rs l us hl h2
    exact ⟨_::xs,by simp [List.mapM_cons,g1,Vh],.cons (hE t v h1).2 g2⟩
   ·cases hv
  ·cases hc
 | .cell a t::rs,ls,vs,hc,hv=>by
  simp only [HS] at hc
  split at hc
  ·rename_i d i l hd hi hl
   cases hc
   simp only [AA] at hv
   split at hv
   ·rename_i v us h1 h2
    cases hv
    obtain ⟨xs,g1,g2⟩:=Io hR hE rs l us hl h2
    have:∃ x ad,tmps.getD a Go.undef=.pointer (some ad)∧(loadVar t ad).run P w=.ok x w∧VR φ I v x:=by
     simp only [AE] at h1
     split at h1
     ·rename_i id off hp
      split at h1
      ·rename_i cs p hg
       obtain ⟨b,o',hρ,_,hcc⟩:=RP hR hg (hE a _ hp).2
       obtain ⟨x',hr,hv⟩:=HK hd hi hcc h1
       exact ⟨x',_,hρ,hr,hv⟩
      ·cases h1
     ·rename_i cs off hp
      obtain ⟨b,o',hρ,hcc⟩:=RO hR (hE a _ hp).2
      obtain ⟨x',hr,hv⟩:=HK hd hi hcc h1
      exact ⟨x',_,hρ,hr,hv⟩
     ·cases h1
    obtain ⟨x,ad,e1,e2,e3⟩:=this
    exact ⟨x::xs,by simp [List.mapM_cons,g1,e1,asAddr,e2,Vh],.cons e3 g2⟩
   ·cases hv
  ·cases hc
theorem Ov {φ:Phi} {I:Imm} {vs:List AV} {xs:List Value} (h:VRL φ I vs xs):VR φ I (AF vs) (KM xs):=by
 obtain ⟨hl,hx⟩:=h
 match vs,xs,hl with
 | [],[],_=>exact .tup [] _ rfl (fun i c v h=>by simp at h)
 | [v],[x],_=>exact hx 0 v x rfl rfl
 | v::u::r,x::y::s,hl=>exact .tup _ _ (by simpa using hl) (fun i c v h1 h2=>hx i c v h1 (by simpa using h2))
theorem Pq {φ:Phi} {I:Imm} {h:H} {w:World} (hR:R φ I h w) {id:Nat} (hb:bar≤id):R φ I (h.kill id) w∧Stp bar φ I h w φ I (h.kill id) w:=by
 have hget:∀ i x,(h.kill id).get i=some x→h.get i=some x:=fun i x hx=>by
  simp only [H.kill] at hx
  split at hx
  ·cases hx
  ·exact hx
 refine ⟨hR.sub rfl hget,.refl _,.refl _,Nat.le_refl _,fun _ _ _=>rfl,fun i x hb hl hp=>.inr ⟨i,x,hb,?_,hp,rfl⟩,fun i hi=>?_,Nat.le_refl _,rfl,rfl,fun _ _ _ hv=>.inl hv⟩
 ·cases hk:(h.kill id).get i with
  | none=>exact absurd hk hl
  | some y=>rw [hget i y hk];simp
 ·have:i≠id:=by omega
  simp [H.kill,this]
theorem Ot {φ:Phi} {I:Imm} {w:World} {e:Env}:∀ (l:List Nat) (h:H),R φ I h w→R φ I (AH bar e l h) w∧Stp bar φ I h w φ I (AH bar e l h) w
 | [],h,hR=>⟨hR,.refl _ _ _ _ _⟩
 | i::l,h,hR=>by
  simp only [AH]
  have key:∀ h',R φ I h' w→Stp bar φ I h w φ I h' w→R φ I (AH bar e l h') w∧Stp bar φ I h w φ I (AH bar e l h') w:=fun h' h1 h2 =>
   let ⟨a,b⟩:=Ot l h' h1
   ⟨a,h2.trans b⟩
  split
  ·split
   ·rename_i hb
    exact key _ (Pq hR hb).1 (Pq hR hb).2
   ·exact key _ hR (.refl _ _ _ _ _)
  ·exact key _ hR (.refl _ _ _ _ _)
structure FunOk (P:Program) (G:Glob) (pu:Nat→Bool) (f:Nat) (F:IFun):Prop where
 ok:∃ fn c,P.funcs[f]? = some fn∧fn.body=some c∧fn.name ≠ "runtime.NumGoroutine" ∧ BO P G pu fn.ntmps c=some (Gp F.body)∧HS P fn.results.toList=some F.results∧F.nargs≤fn.ntmps
theorem Xp (args:List AV) (t:Nat):(AO args).get t=args[t]?:=by
 have key:∀ (l:List AV) (k t:Nat),Env.get ((l.zipIdx k).map fun x=>(x.2,x.1)) t=if k≤t then l[t - k]? else none:=by
  intro l
  induction l with
  | nil=>intro k t;simp [Env.get]
  | cons v r ih =>
   intro k t
   simp only [List.zipIdx_cons,List.map_cons,Env.get]
   by_cases h:k=t
   ·subst h;simp
   ·rw [if_neg (fun hh=>h hh.symm),ih]
    by_cases h1:k+1≤t
    ·rw [if_pos h1,if_pos (by omega)]
     have:t - k=(t - (k+1))+1:=by omega
     rw [this];simp
    ·rw [if_neg h1,if_neg (by omega)]
 have:=key args 0 t
 simpa [AO] using this
theorem Tv (hm:P.follows .mixedOrders=true) (ho:Ho P G o) {f:Nat} {F:IFun} (hp:Is o pu) (hF:FunOk P G pu f F) {args:List AV} {h h':H} {r:AV} (hc:BK o F args bar h=some (r,h')):WJ P G f args bar h r h':=by
 obtain ⟨fn,c,hf,hb,hname,hcomp,hres,hn⟩:=hF.ok
 refine ⟨⟨fn,hf,by rw [hb];rfl,hname⟩,fun φ I w vs hR hG hargs hbar=>?_⟩
 unfold BK at hc
 split at hc
 ·rename_i hlen
  simp only at hc
  generalize hb':(if F.pure=true then h.n else bar)=b' at hc
  have hbh:b'≤h.n:=by rw [← hb'];split<;>omega
  split at hc
  ·rename_i x e h1 hex
   have hvl:vs.length=args.length:=hargs.1.symm
   refine calls_of_wp hf hb ?_
   have hrel:Rel G fn.ntmps b' φ I h w (AO args) h { tmps:=vs.toArray++Array.replicate (fn.ntmps - vs.toArray.size) Go.undef,defers:=[] } w:=by
    refine ⟨⟨φ,I,hR,fun t v hv=>?_,hG,.refl _ _ _ _ _⟩,rfl,by simp;omega,hbh⟩
    rw [Xp] at hv
    obtain ⟨x,hx,hr⟩:=hargs.get hv
    have hlt:=(List.getElem?_eq_some_iff.1 hx).1
    refine ⟨by simp;omega,?_⟩
    have:(vs.toArray++Array.replicate (fn.ntmps - vs.toArray.size) Go.undef).getD t Go.undef=x:=by
     rw [Array.getD_eq_getD_getElem?,Array.getElem?_append_left (by simpa using hlt)]
     simp [hx]
    rw [this];exact hr
   refine VO hm ho hp F.body c _ _ _ _ _ _ _ _ hcomp hex hrel fun a' w' r'=>?_
   obtain ⟨φ1,I1,hR1,hE1,hG1,hS1⟩:=r'.ex
   have hfin:∃ xs,(results fn a'.tmps).run P w'=.ok (KM xs) w'∧∃ v φ2 I2,(KM xs)=v∧R φ2 I2 h' w'∧VR φ2 I2 r v∧Stp bar φ I h w φ2 I2 h' w':=by
    have hc2:(match AA e h1 F.results with
      | none=>none
      | some vs=>match (if F.frz then AD b' 4 h1 vs else some (vs,h1)) with
       | none=>none
       | some (vs,h2)=>if F.pure then (if AV.free.freeL vs then some (AF vs,h) else none) else some (AF vs,AH b' e F.drop h2))=some (r,h'):=by
     cases x with
     | exit id=>cases hc
     | normal=>exact hc
     | ret=>exact hc
    split at hc2
    ·cases hc2
    ·rename_i us hus
     obtain ⟨xs,hrun,hxs⟩:=Io (P:=P) hR1 hE1 _ _ _ hres hus
     refine ⟨xs,UU hrun,?_⟩
     split at hc2
     ·cases hc2
     ·rename_i us2 h2 hfz
      have hI2:∃ I2,R φ1 I2 h2 w'∧VRL φ1 I2 us2 xs∧Stp b' φ1 I1 h1 w' φ1 I2 h2 w':=by
       split at hfz
       ·exact (Nh 4).2 us I1 h1 h2 us2 xs hfz hR1 hxs
       ·cases hfz
        exact ⟨I1,hR1,hxs,.refl _ _ _ _ _⟩
      obtain ⟨I2,hR2,hxs2,hS2⟩:=hI2
      have hS:=hS1.trans hS2
      split at hc2
      ·rename_i hpure
       split at hc2
       ·rename_i hfree
        cases hc2
        have hbn:b'=h.n:=by rw [← hb',if_pos hpure]
        subst hbn
        have hRb:=R.back hR hR2 hS
        have hv:VR φ I2 (AF us2) (KM xs):=by
         refine Ov ⟨hxs2.1,fun i c v h1 h2=>(hxs2.2 i c v h1 h2).free ?_⟩
         exact Wc us2 hfree i c h1
        exact ⟨_,φ,I2,rfl,hRb,hv,Stp.back hR hS⟩
       ·cases hc2
      ·rename_i hpure
       cases hc2
       have hbn:b'=bar:=by rw [← hb',if_neg hpure]
       subst hbn
       obtain ⟨k1,k2⟩:=Ot (bar:=b') (e:=e) F.drop h2 hR2
       exact ⟨_,φ1,I2,rfl,k1,Ov hxs2,hS.trans k2⟩
   obtain ⟨xs,hrun,v,φ2,I2,rfl,q1,q2,q3⟩:=hfin
   cases x with
   | normal=>exact ⟨r'.defers,_,hrun,_,φ2,I2,rfl,q1,q2,q3⟩
   | ret=>exact ⟨r'.defers,_,hrun,_,φ2,I2,rfl,q1,q2,q3⟩
   | exit id=>cases hc
  ·cases hc
 ·cases hc
end
end Go.Ev
namespace Go.Ev
open Go
def Oracle.Le (o o':Oracle):Prop:=∀ f args bar h r,o f args bar h=some r→o' f args bar h=some r
section
variable {o o':Oracle} {bar:Nat}
theorem Fq (hl:o.Le o') {e:Env} {h:H} {op:IOp} {r:AV × H} (hr:Ae o bar e h op=some r):Ae o' bar e h op=some r:=by
 cases op with
 | call f xs =>
  simp only [Ae] at hr ⊢
  split at hr
  ·exact hl _ _ _ _ _ hr
  ·cases hr
 | _=>exact hr
theorem CA (hl:o.Le o'):∀ (il:List IOper) (e:Env) (h:H) (r:Env × H),BQ o bar il e h=some r→BQ o' bar il e h=some r
 | [],e,h,r,hr=>hr
 | x::il,e,h,r,hr=>by
  simp only [BQ] at hr ⊢
  split at hr
  ·rename_i hw
   split at hr
   ·rename_i v h1 h2
    simp only [Fq hl h2]
    exact CA hl il _ _ _ hr
   ·cases hr
  ·exact CA hl il _ _ _ hr
  ·cases hr
theorem KR (hl:o.Le o') {il:List IOper} {e:Env} {h:H} {p:Nat × Nat} (hs:KY o bar il e h p):KY o' bar il e h p:=by
 obtain ⟨y,e1,h1,h2,e2,g1,g2,g3,g4⟩:=hs
 refine ⟨y,e1,h1,h2,e2,g1,CA hl _ _ _ _ g2,CA hl _ _ _ _ g3,?_⟩
 rcases g4 with g4 | ⟨v,h3,g5,g6⟩
 ·exact .inl g4
 ·refine .inr ⟨v,h3,Fq hl g5,?_⟩
  split at g6
  ·rename_i hm;rw [if_pos hm];exact g6
  ·rename_i hm;rw [if_neg hm];obtain ⟨h4,g6⟩:=g6;exact ⟨h4,Fq hl g6⟩
theorem Hv {S R:Type} {f g:S→Option (S ⊕ R)} (hl:∀ s r,f s=some r→g s=some r):∀ (n:Nat) (s:S) (r:R),Bm f n s=some r→Bm g n s=some r
 | 0,s,r,h=>by simp [Bm] at h
 | n+1,s,r,h=>by
  simp only [Bm] at h ⊢
  split at h
  ·rename_i s' hs;rw [hl _ _ hs];exact Hv hl n _ _ h
  ·rename_i r' hs;rw [hl _ _ hs];exact h
  ·cases h
theorem JS {S R:Type} {f:S→Option (S ⊕ R)}:∀ (n m:Nat) (s:S) (r:R),Bm f n s=some r→Bm f (n+m) s=some r
 | 0,m,s,r,h=>by simp [Bm] at h
 | n+1,m,s,r,h=>by
  rw [show n+1+m=n+m+1 by omega]
  simp only [Bm] at h ⊢
  split at h
  ·exact JS n m _ _ h
  ·exact h
  ·cases h
theorem Il {S R:Type} {f:S→Option (S ⊕ R)} {s:S} {r:R} {n:Nat} (h:Bm f n s=some r):ER f s=some r:=by
 have hx:∃ r n,Bm f n s=some r:=⟨r,n,h⟩
 unfold ER
 rw [dif_pos hx]
 obtain ⟨m,hm⟩:=Classical.choose_spec hx
 have h1:=JS n m s _ h
 have h2:=JS m n s _ hm
 rw [Nat.add_comm] at h2
 rw [h1] at h2
 exact h2.symm
theorem PC {S R:Type} {f g:S→Option (S ⊕ R)} (hl:∀ s r,f s=some r→g s=some r) {s:S} {r:R} (h:ER f s=some r):ER g s=some r:=by
 obtain ⟨n,hn⟩:=GA h
 exact Il (Hv hl n _ _ hn)
theorem FA (hl:o.Le o'):∀ (ic:IC) (e:Env) (h:H) (r:Ex × Env × H),BE o bar ic e h=some r→BE o' bar ic e h=some r:=by
 intro ic
 induction ic with
 | skip | exit | ret=>intro e h r hr;exact hr
 | bad=>intro e h r hr;exact hr
 | reg il =>
  intro e h r hr
  simp only [BE] at hr ⊢
  split at hr
  ·rename_i e' h' h1;rw [CA hl _ _ _ _ h1];exact hr
  ·cases hr
 | regW il chk =>
  intro e h r hr
  simp only [BE] at hr ⊢
  split at hr
  ·rename_i e' h' h1
   rw [CA hl _ _ _ _ h1]
   split at hr
   ·rename_i hs
    simp only
    rw [if_pos fun p hp=>KR hl (hs p hp)];exact hr
   ·cases hr
  ·cases hr
 | seq a b iha ihb =>
  intro e h r hr
  simp only [BE] at hr ⊢
  split at hr
  ·rename_i e' h' h1;rw [iha _ _ _ h1];exact ihb _ _ _ hr
  ·rename_i hn
   rw [iha _ _ _ hr]
   split
   ·rename_i e' h' h1;cases h1;exact absurd hr (hn _ _)
   ·rfl
 | cond c a b iha ihb =>
  intro e h r hr
  simp only [BE] at hr ⊢
  split at hr
  ·rename_i t ht
   cases t with
   | true=>simpa using iha _ _ _ (by simpa using hr)
   | false=>simpa using ihb _ _ _ (by simpa using hr)
  ·cases hr
 | block id b ih =>
  intro e h r hr
  simp only [BE] at hr ⊢
  split at hr
  ·rename_i j e' h' h1;rw [ih _ _ _ h1];exact hr
  ·rename_i hn
   rw [ih _ _ _ hr]
   split
   ·rename_i j e' h' h1;cases h1;exact absurd hr (hn _ _ _)
   ·rfl
 | loop b ih =>
  intro e h r hr
  simp only [BE] at hr ⊢
  refine PC (fun s r hs=>?_) hr
  split at hs
  ·rename_i e' h' h1;rw [ih _ _ _ h1];exact hs
  ·rename_i r' hn h1;rw [ih _ _ _ h1]
   split
   ·rename_i h2;cases h2;exact (hn _ _ rfl).elim
   ·rename_i h2;cases h2;exact hs
   ·rename_i h2;cases h2
  ·cases hs
 | loopK l b ih =>
  intro e h r hr
  simp only [BE] at hr ⊢
  refine PC (fun s r hs=>?_) hr
  split at hs
  ·rename_i e' h' h1;rw [ih _ _ _ h1];exact hs
  ·rename_i r' hn h1;rw [ih _ _ _ h1]
   split
   ·rename_i h2;cases h2;exact (hn _ _ rfl).elim
   ·rename_i h2;cases h2;exact hs
   ·rename_i h2;cases h2
  ·cases hs
 | scope b ih=>intro e h r hr;exact ih _ _ _ hr
 | keep l b ih=>intro e h r hr;exact ih _ _ _ hr
 | frz l b ih =>
  intro e h r hr
  simp only [BE] at hr ⊢
  split at hr
  ·exact ih _ _ _ hr
  ·cases hr
theorem VC (hl:o.Le o') {F:IFun} {args:List AV} {h:H} {r:AV × H} (hr:BK o F args bar h=some r):BK o' F args bar h=some r:=by
 unfold BK at hr ⊢
 split at hr
 ·rename_i hn
  rw [if_pos hn]
  simp only at hr ⊢
  split at hr
  ·rename_i x e h1 h2
   rw [FA hl _ _ _ _ h2]
   exact hr
  ·cases hr
 ·cases hr
structure Lim (os:Nat→Oracle) (o:Oracle):Prop where
 up:∀ n,(os n).Le (os (n+1))
 le:∀ n,(os n).Le o
 ex:∀ f args bar h r,o f args bar h=some r→∃ n,os n f args bar h=some r
variable {os:Nat→Oracle}
theorem Lim.mono (L : Lim os o) {n m : Nat} (h : n ≤ m) : (os n).Le (os m) := by
  induction m with
  | zero => have : n = 0 := by omega
            subst this; exact fun _ _ _ _ _ h => h
  | succ m ih =>
    rcases Nat.lt_or_eq_of_le h with h1 | h1
    · exact fun f a b h r hr => L.up m _ _ _ _ _ (ih (by omega) f a b h r hr)
    · subst h1; exact fun _ _ _ _ _ h => h
theorem OD (L:Lim os o) {e:Env} {h:H} {op:IOp} {r:AV × H} (hr:Ae o bar e h op=some r):∃ n,Ae (os n) bar e h op=some r:=by
 cases op with
 | call f xs =>
  simp only [Ae] at hr ⊢
  split at hr
  ·exact L.ex _ _ _ _ _ hr
  ·cases hr
 | _=>exact ⟨0,hr⟩
theorem Gn (L:Lim os o):∀ (il:List IOper) (e:Env) (h:H) (r:Env × H),BQ o bar il e h=some r→∃ n,BQ (os n) bar il e h=some r
 | [],e,h,r,hr=>⟨0,hr⟩
 | x::il,e,h,r,hr=>by
  simp only [BQ] at hr ⊢
  split at hr
  ·rename_i hw
   split at hr
   ·rename_i v h1 h2
    obtain ⟨n,hn⟩:=OD L h2
    obtain ⟨m,hm⟩:=Gn L il _ _ _ hr
    refine ⟨max n m,?_⟩
    rw [Fq (L.mono (Nat.le_max_left n m)) hn]
    exact CA (L.mono (Nat.le_max_right n m)) _ _ _ _ hm
   ·cases hr
  ·exact Gn L il _ _ _ hr
  ·cases hr
theorem Yd (L:Lim os o) {il:List IOper} {e:Env} {h:H} {p:Nat × Nat} (hs:KY o bar il e h p):∃ n,KY (os n) bar il e h p:=by
 obtain ⟨y,e1,h1,h2,e2,g1,g2,g3,g4⟩:=hs
 obtain ⟨n,hn⟩:=Gn L _ _ _ _ g2
 obtain ⟨m,hm⟩:=Gn L _ _ _ _ g3
 rcases g4 with g4 | ⟨v,h3,g5,g6⟩
 ·exact ⟨max n m,y,e1,h1,h2,e2,g1,CA (L.mono (Nat.le_max_left n m)) _ _ _ _ hn,CA (L.mono (Nat.le_max_right n m)) _ _ _ _ hm,.inl g4⟩
 ·obtain ⟨p,hp⟩:=OD L g5
  by_cases hmk:IY y.op=true
  ·rw [if_pos hmk] at g6
   exact ⟨max (max n m) p,y,e1,h1,h2,e2,g1,CA (L.mono (by omega)) _ _ _ _ hn,CA (L.mono (by omega)) _ _ _ _ hm,.inr ⟨v,h3,Fq (L.mono (by omega)) hp,by rw [if_pos hmk];exact g6⟩⟩
  ·rw [if_neg hmk] at g6
   obtain ⟨h4,g6⟩:=g6
   obtain ⟨q,hq⟩:=OD L g6
   exact ⟨max (max n m) (max p q),y,e1,h1,h2,e2,g1,CA (L.mono (by omega)) _ _ _ _ hn,CA (L.mono (by omega)) _ _ _ _ hm,.inr ⟨v,h3,Fq (L.mono (by omega)) hp,by rw [if_neg hmk];exact ⟨h4,Fq (L.mono (by omega)) hq⟩⟩⟩
theorem Rh (L:Lim os o) {il:List IOper} {e:Env} {h:H}:∀ chk:List (Nat × Nat),(∀ p ∈ chk,KY o bar il e h p)→∃ n,∀ p ∈ chk,KY (os n) bar il e h p
 | [],_=>⟨0,fun p hp=>by cases hp⟩
 | p::r,hs=>by
  obtain ⟨n,hn⟩:=Yd L (hs p (by simp))
  obtain ⟨m,hm⟩:=Rh L r fun q hq=>hs q (by simp [hq])
  refine ⟨max n m,fun q hq=>?_⟩
  rcases List.mem_cons.1 hq with rfl | hq
  ·exact KR (L.mono (Nat.le_max_left n m)) hn
  ·exact KR (L.mono (Nat.le_max_right n m)) (hm q hq)
theorem Xq (L:Lim os o):∀ (ic:IC) (e:Env) (h:H) (r:Ex × Env × H),BE o bar ic e h=some r→∃ n,BE (os n) bar ic e h=some r:=by
 intro ic
 induction ic with
 | skip | exit | ret=>intro e h r hr;exact ⟨0,hr⟩
 | bad=>intro e h r hr;exact ⟨0,hr⟩
 | reg il =>
  intro e h r hr
  simp only [BE] at hr ⊢
  split at hr
  ·rename_i e' h' h1
   obtain ⟨n,hn⟩:=Gn L _ _ _ _ h1
   exact ⟨n,by rw [hn];exact hr⟩
  ·cases hr
 | regW il chk =>
  intro e h r hr
  simp only [BE] at hr ⊢
  split at hr
  ·rename_i e' h' h1
   obtain ⟨n,hn⟩:=Gn L _ _ _ _ h1
   split at hr
   ·rename_i hs
    obtain ⟨m,hm⟩:=Rh L chk hs
    refine ⟨max n m,?_⟩
    rw [CA (L.mono (Nat.le_max_left n m)) _ _ _ _ hn]
    simp only
    rw [if_pos fun p hp=>KR (L.mono (Nat.le_max_right n m)) (hm p hp)];exact hr
   ·cases hr
  ·cases hr
 | seq a b iha ihb =>
  intro e h r hr
  simp only [BE] at hr ⊢
  split at hr
  ·rename_i e' h' h1
   obtain ⟨n,hn⟩:=iha _ _ _ h1
   obtain ⟨m,hm⟩:=ihb _ _ _ hr
   refine ⟨max n m,?_⟩
   rw [FA (L.mono (Nat.le_max_left n m)) _ _ _ _ hn]
   exact FA (L.mono (Nat.le_max_right n m)) _ _ _ _ hm
  ·rename_i hn
   obtain ⟨m,hm⟩:=iha _ _ _ hr
   refine ⟨m,?_⟩
   rw [hm]
   split
   ·rename_i e' h' h1;cases h1;exact absurd hr (hn _ _)
   ·rfl
 | cond c a b iha ihb =>
  intro e h r hr
  simp only [BE] at hr ⊢
  split at hr
  ·rename_i t ht
   cases t with
   | true=>simpa using iha _ _ _ (by simpa using hr)
   | false=>simpa using ihb _ _ _ (by simpa using hr)
  ·cases hr
 | block id b ih =>
  intro e h r hr
  simp only [BE] at hr ⊢
  split at hr
  ·rename_i j e' h' h1
   obtain ⟨n,hn⟩:=ih _ _ _ h1
   exact ⟨n,by rw [hn];exact hr⟩
  ·rename_i hn
   obtain ⟨m,hm⟩:=ih _ _ _ hr
   refine ⟨m,?_⟩
   rw [hm]
   split
   ·rename_i j e' h' h1;cases h1;exact absurd hr (hn _ _ _)
   ·rfl
 | loop b ih =>
  intro e h r hr
  simp only [BE] at hr ⊢
  obtain ⟨n,hn⟩:=GA hr
  have:∃ m,Bm (fun s:Env × H=>match BE (os m) bar b s.1 s.2 with
   | some (.normal,e',h')=>some (.inl (e',h'))
   | some r=>some (.inr r)
   | none=>none) n (e,h)=some r:=by
   clear hr
   induction n generalizing e h with
   | zero=>simp [Bm] at hn
   | succ n ihn =>
    simp only [Bm] at hn ⊢
    cases hx:BE o bar b e h with
    | none=>rw [hx] at hn;simp at hn
    | some q =>
     obtain ⟨y,e1,h1⟩:=q
     obtain ⟨m,hm⟩:=ih _ _ _ hx
     rw [hx] at hn
     cases y with
     | normal =>
      obtain ⟨p,hp⟩:=ihn e1 h1 (by simpa using hn)
      refine ⟨max m p,?_⟩
      rw [FA (L.mono (Nat.le_max_left m p)) _ _ _ _ hm]
      simp only
      refine Hv (fun s r hs=>?_) n _ _ hp
      split at hs
      ·rename_i e' h' h1;rw [FA (L.mono (Nat.le_max_right m p)) _ _ _ _ h1];exact hs
      ·rename_i r' hn h1;rw [FA (L.mono (Nat.le_max_right m p)) _ _ _ _ h1]
       split
       ·rename_i h2;cases h2;exact (hn _ _ rfl).elim
       ·rename_i h2;cases h2;exact hs
       ·rename_i h2;cases h2
      ·cases hs
     | exit id=>exact ⟨m,by rw [hm];simpa using hn⟩
     | ret=>exact ⟨m,by rw [hm];simpa using hn⟩
  obtain ⟨m,hm⟩:=this
  exact ⟨m,Il hm⟩
 | loopK l b ih =>
  intro e h r hr
  simp only [BE] at hr ⊢
  obtain ⟨n,hn⟩:=GA hr
  have:∃ m,Bm (fun s:Env × H=>match BE (os m) bar b s.1 s.2 with
   | some (.normal,e',h')=>some (.inl (e'.keep l,h'))
   | some r=>some (.inr r)
   | none=>none) n (e.keep l,h)=some r:=by
   clear hr
   generalize e.keep l=e at hn
   induction n generalizing e h with
   | zero=>simp [Bm] at hn
   | succ n ihn =>
    simp only [Bm] at hn ⊢
    cases hx:BE o bar b e h with
    | none=>rw [hx] at hn;simp at hn
    | some q =>
     obtain ⟨y,e1,h1⟩:=q
     obtain ⟨m,hm⟩:=ih _ _ _ hx
     rw [hx] at hn
     cases y with
     | normal =>
      obtain ⟨p,hp⟩:=ihn _ _ (by simpa using hn)
      refine ⟨max m p,?_⟩
      rw [FA (L.mono (Nat.le_max_left m p)) _ _ _ _ hm]
      simp only
      refine Hv (fun s r hs=>?_) n _ _ hp
      split at hs
      ·rename_i e' h' h1;rw [FA (L.mono (Nat.le_max_right m p)) _ _ _ _ h1];exact hs
      ·rename_i r' hn h1;rw [FA (L.mono (Nat.le_max_right m p)) _ _ _ _ h1]
       split
       ·rename_i h2;cases h2;exact (hn _ _ rfl).elim
       ·rename_i h2;cases h2;exact hs
       ·rename_i h2;cases h2
      ·cases hs
     | exit id=>exact ⟨m,by rw [hm];simpa using hn⟩
     | ret=>exact ⟨m,by rw [hm];simpa using hn⟩
  obtain ⟨m,hm⟩:=this
  exact ⟨m,Il hm⟩
 | scope b ih=>intro e h r hr;exact ih _ _ _ hr
 | keep l b ih=>intro e h r hr;exact ih _ _ _ hr
 | frz l b ih =>
  intro e h r hr
  simp only [BE] at hr ⊢
  split at hr
  ·exact ih _ _ _ hr
  ·cases hr
theorem WN (L:Lim os o) {F:IFun} {args:List AV} {h:H} {r:AV × H} (hr:BK o F args bar h=some r):∃ n,BK (os n) F args bar h=some r:=by
 unfold BK at hr ⊢
 split at hr
 ·rename_i hn
  simp only at hr ⊢
  split at hr
  ·rename_i x e h1 h2
   obtain ⟨n,hn'⟩:=Xq L _ _ _ _ h2
   exact ⟨n,by rw [if_pos hn,hn'];exact hr⟩
  ·cases hr
 ·cases hr
end
noncomputable def FS (tb:Nat→Option IFun) (pr:Oracle):Nat→Oracle
 | 0,f,args,bar,h=>match tb f with | some _=>none | none=>pr f args bar h
 | n+1,f,args,bar,h=>match tb f with | some F=>BK (FS tb pr n) F args bar h | none=>pr f args bar h
theorem Sl (tb:Nat→Option IFun) (pr:Oracle):∀ n,(FS tb pr n).Le (FS tb pr (n+1))
 | 0,f,args,bar,h,r,hr=>by
  simp only [FS] at hr ⊢
  cases ht:tb f with
  | none=>rw [ht] at hr;exact hr
  | some F=>rw [ht] at hr;cases hr
 | n+1,f,args,bar,h,r,hr=>by
  unfold FS at hr ⊢
  cases ht:tb f with
  | none=>rw [ht] at hr;exact hr
  | some F=>rw [ht] at hr;exact VC (Sl tb pr n) hr
open Classical in
noncomputable def call (tb:Nat→Option IFun) (pr:Oracle):Oracle:=fun f args bar h =>
 if hx:∃ r n,FS tb pr n f args bar h=some r then some (Classical.choose hx) else none
theorem Ll (tb : Nat → Option IFun) (pr : Oracle) : Lim (FS tb pr) (call tb pr) := by
  have hup := Sl tb pr
  have hle : ∀ n m, n ≤ m → (FS tb pr n).Le (FS tb pr m) := by
    intro n m h
    induction m with
    | zero => have : n = 0 := by omega
              subst this; exact fun _ _ _ _ _ h => h
    | succ m ih =>
      rcases Nat.lt_or_eq_of_le h with h1 | h1
      · exact fun f a b h r hr => hup m _ _ _ _ _ (ih (by omega) f a b h r hr)
      · subst h1; exact fun _ _ _ _ _ h => h
  refine ⟨hup, fun n f args bar h r hr => ?_, fun f args bar h r hr => ?_⟩
  · have hx : ∃ r n, FS tb pr n f args bar h = some r := ⟨r, n, hr⟩
    unfold call
    rw [dif_pos hx]
    obtain ⟨m, hm⟩ := Classical.choose_spec hx
    have h1 := hle n (max n m) (Nat.le_max_left _ _) _ _ _ _ _ hr
    have h2 := hle m (max n m) (Nat.le_max_right _ _) _ _ _ _ _ hm
    rw [h1] at h2
    exact h2.symm
  · unfold call at hr
    split at hr
    · rename_i hx
      cases hr
      exact Classical.choose_spec hx
    · cases hr
theorem AQ {tb:Nat→Option IFun} {pr:Oracle} {f:Nat} {F:IFun} (ht:tb f=some F) {args:List AV} {bar:Nat} {h:H} {r:AV × H} (hr:BK (call tb pr) F args bar h=some r):call tb pr f args bar h=some r:=by
 obtain ⟨n,hn⟩:=WN (Ll tb pr) hr
 refine (Ll tb pr).le (n+1) _ _ _ _ _ ?_
 simp only [FS,ht]
 exact hn
theorem RM {tb:Nat→Option IFun} {pr:Oracle} {f:Nat} (ht:tb f=none) {args:List AV} {bar:Nat} {h:H} {r:AV × H} (hr:pr f args bar h=some r):call tb pr f args bar h=some r:=by
 refine (Ll tb pr).le 0 _ _ _ _ _ ?_
 simp only [FS,ht]
 exact hr
structure TabOk (P:Program) (G:Glob) (pu:Nat→Bool) (tb:Nat→Option IFun) (pr:Oracle):Prop where
 mixed:P.follows .mixedOrders=true
 funs:∀ f F,tb f=some F→FunOk P G pu f F
 prims:Ho P G pr
 pureF:∀ f F,pu f=true→tb f=some F→F.pure=true
 pureP:Is pr pu
theorem VD {o:Oracle} {F:IFun} (hF:F.pure=true) {args:List AV} {bar:Nat} {h h':H} {r:AV} (hr:BK o F args bar h=some (r,h')):h'=h:=by
 unfold BK at hr
 split at hr
 ·simp only [hF,if_true] at hr
  split at hr
  ·rename_i x e h1 h2
   cases x<;>simp only at hr
   ·split at hr
    ·cases hr
    ·split at hr
     ·cases hr
     ·split at hr<;>cases hr
      rfl
   ·cases hr
   ·split at hr
    ·cases hr
    ·split at hr
     ·cases hr
     ·split at hr<;>cases hr
      rfl
  ·cases hr
 ·cases hr
theorem Sk {P:Program} {G:Glob} {pu:Nat→Bool} {tb:Nat→Option IFun} {pr:Oracle} (T:TabOk P G pu tb pr):∀ n,Ho P G (FS tb pr n)∧Is (FS tb pr n) pu
 | 0=>by
  refine ⟨fun f args bar h r h' hr=>?_,fun f args bar h r h' hp hr=>?_⟩<;>simp only [FS] at hr<;>cases ht:tb f with
  | some F=>rw [ht] at hr;cases hr
  | none=>rw [ht] at hr;first | exact T.prims _ _ _ _ _ _ hr | exact T.pureP _ _ _ _ _ _ hp hr
 | n+1=>by
  obtain ⟨h1,h2⟩:=Sk T n
  refine ⟨fun f args bar h r h' hr=>?_,fun f args bar h r h' hp hr=>?_⟩<;>simp only [FS] at hr<;>cases ht:tb f with
  | some F=>rw [ht] at hr;first | exact Tv T.mixed h1 h2 (T.funs f F ht) hr | exact VD (T.pureF f F hp ht) hr
  | none=>rw [ht] at hr;first | exact T.prims _ _ _ _ _ _ hr | exact T.pureP _ _ _ _ _ _ hp hr
theorem VE {P:Program} {G:Glob} {pu:Nat→Bool} {tb:Nat→Option IFun} {pr:Oracle} (T:TabOk P G pu tb pr):Ho P G (call tb pr):=fun f args bar h r h' hr=>by
 obtain ⟨n,hn⟩:=(Ll tb pr).ex _ _ _ _ _ hr
 exact (Sk T n).1 _ _ _ _ _ _ hn
end Go.Ev
namespace Go.Ev
open Go
section
variable {o:Oracle} {bar:Nat}
noncomputable def KP (o:Oracle) (bar:Nat) (l:List Nat) (b:IC) (s:Env × H):Option ((Env × H) ⊕ (Ex × Env × H)) :=
 match BE o bar b s.1 s.2 with
 | some (.normal,e',h')=>some (.inl (e'.keep l,h'))
 | some r=>some (.inr r)
 | none=>none
theorem WH {S R:Type} {f:S→Option (S ⊕ R)} {s s':S} {r:R} (h:f s=some (.inl s')) (hr:ER f s'=some r):ER f s=some r:=by
 obtain ⟨n,hn⟩:=GA hr
 exact Il (n:=n+1) (by simp only [Bm,h];exact hn)
theorem Ro {S R:Type} {f:S→Option (S ⊕ R)} {s:S} {r:R} (h:f s=some (.inr r)):ER f s=some r :=
 Il (n:=1) (by simp only [Bm,h])
theorem Wp {l:List Nat} {b:IC} {e e':Env} {h h':H} {r:Ex × Env × H} (hb:BE o bar b e h=some (.normal,e',h')) (hr:ER (KP o bar l b) (e'.keep l,h')=some r):ER (KP o bar l b) (e,h)=some r :=
 WH (by simp only [KP,hb]) hr
theorem Wo {l:List Nat} {b:IC} {e e':Env} {h h':H} {id:Nat} (hb:BE o bar b e h=some (.exit id,e',h')):ER (KP o bar l b) (e,h)=some (.exit id,e',h') :=
 Ro (by simp only [KP,hb])
theorem YD {l:List Nat} {b:IC} {e e':Env} {h h':H} (hb:BE o bar b e h=some (.ret,e',h')):ER (KP o bar l b) (e,h)=some (.ret,e',h') :=
 Ro (by simp only [KP,hb])
end
theorem FunOk.of {P:Program} {G:Glob} {pu:Nat→Bool} {f:Nat} {fn:Func} {F:IFun} (hf:P.funcs[f]? = some fn) (hb:fn.body.bind (BO P G pu fn.ntmps)=some (Gp F.body)) (hr:HS P fn.results.toList=some F.results)
  (hn:decide (F.nargs≤fn.ntmps)=true) (hm:(fn.name == "runtime.NumGoroutine")=false):FunOk P G pu f F:=by
 cases hc:fn.body with
 | none=>rw [hc] at hb;cases hb
 | some c =>
  rw [hc] at hb
  exact ⟨fn,c,hf,hc,by simpa using hm,hb,hr,by simpa using hn⟩
section
variable (o:Oracle) (bar:Nat)
def eS (op:IOp) (e:Env) (h:H) (K:AV→H→Prop):Prop:=match Ae o bar e h op with | some (v,h')=>K v h' | none=>False
def Rp:List IOper→Env→H→(Env→H→Prop)→Prop
 | [],e,h,K=>K e h
 | x::r,e,h,K=>match EJ e x.guard with
  | some true=>eS o bar x.op e h fun v h'=>Rp r (e.put x.dst v) h' K
  | some false=>Rp r (e.put x.dst .undef) h K
  | none=>False
noncomputable def CW (l:List Nat) (b:IC) (e:Env) (h:H) (Q:Ex→Env→H→Prop):Prop:=∃ r,ER (KP o bar l b) (e,h)=some r∧Q r.1 r.2.1 r.2.2
def QZ (K:Env→H→Prop) (Q:Ex→Env→H→Prop):Ex→Env→H→Prop
 | .normal=>K
 | x=>Q x
def Sj (id:Nat) (Q:Ex→Env→H→Prop):Ex→Env→H→Prop
 | .exit j=>if j=id then Q .normal else Q (.exit j)
 | x=>Q x
noncomputable def IH:IC→Env→H→(Ex→Env→H→Prop)→Prop
 | .skip,e,h,Q=>Q .normal e h
 | .reg il,e,h,Q=>Rp o bar il e h (Q .normal)
 | .regW il chk,e,h,Q=>(∀ p ∈ chk,KY o bar il e h p)∧Rp o bar il e h (Q .normal)
 | .seq a b,e,h,Q=>IH a e h (QZ (fun e h=>IH b e h Q) Q)
 | .cond c a b,e,h,Q=>match c.ev e with | some (.bool t)=>if t=true then IH a e h Q else IH b e h Q | _=>False
 | .block id b,e,h,Q=>IH b e h (Sj id Q)
 | .loopK l b,e,h,Q=>CW o bar l b (e.keep l) h Q
 | .scope b,e,h,Q=>IH b e h Q
 | .exit id,e,h,Q=>Q (.exit id) e h
 | .ret,e,h,Q=>Q .ret e h
 | .keep l b,e,h,Q=>IH b (e.keep l) h Q
 | .frz l b,e,h,Q=>match IM bar l e h with | some (e',h')=>IH b e' h' Q | none=>False
 | .loop _,_,_,_=>False
 | .bad,_,_,_=>False
end
section
variable {o:Oracle} {bar:Nat}
theorem KW:∀ (il:List IOper) (e:Env) (h:H) (K:Env→H→Prop),Rp o bar il e h K→∃ e' h',BQ o bar il e h=some (e',h')∧K e' h'
 | [],e,h,K,hw=>⟨e,h,rfl,hw⟩
 | x::il,e,h,K,hw=>by
  simp only [Rp] at hw
  simp only [BQ]
  split at hw
  ·rename_i hg
   unfold eS at hw
   split at hw
   ·rename_i v h1 hr
    simp only [hg,hr]
    exact KW il _ _ _ hw
   ·exact hw.elim
  ·rename_i hg
   simp only [hg]
   exact KW il _ _ _ hw
  ·exact hw.elim
theorem KV:∀ (ic:IC) (e:Env) (h:H) (Q:Ex→Env→H→Prop),IH o bar ic e h Q→∃ x e' h',BE o bar ic e h=some (x,e',h')∧Q x e' h':=by
 intro ic
 induction ic with
 | skip=>intro e h Q hw;exact ⟨_,_,_,rfl,hw⟩
 | exit id=>intro e h Q hw;exact ⟨_,_,_,rfl,hw⟩
 | ret=>intro e h Q hw;exact ⟨_,_,_,rfl,hw⟩
 | bad=>intro e h Q hw;exact hw.elim
 | loop b _=>intro e h Q hw;exact hw.elim
 | reg il =>
  intro e h Q hw
  obtain ⟨e',h',h1,h2⟩:=KW _ _ _ _ hw
  exact ⟨_,e',h',by simp only [BE,h1],h2⟩
 | regW il chk =>
  intro e h Q hw
  obtain ⟨hs,hw⟩:=hw
  obtain ⟨e',h',h1,h2⟩:=KW _ _ _ _ hw
  exact ⟨_,e',h',by simp only [BE,h1];rw [if_pos hs],h2⟩
 | seq a b iha ihb =>
  intro e h Q hw
  obtain ⟨x,e1,h1,g1,g2⟩:=iha _ _ _ hw
  cases x with
  | normal =>
   obtain ⟨y,e2,h2,g3,g4⟩:=ihb _ _ _ g2
   exact ⟨y,e2,h2,by simp only [BE,g1];exact g3,g4⟩
  | exit id=>exact ⟨_,e1,h1,by simp only [BE,g1],g2⟩
  | ret=>exact ⟨_,e1,h1,by simp only [BE,g1],g2⟩
 | cond c a b iha ihb =>
  intro e h Q hw
  simp only [IH] at hw
  split at hw
  ·rename_i t ht
   cases t with
   | true =>
    obtain ⟨x,e1,h1,g1,g2⟩:=iha _ _ _ (by simpa using hw)
    exact ⟨x,e1,h1,by simp only [BE,ht];simpa using g1,g2⟩
   | false =>
    obtain ⟨x,e1,h1,g1,g2⟩:=ihb _ _ _ (by simpa using hw)
    exact ⟨x,e1,h1,by simp only [BE,ht];simpa using g1,g2⟩
  ·exact hw.elim
 | block id b ih =>
  intro e h Q hw
  obtain ⟨x,e1,h1,g1,g2⟩:=ih _ _ _ hw
  cases x with
  | normal=>exact ⟨_,e1,h1,by simp only [BE,g1],g2⟩
  | ret=>exact ⟨_,e1,h1,by simp only [BE,g1],g2⟩
  | exit j =>
   simp only [Sj] at g2
   by_cases hj:j=id
   ·rw [if_pos hj] at g2;exact ⟨_,e1,h1,by simp only [BE,g1];rw [if_pos hj],g2⟩
   ·rw [if_neg hj] at g2;exact ⟨_,e1,h1,by simp only [BE,g1];rw [if_neg hj],g2⟩
 | loopK l b ih =>
  intro e h Q hw
  obtain ⟨⟨x,e1,h1⟩,g1,g2⟩:=hw
  exact ⟨x,e1,h1,g1,g2⟩
 | scope b ih=>intro e h Q hw;exact ih _ _ _ hw
 | keep l b ih=>intro e h Q hw;exact ih _ _ _ hw
 | frz l b ih =>
  intro e h Q hw
  simp only [IH] at hw
  split at hw
  ·rename_i e' h' hf
   obtain ⟨x,e1,h1,g1,g2⟩:=ih _ _ _ hw
   exact ⟨x,e1,h1,by simp only [BE,hf];exact g1,g2⟩
  ·exact hw.elim
theorem Xe {l:List Nat} {b:IC} {e:Env} {h:H} {Q:Ex→Env→H→Prop} (hw:IH o bar b e h (QZ (fun e' h'=>CW o bar l b (e'.keep l) h' Q) Q)):CW o bar l b e h Q:=by
 obtain ⟨x,e1,h1,g1,g2⟩:=KV _ _ _ _ hw
 cases x with
 | normal =>
  obtain ⟨r,g3,g4⟩:=g2
  exact ⟨r,Wp g1 g3,g4⟩
 | exit id=>exact ⟨_,Wo g1,g2⟩
 | ret=>exact ⟨_,YD g1,g2⟩
theorem cZ {l:List Nat} {b c:IC} {e:Env} {h:H} {Q:Ex→Env→H→Prop} (hb:b=c) (hw:IH o bar c e h (QZ (fun e' h'=>CW o bar l b (e'.keep l) h' Q) Q)):CW o bar l b e h Q:=by
 subst hb;exact Xe hw
def AN (F:IFun) (b:Nat) (r:AV):Ex→Env→H→Prop
 | .exit _,_,_=>False
 | _,e,h1=>∃ vs us h2,AA e h1 F.results=some vs∧(if F.frz=true then AD b 4 h1 vs else some (vs,h1))=some (us,h2)∧AV.free.freeL us=true∧AF us=r
theorem AZ {F:IFun} (hp:F.pure=true) {args:List AV} {h:H} {r:AV} (hn:args.length=F.nargs) (hw:IH o h.n F.body (AO args) h (AN F h.n r)):BK o F args bar h=some (r,h):=by
 obtain ⟨x,e,h1,g1,g2⟩:=KV _ _ _ _ hw
 unfold BK
 rw [if_pos hn]
 simp only [hp,if_true,g1]
 cases x with
 | exit id=>exact g2.elim
 | normal =>
  obtain ⟨vs,us,h2,k1,k2,k3,k4⟩:=g2
  simp only [k1,k2,k3,if_true,k4]
 | ret =>
  obtain ⟨vs,us,h2,k1,k2,k3,k4⟩:=g2
  simp only [k1,k2,k3,if_true,k4]
def AM (F:IFun) (b:Nat) (K:AV→H→Prop):Ex→Env→H→Prop
 | .exit _,_,_=>False
 | _,e,h1=>∃ vs us h2,AA e h1 F.results=some vs∧(if F.frz=true then AD b 4 h1 vs else some (vs,h1))=some (us,h2)∧K (AF us) (AH b e F.drop h2)
theorem JJ {F:IFun} (hp:F.pure=false) {args:List AV} {h:H} {K:AV→H→Prop} (hn:args.length=F.nargs) (hw:IH o bar F.body (AO args) h (AM F bar K)):∃ r h',BK o F args bar h=some (r,h')∧K r h':=by
 obtain ⟨x,e,h1,g1,g2⟩:=KV _ _ _ _ hw
 unfold BK
 rw [if_pos hn]
 simp only [hp,Bool.false_eq_true,if_false,g1]
 cases x with
 | exit id=>exact g2.elim
 | normal =>
  obtain ⟨vs,us,h2,k1,k2,k3⟩:=g2
  exact ⟨_,_,by simp only [k1,k2],k3⟩
 | ret =>
  obtain ⟨vs,us,h2,k1,k2,k3⟩:=g2
  exact ⟨_,_,by simp only [k1,k2],k3⟩
end
def BU (s:ByteArray):Nat→Nat→List (Nat × Nat)
 | 0,_=>[]
 | n+1,pos=>if pos<s.size then (pos,(Utf8.decode s pos).1)::BU s n (pos+(Utf8.decode s pos).2) else []
def runes (s:ByteArray):List (Nat × Nat):=BU s s.size 0
theorem Hq (s:ByteArray) (i:Nat):0<(Utf8.decode s i).2:=by
 unfold Utf8.decode
 simp only
 repeat' split
 all_goals (show 0<_;omega)
end Go.Ev
namespace Go.Ev
open Go Go.ChangeShapes Go.RowKit
def CX (w:World):Imm:=fun b j=>w.cell? ⟨b,j,none⟩
def H.none:H:=⟨0,fun _=>.none⟩
theorem ak (w:World):R (fun _=>.none) (CX w) H.none w :=
 ⟨fun _ _=>rfl,fun _ _=>rfl,fun i x h=>(by cases h),fun i j x y b s t s' t' h=>(by cases h),fun b j v h=>h⟩
section
variable {Hh:Type} {enc:TypeId × Value→Hh} {P:Program}
theorem YY {fn:Func} {s:ChangeSpec} {W W':World} {args:Array Value} {ds gs:List (DataW Hh)} {before:List MemPlace} {φ':Phi} {I':Imm} {h':H} {tb:TypeId}
  (hW:DataW.Whole enc P fn.params.toList s.vars false W args.toList ds gs before) (hvars:s.vars=[]) (hfn:∀ ds:List (DataW Hh),ds.length=fn.params.size→s.fn Hh ds={ results:=[.lit (.bool true)],args:=ds,vars:=[] })
  (hrt:fn.resultTypes=#[tb]) (htb:P.underlying tb=some .bool) {T:TypeId→Prop} (K:Kids P T) (hT:∀ t ∈ fn.params.toList,T t) (hz:∀ t e,T t→P.underlying t=some (.slice e)→0<P.cellsOf e)
  (hs:Stp 0 (fun _=>.none) (CX W) H.none W φ' I' h' W'):s.post enc P fn false true false false W args (.bool true) W':=by
 have hblk:∀ b,b<W.heap.size→W'.heap[b]? = W.heap[b]?:=fun b hb=>hs.frame b hb fun i _ hl=>absurd rfl hl
 have hlt:=hW.lt
 obtain ⟨p,q,hA,hV,hpq,hfz,hnd⟩:=hW
 rw [hvars] at hV
 obtain ⟨rfl,rfl⟩:=trodVars_none hV
 simp only [List.append_nil] at hpq
 subst hpq
 have hlen:∀ {ts:List TypeId} {vs:List Value} {ds:List (DataW Hh)} {ps:List MemPlace},DataW.TrodAll enc P W 0 (fun _=>true) true ts vs ds ps→ds.length=ts.length:=by
  intro ts
  induction ts with
  | nil=>intro vs ds ps h;obtain ⟨_,rfl,_⟩:=trodAll_nil h;rfl
  | cons t ts ih =>
   intro vs ds ps h
   obtain ⟨v,vs',d,ds',p,q,_,rfl,_,_,h2⟩:=trodAll_cons h
   simp [ih h2]
 have hf:=hfn ds (by simpa using hlen hA)
 have hsame:∀ m ∈ before,W.sameAt W' m:=fun m hm=>by
  have hb:=hlt m hm
  cases m with
  | cell b o=>exact World.cell?_of_block (w:=W) (hblk b hb)
  | map b=>exact hblk b hb
 have hcar:∀ {ts:List TypeId} {vs:List Value} {ds:List (DataW Hh)} {ps:List MemPlace},DataW.TrodAll enc P W 0 (fun _=>true) true ts vs ds ps→(∀ m ∈ ps,W.sameAt W' m)→DataW.TrodAll enc P W' 0 (fun _=>true) true ts vs ds ps:=by
  intro ts
  induction ts with
  | nil=>intro vs ds ps h _;obtain ⟨rfl,rfl,rfl⟩:=trodAll_nil h;rfl
  | cons t ts ih =>
   intro vs ds ps h hm
   obtain ⟨v,vs',d,ds',p,q,rfl,rfl,rfl,⟨n,h1⟩,h2⟩:=trodAll_cons h
   exact ⟨p,q,⟨n,DataW.trod_carry n _ _ _ h1 fun m hm'=>hm m (List.mem_append_left _ hm')⟩,ih h2 fun m hm'=>hm m (List.mem_append_right _ hm'),rfl⟩
 refine ⟨ds,[],before,[],before,[],⟨before,[],hA,by rw [hvars];exact hV,by simp,by simpa using hfz,hnd⟩,?_,?_,?_,⟨hs.os,hs.output,fun i hi=>?_⟩,fun h=>by cases h⟩
 ·simp only [List.append_nil,hf,hrt]
  exact trodAll_cons_mk (shut_bool htb true) trodAll_mk0
 ·simp only [List.append_nil,hf]
  exact (hcar hA hsame).respare K hz hT fun m hm=>by simpa using hlt m hm
 ·simp only [List.append_nil,hf,hvars]
  rfl
 ·rw [hblk i hi]
  split<;>simp_all
end
end Go.Ev
namespace Go.Ev
open Go Go.ChangeShapes Go.RowKit
def OT (P:Program) (pl:TypeId→Bool):Nat→List Field→Option Nat
 | off,[]=>some off
 | off,f::r=>if f.offset=off∧pl f.type=true then OT P pl (off+P.cellsOf f.type) r else none
def Fw (P:Program):Nat→TypeId→Bool
 | 0,_=>false
 | n+1,t=>match P.underlying t with
  | some .bool | some .string | some (.int _)=>decide (P.cellsOf t=1)
  | some (.slice e)=>decide (P.cellsOf t=1)&&(decide (0<P.cellsOf e)&&Fw P n e)
  | some (.struct fs)=>OT P (Fw P n) 0 fs.toList == some (P.cellsOf t)
  | _=>false
def Fits (P:Program):Nat→TypeId→List AV→Prop
 | 0,_,_=>False
 | n+1,t,as=>match P.underlying t with
  | some .bool=>∃ b,as=[.bool b]
  | some (.int k)=>∃ z,as=[.int k z]∧(Lit.int k z).wf=true
  | some .string=>∃ s,as=[.str s]∧s.size≤maxLen
  | some (.slice e)=>as=[.nilsl]∨∃ len cs,as=[.fz (P.cellsOf e) len cs false]∧len≤maxLen∧cs.length=len*P.cellsOf e∧∀ i,i<len→Fits P n e ((cs.drop (i*P.cellsOf e)).take (P.cellsOf e))
  | some (.struct fs)=>as.length=P.cellsOf t∧∀ f ∈ fs.toList,Fits P n f.type ((as.drop f.offset).take (P.cellsOf f.type))
  | _=>False
theorem PL {α β:Type} {f:α→Option β}:∀ {l:List α} {r:List β},l.mapM f=some r→∀ x ∈ l,∃ y,f x=some y
 | [],r,_,x,hx=>by cases hx
 | a::l,r,h,x,hx=>by
  simp only [List.mapM_cons,Option.bind_eq_bind,Option.bind_eq_some_iff] at h
  obtain ⟨y,h1,ys,h2,_⟩:=h
  rcases List.mem_cons.1 hx with rfl | hx
  ·exact ⟨y,h1⟩
  ·exact PL h2 x hx
theorem TO {α β:Type} {f:α→Option β}:∀ {l:List α} {r:List β},l.mapM f=some r→r.length=l.length∧∀ (i:Nat) (x:α),l[i]? = some x→∃ y,r[i]? = some y∧f x=some y
 | [],r,h=>by simp at h;subst h;exact ⟨rfl,fun i x hx=>by simp at hx⟩
 | a::l,r,h=>by
  simp only [List.mapM_cons,Option.bind_eq_bind,Option.bind_eq_some_iff] at h
  obtain ⟨y,h1,ys,h2,h3⟩:=h
  simp at h3;subst h3
  obtain ⟨g1,g2⟩:=TO h2
  refine ⟨by simp [g1],fun i x hx=>?_⟩
  cases i with
  | zero=>simp at hx;subst hx;exact ⟨y,by simp,h1⟩
  | succ i=>simpa using g2 i x (by simpa using hx)
section
variable {Hh:Type} {enc:TypeId × Value→Hh} {P:Program} {W:World} {sp:Nat→Bool} {held:Bool} {φ:Phi}
def SZ (as:List AV):Prop:=∀ a ∈ as,a.free=true∧a.one=true
theorem Rc (k:Nat):∀ (len:Nat) (rows:Nat→List AV),(∀ i,i<len→(rows i).length=k)→∃ cs:List AV,cs.length=len*k∧(∀ i,i<len→(cs.drop (i*k)).take k=rows i) ∧
  ∀ (j:Nat) (c:AV),cs[j]? = some c→∃ i m,i<len∧m<k∧j=i*k+m∧(rows i)[m]? = some c
 | 0,rows,_=>⟨[],by simp,fun i hi=>by omega,fun j c hc=>by simp at hc⟩
 | len+1,rows,h=>by
  obtain ⟨cs,g1,g2,g3⟩:=Rc k len rows fun i hi=>h i (by omega)
  have hl:=h len (by omega)
  refine ⟨cs++rows len,by simp [g1,hl,Nat.succ_mul],fun i hi=>?_,fun j c hc=>?_⟩
  ·by_cases hil:i=len
   ·subst hil
    rw [List.drop_append_of_le_length (by omega),← g1,List.drop_length]
    simp [← hl]
   ·have hi':i<len:=by omega
    have hle:i*k+k≤len*k:=by rw [← Nat.succ_mul];exact Nat.mul_le_mul_right k hi'
    rw [List.drop_append_of_le_length (by omega),List.take_append_of_le_length (by simp;omega)]
    exact g2 i hi'
  ·by_cases hj:j<cs.length
   ·rw [List.getElem?_append_left hj] at hc
    obtain ⟨i,m,h1,h2,h3,h4⟩:=g3 j c hc
    exact ⟨i,m,by omega,h2,h3,h4⟩
   ·rw [List.getElem?_append_right (by omega)] at hc
    have hm:=(List.getElem?_eq_some_iff.1 hc).1
    exact ⟨len,j - cs.length,by omega,by omega,by omega,hc⟩
theorem RN {a:Addr} {v:Value} (h:W.cell? a=some v):a=⟨a.block,a.off,none⟩:=by
 unfold World.cell? at h
 split at h
 ·split at h
  ·cases h
  ·rename_i hs
   cases a with
   | mk b o s=>cases s with
    | none=>rfl
    | some x=>simp at hs
 ·cases h
theorem Rm {pl:TypeId→Bool} {A:TypeId→List AV→List Value→Prop}:∀ (fs:List Field) (off e:Nat) (cs:List Value),OT P pl off fs=some e→cs.length=e→off≤e →
  (∀ f ∈ fs,pl f.type=true→∃ as,as.length=P.cellsOf f.type∧A f.type as ((cs.drop f.offset).take (P.cellsOf f.type))) →
  off≤e∧∃ as:List AV,as.length=e - off∧(∀ f ∈ fs,off≤f.offset∧f.offset+P.cellsOf f.type≤e∧A f.type ((as.drop (f.offset - off)).take (P.cellsOf f.type)) ((cs.drop f.offset).take (P.cellsOf f.type))) ∧
   ∀ (j:Nat) (c:AV),as[j]? = some c→∃ f ∈ fs,∃ m,f.offset+m=off+j∧m<P.cellsOf f.type
 | [],off,e,cs,ht,hl,hle,_=>by
  simp only [OT,Option.some.injEq] at ht;subst ht
  exact ⟨Nat.le_refl _,[],by simp,fun f hf=>(by cases hf),fun j c hc=>(by simp at hc)⟩
 | f::fs,off,e,cs,ht,hl,hle,hA=>by
  simp only [OT] at ht
  split at ht
  ·rename_i hf
   obtain ⟨ho,hp⟩:=hf
   have hend:off+P.cellsOf f.type≤e:=by
    have key:∀ (fs:List Field) (o e:Nat),OT P pl o fs=some e→o≤e:=by
     intro fs
     induction fs with
     | nil=>intro o e h;simp [OT] at h;omega
     | cons g gs ih =>
      intro o e h
      simp only [OT] at h
      split at h
      ·have:=ih _ _ h;omega
      ·cases h
    exact key _ _ _ ht
   obtain ⟨_,as,g1,g2,g3⟩:=Rm fs _ e cs ht hl hend fun g hg=>hA g (by simp [hg])
   obtain ⟨bs,b1,b2⟩:=hA f (by simp) hp
   refine ⟨hle,bs++as,by simp [b1,g1];omega,fun g hg=>?_,fun j c hc=>?_⟩
   ·rcases List.mem_cons.1 hg with rfl | hg
    ·refine ⟨by omega,by omega,?_⟩
     rw [ho,Nat.sub_self,List.drop_zero,← b1,List.take_left',← ho,b1]<;>simp_all
    ·obtain ⟨k1,k2,k3⟩:=g2 g hg
     refine ⟨by omega,k2,?_⟩
     have:(bs++as).drop (g.offset - off)=as.drop (g.offset - (off+P.cellsOf f.type)):=by
      rw [List.drop_append]
      have h1:bs.drop (g.offset - off)=[]:=List.drop_eq_nil_of_le (by omega)
      rw [h1,List.nil_append]
      congr 1;omega
     rw [this];exact k3
   ·by_cases hj:j<bs.length
    ·exact ⟨f,by simp,j,by omega,by omega⟩
    ·rw [List.getElem?_append_right (by omega)] at hc
     obtain ⟨g,hg,m,h1,h2⟩:=g3 _ c hc
     exact ⟨g,by simp [hg],m,by omega,h2⟩
  ·cases ht
theorem Fits.len:∀ (n:Nat) (t:TypeId) (as:List AV),Fw P n t=true→Fits P n t as→as.length=P.cellsOf t
 | 0,t,as,_,h=>h.elim
 | n+1,t,as,hp,h=>by
  simp only [Fw] at hp
  simp only [Fits] at h
  split at h
  ·rename_i hu;simp only [hu,decide_eq_true_eq] at hp;obtain ⟨b,rfl⟩:=h;rw [hp];rfl
  ·rename_i k hu;simp only [hu,decide_eq_true_eq] at hp;obtain ⟨z,rfl,_⟩:=h;rw [hp];rfl
  ·rename_i hu;simp only [hu,decide_eq_true_eq] at hp;obtain ⟨s,rfl,_⟩:=h;rw [hp];rfl
  ·rename_i e hu
   simp only [hu,Bool.and_eq_true,decide_eq_true_eq] at hp
   rw [hp.1]
   rcases h with rfl | ⟨len,cs,rfl,_⟩<;>rfl
  ·exact h.1
  ·exact h.elim
theorem WE:∀ (n:Nat) (t:TypeId) (cs:List Value) (m:Nat) (x:DataW Hh × List MemPlace),
  Fw P n t=true→DataW.trod enc P W 0 sp held m t cs=some x→∃ as,VRL φ (CX W) as cs∧SZ as∧Fits P n t as:=by
 intro n
 induction n with
 | zero=>intro t cs m x hp;simp [Fw] at hp
 | succ n ih =>
  intro t cs m x hp h
  cases m with
  | zero=>simp [DataW.trod] at h
  | succ m =>
   have one:∀ (a:AV) (v:Value),VR φ (CX W) a v→a.free=true→a.one=true→VRL φ (CX W) [a] [v]∧SZ [a]:=fun a v hv hf ho=>⟨.cons hv .nil,fun b hb=>by simp at hb;subst hb;exact ⟨hf,ho⟩⟩
   simp only [Fw] at hp
   rw [DataW.trod_step] at h
   unfold DataW.trodStep at h
   simp only [Fits]
   split at hp
   ·rename_i hu
    simp only [hu] at h ⊢
    split at h<;>first | (cases h;done) | skip
    all_goals rename_i e2
    all_goals first | (cases e2;done) | skip
    rename_i b
    exact ⟨[.bool b],(one _ _ (.bool b) rfl rfl).1,(one _ _ (VR.bool (φ:=φ) (I:=CX W) b) rfl rfl).2,b,rfl⟩
   ·rename_i hu
    simp only [hu] at h ⊢
    split at h<;>first | (cases h;done) | skip
    all_goals rename_i e2
    all_goals first | (cases e2;done) | skip
    rename_i b
    split at h
    ·rename_i hs
     exact ⟨[.str b],(one _ _ (.str b) rfl rfl).1,(one _ _ (VR.str (φ:=φ) (I:=CX W) b) rfl rfl).2,b,rfl,hs⟩
    ·cases h
   ·rename_i k hu
    simp only [hu] at h ⊢
    split at h<;>first | (cases h;done) | skip
    all_goals rename_i e2
    all_goals first | (cases e2;done) | skip
    rename_i k' z
    cases e2
    split at h
    ·rename_i hs
     obtain ⟨rfl,hs⟩:=hs
     exact ⟨[.int _ z],(one _ _ (.int _ z) rfl rfl).1,(one _ _ (VR.int (φ:=φ) (I:=CX W) _ z) rfl rfl).2,z,rfl,hs⟩
    ·cases h
   ·rename_i e hu
    simp only [hu] at h ⊢
    simp only [Bool.and_eq_true,decide_eq_true_eq] at hp
    replace hp:=hp.2
    split at h<;>first | (cases h;done) | skip
    all_goals rename_i e2
    all_goals first | (cases e2;done) | skip
    ·exact ⟨[.nilsl],(one _ _ .nilsl rfl rfl).1,(one _ _ (VR.nilsl (φ:=φ) (I:=CX W)) rfl rfl).2,.inl rfl⟩
    ·rename_i a len cap
     cases e2
     split at h
     ·rename_i hc
      obtain ⟨_,hlc,hcm⟩:=hc
      simp only [Option.bind_eq_some_iff] at h
      obtain ⟨elems,hel,_⟩:=h
      have hrow:∀ i,i<len→∃ row,W.cells? 0 (a.add (i*P.cellsOf e)) (P.cellsOf e)=some row∧∃ as,VRL φ (CX W) as row∧SZ as∧Fits P n e as:=fun i hi=>by
       obtain ⟨y,hy⟩:=PL hel i (by simpa using hi)
       simp only [Option.bind_eq_some_iff] at hy
       obtain ⟨row,hr,hy⟩:=hy
       exact ⟨row,hr,ih e row m y hp.2 hy⟩
      by_cases hl0:len=0
      ·subst hl0
       exact ⟨[.fz (P.cellsOf e) 0 [] false],(one _ _ (.fz0 _ false a cap (fun h=>by cases h)) rfl rfl).1,(one _ _ (VR.fz0 (φ:=φ) (I:=CX W) (P.cellsOf e) false a cap (fun h=>by cases h)) rfl rfl).2,.inr ⟨0,[],rfl,Nat.zero_le _,by simp,fun i hi=>by omega⟩⟩
      ·let R:Nat→List AV:=fun i=>if hi:i<len then Classical.choose (Classical.choose_spec (hrow i hi)).2 else []
       have hR:∀ i,i<len→∃ row,W.cells? 0 (a.add (i*P.cellsOf e)) (P.cellsOf e)=some row∧VRL φ (CX W) (R i) row∧SZ (R i)∧Fits P n e (R i):=fun i hi=>by
        refine ⟨_,(Classical.choose_spec (hrow i hi)).1,?_⟩
        simp only [R,hi,dif_pos]
        exact Classical.choose_spec (Classical.choose_spec (hrow i hi)).2
       have hrl:∀ (b:Addr) (k:Nat) (row:List Value),W.cells? 0 b k=some row→row.length=k∧∀ j v,row[j]? = some v→W.cell? (b.add j)=some v:=fun b k row hb=>by
        unfold World.cells? at hb
        simp only [Nat.zero_le,if_true] at hb
        obtain ⟨g1,g2⟩:=TO hb
        simp only [List.length_range] at g1
        refine ⟨g1,fun j v hv=>?_⟩
        have hj:j<k:=by have:=(List.getElem?_eq_some_iff.1 hv).1;omega
        obtain ⟨y,h1,h2⟩:=g2 j j (by simp [hj])
        rw [hv] at h1;cases h1
        exact h2
       have hRl:∀ i,i<len→(R i).length=P.cellsOf e:=fun i hi=>by
        obtain ⟨row,g1,g2,_⟩:=hR i hi
        rw [g2.1];exact (hrl _ _ _ g1).1
       obtain ⟨cs,c1,c2,c3⟩:=Rc (P.cellsOf e) len R hRl
       have ha:a=⟨a.block,a.off,none⟩:=by
        obtain ⟨row,g1,g2,_⟩:=hR 0 (by omega)
        obtain ⟨k1,k2⟩:=hrl _ _ _ g1
        have:∃ v,row[0]? = some v:=⟨_,List.getElem?_eq_getElem (by omega)⟩
        obtain ⟨v,hv⟩:=this
        have:=k2 0 v hv
        simp [Addr.add] at this
        exact RN this
       have hcell:∀ (j:Nat) (c:AV),cs[j]? = some c→∃ v,W.cell? ⟨a.block,a.off+j,none⟩=some v∧VR φ (CX W) c v∧c.free=true∧c.one=true:=fun j c hc=>by
        obtain ⟨i,q,hi,hq,rfl,hcq⟩:=c3 j c hc
        obtain ⟨row,g1,g2,g3,_⟩:=hR i hi
        obtain ⟨v,hv,hr⟩:=g2.get hcq
        have h2:=(hrl _ _ _ g1).2 q v hv
        rw [ha,Dq,Dq] at h2
        refine ⟨v,by rw [← Nat.add_assoc];exact h2,hr,g3 c (List.mem_of_getElem? hcq)⟩
       let vs:Nat→Value:=fun j=>(W.cell? ⟨a.block,a.off+j,none⟩).getD Go.undef
       have hvs:∀ j c,cs[j]? = some c→W.cell? ⟨a.block,a.off+j,none⟩=some (vs j)∧VR φ (CX W) c (vs j):=fun j c hc=>by
        obtain ⟨v,g1,g2,_⟩:=hcell j c hc
        have:vs j=v:=by simp only [vs,g1,Option.getD_some]
        rw [this]
        exact ⟨g1,g2⟩
       have hv:VR φ (CX W) (.fz (P.cellsOf e) len cs false) (.slice (some a) len cap):=by
        rw [ha]
        exact .fz _ len cs false a.block a.off cap vs (fun i c hc=>(hvs i c hc).1) (fun i c hc=>(hvs i c hc).2) (fun i c hc=>(let ⟨_,_,_,h⟩:=hcell i c hc;h)) hlc (fun h=>by cases h) c1
       refine ⟨[.fz (P.cellsOf e) len cs false],(one _ _ hv rfl rfl).1,(one _ _ hv rfl rfl).2,.inr ⟨len,cs,rfl,by omega,c1,fun i hi=>?_⟩⟩
       rw [c2 i hi]
       obtain ⟨_,_,_,_,h⟩:=hR i hi
       exact h
     ·cases h
   ·rename_i fs hu
    simp only [hu] at h ⊢
    simp only [beq_iff_eq] at hp
    split at h
    ·rename_i hlen
     simp only [Option.map_eq_some_iff] at h
     obtain ⟨xs,hxs,_⟩:=h
     obtain ⟨_,as,g1,g2,g3⟩:=Rm (A:=fun ty as vs=>VRL φ (CX W) as vs∧SZ as∧Fits P n ty as) fs.toList 0 (P.cellsOf t) cs hp hlen (Nat.zero_le _) (fun f hf hpf=>by
      obtain ⟨y,hy⟩:=PL hxs f hf
      obtain ⟨as,k1,k2,k3⟩:=ih f.type _ m y hpf hy
      exact ⟨as,Fits.len n f.type as hpf k3,k1,k2,k3⟩)
     simp only [Nat.sub_zero] at g1 g2
     refine ⟨as,⟨by omega,fun i c v hc hv=>?_⟩,fun c hc=>?_,g1,fun f hf=>(g2 f hf).2.2.2.2⟩
     ·obtain ⟨f,hf,q,h3,h4⟩:=g3 i c hc
      obtain ⟨_,_,k1,_⟩:=g2 f hf
      have e1:i=f.offset+q:=by omega
      subst e1
      exact k1.2 q c v (by rw [List.getElem?_take,if_pos h4,List.getElem?_drop];exact hc) (by rw [List.getElem?_take,if_pos h4,List.getElem?_drop];exact hv)
     ·obtain ⟨i,hi⟩:=List.mem_iff_getElem?.1 hc
      obtain ⟨f,hf,q,h3,h4⟩:=g3 i c hi
      obtain ⟨_,_,_,k2,_⟩:=g2 f hf
      have e1:i=f.offset+q:=by omega
      subst e1
      exact k2 c (List.mem_of_getElem? (i:=q) (by rw [List.getElem?_take,if_pos h4,List.getElem?_drop];exact hi))
    ·cases h
   ·cases hp
end
end Go.Ev
namespace Go.Ev
open Go Go.ChangeShapes Go.RowKit
section
variable {Hh:Type} {enc:TypeId × Value→Hh} {P:Program} {G:Glob} {pu:Nat→Bool} {tb:Nat→Option IFun} {pr:Oracle}
theorem Wk (T:TabOk P G pu tb pr) {W:World} (hG:GR G (CX W)) {f:Nat} {avs:List AV} {args:Array Value} {h':H} (ha:VRL (fun _=>.none) (CX W) avs args.toList) (hc:call tb pr f avs 0 H.none=some (.bool true,h')) :
  Calls P f args W fun e W'=>e=.returned (.bool true)∧∃ φ' I',Stp 0 (fun _=>.none) (CX W) H.none W φ' I' h' W':=by
 obtain ⟨_,hcs⟩:=VE T f avs 0 H.none _ _ hc
 have:=hcs (fun _=>.none) (CX W) W args.toList (ak W) hG ha (Nat.zero_le _)
 simp only [Array.toArray_toList] at this
 refine this.mono fun e W' hp=>?_
 obtain ⟨v,φ',I',rfl,hR,hv,hs⟩:=hp
 cases hv
 exact ⟨rfl,φ',I',hs⟩
def KD (P:Program) (n:Nat) (t:TypeId) (a:AV):Prop:=match P.underlying t with
 | some (.struct _)=>∃ as,a=.agg as∧Fits P n t as
 | _=>Fits P n t [a]
theorem WM {W:World} {n:Nat} {t:TypeId} {v:Value} {d:DataW Hh} {p:List MemPlace} {sp:Nat→Bool} {held:Bool} {base:Nat}
  (hp:Fw P n t=true) (hv:Value.okWide P W .any base t v) (h:DataW.Trod enc P W 0 sp held t v d p):∃ a,VR (fun _=>.none) (CX W) a v∧KD P n t a:=by
 obtain ⟨m,hm⟩:=h
 obtain ⟨as,g1,g2,g3⟩:=WE (φ:=fun _=>.none) n t _ m _ hp hm
 unfold KD
 cases n with
 | zero=>exact g3.elim
 | succ n =>
  have hs:(∃ fs,P.underlying t=some (.struct fs))∨¬ ∃ fs,P.underlying t=some (.struct fs):=Classical.em _
  rcases hs with ⟨fs,hu⟩ | hs
  ·unfold Value.okWide at hv
   rw [hu] at hv ⊢
   obtain ⟨cs,rfl,_⟩:=hv
   exact ⟨.agg as,.agg as cs (by simpa [Value.cells] using g1.1) (fun i c v h1 h2=>g1.2 i c v h1 (by simpa [Value.cells] using h2)),as,rfl,g3⟩
  ·have hone:∃ a,as=[a]:=by
    simp only [Fits] at g3
    split at g3
    ·obtain ⟨b,rfl⟩:=g3;exact ⟨_,rfl⟩
    ·obtain ⟨z,rfl,_⟩:=g3;exact ⟨_,rfl⟩
    ·obtain ⟨s,rfl,_⟩:=g3;exact ⟨_,rfl⟩
    ·rcases g3 with rfl | ⟨len,cs,rfl,_⟩<;>exact ⟨_,rfl⟩
    ·rename_i fs hu;exact absurd ⟨fs,hu⟩ hs
    ·exact g3.elim
   obtain ⟨a,rfl⟩:=hone
   have hcell:v.cells.toList=[v]:=by
    have:=g1.1
    cases v<;>simp [Value.cells] at this ⊢
    all_goals
     exfalso
     unfold Value.okWide at hv
     simp only [Fw] at hp
     split at hp<;>rename_i hu<;>first | (cases hp;done) | skip
     all_goals simp only [hu] at hv
     all_goals first | (unfold Cell.okWide at hv;simp only [hu] at hv;unfold Cell.ok at hv;simp [hu] at hv;done) | (exact hs ⟨_,hu⟩)
   refine ⟨a,?_,?_⟩
   ·rw [hcell] at g1
    exact g1.2 0 a v rfl rfl
   ·split
    ·rename_i fs hu;exact absurd ⟨fs,hu⟩ hs
    ·exact g3
theorem Pg {W:World} {n:Nat} {sp:Nat→Bool} {held:Bool} {base:Nat} :
  ∀ {ts:List TypeId} {vs:List Value} {ds:List (DataW Hh)} {ps:List MemPlace},(∀ t ∈ ts,Fw P n t=true)→(∀ (j:Nat) t v,ts[j]? = some t→vs[j]? = some v→Value.okWide P W .any base t v)→DataW.TrodAll enc P W 0 sp held ts vs ds ps →
   ∃ avs,VRL (fun _=>.none) (CX W) avs vs∧avs.length=ts.length∧∀ (j:Nat) t a,ts[j]? = some t→avs[j]? = some a→KD P n t a
 | [],vs,ds,ps,_,_,h=>by
  obtain ⟨rfl,_,_⟩:=trodAll_nil h
  exact ⟨[],.nil,rfl,fun j t a h=>by simp at h⟩
 | t::ts,vs,ds,ps,hp,hv,h=>by
  obtain ⟨v,vs',d,ds',p,q,rfl,_,_,g1,g2⟩:=trodAll_cons h
  obtain ⟨a,a1,a2⟩:=WM (hp t (by simp)) (hv 0 t v rfl rfl) g1
  obtain ⟨as,b1,b2,b3⟩:=Pg (fun t ht=>hp t (by simp [ht])) (fun j t v h1 h2=>hv (j+1) t v (by simpa using h1) (by simpa using h2)) g2
  refine ⟨a::as,.cons a1 b1,by simp [b2],fun j t' a' h1 h2=>?_⟩
  cases j with
  | zero=>simp at h1 h2;subst h1;subst h2;exact a2
  | succ j=>exact b3 j t' a' (by simpa using h1) (by simpa using h2)
theorem TL (T:TabOk P G pu tb pr) {W:World} (hG:GR G (CX W)) {f:Nat} {fn:Func} {s:ChangeSpec} {n:Nat} {base:Nat} {args:Array Value} {ds gs:List (DataW Hh)} {before:List MemPlace} {tt:TypeId}
  (K:Kids P (·<P.types.size)) (hz:∀ t e,t<P.types.size→P.underlying t=some (.slice e)→0<P.cellsOf e)
  (hpar:∀ t ∈ fn.params.toList,t<P.types.size∧Fw P n t=true) (hrt:fn.resultTypes=#[tt]) (htt:P.underlying tt=some .bool) (hvars:s.vars=[])
  (hfn:∀ ds:List (DataW Hh),ds.length=fn.params.size→s.fn Hh ds={ results:=[.lit (.bool true)],args:=ds,vars:=[] })
  (hval:∀ (j:Nat) t v,fn.params[j]? = some t→args[j]? = some v→Value.okWide P W .any base t v) (hW:DataW.Whole enc P fn.params.toList s.vars false W args.toList ds gs before)
  (hcall:∀ avs:List AV,avs.length=fn.params.toList.length→(∀ (j:Nat) t a,fn.params.toList[j]? = some t→avs[j]? = some a→KD P n t a)→∃ h',call tb pr f avs 0 H.none=some (.bool true,h')) :
  Calls P f args W fun e W'=>∃ v,e=.returned v∧s.post enc P fn false true false false W args v W':=by
 have hA:∃ p,DataW.TrodAll enc P W 0 (fun _=>true) true fn.params.toList args.toList ds p:=by
  obtain ⟨p,q,hA,_⟩:=hW;exact ⟨p,hA⟩
 obtain ⟨p,hA⟩:=hA
 obtain ⟨avs,g1,g2,g3⟩:=Pg (fun t ht=>(hpar t ht).2) (fun j t v h1 h2=>hval j t v (by simpa using h1) (by simpa using h2)) hA
 obtain ⟨h',hc⟩:=hcall avs g2 g3
 refine (Wk T hG g1 hc).mono fun e W' he=>?_
 obtain ⟨rfl,φ',I',hs⟩:=he
 exact ⟨_,rfl,YY hW hvars hfn hrt htt K (fun t ht=>(hpar t ht).1) hz hs⟩
end
end Go.Ev
namespace Go.Ev
open Go
inductive Fr where
 | seq (b:IC)
 | block (id:Nat)
 | loop (l:List Nat) (b:IC)
section
variable (o:Oracle) (bar:Nat)
noncomputable def Ck:List Fr→(Ex→Env→H→Prop)→Ex→Env→H→Prop
 | [],Q=>Q
 | .seq b::fs,Q=>QZ (fun e h=>IH o bar b e h (Ck fs Q)) (Ck fs Q)
 | .block id::fs,Q=>Sj id (Ck fs Q)
 | .loop l b::fs,Q=>QZ (fun e h=>CW o bar l b (e.keep l) h (Ck fs Q)) (Ck fs Q)
noncomputable def El (c:IC) (fs:List Fr) (e:Env) (h:H) (Q:Ex→Env→H→Prop):Prop:=IH o bar c e h (Ck o bar fs Q)
noncomputable def HC (il:List IOper) (fs:List Fr) (e:Env) (h:H) (Q:Ex→Env→H→Prop):Prop:=Rp o bar il e h (Ck o bar fs Q .normal)
noncomputable def Lh (x:Option (AV × H)) (d:Option Nat) (r:List IOper) (fs:List Fr) (e:Env) (Q:Ex→Env→H→Prop):Prop :=
 match x with | some (v,h')=>HC o bar r fs (e.put d v) h' Q | none=>False
noncomputable def Qb (x:Option AV) (w:Bool) (d:Option Nat) (op:IOp) (r:List IOper) (fs:List Fr) (e:Env) (h:H) (Q:Ex→Env→H→Prop):Prop :=
 match x with
 | some (.bool b)=>if b=w then Lh o bar (Ae o bar e h op) d r fs e Q else HC o bar r fs (e.put d .undef) h Q
 | some (.tup [])=>HC o bar r fs (e.put d .undef) h Q
 | _=>False
noncomputable def ZB (x:Option AV) (a b:IC) (fs:List Fr) (e:Env) (h:H) (Q:Ex→Env→H→Prop):Prop :=
 match x with | some (.bool t)=>if t=true then El o bar a fs e h Q else El o bar b fs e h Q | _=>False
noncomputable def eQ (x:Option (Env × H)) (b:IC) (fs:List Fr) (Q:Ex→Env→H→Prop):Prop :=
 match x with | some (e,h)=>El o bar b fs e h Q | none=>False
end
section
variable {o:Oracle} {bar:Nat} {fs:List Fr} {e:Env} {h:H} {Q:Ex→Env→H→Prop}
theorem BJ {c:IC} (hw:El o bar c [] e h Q):IH o bar c e h Q:=hw
theorem Ad {l:List Nat} {b c:IC} (hb:b=c) (hw:El o bar c [.loop l b] e h Q):CW o bar l b e h Q:=cZ hb hw
theorem bQ (l:List Nat) (b:IC):Ck o bar (.loop l b::fs) Q .normal e h=CW o bar l b (e.keep l) h (Ck o bar fs Q):=Eq.trans rfl rfl
theorem VS (l:List Nat) (b:IC):Ck o bar (.loop l b::fs) Q .ret e h=Ck o bar fs Q .ret e h:=Eq.trans rfl rfl
theorem UH (l:List Nat) (b:IC) (id:Nat):Ck o bar (.loop l b::fs) Q (.exit id) e h=Ck o bar fs Q (.exit id) e h:=Eq.trans rfl rfl
theorem ah:El o bar .skip fs e h Q=Ck o bar fs Q .normal e h:=Eq.trans rfl rfl
theorem cm:El o bar .ret fs e h Q=Ck o bar fs Q .ret e h:=Eq.trans rfl rfl
theorem ac (id:Nat):El o bar (.exit id) fs e h Q=Ck o bar fs Q (.exit id) e h:=Eq.trans rfl rfl
theorem cj (il:List IOper):El o bar (.reg il) fs e h Q=HC o bar il fs e h Q:=Eq.trans rfl rfl
theorem ct (a b:IC):El o bar (.seq a b) fs e h Q=El o bar a (.seq b::fs) e h Q:=Eq.trans rfl rfl
theorem ZF (id:Nat) (b:IC):El o bar (.block id b) fs e h Q=El o bar b (.block id::fs) e h Q:=Eq.trans rfl rfl
theorem aZ (c:Opd) (a b:IC):El o bar (.cond c a b) fs e h Q=ZB o bar (c.ev e) a b fs e h Q:=Eq.trans rfl rfl
theorem ae (l:List Nat) (b:IC):El o bar (.keep l b) fs e h Q=El o bar b fs (e.keep l) h Q:=Eq.trans rfl rfl
theorem ZH (b:IC):El o bar (.scope b) fs e h Q=El o bar b fs e h Q:=Eq.trans rfl rfl
theorem ZG (l:List Nat) (b:IC):El o bar (.loopK l b) fs e h Q=CW o bar l b (e.keep l) h (Ck o bar fs Q):=Eq.trans rfl rfl
theorem cg (l:List Nat) (b:IC):El o bar (.frz l b) fs e h Q=eQ o bar (IM bar l e h) b fs Q:=Eq.trans rfl rfl
theorem aX (b:IC):eQ o bar (some (e,h)) b fs Q=El o bar b fs e h Q:=Eq.trans rfl rfl
theorem af (il:List IOper) (chk:List (Nat × Nat)):El o bar (.regW il chk) fs e h Q=((∀ p ∈ chk,KY o bar il e h p)∧HC o bar il fs e h Q):=Eq.trans rfl rfl
theorem dJ (x:Ex):Ck o bar [] Q x e h=Q x e h:=Eq.trans rfl rfl
theorem dK (b:IC):Ck o bar (.seq b::fs) Q .normal e h=El o bar b fs e h Q:=Eq.trans rfl rfl
theorem Wj (b:IC):Ck o bar (.seq b::fs) Q .ret e h=Ck o bar fs Q .ret e h:=Eq.trans rfl rfl
theorem VT (b:IC) (id:Nat):Ck o bar (.seq b::fs) Q (.exit id) e h=Ck o bar fs Q (.exit id) e h:=Eq.trans rfl rfl
theorem Zm (id:Nat):Ck o bar (.block id::fs) Q .normal e h=Ck o bar fs Q .normal e h:=Eq.trans rfl rfl
theorem UG (id:Nat):Ck o bar (.block id::fs) Q .ret e h=Ck o bar fs Q .ret e h:=Eq.trans rfl rfl
theorem TH (id j:Nat):Ck o bar (.block id::fs) Q (.exit j) e h=Ck o bar fs Q (if j=id then .normal else .exit j) e h:=by
 show (if j=id then Ck o bar fs Q .normal else Ck o bar fs Q (.exit j)) e h=_
 split<;>rfl
theorem dC:HC o bar [] fs e h Q=Ck o bar fs Q .normal e h:=Eq.trans rfl rfl
theorem aq (d:Option Nat) (op:IOp) (r:List IOper):HC o bar (⟨d,op,none⟩::r) fs e h Q=Lh o bar (Ae o bar e h op) d r fs e Q:=Eq.trans rfl rfl
theorem ZJ (d:Option Nat) (op:IOp) (s:Nat) (w:Bool) (r:List IOper):HC o bar (⟨d,op,some (s,w)⟩::r) fs e h Q=Qb o bar (e.get s) w d op r fs e h Q:=by
 unfold HC
 simp only [Rp,EJ]
 generalize e.get s=g
 cases g with
 | none=>rfl
 | some v =>
  cases v with
  | bool b=>cases b<;>cases w<;>rfl
  | tup vs=>cases vs<;>rfl
  | _=>rfl
theorem an (v:AV) (d:Option Nat) (r:List IOper) (h':H):Lh o bar (some (v,h')) d r fs e Q=HC o bar r fs (e.put d v) h' Q:=Eq.trans rfl rfl
theorem aV (a b:IC):ZB o bar (some (.bool true)) a b fs e h Q=El o bar a fs e h Q:=Eq.trans rfl rfl
theorem ZD (a b:IC):ZB o bar (some (.bool false)) a b fs e h Q=El o bar b fs e h Q:=Eq.trans rfl rfl
theorem De {t:Bool} {a b:IC} (h1:t=true→El o bar a fs e h Q) (h2:t=false→El o bar b fs e h Q):ZB o bar (some (.bool t)) a b fs e h Q:=by
 cases t
 ·exact h2 rfl
 ·exact h1 rfl
theorem ZE (w:Bool) (d:Option Nat) (op:IOp) (r:List IOper):Qb o bar (some .undef) w d op r fs e h Q=HC o bar r fs (e.put d .undef) h Q:=Eq.trans rfl rfl
theorem eZ (d:Option Nat) (op:IOp) (r:List IOper):Qb o bar (some (.bool true)) true d op r fs e h Q=Lh o bar (Ae o bar e h op) d r fs e Q:=Eq.trans rfl rfl
theorem eY (d:Option Nat) (op:IOp) (r:List IOper):Qb o bar (some (.bool true)) false d op r fs e h Q=HC o bar r fs (e.put d .undef) h Q:=Eq.trans rfl rfl
theorem eW (d:Option Nat) (op:IOp) (r:List IOper):Qb o bar (some (.bool false)) false d op r fs e h Q=Lh o bar (Ae o bar e h op) d r fs e Q:=Eq.trans rfl rfl
theorem eX (d:Option Nat) (op:IOp) (r:List IOper):Qb o bar (some (.bool false)) true d op r fs e h Q=HC o bar r fs (e.put d .undef) h Q:=Eq.trans rfl rfl
theorem Ey {t w:Bool} {d:Option Nat} {op:IOp} {r:List IOper} (h1:t=true→Qb o bar (some (.bool true)) w d op r fs e h Q) (h2:t=false→Qb o bar (some (.bool false)) w d op r fs e h Q):Qb o bar (some (.bool t)) w d op r fs e h Q:=by
 cases t
 ·exact h2 rfl
 ·exact h1 rfl
end
def GC (x:Option AV) (h:H):Option (AV × H):=match x with
  | some .nilsl=>some (As 0,h)
  | some (.sl _ _ _ n _)=>some (As n,h)
  | some (.fz _ n _ _)=>some (As n,h)
  | _=>none
def Hu (k:Nat) (x i:Option AV) (h:H):Option (AV × H):=match x,i with
  | some (.sl id off k' len _),some i=>if k=k' then (AJ i len).map fun j=>(.ptr id (off+j*k),h) else none
  | some (.fz k' len cs _),some i=>if k=k'∧cs.length=len*k then (AJ i len).map fun j=>(.fptr cs (j*k),h) else none
  | _,_=>none
def HM (bar k bytes:Nat) (s x:Option AV) (h:H):Option (AV × H):=match s,x with
  | some s,some x=>match source k h x with | some (n,xs)=>if 0<k then Ch bar k bytes h s n xs else none | none=>none
  | _,_=>none
theorem Wl (h:H):GC (some .nilsl) h=some (As 0,h):=Eq.trans rfl rfl
theorem bV (h:H) (i j k n:Nat) (f:Bool):GC (some (.sl i j k n f)) h=some (As n,h):=Eq.trans rfl rfl
theorem bU (h:H) (k n:Nat) (cs:List AV) (f:Bool):GC (some (.fz k n cs f)) h=some (As n,h):=Eq.trans rfl rfl
theorem ZU (h:H) (k id off k' len:Nat) (f:Bool) (i:AV):Hu k (some (.sl id off k' len f)) (some i) h=if k=k' then (AJ i len).map fun j=>(.ptr id (off+j*k),h) else none:=Eq.trans rfl rfl
theorem ZT (h:H) (k k' len:Nat) (cs:List AV) (f:Bool) (i:AV):Hu k (some (.fz k' len cs f)) (some i) h=if k=k'∧cs.length=len*k then (AJ i len).map fun j=>(.fptr cs (j*k),h) else none:=Eq.trans rfl rfl
section
variable {o:Oracle} {bar:Nat} {e:Env} {h:H}
theorem bz (f:Opd) (args:List Opd):Ae o bar e h (.call f args)=(match f.ev e,KG e args with | some (.fn f caps),some vs=>o f (vs++caps) bar h | _,_=>none):=Eq.trans rfl rfl
theorem dq:∀ x,Ae o bar e h (.mov x)=((x.ev e).map (·,h)):=fun _=>Eq.trans rfl rfl
theorem cM:∀ c a b,Ae o bar e h (.pick c a b)=(match c.ev e,a.ev e,b.ev e with | some (.bool t),some u,some v=>some (if t then u else v,h) | _,_,_=>none):=fun _ _ _=>Eq.trans rfl rfl
theorem aC:∀ z,Ae o bar e h (.alloc z)=(if z.all AV.one then some (.ptr h.n 0,h.alloc (.cells z 0)) else none):=fun _=>Eq.trans rfl rfl
theorem dV:∀ x,Ae o bar e h (.box x)=(match x.ev e with | some v=>if v.cells.all AV.one then some (.ptr h.n 0,h.alloc (.cells v.cells 0)) else none | none=>none):=fun _=>Eq.trans rfl rfl
theorem aD:∀ z ps,Ae o bar e h (.build z ps)=(match AX e ps with | some vs=>(Af z vs).map fun cs=>(.agg cs,h) | none=>none):=fun _ _=>Eq.trans rfl rfl
theorem YU:∀ k z len ps,Ae o bar e h (.bslice k z len ps)=(match AX e ps with
  | some vs=>match Af z vs with
   | some cs=>if z.all AV.one∧z.length=len*k∧0<k then some (.sl h.n 0 k len true,h.alloc (.cells cs 0)) else none
   | none=>none
  | none=>none):=fun _ _ _ _=>Eq.trans rfl rfl
theorem ei:∀ agg n a,Ae o bar e h (.ld agg n a)=(match a.ev e with
  | some (.ptr id off)=>match h.get id with | some (.cells cs _)=>(Bs agg n cs off).map (·,h) | _=>none
  | some (.fptr cs off)=>(Bs agg n cs off).map (·,h)
  | _=>none):=fun _ _ _=>Eq.trans rfl rfl
theorem ek:∀ n a v,Ae o bar e h (.st n a v)=(match a.ev e,v.ev e with
  | some (.ptr id off),some v=>if v.cells.length=n then (Hk bar h id off v.cells).map (.undef,·) else none
  | _,_=>none):=fun _ _ _=>Eq.trans rfl rfl
theorem cL:∀ x,Ae o bar e h (.nilc x)=(match x.ev e with
  | some v=>if AG v=some false then some (v,h) else none
  | none=>none):=fun _=>Eq.trans rfl rfl
theorem dU:∀ op x y,Ae o bar e h (.bin op x y)=(match x.ev e,y.ev e with | some a,some b=>(Lj op a b).map (·,h) | _,_=>none):=fun _ _ _=>Eq.trans rfl rfl
theorem dc:∀ neg x y,Ae o bar e h (.eqb neg x y)=(match x.ev e,y.ev e with | some (.bool a),some (.bool b)=>some (.bool (if neg then !(a == b) else a == b),h) | _,_=>none):=fun _ _ _=>Eq.trans rfl rfl
theorem dh:∀ kd neg x,Ae o bar e h (.eqn kd neg x)=(match x.ev e with | some a=>(Bg kd a).map fun t=>(.bool (if neg then !t else t),h) | _=>none):=fun _ _ _=>Eq.trans rfl rfl
theorem db:∀ ks neg x y,Ae o bar e h (.eqa ks neg x y)=(match x.ev e,y.ev e with | some (.agg a),some (.agg b)=>(Dy ks a b).map fun t=>(.bool (if neg then !t else t),h) | _,_=>none):=fun _ _ _ _=>Eq.trans rfl rfl
theorem en:∀ op x,Ae o bar e h (.un op x)=(match x.ev e with | some a=>(Xd op a).map (·,h) | _=>none):=fun _ _=>Eq.trans rfl rfl
theorem cA:∀ k x,Ae o bar e h (.cint k x)=(match x.ev e with | some (.int _ n)=>some (.int k (k.wrap n),h) | _=>none):=fun _ _=>Eq.trans rfl rfl
theorem cB:∀ x,Ae o bar e h (.cstr x)=(match x.ev e with | some (.int _ n)=>some (.str (Utf8.encode n),h) | some (.str s)=>some (.str s,h) | _=>none):=fun _=>Eq.trans rfl rfl
theorem dX:∀ x,Ae o bar e h (.cbs x)=(match x.ev e with
  | some v=>match source 1 h v with
   | some (_,cs)=>match Eg cs with
    | some bs=>match v with | .str _=>none | _=>some (.str ⟨bs.toArray⟩,h)
    | none=>none
   | none=>none
  | none=>none):=fun _=>Eq.trans rfl rfl
theorem dZ:∀ x,Ae o bar e h (.csb x)=(match x.ev e with
  | some (.str s)=>some (.sl h.n 0 1 s.size false,h.alloc (.cells (s.data.toList.map fun b=>.int .u8 b.toNat) 0))
  | _=>none):=fun _=>Eq.trans rfl rfl
theorem cI:∀ t x,Ae o bar e h (.mkif t x)=(match x.ev e with | some v=>some (.ifc t v,h) | none=>none):=fun _ _=>Eq.trans rfl rfl
theorem cH:∀ f caps,Ae o bar e h (.mkfn f caps)=(match KG e caps with | some vs=>some (.fn f vs,h) | none=>none):=fun _ _=>Eq.trans rfl rfl
theorem cJ:∀ k bytes z l c,Ae o bar e h (.mksl k bytes z l c)=(match l.ev e,c.ev e with
  | some (.int .i64 l),some (.int .i64 c) =>
   if 0≤l∧l≤c∧c*bytes≤140737488355328∧c≤9223372036854775807∧z.length=k∧0<k∧z.all AV.one then
    some (.sl h.n 0 k l.toNat (decide (l=c)),h.alloc (.cells (rep z l.toNat) 0)) else none
  | _,_=>none):=fun _ _ _ _ _=>Eq.trans rfl rfl
theorem dw:∀ k x lo hi mx,Ae o bar e h (.slc k x lo hi mx)=(match x.ev e,Ap e lo,Ap e hi,Ap e mx with | some v,some a,some b,some c=>(BI k v a b c).map (·,h) | _,_,_,_=>none):=fun _ _ _ _ _=>Eq.trans rfl rfl
theorem cN:∀ x lo hi,Ae o bar e h (.slcs x lo hi)=(match x.ev e,Ap e lo,Ap e hi with | some (.str s),some a,some b=>(BY s a b).map (·,h) | _,_,_=>none):=fun _ _ _=>Eq.trans rfl rfl
theorem aF:∀ n k x lo hi,Ae o bar e h (.slarr n k x lo hi)=(match x.ev e,Ap e lo,Ap e hi with
  | some (.ptr id off),some a,some b=>match AY 0 a,AY n b,h.get id with
   | some l,some u,some (.cells cs _)=>if l≤u∧u≤n∧off+n*k≤cs.length then some (.sl id (off+l*k) k (u - l) (decide (u=n)),h) else none
   | _,_,_=>none
  | _,_,_=>none):=fun _ _ _ _ _=>Eq.trans rfl rfl
theorem cC:∀ off x,Ae o bar e h (.fadr off x)=(match x.ev e with
  | some (.ptr id o)=>some (.ptr id (o+off),h)
  | some (.fptr cs o)=>some (.fptr cs (o+off),h)
  | _=>none):=fun _ _=>Eq.trans rfl rfl
theorem dj:∀ agg off n x,Ae o bar e h (.fld agg off n x)=(match x.ev e with | some (.agg cs)=>(Bs agg n cs off).map (·,h) | _=>none):=fun _ _ _ _=>Eq.trans rfl rfl
theorem cD:∀ k x i,Ae o bar e h (.iadr k x i)=Hu k (x.ev e) (i.ev e) h:=fun _ _ _=>Eq.trans rfl rfl
theorem aE:∀ len k x i,Ae o bar e h (.iadrA len k x i)=(match x.ev e,i.ev e with
  | some (.ptr id off),some i=>(AJ i len).map fun j=>(.ptr id (off+j*k),h)
  | some (.fptr cs off),some i=>(AJ i len).map fun j=>(.fptr cs (off+j*k),h)
  | _,_=>none):=fun _ _ _ _=>Eq.trans rfl rfl
theorem cF:∀ x i,Ae o bar e h (.idxs x i)=(match x.ev e,i.ev e with
  | some (.str s),some i=>match AJ i s.size with | some j=>(s.data.toList[j]?).map fun b=>(.int .u8 b.toNat,h) | none=>none
  | _,_=>none):=fun _ _=>Eq.trans rfl rfl
theorem cE:∀ agg len k x i,Ae o bar e h (.idxA agg len k x i)=(match x.ev e,i.ev e with
  | some (.agg cs),some i=>match AJ i len with | some j=>(Bs agg k cs (j*k)).map (·,h) | none=>none
  | _,_=>none):=fun _ _ _ _ _=>Eq.trans rfl rfl
theorem di:∀ x i,Ae o bar e h (.ext x i)=(match x.ev e with | some (.tup vs)=>(vs[i]?).map (·,h) | _=>none):=fun _ _=>Eq.trans rfl rfl
theorem cG:∀ x,Ae o bar e h (.lens x)=(match x.ev e with
  | some (.str s)=>some (As s.size,h)
  | _=>none):=fun _=>Eq.trans rfl rfl
theorem dm:∀ x,Ae o bar e h (.len x)=GC (x.ev e) h:=fun _=>Eq.trans rfl rfl
theorem dW:∀ x,Ae o bar e h (.cap x)=(match x.ev e with
  | some .nilsl=>some (As 0,h)
  | some (.sl _ _ _ n true)=>some (As n,h)
  | some (.fz _ n _ true)=>some (As n,h)
  | _=>none):=fun _=>Eq.trans rfl rfl
theorem dT:∀ k bytes s x,Ae o bar e h (.app k bytes s x)=HM bar k bytes (s.ev e) (x.ev e) h:=fun _ _ _ _=>Eq.trans rfl rfl
theorem bw:∀ k bytes z s x,Ae o bar e h (.appz k bytes z s x)=(match s.ev e,x.ev e with
  | some s,some (.int .i64 n)=>if 0<k∧0≤n∧n≤9223372036854775807∧z.length=k∧z.all AV.one then Ch bar k bytes h s n.toNat (rep z n.toNat) else none
  | _,_=>none):=fun _ _ _ _ _=>Eq.trans rfl rfl
theorem dY:∀ k d s,Ae o bar e h (.cpy k d s)=(match d.ev e,s.ev e with
  | some d,some s=>match source k h s with
   | some (m,xs)=>Qj bar k h d m xs
   | none=>none
  | _,_=>none):=fun _ _ _=>Eq.trans rfl rfl
theorem ej:∀ isMax x y,Ae o bar e h (.mm isMax x y)=(match x.ev e,y.ev e with
  | some (.int k a),some (.int k' b)=>if k=k' then some (.int k (if isMax then (if b > a then b else a) else (if b<a then b else a)),h) else none
  | _,_=>none):=fun _ _ _=>Eq.trans rfl rfl
theorem dt:∀ x,Ae o bar e h (.rng x)=(match x.ev e with | some (.str s)=>some (.ptr h.n 0,h.alloc (.iter s 0)) | _=>none):=fun _=>Eq.trans rfl rfl
theorem cK:∀ x,Ae o bar e h (.next x)=(match x.ev e with
  | some (.ptr id 0)=>match h.get id with
   | some (.iter s pos)=>if bar≤id then (if pos<s.size then some (.tup [.bool true,As pos,.int .i32 (Utf8.decode s pos).1],h.set id (.iter s (pos+(Utf8.decode s pos).2))) else some (.tup [.bool false],h)) else none
   | _=>none
  | _=>none):=fun _=>Eq.trans rfl rfl
theorem dx:∀ t zero x,Ae o bar e h (.tas t zero x)=(match x.ev e with
  | some (.ifc t' v)=>if t'=t then some (.tup [v,.bool true],h) else some (.tup [zero,.bool false],h)
  | some .nilifc=>some (.tup [zero,.bool false],h)
  | _=>none):=fun _ _ _=>Eq.trans rfl rfl
end
theorem WP (cs:List AV):AV.cells (.agg cs)=cs:=Eq.trans rfl rfl
theorem GO {v:AV} (h:v.one=true):v.cells=[v]:=by cases v<;>first | rfl | cases h
theorem Yy (k:IntKind) (n:Int):AV.one (.int k n)=true:=Eq.trans rfl rfl
theorem bY (b:Bool):AV.one (.bool b)=true:=Eq.trans rfl rfl
theorem VW (s:ByteArray):AV.one (.str s)=true:=Eq.trans rfl rfl
theorem YL:AV.one .nilptr=true:=Eq.trans rfl rfl
theorem dM (i j:Nat):AV.one (.ptr i j)=true:=Eq.trans rfl rfl
theorem bZ (cs:List AV) (j:Nat):AV.one (.fptr cs j)=true:=Eq.trans rfl rfl
theorem Zq:AV.one .nilsl=true:=Eq.trans rfl rfl
theorem YM (i j k l:Nat) (f:Bool):AV.one (.sl i j k l f)=true:=Eq.trans rfl rfl
theorem eg (k l:Nat) (cs:List AV) (f:Bool):AV.one (.fz k l cs f)=true:=Eq.trans rfl rfl
theorem dL (t:Nat) (v:AV):AV.one (.ifc t v)=true:=Eq.trans rfl rfl
theorem YK:AV.one .nilifc=true:=Eq.trans rfl rfl
def Bf (F:IFun) (b:Nat) (K:AV→Prop):Ex→Env→H→Prop
 | .exit _,_,_=>False
 | _,e,h1=>∃ vs us h2,AA e h1 F.results=some vs∧(if F.frz=true then AD b 4 h1 vs else some (vs,h1))=some (us,h2)∧AV.free.freeL us=true∧K (AF us)
theorem Gv {o:Oracle} {bar:Nat} {F:IFun} (hp:F.pure=true) {args:List AV} {h:H} {K:AV→Prop} (hn:args.length=F.nargs) (hw:IH o h.n F.body (AO args) h (Bf F h.n K)):∃ r,BK o F args bar h=some (r,h)∧K r:=by
 obtain ⟨x,e,h1,g1,g2⟩:=KV _ _ _ _ hw
 unfold BK
 rw [if_pos hn]
 simp only [hp,if_true,g1]
 cases x with
 | exit id=>exact g2.elim
 | normal =>
  obtain ⟨vs,us,h2,k1,k2,k3,k4⟩:=g2
  exact ⟨_,by simp only [k1,k2,k3,if_true],k4⟩
 | ret =>
  obtain ⟨vs,us,h2,k1,k2,k3,k4⟩:=g2
  exact ⟨_,by simp only [k1,k2,k3,if_true],k4⟩
attribute [go_sem] ZH ah cm ac cj ct ZF aZ ae ZG cg aX af dJ dK Wj VT Zm UG TH dC aq ZJ an aV ZD ZE eZ eY eW eX bz dq cM aC dV aD YU ei ek cL dU dc dh db en cA cB dX dZ cI cH cJ dw cN aF cC dj cD aE cF cE di cG dm dW dT bw dY ej dt cK dx Wl bV bU ZU ZT Opd.ev KG Env.get Env.put Env.set Env.keep Lj Nl As Xd Bs bQ VS UH WP GO Yy bY VW YL dM bZ Zq YM eg dL YK
end Go.Ev
namespace Go.Ev
open Go
theorem BN {n:Int} (h0:-9223372036854775808≤n) (h1:n≤9223372036854775807):IntKind.i64.wrap n=n:=by
 rw [IntKind.wrap_i64];omega
theorem Mp {n:Int} (h0:-2147483648≤n) (h1:n≤2147483647):IntKind.i32.wrap n=n:=by
 rw [IntKind.wrap_i32];omega
theorem OX {n:Int} (h0:0≤n) (h1:n≤18446744073709551615):IntKind.u64.wrap n=n:=by
 rw [IntKind.wrap_u64];omega
theorem BF {n:Nat} (h1:n<9223372036854775807):IntKind.i64.wrap ((n:Int)+1)=((n+1:Nat):Int):=by
 rw [IntKind.wrap_i64];omega
theorem AK (h:H) (o:HObj) (i:Nat):(h.alloc o).get i=if i=h.n then some o else h.get i:=Eq.trans rfl rfl
theorem AP (h:H) (o:HObj):(h.alloc o).n=h.n+1:=Eq.trans rfl rfl
theorem AU (h:H) (i j:Nat) (o:HObj):(h.set i o).get j=if j=i then some o else h.get j:=Eq.trans rfl rfl
theorem AW (h:H) (i:Nat) (o:HObj):(h.set i o).n=h.n:=Eq.trans rfl rfl
theorem Lw (h:H) (i j:Nat):(h.kill i).get j=if j=i then none else h.get j:=Eq.trans rfl rfl
theorem Hy (h:H) (i:Nat):(h.kill i).n=h.n:=Eq.trans rfl rfl
theorem ew (n:Nat):n+1+1=n+2:=Eq.trans rfl rfl
theorem a21 (n:Nat):n+2+1=n+3:=Eq.trans rfl rfl
theorem ey (n:Nat):n+3+1=n+4:=Eq.trans rfl rfl
theorem ez (n:Nat):n+4+1=n+5:=Eq.trans rfl rfl
theorem a51 (n:Nat):n+5+1=n+6:=Eq.trans rfl rfl
theorem fA (n:Nat):n+6+1=n+7:=Eq.trans rfl rfl
theorem fB (n:Nat):n+7+1=n+8:=Eq.trans rfl rfl
def AB:=And.intro @AK (And.intro @AP (And.intro @AU (And.intro @AW (And.intro @Lw (And.intro @Hy (And.intro @Hk.eq_1 (And.intro @ew (And.intro @a21 (And.intro @ey (And.intro @ez (And.intro @a51 (And.intro @fA (@fB)))))))))))))
def Ag (b:Nat) (h h':H):Prop:=h.n≤h'.n∧∀ i,i<b→h'.get i=h.get i
theorem Ag.refl (b:Nat) (h:H):Ag b h h:=⟨Nat.le_refl _,fun _ _=>rfl⟩
theorem Ag.trans {b:Nat} {h h' h'':H} (a:Ag b h h') (c:Ag b h' h''):Ag b h h'':=⟨Nat.le_trans a.1 c.1,fun i hi=>(c.2 i hi).trans (a.2 i hi)⟩
theorem Ag.alloc {b:Nat} {h:H} (o:HObj) (hb:b≤h.n):Ag b h (h.alloc o):=⟨by simp [AP],fun i hi=>by rw [AK,if_neg (by omega)]⟩
theorem Ag.set {b:Nat} {h:H} (i:Nat) (o:HObj) (hb:b≤i):Ag b h (h.set i o):=⟨Nat.le_refl _,fun j hj=>by rw [AU,if_neg (by omega)]⟩
theorem Ag.kill {b:Nat} {h:H} (i:Nat) (hb:b≤i):Ag b h (h.kill i):=⟨Nat.le_refl _,fun j hj=>by rw [Lw,if_neg (by omega)]⟩
theorem Ag.mono {a b:Nat} {h h':H} (g:Ag b h h') (hab:a≤b):Ag a h h':=⟨g.1,fun i hi=>g.2 i (by omega)⟩
section
variable {A:Type} {c:A→List AV} {k:Nat}
theorem GS (hk:∀ x,(c x).length=k):∀ l:List A,(l.flatMap c).length=l.length*k
 | []=>by simp
 | x::l=>by rw [List.flatMap_cons,List.length_append,hk,GS hk l,List.length_cons,Nat.succ_mul,Nat.add_comm]
theorem Ic (hk:∀ x,(c x).length=k):∀ (l:List A) (i:Nat),(l.flatMap c).drop (i*k)=(l.drop i).flatMap c
 | [],i=>by simp
 | x::l,0=>by simp
 | x::l,i+1=>by
  have:(i+1)*k=(c x).length+i*k:=by rw [hk,Nat.succ_mul,Nat.add_comm]
  rw [List.flatMap_cons,this,List.drop_length_add_append]
  exact Ic hk l i
theorem JP (hk:∀ x,(c x).length=k) (l:List A) (i j:Nat) (x:A) (hj:j<k) (hx:l[i]? = some x):(l.flatMap c)[i*k+j]? = (c x)[j]?:=by
 rw [← List.getElem?_drop,Ic hk]
 have:l.drop i=x::l.drop (i+1):=by
  obtain ⟨hi,hx⟩:=List.getElem?_eq_some_iff.mp hx
  rw [← hx];exact List.drop_eq_getElem_cons hi
 rw [this,List.flatMap_cons,List.getElem?_append_left (by rw [hk];exact hj)]
theorem Id (hk:∀ x,(c x).length=k) (l:List A) (i:Nat) (x:A) (hj:0<k) (hx:l[i]? = some x):(l.flatMap c)[i*k]? = (c x)[0]?:=JP hk l i 0 x hj hx
theorem IL (hk:∀ x,(c x).length=k) (l:List A) (i:Nat) (x:A) (hx:l[i]? = some x):((l.flatMap c).drop (i*k)).take k=c x:=by
 rw [Ic hk]
 have:l.drop i=x::l.drop (i+1):=by
  obtain ⟨hi,hx⟩:=List.getElem?_eq_some_iff.mp hx
  rw [← hx];exact List.drop_eq_getElem_cons hi
 rw [this,List.flatMap_cons,← hk x,List.take_left]
end
def Vw (k:Nat) (h:H) (a:AV) (n:Nat) (cs:List AV):Prop :=
 cs.length=n*k∧n≤9223372036854775807∧((a=.nilsl∧n=0)∨(∃ full,a=.fz k n cs full) ∨
  ∃ id off full all p,a=.sl id off k n full∧id<h.n∧h.get id=some (.cells all p)∧off+n*k≤all.length∧(all.drop off).take (n*k)=cs)
theorem Vw.mono {k:Nat} {h h':H} {a:AV} {n:Nat} {cs:List AV} {b:Nat} (v:Vw k h a n cs) (g:Ag b h h') (hb:h.n≤b):Vw k h' a n cs:=by
 obtain ⟨h1,h2,h3⟩:=v
 refine ⟨h1,h2,?_⟩
 rcases h3 with h3 | h3 | ⟨id,off,full,all,p,e1,e2,e3,e4,e5⟩
 ·exact .inl h3
 ·exact .inr (.inl h3)
 ·exact .inr (.inr ⟨id,off,full,all,p,e1,Nat.lt_of_lt_of_le e2 g.1,by rw [g.2 id (by omega)];exact e3,e4,e5⟩)
theorem Vw.fz {k:Nat} {h:H} {n:Nat} {cs:List AV} {full:Bool} (h1:cs.length=n*k) (h2:n≤9223372036854775807):Vw k h (.fz k n cs full) n cs:=⟨h1,h2,.inr (.inl ⟨full,rfl⟩)⟩
theorem Vw.nil {k:Nat} {h:H}:Vw k h .nilsl 0 []:=⟨by simp,by omega,.inl ⟨rfl,rfl⟩⟩
theorem Vw.len {k:Nat} {h:H} {a:AV} {n:Nat} {cs:List AV} (v:Vw k h a n cs) (g:H):GC (some a) g=some (As n,g):=by
 obtain ⟨_,_,⟨rfl,rfl⟩ | ⟨full,rfl⟩ | ⟨id,off,full,all,p,rfl,_⟩⟩:=v<;>simp [GC]
theorem Vw.one {k:Nat} {h:H} {a:AV} {n:Nat} {cs:List AV} (v:Vw k h a n cs):a.one=true:=by
 obtain ⟨_,_,⟨rfl,rfl⟩ | ⟨full,rfl⟩ | ⟨id,off,full,all,p,rfl,_⟩⟩:=v<;>rfl
end Go.Ev
namespace Go.Ev
open Go
def OS (k:Nat) (h:H) (bar:Nat) (a:AV) (n:Nat) (cs:List AV):Prop :=
 cs.length=n*k∧cs.all AV.one=true∧((a=.nilsl∧n=0)∨∃ id rest,a=.sl id 0 k n false∧bar≤id∧id<h.n∧h.get id=some (.cells (cs++rest) 0))
def AV.isAt (a:AV) (j:Nat):Prop:=match a with | .sl id ..=>id=j | _=>False
theorem OS.nil {k:Nat} {h:H} {bar:Nat}:OS k h bar .nilsl 0 []:=⟨by simp,rfl,.inl ⟨rfl,rfl⟩⟩
theorem OS.mono {k:Nat} {h h':H} {bar:Nat} {a:AV} {n:Nat} {cs:List AV} (v:OS k h bar a n cs) (hn:h.n≤h'.n) (g:∀ j,a.isAt j→h'.get j=h.get j):OS k h' bar a n cs:=by
 obtain ⟨h1,h2,h3⟩:=v
 refine ⟨h1,h2,?_⟩
 rcases h3 with h3 | ⟨id,rest,e1,e2,e3,e4⟩
 ·exact .inl h3
 ·exact .inr ⟨id,rest,e1,e2,by omega,by rw [g id (by rw [e1];rfl)];exact e4⟩
theorem AI {h:H} {i j:Nat} {o:HObj} (hj:j≠i):(h.set i o).get j=h.get j:=if_neg hj
theorem OS.set {k:Nat} {h:H} {bar:Nat} {a:AV} {n:Nat} {cs:List AV} (v:OS k h bar a n cs) {id:Nat} (o:HObj) (hat:¬ a.isAt id):OS k (h.set id o) bar a n cs :=
 v.mono (Nat.le_refl _) (fun _ hj=>AI (fun e=>hat (e ▸ hj)))
theorem OS.alloc {k:Nat} {h:H} {bar:Nat} {a:AV} {n:Nat} {cs:List AV} (v:OS k h bar a n cs) (o:HObj):OS k (h.alloc o) bar a n cs:=by
 refine v.mono (by simp [AP]) (fun j hj=>?_)
 have:j<h.n:=by
  obtain ⟨h1,h2,⟨rfl,_⟩ | ⟨id,rest,rfl,g1,g2,_⟩⟩:=v
  ·exact hj.elim
  ·cases hj;exact g2
 rw [AK,if_neg (by omega)]
theorem OS.one {k:Nat} {h:H} {bar:Nat} {a:AV} {n:Nat} {cs:List AV} (v:OS k h bar a n cs):a.one=true:=by
 obtain ⟨h1,h2,⟨rfl,_⟩ | ⟨id,rest,rfl,_⟩⟩:=v<;>rfl
theorem OS.len {k:Nat} {h:H} {bar:Nat} {a:AV} {n:Nat} {cs:List AV} (v:OS k h bar a n cs) (g:H):GC (some a) g=some (As n,g):=by
 obtain ⟨h1,h2,⟨rfl,rfl⟩ | ⟨id,rest,rfl,_⟩⟩:=v<;>rfl
theorem OS.at_lt {k:Nat} {h:H} {bar:Nat} {a:AV} {n:Nat} {cs:List AV} (v:OS k h bar a n cs) {j:Nat} (hj:a.isAt j):bar≤j∧j<h.n:=by
 obtain ⟨h1,h2,⟨rfl,rfl⟩ | ⟨id,rest,rfl,g1,g2,_⟩⟩:=v
 ·exact hj.elim
 ·cases hj;exact ⟨g1,g2⟩
theorem OS.app' {k:Nat} {h:H} {bar b':Nat} {a:AV} {n:Nat} {cs:List AV} (v:OS k h bar a n cs) (hb:bar≤h.n) (hbb:b'≤bar) (bytes:Nat) (xs:List AV) (hx:xs.length=k) (hx1:xs.all AV.one=true) (hk:0<k) (hs:(n+1)*bytes≤140737488355328) (hs':n<9223372036854775807) :
  ∃ a' h',HM b' k bytes (some a) (some (.sl h.n 0 k 1 true)) (h.alloc (.cells xs 0))=some (a',h')∧OS k h' bar a' (n+1) (cs++xs)∧h'.n=h.n+2∧(∀ j,j<h.n→¬ a.isAt j→h'.get j=h.get j)∧(∀ j,a'.isAt j→h.n<j):=by
 obtain ⟨h1,h2,h3⟩:=v
 have hsrc:source k (h.alloc (.cells xs 0)) (.sl h.n 0 k 1 true)=some (1,xs):=by
  simp [source,AK,← hx]
 have hl:(cs++xs).length=(n+1)*k:=by rw [List.length_append,h1,hx,Nat.succ_mul]
 have ha:(cs++xs).all AV.one=true:=by rw [List.all_append,h2,hx1];rfl
 rcases h3 with ⟨rfl,rfl⟩ | ⟨id,rest,rfl,g1,g2,g3⟩
 ·have:cs=[]:=List.length_eq_zero_iff.mp (by rw [h1];simp)
  subst this
  refine ⟨.sl (h.n+1) 0 k 1 false,(h.alloc (.cells xs 0)).alloc (.cells xs 0),?_,⟨hl,ha,.inr ⟨h.n+1,[],rfl,by omega,by simp [AP],by simp [AK,AP]⟩⟩,by simp [AP],fun j hj _=>by simp [AK,AP];rw [if_neg (by omega),if_neg (by omega)],fun j hj=>by cases hj;omega⟩
  simp only [HM,hsrc,if_pos hk,Ch]
  rw [if_neg (by omega),if_pos ⟨by simpa using hs,by omega⟩]
  rfl
 ·have hid:id≠h.n:=by omega
  refine ⟨.sl (h.n+1) 0 k (n+1) false,((h.alloc (.cells xs 0)).kill id).alloc (.cells (cs++xs) 0),?_,⟨hl,ha,.inr ⟨h.n+1,[],rfl,by omega,by simp [AP,Hy],by simp [AK,AP,Hy]⟩⟩,by simp [AP,Hy],fun j hj hj2=>?_,fun j hj=>by cases hj;omega⟩
  ·simp only [HM,hsrc,if_pos hk,Ch,if_true]
   rw [if_neg (by omega),AK,if_neg hid,g3]
   simp only
   rw [if_pos ⟨by simp [h1],hs,by omega⟩,if_neg (by simp),if_pos ⟨by omega,by omega⟩]
   simp only [List.drop_zero,← h1,List.take_left,Nat.zero_sub]
   rfl
  ·have:j≠id:=fun e=>hj2 e.symm
   simp only [AK,Hy,AP,Lw]
   rw [if_neg (by omega),if_neg this,if_neg (by omega)]
theorem OS.app {k:Nat} {h:H} {bar:Nat} {a:AV} {n:Nat} {cs:List AV} (v:OS k h bar a n cs) (hb:bar≤h.n) (bytes:Nat) (xs:List AV) (hx:xs.length=k) (hx1:xs.all AV.one=true) (hk:0<k) (hs:(n+1)*bytes≤140737488355328) (hs':n<9223372036854775807) :
  ∃ a' h',HM bar k bytes (some a) (some (.sl h.n 0 k 1 true)) (h.alloc (.cells xs 0))=some (a',h')∧OS k h' bar a' (n+1) (cs++xs)∧h'.n=h.n+2∧(∀ j,j<h.n→¬ a.isAt j→h'.get j=h.get j)∧(∀ j,a'.isAt j→h.n<j) :=
 v.app' hb (Nat.le_refl _) bytes xs hx hx1 hk hs hs'
def AV.still:AV→Bool
 | .int _ _ | .str _ | .bool _ | .nilsl | .nilptr | .nilifc=>true
 | _=>false
theorem Ru {bar d:Nat} {h:H} {v:AV} (hv:v.still=true):AC bar (d+1) h v=some (v,h):=by
 cases v<;>first | (cases hv;done) | (simp [AC])
theorem Et {bar d:Nat} {h:H}:∀ {cs:List AV},cs.all AV.still=true→AD bar (d+1) h cs=some (cs,h)
 | [],_=>by simp [AD]
 | v::r,hc=>by
  rw [List.all_cons,Bool.and_eq_true] at hc
  simp [AD,Ru hc.1,Et hc.2]
theorem IE {v:AV} (hv:v.still=true):v.free=true:=by cases v<;>first | (cases hv;done) | rfl
theorem XS {v:AV} (hv:v.still=true):v.one=true:=by cases v<;>first | (cases hv;done) | rfl
def FzV (k:Nat) (a:AV) (n:Nat) (cs:List AV):Prop:=cs.length=n*k∧n≤9223372036854775807∧((a=.nilsl∧n=0)∨∃ full,a=.fz k n cs full)
theorem FzV.vw {k:Nat} {a:AV} {n:Nat} {cs:List AV} (v:FzV k a n cs) (h:H):Vw k h a n cs:=by
 obtain ⟨h1,h2,h3 | h3⟩:=v
 ·exact ⟨h1,h2,.inl h3⟩
 ·exact ⟨h1,h2,.inr (.inl h3)⟩
theorem FzV.free {k:Nat} {a:AV} {n:Nat} {cs:List AV} (v:FzV k a n cs):a.free=true:=by
 obtain ⟨h1,h2,⟨rfl,_⟩ | ⟨f,rfl⟩⟩:=v<;>rfl
theorem OS.freeze {k:Nat} {h:H} {bar:Nat} {a:AV} {n:Nat} {cs:List AV} (v:OS k h bar a n cs) (hc:cs.all AV.still=true) (hn:n≤9223372036854775807) (d:Nat):∃ a' h',AC bar (d+2) h a=some (a',h')∧FzV k a' n cs:=by
 obtain ⟨h1,h2,⟨rfl,rfl⟩ | ⟨id,rest,rfl,g1,g2,g3⟩⟩:=v
 ·exact ⟨.nilsl,h,by simp [AC],h1,hn,.inl ⟨rfl,rfl⟩⟩
 ·refine ⟨.fz k n cs false,h.set id (.cells (cs++rest) (max 0 (0+n*k))),?_,h1,hn,.inr ⟨false,rfl⟩⟩
  have hcs:((cs++rest).drop 0).take (n*k)=cs:=by rw [List.drop_zero,← h1,List.take_left]
  have hf:cs.all AV.free=true:=by rw [List.all_eq_true] at hc ⊢;exact fun x hx=>IE (hc x hx)
  simp only [AC,g3]
  rw [if_pos ⟨g1,by simp [h1]⟩,hcs,Et hc]
  simp only
  rw [if_pos ⟨hf,h2⟩]
section
variable {A:Type} {c:A→List AV} {k:Nat}
theorem Gx (hk:∀ x,(c x).length=k) (rest:List AV) (f:Nat) (vs:List AV) (x':A):∀ (l:List A) (j:Nat) (x:A),l[j]? = some x→f+vs.length≤k→c x'=AL (c x) f vs→AL (l.flatMap c++rest) (j*k+f) vs=(l.set j x').flatMap c++rest
 | [],j,x,h,_,_=>by simp at h
 | y::l,0,x,h,hf,hx=>by
  simp only [List.getElem?_cons_zero,Option.some.injEq] at h
  subst h
  have hy:=hk y
  simp only [Nat.zero_mul,Nat.zero_add,List.set_cons_zero,List.flatMap_cons,hx,AL,List.append_assoc]
  rw [List.take_append_of_le_length (by omega),List.drop_append_of_le_length (by omega)]
 | y::l,j+1,x,h,hf,hx=>by
  have hy:=hk y
  have e:(j+1)*k+f=(c y).length+(j*k+f):=by rw [hy,Nat.succ_mul];omega
  have:=Gx hk rest f vs x' l j x (by simpa using h) hf hx
  simp only [AL] at this ⊢
  simp only [List.set_cons_succ,List.flatMap_cons,List.append_assoc,e,Nat.add_assoc,List.take_length_add_append,List.drop_length_add_append]
  simp only [List.append_assoc,Nat.add_assoc] at this
  rw [this]
end
end Go.Ev
namespace Go.Ev
open Go
section
variable {A:Type} {c:A→List AV} {k:Nat}
theorem Sw {l:List A} (hone:∀ x ∈ l,(c x).all AV.one=true):(l.flatMap c).all AV.one=true:=by
 rw [List.all_eq_true];intro y hy;rw [List.mem_flatMap] at hy;obtain ⟨u,hu,hy⟩:=hy
 have:=hone u hu;rw [List.all_eq_true] at this;exact this y hy
theorem TW {l:List A} (h:(l.flatMap c).all AV.one=true):∀ x ∈ l,(c x).all AV.one=true:=fun x hx=>by
 rw [List.all_eq_true] at h ⊢
 exact fun y hy=>h y (List.mem_flatMap.mpr ⟨x,hx,hy⟩)
theorem EB {l:List A} (hne:l≠[]):∃ x,l.getLast? = some x∧l=l.dropLast++[x]∧l[l.length - 1]? = some x∧l.length - 1<l.length:=by
 obtain ⟨p,hp⟩:∃ p,l.getLast? = some p:=⟨_,List.getLast?_eq_some_getLast hne⟩
 refine ⟨p,hp,?_,by rw [← List.getLast?_eq_getElem?];exact hp,by have:=List.length_pos_iff.mpr hne;omega⟩
 have:=List.dropLast_concat_getLast hne
 rw [List.getLast?_eq_some_getLast hne] at hp
 injection hp with hp
 rw [← hp];exact this.symm
theorem OS.elems (hk:∀ x,(c x).length=k) {h:H} {bar:Nat} {a:AV} {ps:List A} (v:OS k h bar a ps.length (ps.flatMap c)) (hne:ps≠[]):∃ id all,a=.sl id 0 k ps.length false∧bar≤id∧id<h.n∧h.get id=some (.cells all 0)∧ps.length*k≤all.length ∧
  (∀ i x f,ps[i]? = some x→f<k→all[i*k+f]? = (c x)[f]?) ∧
  (∀ g:H,h.n≤g.n→g.get id=h.get id→OS k g bar (.sl id 0 k (ps.length - 1) false) ps.dropLast.length (ps.dropLast.flatMap c)) ∧
  (∀ i x x' f vs (g:H),ps[i]? = some x→f+vs.length≤k→c x'=AL (c x) f vs→(c x').all AV.one=true→h.n≤g.n→g.get id=some (.cells (AL all (i*k+f) vs) 0)→OS k g bar a (ps.set i x').length ((ps.set i x').flatMap c)):=by
 obtain ⟨h1,h2,⟨h3,h4⟩ | ⟨id,rest,e1,e2,e3,e4⟩⟩:=v
 ·exact absurd (List.length_eq_zero_iff.mp h4) hne
 ·obtain ⟨x,hx1,hx2,hx3,hx4⟩:=EB hne
  refine ⟨id,_,e1,e2,e3,e4,by rw [List.length_append,h1];omega,fun i y f hy hf=>?_,fun g g1 g2=>?_,fun i y y' f vs g hy hf hc hc1 g1 g2=>?_⟩
  ·obtain ⟨hi,_⟩:=List.getElem?_eq_some_iff.mp hy
   have hm:i*k+k≤ps.length*k:=by have:=Nat.mul_le_mul_right k hi;rw [Nat.succ_mul] at this;exact this
   rw [List.getElem?_append_left (by rw [h1];omega)]
   exact JP hk ps i f y hf hy
  ·refine ⟨GS hk _,Sw (fun u hu=>TW h2 u (by rw [List.dropLast_eq_take] at hu;exact List.mem_of_mem_take hu)),.inr ⟨id,c x++rest,by rw [List.length_dropLast],e2,by omega,?_⟩⟩
   rw [g2,e4]
   congr 2
   conv=>lhs;rw [hx2]
   simp
  ·refine ⟨GS hk _,Sw (fun u hu=>by rcases List.mem_or_eq_of_mem_set hu with hu | rfl;exact TW h2 u hu;exact hc1),.inr ⟨id,rest,by rw [e1,List.length_set],e2,by omega,?_⟩⟩
   rw [g2,Gx hk rest f vs y' ps i y hy hf hc]
end
theorem Aj {o:Oracle} {bar:Nat} {F:IFun} {P:AV→H→Prop} (hp:F.pure=false) {args:List AV} {h:H} (hn:args.length=F.nargs) (hw:∀ K:AV→H→Prop,(∀ r h',P r h'→K r h')→El o bar F.body [] (AO args) h (AM F bar K)):∃ r h',BK o F args bar h=some (r,h')∧P r h' :=
 JJ hp hn (BJ (hw P fun _ _ h=>h))
theorem CG {o:Oracle} {bar:Nat} {F:IFun} {P:AV→Prop} (hp:F.pure=true) {args:List AV} {h:H} (hn:args.length=F.nargs) (hw:∀ K:AV→Prop,(∀ r,P r→K r)→El o h.n F.body [] (AO args) h (Bf F h.n K)):∃ r,BK o F args bar h=some (r,h)∧P r :=
 Gv hp hn (BJ (hw P fun _ h=>h))
def AV.apart (a b:AV):Prop:=∀ j,a.isAt j→¬ b.isAt j
theorem AV.apart.symm {a b:AV} (h:a.apart b):b.apart a:=fun j hb ha=>h j ha hb
end Go.Ev
namespace Go.Ev
open Go
section
variable {o:Oracle} {bar:Nat} {e:Env} {h:H}
def Vl (o:Oracle) (bar:Nat) (x:Option (AV × H)) (d:Option Nat) (r:List IOper) (e:Env):Option (Env × H):=match x with | some (v,h')=>BQ o bar r (e.put d v) h' | none=>none
theorem An:BQ o bar [] e h=some (e,h):=Eq.trans rfl rfl
theorem Ai (d:Option Nat) (op:IOp) (r:List IOper):BQ o bar (⟨d,op,none⟩::r) e h=Vl o bar (Ae o bar e h op) d r e:=Eq.trans rfl rfl
theorem Aa (v:AV) (h':H) (d:Option Nat) (r:List IOper):Vl o bar (some (v,h')) d r e=BQ o bar r (e.put d v) h':=Eq.trans rfl rfl
def SX (a b:Option (AV × H)):Prop:=match a,b with | some (v,_),some (v',_)=>v=v' | _,_=>False
theorem AS (v v':AV) (h h':H):SX (some (v,h)) (some (v',h'))=(v=v'):=Eq.trans rfl rfl
def Vs (o:Oracle) (bar:Nat) (op:IOp) (a b:Option (Env × H)):Prop:=match a,b with | some (e1,h1),some (_,h2)=>SX (Ae o bar e1 h1 op) (Ae o bar e1 h2 op) | _,_=>False
theorem AT (op:IOp) (e1 e2:Env) (h1 h2:H):Vs o bar op (some (e1,h1)) (some (e2,h2))=SX (Ae o bar e1 h1 op) (Ae o bar e1 h2 op):=Eq.trans rfl rfl
theorem Ab {il:List IOper} {a b:Nat} {y:IOper} (hy:il[a]? = some y) (hq:Vs o bar y.op (BQ o bar (il.take a) e h) (BQ o bar (il.take b) e h)) (hm:IY y.op=false:=by rfl):KY o bar il e h (a,b):=by
 unfold Vs at hq
 split at hq
 ·rename_i e1 h1 e2 h2 g1 g2
  unfold SX at hq
  split at hq
  ·rename_i v h3 v' h4 g3 g4
   subst hq
   exact ⟨y,e1,h1,h2,e2,hy,g1,g2,.inr ⟨v,h3,g3,by rw [if_neg (by rw [hm];simp)];exact ⟨h4,g4⟩⟩⟩
  ·exact hq.elim
 ·exact hq.elim
end
end Go.Ev
namespace Go.Ev
open Go
def Cq:Nat:=7
def EP:Nat:=15
def EO:Nat:=16
def Bo:Nat:=17
def Du:Nat:=18
def CI:Nat:=19
def Dl:Nat:=20
def Dr:Nat:=21
def DT:Nat:=23
def DC:Nat:=27
def CF:Nat:=28
def DG:Nat:=29
def AR:Nat:=33
def Ci:Nat:=36
def CY:Nat:=37
def Dv:Nat:=47
def Bc:Nat:=48
def DB:Nat:=49
def Ak:Nat:=50
def DV:Nat:=51
def FJ:Nat:=52
def GY:Nat:=53
def DI:Nat:=54
def Fa:Nat:=55
def CZ:Nat:=56
def DJ:Nat:=57
def BD:Nat:=58
def Fz:Nat:=59
def Hx:Nat:=60
def Hz:Nat:=61
def Ce:Nat:=62
def Bq:Nat:=63
def BS:Nat:=69
def Dm:Nat:=73
def Bh:Nat:=79
def DS:Nat:=80
def DW:Nat:=81
def CU:Nat:=82
def GZ:Nat:=83
def GU:Nat:=84
def BT:Nat:=85
def Cv:Nat:=86
def Ed:Nat:=87
def GW:Nat:=88
def Au:Nat:=89
def Az:Nat:=90
def DA:Nat:=91
def Be:Nat:=92
def BZ:Nat:=93
def Cm:Nat:=94
def CP:Nat:=95
def In:Nat:=96
def DU:Nat:=98
def EQ:Nat:=101
def Dx:Nat:=102
def Dw:Nat:=103
def Dn:Nat:=106
def DD:Nat:=107
def Cc:Nat:=108
def CC:Nat:=109
def CT:Nat:=110
def Fb:Nat:=111
def Dk:Nat:=112
def Do:Nat:=113
def CQ:Nat:=114
def Bp:Nat:=115
def GX:Nat:=116
def Ao:Nat:=117
def Dh:Nat:=118
def Ba:Nat:=119
def DH:Nat:=120
def Dg:Nat:=121
def FK:Nat:=122
def HT:Nat:=123
def CS:Nat:=126
def DE:Nat:=127
def Ds:Nat:=128
def Eu:Nat:=129
def Cw:Nat:=130
def Cz:Nat:=131
def Fu:Nat:=132
def n_strconv_ParseInt:Nat:=133
def Ew:Nat:=134
def DN:Nat:=135
def CM:Nat:=136
def GV:Nat:=137
def Ka:Nat:=138
def Bj:Nat:=139
def Fv:Nat:=140
def Fo:Nat:=141
def EH:Nat:=148
def FH:Nat:=149
def Di:Nat:=150
def Cy:Nat:=151
def Dj:Nat:=152
def Ca:Nat:=155
def DM:Nat:=156
def DK:Nat:=157
def Cn:Nat:=158
def DL:Nat:=159
def DR:Nat:=164
def CV:Nat:=170
def aS:Nat:=2
def EI:Nat:=3
def cW:Nat:=4
def Yl:Nat:=9
def aR:Nat:=21
def QU:Nat:=116
def Ep:Nat:=253
def Ff:Nat:=265
def Ms:Nat:=1
def Nj:Nat:=2
end Go.Ev
